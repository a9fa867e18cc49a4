/- Merged out of the session's own texts: Mem, Gf, Gfp, Rowp, Bm, Gen, Once, Gfm, Gfn, Slc, Row. -/
import Derived.Test.YtfhefcpkknidcaaProg
import Derived.WalkKit
import Derived.KernelRfl
import Derived.WalkSpells
import Derived.Below
import Derived.Lib.Hide
import Derived.Deep.QuietTactic
import Derived.BigQuiet
import Derived.Deep.OwnRows
import Derived.Deep.LoopGhost
import Derived.Deep.RegionWith
import Derived.Deep.DeepCutAuto
import Derived.Deep.RegionHeld3
import Derived.StillTailTactics
import Derived.Maps.AppendAt
import Derived.Deep.AppendLies
import Derived.Laws.MakeOwn
import Derived.Laws.OwnMore
import Derived.Laws.BitsAllLaws
import Derived.Lib.BitFns
import Derived.Laws.LoneSync
import Derived.Defers
import Derived.Test.YtfhefcpkknidcaaShelf
/- Blocks of memory known whole: what is read from them, what a store leaves. -/
namespace Go.Proofs.Ytfhefcpkknidcaa
open Go.RowKit

/-- Block b is the row of cells a, of type T, none of it frozen. -/
def Blk (w : World) (b : Nat) (a : Array Value) (T : TypeId) : Prop := w.heap[b]? = some (.cells a T (0, 0))
theorem Blk.cell {w : World} {b : Nat} {a : Array Value} {T : TypeId} (h : Blk w b a T) {i : Nat} {v : Value} (hv : a[i]? = some v) : w.cell? ⟨b, i, none⟩ = some v := by
  unfold Blk at h
  simp [World.cell?, h, hv]
theorem Blk.free {w : World} {b : Nat} {a : Array Value} {T : TypeId} (h : Blk w b a T) (i : Nat) : w.frozen? ⟨b, i, none⟩ = false := by
  unfold Blk at h
  simp [World.frozen?, h]
theorem Blk.lt {w : World} {b : Nat} {a : Array Value} {T : TypeId} (h : Blk w b a T) : b < w.heap.size := (Array.getElem?_eq_some_iff.1 h).1
theorem Blk.put {w : World} {b : Nat} {a : Array Value} {T : TypeId} (h : Blk w b a T) (i : Nat) (v : Value) : Blk (w.setCell ⟨b, i, none⟩ v) b (a.setIfInBounds i v) T := by
  unfold Blk at *
  simp [World.setCell, Array.getElem?_modify, h]
theorem Blk.far {w : World} {b : Nat} {a : Array Value} {T : TypeId} (h : Blk w b a T) {p : Addr} (hp : b ≠ p.block) (v : Value) : Blk (w.setCell p v) b a T :=
  (Below.heap_setCell w p v b hp).trans h
theorem Blk.alloc {w : World} {b : Nat} {a : Array Value} {T : TypeId} (h : Blk w b a T) (o : Obj) : Blk (w.alloc o) b a T :=
  (Below.heap_alloc w o b h.lt).trans h
theorem Blk.new (w : World) (a : Array Value) (T : TypeId) : Blk (w.alloc (.cells a T (0, 0))) w.heap.size a T := heap_alloc_new w _
theorem Blk.drew {w : World} {b : Nat} {a : Array Value} {T : TypeId} (h : Blk w b a T) : Blk w.drew b a T := h
theorem Blk.drewN {w : World} {b : Nat} {a : Array Value} {T : TypeId} (h : Blk w b a T) (n : Nat) : Blk (w.drewN n) b a T := h
theorem Blk.ne {w : World} {b c : Nat} {a a' : Array Value} {T T' : TypeId} (h : Blk w b a T) (h' : Blk w c a' T') (hT : T ≠ T') : b ≠ c := by
  rintro rfl
  unfold Blk at h h'
  rw [h] at h'
  injection h' with h'
  injection h' with _ e
  exact hT e
theorem Blk.below {w w' : World} {b : Nat} {a : Array Value} {T : TypeId} (h : Blk w b a T) (hb : Below w.heap.size w w') : Blk w' b a T := (hb.block b h.lt).trans h

/-- Only block b has been written, and new ones laid. -/
structure Only (b : Nat) (w w' : World) : Prop where
  os : w'.os = w.os
  tape : w'.tape = w.tape
  output : w'.output = w.output
  size : w.heap.size ≤ w'.heap.size
  block : ∀ k, k < w.heap.size → k ≠ b → w'.heap[k]? = w.heap[k]?
theorem Only.refl (b : Nat) (w : World) : Only b w w := ⟨rfl, rfl, rfl, Nat.le_refl _, fun _ _ _ => rfl⟩
theorem Only.trans {b : Nat} {a c d : World} (h : Only b a c) (k : Only b c d) : Only b a d :=
  ⟨k.os.trans h.os, k.tape.trans h.tape, k.output.trans h.output, Nat.le_trans h.size k.size, fun i hi hn => (k.block i (by have := h.size; omega) hn).trans (h.block i hi hn)⟩
theorem Only.below {b : Nat} {a c d : World} (h : Only b a c) (k : Below c.heap.size c d) : Only b a d :=
  h.trans ⟨k.os, k.tape, k.output, k.size, fun i hi _ => k.block i hi⟩
theorem Only.of_below {b : Nat} {a c : World} (k : Below a.heap.size a c) : Only b a c := (Only.refl b a).below k
theorem Only.alloc {b : Nat} {a c : World} (h : Only b a c) (o : Obj) : Only b a (c.alloc o) := h.below ((Below.refl _ _).alloc (Nat.le_refl _) o)
theorem Only.drew {b : Nat} {a c : World} (h : Only b a c) : Only b a c.drew := ⟨h.os, h.tape, h.output, h.size, h.block⟩
theorem Only.drewN {b : Nat} {a c : World} (h : Only b a c) (n : Nat) : Only b a (c.drewN n) := ⟨h.os, h.tape, h.output, h.size, h.block⟩
theorem Only.put {b : Nat} {a c : World} (h : Only b a c) {p : Addr} (hp : p.block = b ∨ a.heap.size ≤ p.block) (v : Value) : Only b a (c.setCell p v) :=
  ⟨h.os, h.tape, h.output, by simpa [World.setCell] using h.size, fun k hk hn => (Below.heap_setCell c p v k (by rcases hp with hp | hp <;> omega)).trans (h.block k hk hn)⟩
theorem Only.frame {b B : Nat} {a c d : World} (h : Below B a c) (hB : B ≤ c.heap.size) (hb : B ≤ b) (k : Only b c d) : Below B a d :=
  h.trans ⟨k.os, k.tape, k.output, k.size, fun i hi => k.block i (by omega) (by omega)⟩
theorem Blk.only {w w' : World} {b c : Nat} {a : Array Value} {T : TypeId} (h : Blk w c a T) (hb : Only b w w') (hn : c ≠ b) : Blk w' c a T := (hb.block c h.lt hn).trans h
theorem below_drewN' {B : Nat} {w W : World} (h : Below B w W) (n : Nat) : Below B w (W.drewN n) := ⟨h.os, h.tape, h.output, h.size, h.block⟩

theorem Only.grown {b : Nat} {w w' : World} (h : Only b w w') : w.grownBy w' (some b) :=
  ⟨h.os, h.tape, h.output, h.size, fun k hk hn => h.block k hk (fun e => hn (by rw [e]))⟩
theorem below_grown_none {w w' : World} (h : Below w.heap.size w w') : w.grownBy w' none := ⟨h.os, h.tape, h.output, h.size, fun k hk _ => h.block k hk⟩

/-- A call of a function that has a Go body: it is entered. -/
theorem run_callFunc_body {P : Program} {f : FuncId} {fn : Func} {c : Code} (hf : P.funcs[f]? = some fn) (hname : (fn.name == "runtime.NumGoroutine") = false) (hb : fn.body = some c) (args : Array Value) (w : World) :
    (callFunc f args).run P w = .ok (.enter f args) w := by
  have h1 : fn.name ≠ "runtime.NumGoroutine" := by simpa using hname
  simp [callFunc, hf, h1, hb]
/-! ### Rows of the call's own, element after element of one cell -/
def Own (w : World) (B : Nat) (T : TypeId) (v : Value) (xs : List Value) : Prop := w.ownsRow B T 1 v xs.length xs
theorem Own.nil (w : World) (B : Nat) (T : TypeId) : Own w B T (.slice none 0 0) [] := World.ownsRow_nil w B T 1
theorem Own.ne {w : World} {B b : Nat} {T T' : TypeId} {v : Value} {xs : List Value} {a : Array Value} (h : Own w B T v xs) (hb : Blk w b a T') (hT : T ≠ T') : v.ownBlock ≠ some b := by
  intro hk
  rcases h.2 with ⟨rfl, _⟩ | ⟨g, cap, cur, rfl, hg, hh, _⟩
  · simp [Value.ownBlock] at hk
  · have : g = b := by simpa [Value.ownBlock] using hk
    subst this
    unfold Blk at hb
    rw [hh] at hb
    injection hb with hb
    injection hb with _ e
    exact hT e
theorem Own.keep {w w' : World} {B : Nat} {T : TypeId} {v : Value} {xs : List Value} {row : Option Nat} (h : Own w B T v xs) (hg : w.grownBy w' row) (hne : v.ownBlock = none ∨ v.ownBlock ≠ row) : Own w' B T v xs := World.ownsRow.kept h hg hne
theorem Own.only {w w' : World} {B b : Nat} {T T' : TypeId} {v : Value} {xs : List Value} {a : Array Value} (h : Own w B T v xs) (ho : Only b w w') (hb : Blk w b a T') (hT : T ≠ T') : Own w' B T v xs := h.keep ho.grown (.inr (h.ne hb hT))
theorem Own.below {w w' : World} {B : Nat} {T : TypeId} {v : Value} {xs : List Value} (h : Own w B T v xs) (hb : Below w.heap.size w w') : Own w' B T v xs := h.keep (below_grown_none hb) (by cases v.ownBlock <;> simp)
theorem Own.alloc {w : World} {B : Nat} {T : TypeId} {v : Value} {xs : List Value} (h : Own w B T v xs) (o : Obj) : Own (w.alloc o) B T v xs := World.ownsRow.alloc h o
theorem Own.drew {w : World} {B : Nat} {T : TypeId} {v : Value} {xs : List Value} (h : Own w B T v xs) : Own w.drew B T v xs := h
theorem Own.drewN {w : World} {B : Nat} {T : TypeId} {v : Value} {xs : List Value} (h : Own w B T v xs) (n : Nat) : Own (w.drewN n) B T v xs := h
theorem Own.lower {w : World} {B B' : Nat} {T : TypeId} {v : Value} {xs : List Value} (h : Own w B T v xs) (hB : B' ≤ B) : Own w B' T v xs := by
  refine ⟨h.1, ?_⟩
  rcases h.2 with h2 | ⟨g, cap, cur, he, hb, r⟩
  · exact .inl h2
  · exact .inr ⟨g, cap, cur, he, Nat.le_trans hB hb, r⟩
theorem Own.len {w : World} {B : Nat} {T : TypeId} {v : Value} {xs : List Value} (h : Own w B T v xs) : xs.length ≤ 9223372036854775807 := by
  rcases h.2 with ⟨_, h1⟩ | ⟨g, cap, cur, _, _, _, h1, h2, _⟩
  · omega
  · unfold maxLen at h2; omega
/-- What the value is, and its cells; nil among them. -/
theorem Own.form {w : World} {B : Nat} {T : TypeId} {v : Value} {xs : List Value} (h : Own w B T v xs) :
    ∃ a c, v = .slice a xs.length c ∧ (∀ j x, xs[j]? = some x → ∃ g, a = some ⟨g, 0, none⟩ ∧ B ≤ g ∧ g < w.heap.size ∧ w.cell? ⟨g, j, none⟩ = some x ∧ w.frozen? ⟨g, j, none⟩ = false) := by
  rcases h.2 with ⟨rfl, h0⟩ | ⟨g, cap, cur, rfl, hb, hh, r⟩
  · have : xs = [] := List.eq_nil_of_length_eq_zero h0
    subst this
    exact ⟨none, 0, rfl, fun j x hx => by simp at hx⟩
  · refine ⟨_, cap, rfl, fun j x hx => ⟨g, rfl, hb, (Array.getElem?_eq_some_iff.1 hh).1, ?_, World.ownsRow.frozenAt h j⟩⟩
    have hj : j < xs.length := (List.getElem?_eq_some_iff.1 hx).1
    rw [World.ownsRow.cellAt h j (by omega)]
    exact hx
/-- Of a row that is not empty: the block at whose head it lies. -/
theorem Own.at {w : World} {B : Nat} {T : TypeId} {v : Value} {xs : List Value} (h : Own w B T v xs) (hn : xs ≠ []) :
    ∃ g c, v = .slice (some ⟨g, 0, none⟩) xs.length c ∧ xs.length ≤ c ∧ B ≤ g ∧ g < w.heap.size ∧ (∀ j x, xs[j]? = some x → w.cell? ⟨g, j, none⟩ = some x) ∧ (∀ j, w.frozen? ⟨g, j, none⟩ = false) := by
  rcases h.2 with ⟨rfl, h0⟩ | ⟨g, cap, cur, rfl, hb, hh, h1, r⟩
  · exact absurd (List.eq_nil_of_length_eq_zero h0) hn
  · refine ⟨g, cap, rfl, h1, hb, (Array.getElem?_eq_some_iff.1 hh).1, fun j x hx => ?_, fun j => World.ownsRow.frozenAt h j⟩
    have hj : j < xs.length := (List.getElem?_eq_some_iff.1 hx).1
    rw [World.ownsRow.cellAt h j (by omega)]
    exact hx
theorem Own.get {w : World} {B g n c j : Nat} {T : TypeId} {xs : List Value} {x : Value} (h : Own w B T (.slice (some ⟨g, 0, none⟩) n c) xs) (hx : xs[j]? = some x) : w.cell? ⟨g, j, none⟩ = some x ∧ w.frozen? ⟨g, j, none⟩ = false := by
  obtain ⟨a, c', he, hc⟩ := h.form
  obtain ⟨g', ha, _, _, h1, h2⟩ := hc j x hx
  subst ha
  simp only [Value.slice.injEq, Option.some.injEq, Addr.mk.injEq, and_true] at he
  obtain ⟨rfl, _, _⟩ := he
  exact ⟨h1, h2⟩
theorem Own.put {w : World} {B g c : Nat} {T : TypeId} {xs : List Value} {n : Nat} (hn : n = xs.length) (h : Own w B T (.slice (some ⟨g, 0, none⟩) n c) xs) (j : Nat) (u : Value) : Own (w.setCell ⟨g, j, none⟩ u) B T (.slice (some ⟨g, 0, none⟩) n c) (xs.set j u) := by
  subst hn
  have := (World.ownsRow.stored h j u).1
  unfold Own
  simpa using this
theorem Own.far {w : World} {B : Nat} {T : TypeId} {v : Value} {xs : List Value} (h : Own w B T v xs) {p : Addr} (hp : v.ownBlock ≠ some p.block) (u : Value) : Own (w.setCell p u) B T v xs := ownsRow_setCell_other h hp u
theorem Own.made (w : World) (B : Nat) (T : TypeId) (z : Value) (n : Nat) (hB : B ≤ w.heap.size) (hn : n ≤ 9223372036854775807) :
    Own (w.alloc (.cells (madeCells #[z] n) T)) B T (.slice (some ⟨w.heap.size, 0, none⟩) n n) (List.replicate n z) := by
  have h := World.ownsRow_lit (base := B) (e := T) (size := 1) w (madeCells #[z] n) n hB (by unfold maxLen; omega) (by simp [size_madeCells])
  have e : (madeCells #[z] n).toList = List.replicate n z := by
    apply List.ext_getElem?
    intro j
    rw [Array.getElem?_toList]
    rcases Nat.lt_or_ge j n with hj | hj
    · have : (madeCells #[z] n)[j]? = some z := by
        unfold madeCells
        rw [Array.getElem?_map, Array.getElem?_range, if_pos hj]
        simp [Nat.mod_one]
      rw [this]; simp [hj]
    · rw [Array.getElem?_eq_none (by simp [size_madeCells]; omega)]; simp [hj]
  unfold Own
  rw [List.length_replicate]
  rw [e] at h
  exact h
theorem Own.lit (w : World) (B : Nat) (T : TypeId) (cs : Array Value) (hB : B ≤ w.heap.size) (hn : cs.size ≤ 9223372036854775807) :
    Own (w.alloc (.cells cs T)) B T (.slice (some ⟨w.heap.size, 0, none⟩) cs.size cs.size) cs.toList := by
  have h := World.ownsRow_lit (base := B) (e := T) (size := 1) w cs cs.size hB (by unfold maxLen; omega) (by simp)
  unfold Own
  simpa using h

/-- append(s, y) onto a row of the call's own: behind 'at_builtin'. -/
theorem append1 {P : Program} {ops : Array Oper} {rest : List Oper} {o : Oper} {a : Act} {Q : Exit → Act → World → Prop} {w0 W : World} (B : Nat) (hgd : o.guard = none) (s x : Operand) (t e : TypeId) (z : Value) (bytes : Nat)
    (ho : o.op = .call { callee := .builtin .append, args := #[s, x], argTypes := #[t, t] })
    (ht : P.underlying t = some (.slice e)) (hinfo : (P.info? e).map (fun i => (i.zero, i.size, i.bytes)) = some (some z, 1, bytes)) (hz : z.cells.size = 1) (hb0 : 0 < bytes)
    (v : Value) (xs : List Value) (y : Value) (hs : a.eval s = v) (hx : a.eval x = .slice (some ⟨W.heap.size, 0, none⟩) 1 1) (h1 : y.oneCell' = true)
    (HO : Own W B e v xs) (HB : Below B w0 W) (hB : B ≤ W.heap.size) (hl : (xs.length + 1) * bytes ≤ 140737488355328)
    (h : ∀ v1 w1, Own w1 B e v1 (xs ++ [y]) → Below B w0 w1 → W.grownBy w1 v.ownBlock → (v1.ownBlock = v.ownBlock ∨ ∃ b, v1.ownBlock = some b ∧ W.heap.size ≤ b) → wpList P ops Q rest (a.put o.dst v1) w1) :
    wpList P ops Q (o :: rest) a (W.alloc (.cells #[y] e)) := by
  obtain ⟨i0, hi, hzz⟩ := Option.map_eq_some_iff.1 hinfo
  simp only [Prod.mk.injEq] at hzz
  obtain ⟨hz0, hz1, hz2⟩ := hzz
  have hlen : xs.length + 1 ≤ 140737488355328 := Nat.le_trans (Nat.le_mul_of_pos_right _ hb0) hl
  refine wpList_append_own_at (W.alloc (.cells #[y] e)) hgd s x t ho B e i0 z 1 bytes ht hi hz0 hz1 hz2 hz (by omega) v xs.length xs hs (World.ownsRow.alloc HO _) ⟨W.heap.size, 0, none⟩ 1 1 [y] hx rfl
    (World.news_of_block (cs := #[y]) (t := e) (fr := (0, 0)) (heap_alloc_new W _)) (by simpa using h1) (by simp only [maxLen]; omega) hl (by simp; omega) ?_
  intro v1 w1 hown hg _ hat
  have hown' : Own w1 B e v1 (xs ++ [y]) := by unfold Own; simpa using hown
  refine h v1 w1 hown' ((HB.alloc hB _).grown hg (by simp; omega) (fun k hk => ((World.ownsRow.lt HO) k hk).1)) (World.grownBy.trans (World.grownBy_alloc W _ _) hg) ?_
  rcases hat with hat | hat
  · exact .inl hat
  · exact .inr ⟨_, hat, by simp⟩
theorem Own.below_B {w : World} {B : Nat} {T : TypeId} {v : Value} {xs : List Value} (h : Own w B T v xs) : ∀ k, v.ownBlock = some k → B ≤ k ∧ k < w.heap.size := World.ownsRow.lt h

theorem Own.take {w : World} {B g n c m : Nat} {T : TypeId} {xs : List Value} (h : Own w B T (.slice (some ⟨g, 0, none⟩) n c) xs) (hm : m ≤ xs.length) : Own w B T (.slice (some ⟨g, 0, none⟩) m c) (xs.take m) := by
  rcases h.2 with ⟨h1, _⟩ | ⟨g', cap, cur, he, hb, hh, h1, h2, h3, h4⟩
  · simp at h1
  · simp only [Value.slice.injEq, Option.some.injEq, Addr.mk.injEq, and_true] at he
    obtain ⟨rfl, rfl, rfl⟩ := he
    have hl : (xs.take m).length = m := by rw [List.length_take]; omega
    refine ⟨by rw [Nat.mul_one], .inr ⟨g, c, cur, by rw [hl], hb, hh, by omega, h2, h3, ?_⟩⟩
    rw [hl, ← h4, List.take_take, Nat.mul_one, Nat.mul_one, Nat.min_eq_left hm]
theorem Own.slice_lt {w : World} {B g n c : Nat} {T : TypeId} {xs : List Value} (h : Own w B T (.slice (some ⟨g, 0, none⟩) n c) xs) : B ≤ g ∧ g < w.heap.size ∧ n = xs.length ∧ n ≤ c := by
  rcases h.2 with ⟨h1, _⟩ | ⟨g', cap, cur, he, hb, hh, h1, h2, h3, h4⟩
  · simp at h1
  · simp only [Value.slice.injEq, Option.some.injEq, Addr.mk.injEq, and_true] at he
    obtain ⟨rfl, rfl, rfl⟩ := he
    exact ⟨hb, (Array.getElem?_eq_some_iff.1 hh).1, rfl, h1⟩
theorem Own.other {w w' : World} {B b : Nat} {T : TypeId} {v : Value} {xs : List Value} (h : Own w B T v xs) (ho : Only b w w') (hne : v.ownBlock ≠ some b) : Own w' B T v xs := h.keep ho.grown (.inr hne)
theorem Only.below_B {b B : Nat} {a c d : World} (h : Below B a c) (k : Only b c d) (hb : B ≤ b) (hB : B ≤ c.heap.size) : Below B a d := Only.frame h hB hb k
end Go.Proofs.Ytfhefcpkknidcaa
/- The field of 8192 elements, as plain Lean: doubling, powers of the generator, logarithms, product. -/
namespace Go.Proofs.Ytfhefcpkknidcaa.Gf

abbrev F := BitVec 13

/-- Times the generator. -/
def dbl (x : F) : F := (x <<< 1) ^^^ (if x.msb then 0x1B#13 else 0#13)

def it : Nat → F → F
  | 0, x => x
  | n + 1, x => dbl (it n x)

/-- A power of the generator. -/
def ex (n : Nat) : F := it n 1#13

theorem dbl_xor (x y : F) : dbl (x ^^^ y) = dbl x ^^^ dbl y := by
  unfold dbl
  rw [BitVec.shiftLeft_xor_distrib, BitVec.msb_xor]
  cases x.msb <;> cases y.msb
  · simp
  · simp; ac_rfl
  · simp; ac_rfl
  · simp only [Bool.xor_self, Bool.false_eq_true, if_false, if_true, BitVec.xor_zero]
    have : x <<< 1 ^^^ 27#13 ^^^ (y <<< 1 ^^^ 27#13) = (x <<< 1 ^^^ y <<< 1) ^^^ (27#13 ^^^ 27#13) := by ac_rfl
    rw [this, BitVec.xor_self, BitVec.xor_zero]

theorem dbl_zero : dbl 0#13 = 0#13 := by decide

theorem dbl_eq_zero {x : F} (h : dbl x = 0#13) : x = 0#13 := by
  unfold dbl at h
  by_cases hm : x.msb = true
  · rw [if_pos hm] at h
    have h0 := congrArg (fun z : F => z.getLsbD 0) h
    simp at h0
  · rw [if_neg hm] at h
    apply BitVec.eq_of_getLsbD_eq
    intro i hi
    have h1 := congrArg (fun z : F => z.getLsbD (i + 1)) h
    by_cases hi' : i = 12
    · subst hi'
      have : x.getLsbD 12 = x.msb := by simp [BitVec.msb_eq_getLsbD_last]
      rw [this]; simpa using hm
    · rw [BitVec.xor_zero, BitVec.getLsbD_shiftLeft] at h1
      simpa [show i + 1 < 13 by omega] using h1

theorem it_add (m n : Nat) (x : F) : it (m + n) x = it m (it n x) := by
  induction m with
  | zero => simp [it]
  | succ m ih => rw [Nat.succ_add]; simp only [it]; rw [ih]

theorem it_xor (n : Nat) (x y : F) : it n (x ^^^ y) = it n x ^^^ it n y := by
  induction n with
  | zero => rfl
  | succ n ih => simp only [it]; rw [ih, dbl_xor]

theorem it_zero (n : Nat) : it n 0#13 = 0#13 := by
  induction n with
  | zero => rfl
  | succ n ih => simp only [it]; rw [ih, dbl_zero]

theorem it_inj_zero {n : Nat} {x : F} (h : it n x = 0#13) : x = 0#13 := by
  induction n with
  | zero => exact h
  | succ n ih => exact ih (dbl_eq_zero h)

theorem it_ex (m n : Nat) : it m (ex n) = ex (m + n) := (it_add m n _).symm

theorem ex_zero : ex 0 = 1#13 := rfl
theorem ex_succ (n : Nat) : ex (n + 1) = dbl (ex n) := rfl

theorem ex_ne_zero (n : Nat) : ex n ≠ 0#13 := fun h => absurd (it_inj_zero h) (by decide)

theorem it_inj {n : Nat} {x y : F} (h : it n x = it n y) : x = y := by
  have : it n (x ^^^ y) = 0#13 := by rw [it_xor, h, BitVec.xor_self]
  exact BitVec.xor_eq_zero_iff.1 (it_inj_zero this)

theorem ck512 : it 512 1#13 = 2713#13 := by decide +kernel
theorem ck1024 : it 512 2713#13 = 5132#13 := by decide +kernel
theorem ck1536 : it 512 5132#13 = 1925#13 := by decide +kernel
theorem ck2048 : it 512 1925#13 = 5514#13 := by decide +kernel
theorem ck2560 : it 512 5514#13 = 2522#13 := by decide +kernel
theorem ck3072 : it 512 2522#13 = 3615#13 := by decide +kernel
theorem ck3584 : it 512 3615#13 = 7186#13 := by decide +kernel
theorem ck4096 : it 512 7186#13 = 5488#13 := by decide +kernel
theorem ck4608 : it 512 5488#13 = 6838#13 := by decide +kernel
theorem ck5120 : it 512 6838#13 = 1969#13 := by decide +kernel
theorem ck5632 : it 512 1969#13 = 1500#13 := by decide +kernel
theorem ck6144 : it 512 1500#13 = 6574#13 := by decide +kernel
theorem ck6656 : it 512 6574#13 = 6295#13 := by decide +kernel
theorem ck7168 : it 512 6295#13 = 709#13 := by decide +kernel
theorem ck7680 : it 512 709#13 = 5196#13 := by decide +kernel
theorem cklast : it 511 5196#13 = 1#13 := by decide +kernel

theorem ex_order : ex 8191 = 1#13 := by
  have h (k m : Nat) (v u : F) (h1 : ex m = v) (h2 : it k v = u) : ex (m + k) = u := by rw [Nat.add_comm, ← it_ex, h1, h2]
  have e0 : ex 0 = 1#13 := rfl
  have e512 := h 512 0 _ _ e0 ck512
  have e1024 := h 512 512 _ _ e512 ck1024
  have e1536 := h 512 1024 _ _ e1024 ck1536
  have e2048 := h 512 1536 _ _ e1536 ck2048
  have e2560 := h 512 2048 _ _ e2048 ck2560
  have e3072 := h 512 2560 _ _ e2560 ck3072
  have e3584 := h 512 3072 _ _ e3072 ck3584
  have e4096 := h 512 3584 _ _ e3584 ck4096
  have e4608 := h 512 4096 _ _ e4096 ck4608
  have e5120 := h 512 4608 _ _ e4608 ck5120
  have e5632 := h 512 5120 _ _ e5120 ck5632
  have e6144 := h 512 5632 _ _ e5632 ck6144
  have e6656 := h 512 6144 _ _ e6144 ck6656
  have e7168 := h 512 6656 _ _ e6656 ck7168
  have e7680 := h 512 7168 _ _ e7168 ck7680
  exact h 511 7680 _ _ e7680 cklast

theorem ex_add_order (n : Nat) : ex (n + 8191) = ex n := by
  rw [← it_ex, ex_order]; rfl

theorem ex_mul_order (n k : Nat) : ex (n + 8191 * k) = ex n := by
  induction k with
  | zero => rfl
  | succ k ih => rw [Nat.mul_succ, ← Nat.add_assoc, ex_add_order, ih]

theorem ex_mod (n : Nat) : ex (n % 8191) = ex n := by
  have := ex_mul_order (n % 8191) (n / 8191)
  rw [Nat.mod_add_div] at this
  exact this.symm

theorem ex_one_ne : ex 1 ≠ 1#13 := by decide

/-- The least positive period divides 8191, which is prime. -/
theorem no_period (d : Nat) : 0 < d → d < 8191 → ex d ≠ 1#13 := by
  induction d using Nat.strongRecOn with
  | _ d ih =>
    intro h0 h1 he
    have hmul : ∀ n k, ex (n + d * k) = ex n := by
      intro n k
      induction k with
      | zero => rfl
      | succ k ihk => rw [Nat.mul_succ, ← Nat.add_assoc, ← it_ex, he]; exact ihk
    have hr : ex (8191 % d) = 1#13 := by
      have := hmul (8191 % d) (8191 / d)
      rw [Nat.mod_add_div, ex_order] at this
      exact this.symm
    rcases Nat.eq_zero_or_pos (8191 % d) with hz | hz
    · -- d divides 8191
      have hd1 : d ≠ 1 := fun h => ex_one_ne (h ▸ he)
      have hdiv : d * (8191 / d) = 8191 := by have := Nat.mod_add_div 8191 d; rw [hz, Nat.zero_add] at this; exact this
      generalize 8191 / d = q at hdiv
      have small : ∀ e : Nat, 2 ≤ e → e ≤ 90 → 8191 % e ≠ 0 := by
        have : ∀ e : Fin 91, 2 ≤ e.val → 8191 % e.val ≠ 0 := by decide +kernel
        intro e h2 h3
        exact this ⟨e, by omega⟩ h2
      rcases Nat.lt_or_ge 90 d with hb | hb
      · have hq : q ≤ 90 := by
          have : q * 91 ≤ q * d := Nat.mul_le_mul_left _ hb
          rw [Nat.mul_comm] at hdiv
          omega
        have hq1 : q ≠ 1 := fun h => by rw [h] at hdiv; omega
        have hq0 : q ≠ 0 := fun h => by rw [h] at hdiv; omega
        refine small q (by omega) hq ?_
        have : 8191 = q * d := by rw [Nat.mul_comm]; exact hdiv.symm
        exact Nat.mod_eq_zero_of_dvd ⟨d, this⟩
      · exact small d (by omega) hb hz
    · exact ih _ (Nat.mod_lt _ h0) hz (by have := Nat.mod_lt 8191 h0; omega) hr

theorem ex_inj {i j : Nat} (hi : i < 8191) (hj : j < 8191) (h : ex i = ex j) : i = j := by
  rcases Nat.lt_trichotomy i j with hl | hl | hl
  · have : ex (j - i) = 1#13 := by
      have h2 : it i (ex (j - i)) = it i 1#13 := by rw [it_ex, show i + (j - i) = j by omega]; exact h.symm
      exact it_inj h2
    exact absurd this (no_period _ (by omega) (by omega))
  · exact hl
  · have : ex (i - j) = 1#13 := by
      have h2 : it j (ex (i - j)) = it j 1#13 := by rw [it_ex, show j + (i - j) = i by omega]; exact h
      exact it_inj h2
    exact absurd this (no_period _ (by omega) (by omega))

/-- A list without repetitions inside another is no longer than it. -/
theorem nodup_le {α : Type} [DecidableEq α] (l : List α) : ∀ m : List α, l.Nodup → (∀ x ∈ l, x ∈ m) → l.length ≤ m.length := by
  induction l with
  | nil => intro m _ _; exact Nat.zero_le _
  | cons a l ih =>
    intro m hn hs
    have ha : a ∈ m := hs a (by simp)
    have hn' := List.nodup_cons.1 hn
    have := ih (m.erase a) hn'.2 (fun x hx => by
      have hne : x ≠ a := fun h => hn'.1 (h ▸ hx)
      exact (List.mem_erase_of_ne hne).2 (hs x (by simp [hx])))
    rw [List.length_erase_of_mem ha] at this
    have hp : 0 < m.length := List.length_pos_of_mem ha
    simp only [List.length_cons]
    omega

theorem ex_surj {x : F} (hx : x ≠ 0#13) : ∃ i, i < 8191 ∧ ex i = x := by
  by_cases h : x ∈ (List.range 8191).map ex
  · obtain ⟨i, hi, he⟩ := List.mem_map.1 h
    exact ⟨i, List.mem_range.1 hi, he⟩
  · exfalso
    have hnd : ((List.range 8191).map ex).Nodup := by
      rw [List.nodup_iff_pairwise_ne, List.pairwise_map]
      have := (List.nodup_range (n := 8191))
      rw [List.nodup_iff_pairwise_ne] at this
      refine List.Pairwise.imp_of_mem ?_ this
      intro a b ha hb hab he
      exact hab (ex_inj (List.mem_range.1 ha) (List.mem_range.1 hb) he)
    have hz : (0#13 : F) ∉ x :: (List.range 8191).map ex := by
      intro hm
      rcases List.mem_cons.1 hm with h1 | h1
      · exact hx h1.symm
      · obtain ⟨i, _, he⟩ := List.mem_map.1 h1
        exact ex_ne_zero i he
    have h2 := nodup_le (0#13 :: x :: (List.range 8191).map ex) ((List.range 8192).map (BitVec.ofNat 13)) (List.nodup_cons.2 ⟨hz, List.nodup_cons.2 ⟨h, hnd⟩⟩)
      (fun y _ => List.mem_map.2 ⟨y.toNat, List.mem_range.2 y.isLt, by simp⟩)
    simp only [List.length_cons, List.length_map, List.length_range] at h2
    omega

/-- The logarithm; 0 of 0. -/
def lg (x : F) : Nat := ((List.range 8191).find? fun i => ex i == x).getD 0

theorem lg_spec {x : F} (hx : x ≠ 0#13) : lg x < 8191 ∧ ex (lg x) = x := by
  obtain ⟨i, hi, he⟩ := ex_surj hx
  unfold lg
  cases h : (List.range 8191).find? fun i => ex i == x with
  | none =>
    have := List.find?_eq_none.1 h i (List.mem_range.2 hi)
    simp [he] at this
  | some j =>
    have h1 := List.find?_some h
    have h2 := List.mem_of_find?_eq_some h
    simp only [Option.getD_some]
    exact ⟨List.mem_range.1 h2, by simpa using h1⟩

theorem lg_lt (x : F) : lg x < 8191 := by
  by_cases hx : x = 0#13
  · subst hx
    unfold lg
    cases h : (List.range 8191).find? fun i => ex i == 0#13 with
    | none => decide
    | some j => exact List.mem_range.1 (List.mem_of_find?_eq_some h)
  · exact (lg_spec hx).1

theorem lg_ex {i : Nat} (hi : i < 8191) : lg (ex i) = i :=
  ex_inj (lg_lt _) hi (lg_spec (ex_ne_zero i)).2

theorem lg_zero : lg 0#13 = 0 := by
  unfold lg
  cases h : (List.range 8191).find? fun i => ex i == 0#13 with
  | none => rfl
  | some j => exact absurd (by simpa using List.find?_some h) (ex_ne_zero j)

def mul (a b : F) : F := if a = 0#13 ∨ b = 0#13 then 0#13 else ex (lg a + lg b)

theorem mul_zero (a : F) : mul a 0#13 = 0#13 := by simp [mul]
theorem zero_mul (a : F) : mul 0#13 a = 0#13 := by simp [mul]
theorem mul_comm (a b : F) : mul a b = mul b a := by unfold mul; rw [Nat.add_comm]; simp only [or_comm]
theorem ex_mul (i : Nat) (b : F) : mul (ex i) b = it i b := by
  by_cases hb : b = 0#13
  · subst hb; rw [mul_zero, it_zero]
  · have h1 := (lg_spec (ex_ne_zero i)).2
    have h2 := (lg_spec hb).2
    rw [mul, if_neg (by simp [ex_ne_zero, hb]), Nat.add_comm, ← it_ex, h1, it_ex, Nat.add_comm, ← it_ex, h2]
theorem mul_ex_ex (i j : Nat) : mul (ex i) (ex j) = ex (i + j) := by rw [ex_mul, it_ex]
theorem mul_eq_it {a : F} (ha : a ≠ 0#13) (b : F) : mul a b = it (lg a) b := by
  have := ex_mul (lg a) b
  rwa [(lg_spec ha).2] at this
theorem mul_xor (a b c : F) : mul a (b ^^^ c) = mul a b ^^^ mul a c := by
  by_cases ha : a = 0#13
  · subst ha; simp [zero_mul]
  · simp only [mul_eq_it ha, it_xor]
theorem xor_mul (a b c : F) : mul (a ^^^ b) c = mul a c ^^^ mul b c := by
  rw [mul_comm, mul_xor, mul_comm c a, mul_comm c b]
theorem one_mul (a : F) : mul 1#13 a = a := by rw [← ex_zero, ex_mul]; rfl
theorem mul_one (a : F) : mul a 1#13 = a := by rw [mul_comm, one_mul]
theorem mul_assoc (a b c : F) : mul (mul a b) c = mul a (mul b c) := by
  by_cases ha : a = 0#13
  · subst ha; simp [zero_mul]
  · by_cases hb : b = 0#13
    · subst hb; simp [zero_mul, mul_zero]
    · rw [← (lg_spec ha).2, ← (lg_spec hb).2, mul_ex_ex]
      simp only [ex_mul]
      rw [it_add]
theorem mul_left_comm (a b c : F) : mul a (mul b c) = mul b (mul a c) := by
  rw [← mul_assoc, mul_comm a b, mul_assoc]
theorem mul_eq_zero {a b : F} (h : mul a b = 0#13) : a = 0#13 ∨ b = 0#13 := by
  by_cases ha : a = 0#13
  · exact .inl ha
  · rw [mul_eq_it ha] at h
    exact .inr (it_inj_zero h)
theorem mul_ne_zero {a b : F} (ha : a ≠ 0#13) (hb : b ≠ 0#13) : mul a b ≠ 0#13 := fun h => by
  rcases mul_eq_zero h with h | h
  · exact ha h
  · exact hb h

/-- The inverse. -/
def inv (a : F) : F := ex (8191 - lg a)
theorem mul_inv {a : F} (ha : a ≠ 0#13) : mul a (inv a) = 1#13 := by
  have h1 := lg_spec ha
  conv => lhs; arg 1; rw [← h1.2]
  unfold inv
  rw [mul_ex_ex, show lg a + (8191 - lg a) = 8191 by omega, ex_order]
theorem inv_mul {a : F} (ha : a ≠ 0#13) : mul (inv a) a = 1#13 := by rw [mul_comm, mul_inv ha]
theorem inv_ne_zero (a : F) : inv a ≠ 0#13 := ex_ne_zero _

/-- Powers of a field's element. -/
def pw (a : F) : Nat → F
  | 0 => 1#13
  | n + 1 => mul a (pw a n)
theorem pw_ex (i n : Nat) : pw (ex i) n = ex (i * n) := by
  induction n with
  | zero => rfl
  | succ n ih => simp only [pw]; rw [ih, mul_ex_ex, Nat.mul_succ, Nat.add_comm]
theorem pw_add (a : F) (m n : Nat) : pw a (m + n) = mul (pw a m) (pw a n) := by
  induction m with
  | zero => rw [Nat.zero_add]; simp only [pw]; rw [one_mul]
  | succ m ih => rw [Nat.succ_add]; simp only [pw]; rw [ih, mul_assoc]
theorem pw_ne_zero {a : F} (ha : a ≠ 0#13) (n : Nat) : pw a n ≠ 0#13 := by
  induction n with
  | zero => show (1#13 : F) ≠ 0#13; decide
  | succ n ih => exact mul_ne_zero ha ih

end Go.Proofs.Ytfhefcpkknidcaa.Gf
/- The field's elements as Go's ints; the tables' cells, step by step: plain lists and numbers. -/
namespace Go.Proofs.Ytfhefcpkknidcaa
open Go.RowKit Gf

theorem i64_small (a : Nat) (ha : a < 9223372036854775808) : IntKind.i64.wrap (a : Int) = a := by
  rw [IntKind.wrap_i64]; omega
theorem i64_in (n : Int) (h0 : 0 ≤ n) (h1 : n < 2 ^ 63) : IntKind.i64.wrap n = n := by
  rw [IntKind.wrap_i64]; omega
theorem i64_and_nat (a b : Nat) (ha : a < 9223372036854775808) (hb : b < 9223372036854775808) : Go.bits .and .i64 (a : Int) (b : Int) = ((a &&& b : Nat) : Int) :=
  (bits_nat .i64 63 (by decide) i64_in a b ha hb).1
theorem i64_or_nat (a b : Nat) (ha : a < 9223372036854775808) (hb : b < 9223372036854775808) : Go.bits .or .i64 (a : Int) (b : Int) = ((a ||| b : Nat) : Int) :=
  (bits_nat .i64 63 (by decide) i64_in a b ha hb).2
theorem bits_xor_nat (k : IntKind) (j : Nat) (hj : j ≤ k.bits) (hk : ∀ n : Int, 0 ≤ n → n < 2 ^ j → k.wrap n = n) (a b : Nat) (ha : a < 2 ^ j) (hb : b < 2 ^ j) :
    Go.bits .xor k a b = ((a ^^^ b : Nat) : Int) := by
  have hp : 2 ^ j ≤ 2 ^ k.bits := Nat.pow_le_pow_right (by decide) hj
  have ha' : a % 2 ^ k.bits = a := Nat.mod_eq_of_lt (Nat.lt_of_lt_of_le ha hp)
  have hb' : b % 2 ^ k.bits = b := Nat.mod_eq_of_lt (Nat.lt_of_lt_of_le hb hp)
  have cast : ∀ n : Nat, n < 2 ^ j → ((n : Nat) : Int) < 2 ^ j := fun n h => by exact_mod_cast h
  simp only [Go.bits, BitVec.ofInt_natCast, BitVec.toNat_xor, BitVec.toNat_ofNat, ha', hb']
  exact hk _ (Int.natCast_nonneg _) (cast _ (Nat.xor_lt_two_pow ha hb))
theorem i64_xor_nat (a b : Nat) (ha : a < 9223372036854775808) (hb : b < 9223372036854775808) : Go.bits .xor .i64 (a : Int) (b : Int) = ((a ^^^ b : Nat) : Int) :=
  bits_xor_nat .i64 63 (by decide) i64_in a b ha hb

abbrev I (x : Int) : Value := .int .i64 x
abbrev B8 (x : Int) : Value := .int .u8 x
/-- An element of the field, as Go's int. -/
def fi (x : F) : Int := (x.toNat : Int)
theorem fi_bd (x : F) : 0 ≤ fi x ∧ fi x ≤ 8191 := by unfold fi; have := x.isLt; omega

theorem fi_xor (x y : F) : Go.bits .xor .i64 (fi x) (fi y) = fi (x ^^^ y) := by
  unfold fi
  rw [i64_xor_nat _ _ (by have := x.isLt; omega) (by have := y.isLt; omega), BitVec.toNat_xor]
theorem fi_zero : fi 0#13 = 0 := rfl
theorem fi_inj {x y : F} (h : fi x = fi y) : x = y := BitVec.eq_of_toNat_eq (by unfold fi at h; omega)
theorem fi_zero_ne {x : F} (hx : x ≠ 0#13) : (fi x == 0) = false := by
  apply beq_eq_false_iff_ne.2
  intro h
  apply hx
  apply BitVec.eq_of_toNat_eq
  unfold fi at h
  simp
  omega

theorem low_fi (x : F) : Go.bits .and .i64 (fi x) 8191 = fi x := by
  have h := x.isLt
  unfold fi
  rw [show (8191 : Int) = ((8191 : Nat) : Int) from rfl, i64_and_nat _ _ (by omega) (by omega), show (8191 : Nat) = 2 ^ 13 - 1 from rfl, Nat.and_two_pow_sub_one_eq_mod, Nat.mod_eq_of_lt h]
/-! ### The block of a code -/
/-- Its cells: t, chunk; the code's Once; the field's Once, its tables, its count; the degree, the generator. -/
def codeArr (t ch d m fd fm : Int) (ev lv : Value) (p dg : Int) (low : Value) : Array Value :=
  #[I t, I ch, .int .u32 d, .int .i32 m, .int .u32 0, .int .u32 fd, .int .i32 fm, .int .u32 0, ev, lv, I p, I dg, low]
def expAt (n : Nat) (j : Nat) : Int := if j < n then fi (ex j) else if 8191 ≤ j ∧ j < 8191 + n then fi (ex (j - 8191)) else 0
def logAt (n : Nat) (j : Nat) : Int := if j ≠ 0 ∧ lg (BitVec.ofNat 13 j) < n then lg (BitVec.ofNat 13 j) else 0
def expArr (n : Nat) : Array Value := ((List.range 16382).map fun j => I (expAt n j)).toArray
def logArr (n : Nat) : Array Value := ((List.range 8192).map fun j => I (logAt n j)).toArray
theorem expArr_at {n j : Nat} (h : j < 16382) : (expArr n)[j]? = some (I (expAt n j)) := by
  simp [expArr, h]
theorem logArr_at {n j : Nat} (h : j < 8192) : (logArr n)[j]? = some (I (logAt n j)) := by
  simp [logArr, h]
theorem expAt_full {j : Nat} (h : j < 16382) : expAt 8191 j = fi (ex j) := by
  unfold expAt
  by_cases h1 : j < 8191
  · rw [if_pos h1]
  · rw [if_neg h1, if_pos (by omega), ← ex_add_order (j - 8191), show j - 8191 + 8191 = j by omega]
theorem logAt_full (x : F) : logAt 8191 x.toNat = lg x := by
  have hx : BitVec.ofNat 13 x.toNat = x := by simp
  unfold logAt
  rw [hx]
  by_cases h0 : x.toNat = 0
  · have : x = 0#13 := BitVec.eq_of_toNat_eq (by simpa using h0)
    subst this
    rw [lg_zero]; simp
  · rw [if_pos ⟨h0, lg_lt x⟩]

theorem expArr_size (n : Nat) : (expArr n).size = 16382 := by simp [expArr]
theorem logArr_size (n : Nat) : (logArr n).size = 8192 := by simp [logArr]
theorem made_at (z : Value) (n j : Nat) (h : j < n) : (madeCells #[z] n)[j]? = some z := by
  unfold madeCells
  rw [Array.getElem?_map, Array.getElem?_range, if_pos h]
  simp [Nat.mod_one]
theorem arr_ext {a b : Array Value} {n : Nat} (ha : a.size = n) (hb : b.size = n) (h : ∀ j, j < n → a[j]? = b[j]?) : a = b := by
  apply Array.ext_getElem?
  intro j
  rcases Nat.lt_or_ge j n with hj | hj
  · exact h j hj
  · rw [Array.getElem?_eq_none (by omega), Array.getElem?_eq_none (by omega)]
theorem expArr_zero : madeCells #[.int .i64 0] 16382 = expArr 0 := by
  refine arr_ext (n := 16382) (size_madeCells _ _) (expArr_size 0) fun j hj => ?_
  rw [made_at _ _ _ hj, expArr_at hj]
  unfold expAt
  rw [if_neg (by omega), if_neg (by omega)]
theorem logArr_zero : madeCells #[.int .i64 0] 8192 = logArr 0 := by
  refine arr_ext (n := 8192) (size_madeCells _ _) (logArr_size 0) fun j hj => ?_
  rw [made_at _ _ _ hj, logArr_at hj]
  unfold logAt
  rw [if_neg (by omega)]
theorem expArr_step (n : Nat) (hn : n < 8191) : ((expArr n).setIfInBounds n (.int .i64 (fi (ex n)))).setIfInBounds (n + 8191) (.int .i64 (fi (ex n))) = expArr (n + 1) := by
  refine arr_ext (n := 16382) (by simp [expArr_size]) (expArr_size _) fun j hj => ?_
  rw [Array.getElem?_setIfInBounds, Array.getElem?_setIfInBounds, expArr_at hj, expArr_at hj]
  simp only [Array.size_setIfInBounds, expArr_size]
  by_cases h1 : n + 8191 = j
  · subst h1
    rw [if_pos rfl, if_pos hj]
    unfold expAt
    rw [if_neg (by omega), if_pos (by omega), show n + 8191 - 8191 = n by omega]
  · rw [if_neg h1]
    by_cases h2 : n = j
    · subst h2
      rw [if_pos rfl, if_pos hj]
      unfold expAt
      rw [if_pos (by omega)]
    · rw [if_neg h2]
      have e1 : (j < n + 1) ↔ (j < n) := by omega
      have e2 : (8191 ≤ j ∧ j < 8191 + (n + 1)) ↔ (8191 ≤ j ∧ j < 8191 + n) := by omega
      simp only [expAt, e1, e2]
theorem logArr_step (n : Nat) (hn : n < 8191) : (logArr n).setIfInBounds (ex n).toNat (.int .i64 n) = logArr (n + 1) := by
  refine arr_ext (n := 8192) (by simp [logArr_size]) (logArr_size _) fun j hj => ?_
  rw [Array.getElem?_setIfInBounds, logArr_at hj, logArr_at hj]
  simp only [logArr_size]
  have hto : (BitVec.ofNat 13 j).toNat = j := by simp; omega
  unfold logAt
  by_cases h1 : (ex n).toNat = j
  · have hx : BitVec.ofNat 13 j = ex n := BitVec.eq_of_toNat_eq (by rw [hto, h1])
    have h0 : j ≠ 0 := by
      intro h0
      apply ex_ne_zero n
      apply BitVec.eq_of_toNat_eq
      rw [h1, h0]; rfl
    rw [if_pos h1, if_pos (ex n).isLt, hx, lg_ex hn, if_pos ⟨h0, by omega⟩]
  · rw [if_neg h1]
    by_cases h0 : j = 0
    · subst h0
      rw [if_neg (by simp), if_neg (by simp)]
    · have hz : BitVec.ofNat 13 j ≠ 0#13 := by
        intro h
        have := congrArg BitVec.toNat h
        rw [hto] at this
        exact h0 this
      have hne : lg (BitVec.ofNat 13 j) ≠ n := by
        intro h
        apply h1
        rw [← h, (lg_spec hz).2, hto]
      by_cases h2 : lg (BitVec.ofNat 13 j) < n
      · rw [if_pos ⟨h0, h2⟩, if_pos ⟨h0, by omega⟩]
      · rw [if_neg (fun h => h2 h.2), if_neg (fun h => by omega)]
theorem dbl_fi (x : F) : (fi x * 2 < 8192 → fi (dbl x) = fi x * 2) ∧ (8192 ≤ fi x * 2 → fi (dbl x) = Go.bits .xor .i64 (fi x * 2) 8219) := by
  have hx := x.isLt
  have hmsb : x.msb = decide (4096 ≤ x.toNat) := by rw [BitVec.msb_eq_decide]
  have hsh : (x <<< 1).toNat = (2 * x.toNat) % 8192 := by
    rw [BitVec.toNat_shiftLeft, Nat.shiftLeft_eq]
    rw [Nat.mul_comm]
  unfold fi dbl
  rw [hmsb]
  constructor
  · intro h
    rw [if_neg (by simp; omega), BitVec.xor_zero, hsh, Nat.mod_eq_of_lt (by omega)]
    omega
  · intro h
    rw [if_pos (by simp; omega)]
    have e1 : (x.toNat : Int) * 2 = ((2 * x.toNat : Nat) : Int) := by omega
    rw [e1, show (8219 : Int) = ((8219 : Nat) : Int) from rfl, i64_xor_nat _ _ (by omega) (by omega), BitVec.toNat_xor, hsh]
    congr 1
    show 2 * x.toNat % 8192 ^^^ 27 = 2 * x.toNat ^^^ 8219
    generalize hy : 2 * x.toNat = y at *
    have h1 : 8192 ≤ y := by omega
    have h2 : y < 16384 := by omega
    apply Nat.eq_of_testBit_eq
    intro i
    rw [Nat.testBit_xor, Nat.testBit_xor, show (8192 : Nat) = 2 ^ 13 from rfl, Nat.testBit_mod_two_pow]
    rcases Nat.lt_trichotomy i 13 with hi | hi | hi
    · have : Nat.testBit 8219 i = Nat.testBit 27 i := by
        have : ∀ j : Fin 13, Nat.testBit 8219 j.val = Nat.testBit 27 j.val := by decide
        exact this ⟨i, hi⟩
      rw [this]; simp [hi]
    · subst hi
      have : y.testBit 13 = true := by
        rw [Nat.testBit_eq_decide_div_mod_eq]
        have : y / 2 ^ 13 = 1 := by omega
        rw [this]; rfl
      rw [this]; decide
    · have a : y.testBit i = false := Nat.testBit_lt_two_pow (Nat.lt_of_lt_of_le h2 (Nat.pow_le_pow_right (n := 2) (i := 14) (by decide) (by omega)))
      have b : Nat.testBit 8219 i = false := Nat.testBit_lt_two_pow (Nat.lt_of_lt_of_le (by decide : 8219 < 2 ^ 14) (Nat.pow_le_pow_right (by decide) (by omega)))
      have c : Nat.testBit 27 i = false := Nat.testBit_lt_two_pow (Nat.lt_of_lt_of_le (by decide : 27 < 2 ^ 14) (Nat.pow_le_pow_right (by decide) (by omega)))
      rw [a, b, c]; simp

end Go.Proofs.Ytfhefcpkknidcaa
/- Polynomials over two numbers as rows of words: plain lists and numbers. -/
namespace Go.Proofs.Ytfhefcpkknidcaa
open Go.RowKit

theorem bitLenAux_spec (f : Nat) : ∀ x, x < 2 ^ f → (x = 0 ∧ Lib.bitLenAux f x = 0) ∨ (0 < Lib.bitLenAux f x ∧ Lib.bitLenAux f x ≤ f ∧ 2 ^ (Lib.bitLenAux f x - 1) ≤ x ∧ x < 2 ^ Lib.bitLenAux f x) := by
  induction f with
  | zero => intro x hx; left; simp at hx; exact ⟨hx, rfl⟩
  | succ f ih =>
    intro x hx
    by_cases h0 : x = 0
    · left; exact ⟨h0, by simp [Lib.bitLenAux, h0]⟩
    · right
      have e : Lib.bitLenAux (f + 1) x = 1 + Lib.bitLenAux f (x / 2) := by simp [Lib.bitLenAux, h0]
      rw [e]
      have hp : 2 ^ (f + 1) = 2 * 2 ^ f := by rw [Nat.pow_succ, Nat.mul_comm]
      rcases ih (x / 2) (by omega) with ⟨h1, h2⟩ | ⟨h1, h2, h3, h4⟩
      · rw [h2]
        have : x = 1 := by omega
        subst this
        exact ⟨by omega, by omega, by decide, by decide⟩
      · generalize Lib.bitLenAux f (x / 2) = k at *
        obtain ⟨k, rfl⟩ : ∃ m, k = m + 1 := ⟨k - 1, by omega⟩
        have e1 : 1 + (k + 1) - 1 = k + 1 := by omega
        have e2 : k + 1 - 1 = k := by omega
        rw [e1]
        rw [e2] at h3
        have p1 : 2 ^ (k + 1) = 2 * 2 ^ k := by rw [Nat.pow_succ, Nat.mul_comm]
        have p2 : 2 ^ (1 + (k + 1)) = 2 * 2 ^ (k + 1) := by rw [Nat.pow_add, Nat.pow_one]
        refine ⟨by omega, by omega, by omega, by omega⟩
theorem bitLen_pos {x : Nat} (hx : x < 18446744073709551616) (h0 : x ≠ 0) : 0 < Lib.bitLen x ∧ Lib.bitLen x ≤ 64 ∧ 2 ^ (Lib.bitLen x - 1) ≤ x ∧ x < 2 ^ Lib.bitLen x := by
  rcases bitLenAux_spec 64 x (by simpa using hx) with ⟨h, _⟩ | h
  · exact absurd h h0
  · exact h
theorem bitLen_zero : Lib.bitLen 0 = 0 := by decide
theorem xor_top {x k : Nat} (h1 : 2 ^ k ≤ x) (h2 : x < 2 ^ (k + 1)) : x ^^^ 2 ^ k = x - 2 ^ k := by
  have hr : x - 2 ^ k < 2 ^ k := by rw [Nat.pow_succ] at h2; omega
  have e : x = 2 ^ k + (x - 2 ^ k) := by omega
  have h := Nat.two_pow_add_eq_or_of_lt hr 1
  rw [Nat.mul_one] at h
  generalize x - 2 ^ k = r at *
  subst e
  rw [h]
  apply Nat.eq_of_testBit_eq
  intro i
  rw [Nat.testBit_xor, Nat.testBit_or, Nat.testBit_two_pow]
  by_cases hi : k = i
  · subst hi
    simp [Nat.testBit_lt_two_pow hr]
  · simp [hi]
theorem bitLen_less {x : Nat} (hx : x < 18446744073709551616) (h0 : x ≠ 0) : x ^^^ 2 ^ (Lib.bitLen x - 1) < x ∧ Lib.bitLen (x ^^^ 2 ^ (Lib.bitLen x - 1)) < Lib.bitLen x := by
  obtain ⟨a, b, c, d⟩ := bitLen_pos hx h0
  obtain ⟨k, hk⟩ : ∃ m, Lib.bitLen x = m + 1 := ⟨Lib.bitLen x - 1, by omega⟩
  rw [hk] at c d ⊢
  simp only [Nat.add_sub_cancel] at *
  rw [xor_top c d]
  have hp := Nat.two_pow_pos k
  refine ⟨by omega, ?_⟩
  have hr : x - 2 ^ k < 2 ^ k := by rw [Nat.pow_succ] at d; omega
  by_cases h1 : x - 2 ^ k = 0
  · rw [h1, bitLen_zero]; omega
  · obtain ⟨a', b', c', d'⟩ := bitLen_pos (x := x - 2 ^ k) (by omega) h1
    apply Nat.lt_of_not_le
    intro hle
    have : 2 ^ k ≤ 2 ^ (Lib.bitLen (x - 2 ^ k) - 1) := Nat.pow_le_pow_right (by decide) (by omega)
    omega

/-! ### Rows -/
def W64 (r : List Nat) : Prop := ∀ x ∈ r, x < 18446744073709551616
def u64s (r : List Nat) : List Value := r.map fun (x : Nat) => .int .u64 (x : Int)
def i64s (l : List Nat) : List Value := l.map fun (x : Nat) => .int .i64 (x : Int)
def flipR (r : List Nat) (e : Nat) : List Nat := r.set (e / 64) (r.getD (e / 64) 0 ^^^ 2 ^ (e % 64))
def rowR (p : List Nat) : List Nat := p.foldl flipR (List.replicate 257 0)
def degN (r : List Nat) : Nat → Int
  | 0 => -1
  | i + 1 => if r.getD i 0 = 0 then degN r i else 64 * (i : Int) + (Lib.bitLen (r.getD i 0) : Int) - 1
def degR (r : List Nat) : Int := degN r r.length
def bitsF : Nat → Nat → List Nat
  | 0, _ => []
  | f + 1, w => if w = 0 then [] else (Lib.bitLen w - 1) :: bitsF f (w ^^^ 2 ^ (Lib.bitLen w - 1))
def polyN (r : List Nat) : Nat → List Nat
  | 0 => []
  | i + 1 => (bitsF 64 (r.getD i 0)).map (64 * i + ·) ++ polyN r i
def polyR (r : List Nat) : List Nat := polyN r r.length
def addS (words left : Nat) (r : List Nat) (i w : Nat) : List Nat :=
  if w = 0 then r else
    let r1 := r.set (i + words) (r.getD (i + words) 0 ^^^ (w * 2 ^ left % 18446744073709551616))
    if 0 < left ∧ w / 2 ^ (64 - left) ≠ 0 then r1.set (i + words + 1) (r1.getD (i + words + 1) 0 ^^^ (w / 2 ^ (64 - left))) else r1
def addN (o : List Nat) (up : Nat) (r : List Nat) : Nat → List Nat
  | 0 => r
  | i + 1 => addS (up / 64) (up % 64) (addN o up r i) i (o.getD i 0)
def addR (r o : List Nat) (up : Nat) : List Nat := addN o up r o.length
def mulR (a b : List Nat) : List Nat :=
  polyR ((polyR (rowR a)).foldl (fun r e => addR r ((rowR b).take ((degR (rowR b)).toNat / 64 + 1)) e) (List.replicate 258 0))

theorem getD_lt {r : List Nat} (h : W64 r) (i : Nat) : r.getD i 0 < 18446744073709551616 := by
  rw [List.getD_eq_getElem?_getD]
  cases hi : r[i]? with
  | none => decide
  | some x => exact h x (List.mem_of_getElem? hi)
theorem W64.set {r : List Nat} (h : W64 r) (i : Nat) {x : Nat} (hx : x < 18446744073709551616) : W64 (r.set i x) := by
  intro y hy
  rcases List.mem_or_eq_of_mem_set hy with h1 | h1
  · exact h y h1
  · rw [h1]; exact hx
theorem xor64 {a b : Nat} (ha : a < 18446744073709551616) (hb : b < 18446744073709551616) : a ^^^ b < 18446744073709551616 := Nat.xor_lt_two_pow (n := 64) ha hb
theorem pow64 {i : Nat} (h : i < 64) : 2 ^ i < 18446744073709551616 := Nat.pow_lt_pow_right (a := 2) (m := i) (n := 64) (by decide) h
theorem W64.flip {r : List Nat} (h : W64 r) (e : Nat) : W64 (flipR r e) := h.set _ (xor64 (getD_lt h _) (pow64 (Nat.mod_lt _ (by decide))))
theorem flipR_length (r : List Nat) (e : Nat) : (flipR r e).length = r.length := by simp [flipR]
theorem W64.zeros (n : Nat) : W64 (List.replicate n 0) := by intro x hx; rw [(List.mem_replicate.1 hx).2]; decide
theorem fold_flip (p : List Nat) : ∀ r, W64 r → W64 (p.foldl flipR r) ∧ (p.foldl flipR r).length = r.length := by
  induction p with
  | nil => intro r h; exact ⟨h, rfl⟩
  | cons e p ih =>
    intro r h
    obtain ⟨a, b⟩ := ih (flipR r e) (h.flip e)
    exact ⟨a, by rw [List.foldl_cons, b, flipR_length]⟩
theorem rowR_ok (p : List Nat) : W64 (rowR p) ∧ (rowR p).length = 257 := by
  obtain ⟨a, b⟩ := fold_flip p (List.replicate 257 0) (W64.zeros 257)
  exact ⟨a, by rw [rowR, b, List.length_replicate]⟩
theorem rowR_snoc (p : List Nat) (k : Nat) (h : k < p.length) : rowR (p.take (k + 1)) = flipR (rowR (p.take k)) p[k] := by
  rw [List.take_succ_eq_append_getElem h, rowR, List.foldl_append]; rfl

theorem u64_wrap_pow {i : Nat} (h : i < 64) : IntKind.u64.wrap (2 ^ i) = ((2 ^ i : Nat) : Int) := by
  have := pow64 h
  rw [IntKind.wrap_u64]
  have e : ((2 : Int) ^ i) = ((2 ^ i : Nat) : Int) := by simp
  rw [e]
  generalize 2 ^ i = y at *
  omega
theorem u64_xor_pow {x i : Nat} (hx : x < 18446744073709551616) (h : i < 64) : Go.bits .xor .u64 (x : Int) (IntKind.u64.wrap (2 ^ i)) = ((x ^^^ 2 ^ i : Nat) : Int) := by
  rw [u64_wrap_pow h, u64_xor_nat _ _ hx (pow64 h)]

theorem bitsF_zero (f : Nat) : bitsF f 0 = [] := by cases f <;> simp [bitsF]
theorem bitsF_step {f w : Nat} (h : w ≠ 0) : bitsF (f + 1) w = (Lib.bitLen w - 1) :: bitsF f (w ^^^ 2 ^ (Lib.bitLen w - 1)) := by simp [bitsF, h]
theorem bitsF_length (f : Nat) : ∀ w, (bitsF f w).length ≤ f := by
  induction f with
  | zero => intro w; simp [bitsF]
  | succ f ih =>
    intro w
    simp only [bitsF]
    split
    · simp
    · have := ih (w ^^^ 2 ^ (Lib.bitLen w - 1)); simp; omega
theorem polyN_length (r : List Nat) (k : Nat) : (polyN r k).length ≤ 64 * k := by
  induction k with
  | zero => simp [polyN]
  | succ k ih =>
    simp only [polyN]
    have := bitsF_length 64 (r.getD k 0)
    simp only [List.length_append, List.length_map]
    omega

theorem div64 {w s : Nat} (hw : w < 18446744073709551616) : w / 2 ^ s < 18446744073709551616 := Nat.lt_of_le_of_lt (Nat.div_le_self _ _) hw
theorem addS_ok {words left : Nat} {r : List Nat} {i w : Nat} (hr : W64 r) (hw : w < 18446744073709551616) : W64 (addS words left r i w) ∧ (addS words left r i w).length = r.length := by
  unfold addS
  split
  · exact ⟨hr, rfl⟩
  · have h1 := hr.set (i + words) (xor64 (getD_lt hr (i + words)) (Nat.mod_lt (w * 2 ^ left) (by decide : 0 < 18446744073709551616)))
    simp only
    split
    · exact ⟨h1.set _ (xor64 (getD_lt h1 _) (div64 hw)), by simp⟩
    · exact ⟨h1, by simp⟩
theorem addN_ok {o r : List Nat} (up : Nat) (hr : W64 r) (ho : W64 o) (k : Nat) : W64 (addN o up r k) ∧ (addN o up r k).length = r.length := by
  induction k with
  | zero => exact ⟨hr, rfl⟩
  | succ k ih =>
    obtain ⟨a, b⟩ := addS_ok (words := up / 64) (left := up % 64) (i := k) ih.1 (getD_lt ho k)
    exact ⟨a, by simp only [addN]; rw [b, ih.2]⟩

theorem u64_xor_shl {y x left : Nat} (hy : y < 18446744073709551616) : Go.bits .xor .u64 (y : Int) (IntKind.u64.wrap ((x : Int) * 2 ^ left)) = ((y ^^^ (x * 2 ^ left % 18446744073709551616) : Nat) : Int) := by
  have e : IntKind.u64.wrap ((x : Int) * 2 ^ left) = ((x * 2 ^ left % 18446744073709551616 : Nat) : Int) := by
    rw [IntKind.wrap_u64]
    have : ((x : Int) * 2 ^ left) = ((x * 2 ^ left : Nat) : Int) := by simp
    rw [this]; omega
  rw [e, u64_xor_nat _ _ hy (Nat.mod_lt _ (by decide))]
theorem u64_xor_div {y x s : Nat} (hy : y < 18446744073709551616) (hx : x < 18446744073709551616) : Go.bits .xor .u64 (y : Int) ((x : Int) / 2 ^ s) = ((y ^^^ x / 2 ^ s : Nat) : Int) := by
  have e : ((x : Int) / 2 ^ s) = ((x / 2 ^ s : Nat) : Int) := by simp
  rw [e, u64_xor_nat _ _ hy (div64 hx)]
end Go.Proofs.Ytfhefcpkknidcaa
/- Berlekamp and Massey's recurrence over the field of 8192 elements, as plain Lean: what the shortest recurrence of the power sums of distinct places is. -/
namespace Go.Proofs.Ytfhefcpkknidcaa.Gf

/-! ### Sums -/
def S : Nat → (Nat → F) → F
  | 0, _ => 0#13
  | n + 1, f => S n f ^^^ f n

theorem S_congr {n : Nat} {f g : Nat → F} (h : ∀ i, i < n → f i = g i) : S n f = S n g := by
  induction n with
  | zero => rfl
  | succ n ih => simp only [S]; rw [ih (fun i hi => h i (by omega)), h n (by omega)]
theorem S_xor (n : Nat) (f g : Nat → F) : S n (fun i => f i ^^^ g i) = S n f ^^^ S n g := by
  induction n with
  | zero => simp [S]
  | succ n ih => simp only [S]; rw [ih]; ac_rfl
theorem S_mul (n : Nat) (c : F) (f : Nat → F) : mul c (S n f) = S n (fun i => mul c (f i)) := by
  induction n with
  | zero => exact mul_zero c
  | succ n ih => simp only [S]; rw [mul_xor, ih]
theorem S_zero' {n : Nat} {f : Nat → F} (h : ∀ i, i < n → f i = 0#13) : S n f = 0#13 := by
  induction n with
  | zero => rfl
  | succ n ih => simp only [S]; rw [ih (fun i hi => h i (by omega)), h n (by omega)]; simp
theorem S_first (n : Nat) (f : Nat → F) : S (n + 1) f = f 0 ^^^ S n (fun i => f (i + 1)) := by
  induction n with
  | zero => simp [S]
  | succ n ih => rw [S, ih, S]; ac_rfl
theorem S_more {n m : Nat} {f : Nat → F} (hm : n ≤ m) (h : ∀ i, n ≤ i → i < m → f i = 0#13) : S m f = S n f := by
  induction m with
  | zero => rw [show n = 0 by omega]
  | succ m ih =>
    rcases Nat.lt_or_ge n (m + 1) with h1 | h1
    · simp only [S]; rw [ih (by omega) (fun i hi hj => h i hi (by omega)), h m (by omega) (by omega)]; simp
    · rw [show n = m + 1 by omega]
theorem S_swap (m n : Nat) (f : Nat → Nat → F) : S m (fun i => S n (fun j => f i j)) = S n (fun j => S m (fun i => f i j)) := by
  induction m with
  | zero => exact (S_zero' (fun _ _ => rfl)).symm
  | succ m ih => simp only [S]; rw [ih, ← S_xor]
/-- A sum's places moved up. -/
theorem S_shift (n g : Nat) (f : Nat → F) : S n (fun i => if g ≤ i then f (i - g) else 0#13) = S (n - g) f := by
  induction n with
  | zero => rw [Nat.zero_sub]; rfl
  | succ n ih =>
    simp only [S]; rw [ih]
    rcases Nat.lt_or_ge n g with h | h
    · rw [if_neg (by omega), show n + 1 - g = n - g by omega]; simp
    · rw [if_pos h, show n + 1 - g = (n - g) + 1 by omega]; simp only [S]

theorem xor_eq_zero {a b : F} : a ^^^ b = 0#13 ↔ a = b := BitVec.xor_eq_zero_iff
theorem xor_left_cancel' {a b c : F} (h : a ^^^ b = c) : a = c ^^^ b := by rw [← h, BitVec.xor_assoc, BitVec.xor_self, BitVec.xor_zero]

/-! ### Coefficients, the product with a series -/
def co (l : List F) (i : Nat) : F := l.getD i 0#13
theorem co_out {l : List F} {i : Nat} (h : l.length ≤ i) : co l i = 0#13 := by simp [co, h]
def conv (p s : Nat → F) (k : Nat) : F := S (k + 1) (fun i => mul (p i) (s (k - i)))

/-- What the algorithm keeps. -/
structure St where
  now : List F
  old : List F
  len : Nat
  gap : Nat
  last : F

def disc (s : Nat → F) (now : List F) (len n : Nat) : F :=
  s n ^^^ S (min len (now.length - 1)) (fun j => mul (co now (j + 1)) (s (n - (j + 1))))
def upd (now old : List F) (gap : Nat) (by' : F) : List F :=
  (List.range (max now.length (old.length + gap))).map fun k => co now k ^^^ (if gap ≤ k then mul by' (co old (k - gap)) else 0#13)
def stepBM (s : Nat → F) (n : Nat) (st : St) : St :=
  if disc s st.now st.len n = 0#13 then { st with gap := st.gap + 1 } else
  let d := disc s st.now st.len n
  let next := upd st.now st.old st.gap (mul (inv st.last) d)
  if 2 * st.len ≤ n then ⟨next, st.now, n + 1 - st.len, 1, d⟩ else { st with now := next, gap := st.gap + 1 }
def initBM : St := ⟨[1#13], [1#13], 0, 1, 1#13⟩
def runBM (s : Nat → F) : Nat → St
  | 0 => initBM
  | n + 1 => stepBM s n (runBM s n)

/-- The series with a 1 ahead. -/
def sp (s : Nat → F) : Nat → F
  | 0 => 1#13
  | k + 1 => s k

theorem co_upd (now old : List F) (gap : Nat) (b : F) (k : Nat) : co (upd now old gap b) k = co now k ^^^ (if gap ≤ k then mul b (co old (k - gap)) else 0#13) := by
  rcases Nat.lt_or_ge k (max now.length (old.length + gap)) with h | h
  · simp only [upd, co, List.getD_eq_getElem?_getD, List.getElem?_map, List.getElem?_range h]; rfl
  · rw [co_out (by simpa [upd] using h), co_out (by omega)]
    split
    · rw [co_out (l := old) (by omega), mul_zero]; simp
    · simp

theorem conv_upd (s : Nat → F) (now old : List F) (gap : Nat) (b : F) (k : Nat) :
    conv (co (upd now old gap b)) s k = conv (co now) s k ^^^ (if gap ≤ k then mul b (conv (co old) s (k - gap)) else 0#13) := by
  unfold conv
  have h1 : S (k + 1) (fun i => mul (co (upd now old gap b) i) (s (k - i))) =
      S (k + 1) (fun i => mul (co now i) (s (k - i)) ^^^ (if gap ≤ i then mul b (mul (co old (i - gap)) (s (k - gap - (i - gap)))) else 0#13)) := by
    apply S_congr
    intro i hi
    rw [co_upd, xor_mul]
    split
    · rw [mul_assoc, show k - gap - (i - gap) = k - i by omega]
    · rw [zero_mul]
  rw [h1, S_xor, S_shift (k + 1) gap (fun j => mul b (mul (co old j) (s (k - gap - j))))]
  split
  · rw [show k + 1 - gap = k - gap + 1 by omega, S_mul]
  · rw [show k + 1 - gap = 0 by omega]; rfl

theorem disc_conv {s : Nat → F} {now : List F} {len n : Nat} (h1 : len ≤ n) (h2 : now.length ≤ len + 1) (h3 : 1 ≤ now.length) (h4 : co now 0 = 1#13) :
    disc s now len n = conv (co now) (sp s) (n + 1) := by
  unfold conv
  rw [S_first]
  rw [h4, one_mul]
  show _ = s n ^^^ _
  unfold disc
  congr 1
  have hm : min len (now.length - 1) = now.length - 1 := by omega
  rw [hm]
  symm
  have h5 : S (n + 1) (fun i => mul (co now (i + 1)) (sp s (n + 1 - (i + 1)))) = S (now.length - 1) (fun i => mul (co now (i + 1)) (sp s (n + 1 - (i + 1)))) := by
    apply S_more (by omega)
    intro i hi _
    rw [co_out (by omega), zero_mul]
  rw [h5]
  apply S_congr
  intro i hi
  have : n + 1 - (i + 1) = (n - (i + 1)) + 1 := by omega
  rw [this]; rfl

/-- What holds before the n-th value. -/
structure Inv (s : Nat → F) (n : Nat) (st : St) : Prop where
  len_le : st.len ≤ n
  now_le : st.now.length ≤ st.len + 1
  now_pos : 1 ≤ st.now.length
  now_one : co st.now 0 = 1#13
  gap_pos : 1 ≤ st.gap
  gap_le : st.gap ≤ n + 1
  len_M : st.len ≤ n + 1 - st.gap
  old_le : st.old.length + st.len ≤ n + 1 - st.gap + 1
  old_pos : 1 ≤ st.old.length
  zero : ∀ k, st.len < k → k ≤ n → conv (co st.now) (sp s) k = 0#13
  ozero : ∀ k, n + 1 - st.gap - st.len < k → k < n + 1 - st.gap → conv (co st.old) (sp s) k = 0#13
  olast : conv (co st.old) (sp s) (n + 1 - st.gap) = st.last
  last_ne : st.last ≠ 0#13

theorem inv_init (s : Nat → F) : Inv s 0 initBM where
  len_le := Nat.le_refl _
  now_le := Nat.le_refl _
  now_pos := Nat.le_refl _
  now_one := rfl
  gap_pos := Nat.le_refl _
  gap_le := Nat.le_refl _
  len_M := Nat.zero_le _
  old_le := Nat.le_refl _
  old_pos := Nat.le_refl _
  zero := fun k h1 h2 => by have : (0 : Nat) < k := h1; omega
  ozero := fun k h1 h2 => by simp [initBM] at h2
  olast := by
    show conv (co [1#13]) (sp s) 0 = 1#13
    show 0#13 ^^^ mul 1#13 1#13 = 1#13
    rw [one_mul]; decide
  last_ne := by show (1#13 : F) ≠ 0#13; decide

theorem inv_step {s : Nat → F} {n : Nat} {st : St} (h : Inv s n st) : Inv s (n + 1) (stepBM s n st) := by
  have hd := disc_conv (s := s) h.len_le h.now_le h.now_pos h.now_one
  unfold stepBM
  by_cases h0 : disc s st.now st.len n = 0#13
  · rw [if_pos h0]
    have hg := h.gap_le
    have e : n + 1 + 1 - (st.gap + 1) = n + 1 - st.gap := by omega
    exact {
      len_le := by have := h.len_le; simp; omega
      now_le := h.now_le
      now_pos := h.now_pos
      now_one := h.now_one
      gap_pos := by simp
      gap_le := by simp; omega
      len_M := by simp only; rw [e]; exact h.len_M
      old_le := by simp only; rw [e]; exact h.old_le
      old_pos := h.old_pos
      zero := by
        intro k h1 h2
        rcases Nat.lt_or_ge n k with h3 | h3
        · have : k = n + 1 := by omega
          subst this
          rw [← hd]; exact h0
        · exact h.zero k h1 h3
      ozero := by simp only; rw [e]; exact h.ozero
      olast := by simp only; rw [e]; exact h.olast
      last_ne := h.last_ne }
  · rw [if_neg h0]
    simp only
    generalize hD : disc s st.now st.len n = d at *
    have hg := h.gap_le
    have hgp := h.gap_pos
    have hlM := h.len_M
    have hol := h.old_le
    have hnl := h.now_le
    have hll := h.len_le
    have hup : (upd st.now st.old st.gap (mul (inv st.last) d)).length = max st.now.length (st.old.length + st.gap) := by simp [upd]
    have hnp := h.now_pos
    -- what the new polynomial does
    have hz : ∀ k, max st.len (n + 1 - st.len) < k → k ≤ n + 1 → conv (co (upd st.now st.old st.gap (mul (inv st.last) d))) (sp s) k = 0#13 := by
      intro k h1 h2
      rw [conv_upd]
      rcases Nat.lt_or_ge n k with h3 | h3
      · have : k = n + 1 := by omega
        subst this
        rw [if_pos hg, ← hd, h.olast, mul_assoc, mul_comm d, ← mul_assoc, inv_mul h.last_ne, one_mul, BitVec.xor_self]
      · rw [h.zero k (by omega) h3]
        split
        · rw [h.ozero _ (by omega) (by omega), mul_zero]; simp
        · simp
    have hone : co (upd st.now st.old st.gap (mul (inv st.last) d)) 0 = 1#13 := by
      rw [co_upd, if_neg (by omega), h.now_one]; simp
    by_cases hc : 2 * st.len ≤ n
    · rw [if_pos hc]
      exact {
        len_le := by show n + 1 - st.len ≤ n + 1; omega
        now_le := by simp only; rw [hup]; omega
        now_pos := by simp only; rw [hup]; omega
        now_one := hone
        gap_pos := by simp
        gap_le := by simp
        len_M := by show n + 1 - st.len ≤ n + 1 + 1 - 1; omega
        old_le := by show st.now.length + (n + 1 - st.len) ≤ n + 1 + 1 - 1 + 1; omega
        old_pos := h.now_pos
        zero := fun k h1 h2 => hz k (by simp only at h1; omega) h2
        ozero := fun k h1 h2 => h.zero k (by simp only at h1; omega) (by simp only at h2; omega)
        olast := by simp only [Nat.add_sub_cancel]; exact hd.symm
        last_ne := h0 }
    · rw [if_neg hc]
      have e : n + 1 + 1 - (st.gap + 1) = n + 1 - st.gap := by omega
      exact {
        len_le := by simp; omega
        now_le := by simp only; rw [hup]; omega
        now_pos := by simp only; rw [hup]; omega
        now_one := hone
        gap_pos := by simp
        gap_le := by simp; omega
        len_M := by simp only; rw [e]; exact h.len_M
        old_le := by simp only; rw [e]; exact h.old_le
        old_pos := h.old_pos
        zero := fun k h1 h2 => hz k (by simp only at h1; omega) h2
        ozero := by simp only; rw [e]; exact h.ozero
        olast := by simp only; rw [e]; exact h.olast
        last_ne := h.last_ne }

theorem inv_run (s : Nat → F) (n : Nat) : Inv s n (runBM s n) := by
  induction n with
  | zero => exact inv_init s
  | succ n ih => exact inv_step ih

/-! ### The recurrence found is no longer than any that serves (Massey) -/
theorem conv_sp {s : Nat → F} {p : Nat → F} {k : Nat} (hp : p (k + 1) = 0#13) : conv p (sp s) (k + 1) = conv p s k := by
  unfold conv
  rw [S, hp, zero_mul, BitVec.xor_zero]
  apply S_congr
  intro i hi
  have : k + 1 - i = (k - i) + 1 := by omega
  rw [this]; rfl

theorem massey {s : Nat → F} {lam sig : Nat → F} {L v n : Nat} (hsum : v + L ≤ n) (hl : ∀ i, L < i → lam i = 0#13) (hs0 : sig 0 = 1#13) (hs : ∀ i, v < i → sig i = 0#13)
    (gl : ∀ k, L ≤ k → k < n → conv lam s k = 0#13) (gs : ∀ k, v ≤ k → k ≤ n → conv sig s k = 0#13) : conv lam s n = 0#13 := by
  have cut : ∀ (p : Nat → F) (B k : Nat), B ≤ k → (∀ i, B < i → p i = 0#13) → conv p s k = S (B + 1) (fun i => mul (p i) (s (k - i))) := by
    intro p B k hB hp
    exact S_more (by omega) (fun i hi _ => by rw [hp i (by omega), zero_mul])
  -- each value of the series by the others
  have rec' : ∀ k, v ≤ k → k ≤ n → s k = S v (fun j => mul (sig (j + 1)) (s (k - (j + 1)))) := by
    intro k h1 h2
    have := gs k h1 h2
    rw [cut sig v k h1 hs, S_first, hs0, one_mul] at this
    exact xor_eq_zero.1 this
  rw [cut lam L n (by omega) hl]
  have h1 : S (L + 1) (fun i => mul (lam i) (s (n - i))) = S (L + 1) (fun i => S v (fun j => mul (sig (j + 1)) (mul (lam i) (s (n - (j + 1) - i))))) := by
    apply S_congr
    intro i hi
    rw [rec' (n - i) (by omega) (by omega), S_mul]
    apply S_congr
    intro j hj
    rw [mul_left_comm, show n - i - (j + 1) = n - (j + 1) - i by omega]
  rw [h1, S_swap]
  apply S_zero'
  intro j hj
  rw [← S_mul]
  have := gl (n - (j + 1)) (by omega) (by omega)
  rw [cut lam L _ (by omega) hl] at this
  rw [this, mul_zero]

theorem len_le_of {s : Nat → F} {sig : Nat → F} {v N : Nat} (hs0 : sig 0 = 1#13) (hs : ∀ i, v < i → sig i = 0#13)
    (gs : ∀ k, v ≤ k → k < N → conv sig s k = 0#13) : ∀ n, n ≤ N → (runBM s n).len ≤ v := by
  intro n
  induction n with
  | zero => intro _; exact Nat.zero_le _
  | succ n ih =>
    intro hn
    have ih := ih (by omega)
    have I := inv_run s n
    have hd := disc_conv (s := s) I.len_le I.now_le I.now_pos I.now_one
    simp only [runBM]
    unfold stepBM
    split
    · exact ih
    · rename_i h0
      simp only
      split
      · rename_i hc
        simp only
        apply Nat.le_of_not_lt
        intro hlt
        apply h0
        have hbig : ∀ i, (runBM s n).len < i → co (runBM s n).now i = 0#13 := fun i hi => co_out (by have := I.now_le; omega)
        rw [hd, conv_sp (hbig _ (by have := I.len_le; omega))]
        refine massey (L := (runBM s n).len) (v := v) (by omega) hbig hs0 hs ?_ (fun k h1 h2 => gs k h1 (by omega))
        intro k h1 h2
        have := I.zero (k + 1) (by omega) (by omega)
        rwa [conv_sp (hbig _ (by omega))] at this
      · exact ih

/-! ### Sums over lists -/
def Sl {α : Type} (l : List α) (f : α → F) : F := match l with
  | [] => 0#13
  | a :: l => f a ^^^ Sl l f
theorem Sl_congr {α : Type} {l : List α} {f g : α → F} (h : ∀ a ∈ l, f a = g a) : Sl l f = Sl l g := by
  induction l with
  | nil => rfl
  | cons a l ih => simp only [Sl]; rw [h a (by simp), ih (fun b hb => h b (by simp [hb]))]
theorem Sl_mul {α : Type} (l : List α) (c : F) (f : α → F) : mul c (Sl l f) = Sl l (fun a => mul c (f a)) := by
  induction l with
  | nil => exact mul_zero c
  | cons a l ih => simp only [Sl]; rw [mul_xor, ih]
theorem Sl_xor {α : Type} (l : List α) (f g : α → F) : Sl l (fun a => f a ^^^ g a) = Sl l f ^^^ Sl l g := by
  induction l with
  | nil => simp [Sl]
  | cons a l ih => simp only [Sl]; rw [ih]; ac_rfl
theorem Sl_S {α : Type} (l : List α) (n : Nat) (f : α → Nat → F) : Sl l (fun a => S n (f a)) = S n (fun i => Sl l (fun a => f a i)) := by
  induction l with
  | nil => exact (S_zero' (fun _ _ => rfl)).symm
  | cons a l ih => simp only [Sl]; rw [ih, ← S_xor]
theorem Sl_zero {α : Type} {l : List α} {f : α → F} (h : ∀ a ∈ l, f a = 0#13) : Sl l f = 0#13 := by
  induction l with
  | nil => rfl
  | cons a l ih => simp only [Sl]; rw [h a (by simp), ih (fun b hb => h b (by simp [hb]))]; simp

/-- Vandermonde. -/
theorem vander (n : Nat) : ∀ (l : List Nat) (X c : Nat → F), l.length = n → (l.map X).Nodup → (∀ j, j < n → Sl l (fun p => mul (c p) (pw (X p) j)) = 0#13) → ∀ p ∈ l, c p = 0#13 := by
  induction n with
  | zero => intro l X c hl _ _ p hp; rw [List.eq_nil_of_length_eq_zero hl] at hp; simp at hp
  | succ n ih =>
    intro l X c hl hn h
    match l, hl with
    | q :: l, hl =>
    simp only [List.length_cons] at hl
    rw [List.map_cons, List.nodup_cons] at hn
    have hne : ∀ p ∈ l, X p ^^^ X q ≠ 0#13 := fun p hp he => hn.1 (List.mem_map.2 ⟨p, hp, xor_eq_zero.1 he⟩)
    have h' := ih l X (fun p => mul (c p) (X p ^^^ X q)) (by omega) hn.2 (by
      intro j hj
      have e1 := h (j + 1) (by omega)
      have e2 := h j (by omega)
      simp only [Sl] at e1 e2
      have e1 := xor_eq_zero.1 e1
      have e2 := xor_eq_zero.1 e2
      have : Sl l (fun p => mul (mul (c p) (X p ^^^ X q)) (pw (X p) j)) = Sl l (fun p => mul (c p) (pw (X p) (j + 1)) ^^^ mul (X q) (mul (c p) (pw (X p) j))) := by
        apply Sl_congr
        intro p _
        simp only [pw]
        rw [mul_assoc, xor_mul, mul_xor]
        congr 1
        rw [mul_left_comm]
      rw [this, Sl_xor, ← Sl_mul, ← e1, ← e2]
      simp only [pw]
      rw [mul_left_comm, BitVec.xor_self])
    have hz : ∀ p ∈ l, c p = 0#13 := fun p hp => by
      rcases mul_eq_zero (h' p hp) with h1 | h1
      · exact h1
      · exact absurd h1 (hne p hp)
    intro p hp
    rcases List.mem_cons.1 hp with rfl | hp
    · have e0 := h 0 (by omega)
      simp only [Sl, pw, mul_one] at e0
      rw [Sl_zero (fun a ha => hz a ha)] at e0
      simpa using e0
    · exact hz p hp

/-! ### Values of polynomials; how many roots -/
def ev (l : List F) (y : F) : F := match l with
  | [] => 0#13
  | a :: l => a ^^^ mul y (ev l y)
theorem ev_eq (l : List F) (y : F) : ev l y = S l.length (fun i => mul (co l i) (pw y i)) := by
  induction l with
  | nil => rfl
  | cons a l ih =>
    rw [List.length_cons, S_first]
    simp only [ev]
    rw [ih, S_mul]
    show a ^^^ _ = mul a (pw y 0) ^^^ _
    rw [show pw y 0 = 1#13 from rfl, mul_one]
    congr 1
    apply S_congr
    intro i _
    simp only [pw]
    rw [mul_left_comm]; rfl
def quo (y0 : F) : List F → List F
  | [] => []
  | [_] => []
  | _ :: b :: l => ev (b :: l) y0 :: quo y0 (b :: l)
theorem quo_length (y0 : F) : ∀ l : List F, (quo y0 l).length = l.length - 1
  | [] => rfl
  | [_] => rfl
  | _ :: b :: l => by simp [quo, quo_length y0 (b :: l)]
theorem ev_quo (y0 y : F) : ∀ l : List F, ev l y ^^^ ev l y0 = mul (y ^^^ y0) (ev (quo y0 l) y)
  | [] => by simp [ev, quo, mul_zero]
  | [a] => by simp [ev, quo, mul_zero]
  | a :: b :: l => by
    have ih := ev_quo y0 y (b :: l)
    have h1 : ev (a :: b :: l) y = a ^^^ mul y (ev (b :: l) y) := rfl
    have h2 : ev (a :: b :: l) y0 = a ^^^ mul y0 (ev (b :: l) y0) := rfl
    have h3 : ev (quo y0 (a :: b :: l)) y = ev (b :: l) y0 ^^^ mul y (ev (quo y0 (b :: l)) y) := rfl
    rw [h1, h2, h3, mul_xor, mul_left_comm, ← ih, mul_xor, xor_mul]
    generalize mul y (ev (b :: l) y) = u
    generalize mul y0 (ev (b :: l) y0) = v
    generalize mul y (ev (b :: l) y0) = w
    have : a ^^^ u ^^^ (a ^^^ v) = (a ^^^ a) ^^^ (u ^^^ v) := by ac_rfl
    rw [this]
    have : w ^^^ v ^^^ (u ^^^ w) = (w ^^^ w) ^^^ (u ^^^ v) := by ac_rfl
    rw [this, BitVec.xor_self, BitVec.xor_self]
theorem zero_of_quo (y0 : F) : ∀ l : List F, ev l y0 = 0#13 → (∀ x ∈ quo y0 l, x = 0#13) → ∀ x ∈ l, x = 0#13
  | [], _, _ => by simp
  | [a], h, _ => by
    intro x hx
    simp only [List.mem_singleton] at hx
    subst hx
    simpa [ev, mul_zero] using h
  | a :: b :: l, h, hq => by
    have hb : ev (b :: l) y0 = 0#13 := hq _ (by simp [quo])
    have ih := zero_of_quo y0 (b :: l) hb (fun x hx => hq x (by simp only [quo]; exact List.mem_cons_of_mem _ hx))
    have ha : ev (a :: b :: l) y0 = a ^^^ mul y0 (ev (b :: l) y0) := rfl
    rw [ha, hb, mul_zero, BitVec.xor_zero] at h
    intro x hx
    rcases List.mem_cons.1 hx with rfl | hx
    · exact h
    · exact ih x hx
theorem roots_le (n : Nat) : ∀ (l R : List F), l.length = n → n ≤ R.length → R.Nodup → (∀ y ∈ R, ev l y = 0#13) → ∀ x ∈ l, x = 0#13 := by
  induction n with
  | zero => intro l R hl _ _ _ x hx; rw [List.eq_nil_of_length_eq_zero hl] at hx; simp at hx
  | succ n ih =>
    intro l R hl hR hn h
    match R, hR with
    | y0 :: R, hR =>
    rw [List.nodup_cons] at hn
    have h0 := h y0 (by simp)
    refine zero_of_quo y0 l h0 (ih (quo y0 l) R (by rw [quo_length]; omega) (by simpa using hR) hn.2 ?_)
    intro y hy
    have := ev_quo y0 y l
    rw [h y (by simp [hy]), h0, BitVec.xor_self] at this
    rcases mul_eq_zero this.symm with h1 | h1
    · exact absurd (xor_eq_zero.1 h1 ▸ hy) hn.1
    · exact h1

/-! ### The polynomial whose inverse roots are given places -/
def sig (X : Nat → F) : List Nat → Nat → F
  | [], k => if k = 0 then 1#13 else 0#13
  | p :: l, k => sig X l k ^^^ (if k = 0 then 0#13 else mul (X p) (sig X l (k - 1)))
theorem sig_zero (X : Nat → F) (l : List Nat) : sig X l 0 = 1#13 := by
  induction l with
  | nil => rfl
  | cons p l ih => simp [sig, ih]
theorem sig_out (X : Nat → F) (l : List Nat) : ∀ k, l.length < k → sig X l k = 0#13 := by
  induction l with
  | nil => intro k hk; have : k ≠ 0 := by simp at hk; omega
           simp [sig, this]
  | cons p l ih =>
    intro k hk
    simp only [List.length_cons] at hk
    simp only [sig]
    rw [ih k (by omega), if_neg (by omega), ih (k - 1) (by omega), mul_zero]; simp
def prodAt (X : Nat → F) (y : F) : List Nat → F
  | [] => 1#13
  | p :: l => mul (y ^^^ X p) (prodAt X y l)
theorem sig_rev (X : Nat → F) (y : F) (l : List Nat) : S (l.length + 1) (fun i => mul (sig X l i) (pw y (l.length - i))) = prodAt X y l := by
  induction l with
  | nil => simp [S, sig, pw, prodAt, one_mul]
  | cons p l ih =>
    simp only [prodAt]
    rw [← ih]
    have h1 : S ((p :: l).length + 1) (fun i => mul (sig X (p :: l) i) (pw y ((p :: l).length - i))) =
        S (l.length + 2) (fun i => mul (sig X l i) (pw y (l.length + 1 - i)) ^^^ (if 1 ≤ i then mul (X p) (mul (sig X l (i - 1)) (pw y (l.length - (i - 1)))) else 0#13)) := by
      rw [List.length_cons]
      apply S_congr
      intro i hi
      simp only [sig]
      rw [xor_mul]
      congr 1
      by_cases h0 : i = 0
      · subst h0; simp [zero_mul]
      · rw [if_neg h0, if_pos (by omega), mul_assoc, show l.length - (i - 1) = l.length + 1 - i by omega]
    rw [h1, S_xor, S_shift (l.length + 2) 1 (fun j => mul (X p) (mul (sig X l j) (pw y (l.length - j)))), xor_mul]
    congr 1
    · rw [S, sig_out X l _ (by omega), zero_mul, BitVec.xor_zero, S_mul]
      apply S_congr
      intro i hi
      rw [show l.length + 1 - i = (l.length - i) + 1 by omega]
      simp only [pw]
      rw [mul_left_comm]
    · rw [show l.length + 2 - 1 = l.length + 1 by omega, S_mul]
theorem prodAt_zero {X : Nat → F} {l : List Nat} {p : Nat} (hp : p ∈ l) : prodAt X (X p) l = 0#13 := by
  induction l with
  | nil => simp at hp
  | cons q l ih =>
    simp only [prodAt]
    rcases List.mem_cons.1 hp with rfl | hp
    · rw [BitVec.xor_self, zero_mul]
    · rw [ih hp, mul_zero]

/-- The power sums of places meet the recurrence of their polynomial. -/
theorem sig_gen {X : Nat → F} {l : List Nat} {s : Nat → F} {N : Nat} (hs : ∀ k, k < N → s k = Sl l (fun p => pw (X p) (k + 1))) :
    ∀ k, l.length ≤ k → k < N → conv (sig X l) s k = 0#13 := by
  intro k h1 h2
  unfold conv
  rw [S_more (n := l.length + 1) (by omega) (fun i hi _ => by rw [sig_out X l i (by omega), zero_mul])]
  have : S (l.length + 1) (fun i => mul (sig X l i) (s (k - i))) = S (l.length + 1) (fun i => Sl l (fun p => mul (pw (X p) (k + 1 - l.length)) (mul (sig X l i) (pw (X p) (l.length - i))))) := by
    apply S_congr
    intro i hi
    rw [hs _ (by omega), Sl_mul]
    apply Sl_congr
    intro p _
    rw [mul_left_comm, ← pw_add, show k + 1 - l.length + (l.length - i) = k - i + 1 by omega]
  rw [this, ← Sl_S]
  apply Sl_zero
  intro p hp
  rw [← S_mul, sig_rev, prodAt_zero hp, mul_zero]

/-! ### The last noughts are cut off -/
def trim (l : List F) : List F :=
  if _h : 1 < l.length ∧ co l (l.length - 1) = 0#13 then trim l.dropLast else l
termination_by l.length
decreasing_by simp only [List.length_dropLast]; omega
theorem co_dropLast (l : List F) (h : co l (l.length - 1) = 0#13) (k : Nat) : co l.dropLast k = co l k := by
  unfold co at *
  simp only [List.getD_eq_getElem?_getD, List.getElem?_dropLast] at *
  split
  · rfl
  · rename_i hk
    rcases Nat.lt_or_ge k l.length with h1 | h1
    · have : k = l.length - 1 := by omega
      rw [this, h]; rfl
    · rw [List.getElem?_eq_none h1]
theorem trim_spec (l : List F) (hl : 1 ≤ l.length) : (∀ k, co (trim l) k = co l k) ∧ 1 ≤ (trim l).length ∧ (trim l).length ≤ l.length ∧ ((trim l).length = 1 ∨ co (trim l) ((trim l).length - 1) ≠ 0#13) := by
  generalize hn : l.length = n
  induction n using Nat.strongRecOn generalizing l with
  | _ n ih =>
    unfold trim
    split
    · rename_i h
      have hd : l.dropLast.length = l.length - 1 := List.length_dropLast
      obtain ⟨a, b, c, d⟩ := ih (l.length - 1) (by omega) l.dropLast (by omega) hd
      refine ⟨fun k => (a k).trans (co_dropLast l h.2 k), b, by omega, d⟩
    · rename_i hno
      refine ⟨fun _ => rfl, hl, by omega, ?_⟩
      rcases Nat.lt_or_ge 1 l.length with h1 | h1
      · exact .inr fun he => hno ⟨h1, he⟩
      · exact .inl (by omega)

theorem ev_co {l l' : List F} (h : ∀ k, co l k = co l' k) (y : F) : ev l y = ev l' y := by
  rw [ev_eq, ev_eq]
  have a : S l.length (fun i => mul (co l i) (pw y i)) = S (max l.length l'.length) (fun i => mul (co l i) (pw y i)) :=
    (S_more (by omega) (fun i hi _ => by rw [co_out hi, zero_mul])).symm
  have b : S l'.length (fun i => mul (co l' i) (pw y i)) = S (max l.length l'.length) (fun i => mul (co l' i) (pw y i)) :=
    (S_more (by omega) (fun i hi _ => by rw [co_out hi, zero_mul])).symm
  rw [a, b]
  exact S_congr (fun i _ => by rw [h])

theorem pw_inv {a : F} (ha : a ≠ 0#13) (i : Nat) : mul (pw a i) (pw (inv a) i) = 1#13 := by
  induction i with
  | zero => exact one_mul _
  | succ i ih =>
    simp only [pw]
    rw [mul_assoc, mul_left_comm (pw a i), ih, mul_one, mul_inv ha]

/-- What the decoder takes for the locator of 2t syndromes. -/
def locator (s : Nat → F) (n : Nat) : List F := trim (runBM s n).now

/-- THE LOCATOR: of the power sums of at most t distinct places it has one coefficient more than there are places, and its roots are the places' inverses. -/
theorem locator_spec {t : Nat} {X : Nat → F} {l : List Nat} {s : Nat → F} (hX : ∀ p ∈ l, X p ≠ 0#13) (hd : (l.map X).Nodup) (hv : l.length ≤ t) (hs : ∀ k, k < 2 * t → s k = Sl l (fun p => pw (X p) (k + 1))) :
    (locator s (2 * t)).length = l.length + 1 ∧ (∀ y, ev (locator s (2 * t)) y = 0#13 ↔ ∃ p ∈ l, y = inv (X p)) := by
  have I := inv_run s (2 * t)
  have hL : (runBM s (2 * t)).len ≤ l.length := len_le_of (sig_zero X l) (sig_out X l) (sig_gen hs) (2 * t) (Nat.le_refl _)
  generalize hst : runBM s (2 * t) = st at I hL
  have hbig : ∀ i, st.len < i → co st.now i = 0#13 := fun i hi => co_out (by have := I.now_le; omega)
  -- the places' inverses are roots
  have hroot : ∀ p ∈ l, ev st.now (inv (X p)) = 0#13 := by
    have h1 := vander l.length l X (fun p => mul (pw (X p) (st.len + 1)) (ev st.now (inv (X p)))) rfl hd (by
      intro j hj
      have hz := I.zero (st.len + j + 1) (by omega) (by omega)
      rw [conv_sp (hbig _ (by omega))] at hz
      unfold conv at hz
      rw [S_more (n := st.now.length) (by have := I.now_le; omega) (fun i hi _ => by rw [co_out hi, zero_mul])] at hz
      rw [← hz]
      have : S st.now.length (fun i => mul (co st.now i) (s (st.len + j - i))) = S st.now.length (fun i => Sl l (fun p => mul (co st.now i) (pw (X p) (st.len + j - i + 1)))) := by
        apply S_congr
        intro i hi
        rw [hs _ (by omega), Sl_mul]
      rw [this, ← Sl_S]
      apply Sl_congr
      intro p hp
      rw [ev_eq, S_mul, mul_comm, S_mul]
      apply S_congr
      intro i hi
      have hnl := I.now_le
      have h0 : pw (X p) (st.len + j - i + 1) = mul (mul (pw (X p) j) (pw (X p) (st.len + 1))) (pw (inv (X p)) i) := by
        have e : mul (pw (X p) j) (pw (X p) (st.len + 1)) = mul (pw (X p) (st.len + j - i + 1)) (pw (X p) i) := by
          rw [← pw_add, ← pw_add]; congr 1; omega
        rw [e, mul_assoc]
        rw [pw_inv (hX p hp), mul_one]
      rw [h0]
      generalize pw (X p) j = u
      generalize pw (X p) (st.len + 1) = w
      generalize pw (inv (X p)) i = z
      rw [mul_left_comm (co st.now i), mul_assoc u w])
    intro p hp
    rcases mul_eq_zero (h1 p hp) with h2 | h2
    · exact absurd h2 (pw_ne_zero (hX p hp) _)
    · exact h2
  obtain ⟨tc, tp, tl, te⟩ := trim_spec st.now I.now_pos
  have hloc : locator s (2 * t) = trim st.now := by unfold locator; rw [hst]
  rw [hloc]
  have hone : co (trim st.now) 0 = 1#13 := by rw [tc]; exact I.now_one
  have hmem : co (trim st.now) 0 ∈ trim st.now := by
    unfold co
    rw [List.getD_eq_getElem?_getD, List.getElem?_eq_getElem (by omega)]
    exact List.getElem_mem _
  have hev : ∀ y, ev (trim st.now) y = ev st.now y := fun y => ev_co tc y
  have hinj : (l.map (fun p => inv (X p))).Nodup := by
    have h1 : l.map (fun p => inv (X p)) = (l.map X).map inv := by simp
    rw [h1, List.nodup_iff_pairwise_ne, List.pairwise_map]
    rw [List.nodup_iff_pairwise_ne] at hd
    refine List.Pairwise.imp_of_mem ?_ hd
    intro a b ha hb hab he
    obtain ⟨p, hp, rfl⟩ := List.mem_map.1 ha
    obtain ⟨q, hq, rfl⟩ := List.mem_map.1 hb
    apply hab
    have e1 := mul_inv (hX p hp)
    have e2 := inv_mul (hX q hq)
    rw [he] at e1
    calc X p = mul (X p) (mul (inv (X q)) (X q)) := by rw [e2, mul_one]
      _ = X q := by rw [← mul_assoc, e1, one_mul]
  -- no more roots than the degree tells
  have hfew : ∀ R : List F, R.Nodup → (∀ y ∈ R, ev (trim st.now) y = 0#13) → R.length < (trim st.now).length := by
    intro R hR h
    apply Nat.lt_of_not_le
    intro hle
    have := roots_le _ (trim st.now) R rfl hle hR h _ hmem
    rw [hone] at this
    exact absurd this (by decide)
  have hlen : (trim st.now).length = l.length + 1 := by
    have := hfew (l.map (fun p => inv (X p))) hinj (fun y hy => by
      obtain ⟨p, hp, rfl⟩ := List.mem_map.1 hy
      rw [hev]; exact hroot p hp)
    rw [List.length_map] at this
    have := I.now_le
    omega
  refine ⟨hlen, fun y => ⟨fun h => ?_, fun ⟨p, hp, he⟩ => by rw [he, hev]; exact hroot p hp⟩⟩
  apply Classical.byContradiction
  intro hno
  have := hfew (y :: l.map (fun p => inv (X p))) (List.nodup_cons.2 ⟨fun hm => by
    obtain ⟨p, hp, he⟩ := List.mem_map.1 hm
    exact hno ⟨p, hp, he.symm⟩, hinj⟩) (fun z hz => by
    rcases List.mem_cons.1 hz with rfl | hz
    · exact h
    · obtain ⟨p, hp, rfl⟩ := List.mem_map.1 hz
      rw [hev]; exact hroot p hp)
  rw [List.length_cons, List.length_map] at this
  omega

end Go.Proofs.Ytfhefcpkknidcaa.Gf
/- The generator's parts, plain: the least polynomials of the first odd powers, their products. -/
namespace Go.Proofs.Ytfhefcpkknidcaa
open Gf

def fis (l : List F) : List Value := (l.map fi).map (.int .i64 ·)
def rootsL (k i : Nat) : List F := (List.range i).map fun j => ex (k * 2 ^ j)
def nextN (mu : F → F → F) (c : List F) (r : F) : Nat → List F
  | 0 => List.replicate (c.length + 1) 0#13
  | i + 1 =>
    let n := nextN mu c r i
    let n1 := n.set (i + 1) (co n (i + 1) ^^^ co c i)
    n1.set i (co n1 i ^^^ mu (co c i) r)
def cprod (mu : F → F → F) (rs : List F) : List F := rs.foldl (fun c r => nextN mu c r c.length) [1#13]
def expN (c : List F) : Nat → List Nat
  | 0 => []
  | i + 1 => if co c i = 1#13 then i :: expN c i else expN c i
def minimalL (k : Nat) : List Nat := expN (cprod mul (rootsL k 13)) (cprod mul (rootsL k 13)).length

/-! ### A product that the kernel can reckon -/
def mulS : Nat → F → F → F
  | 0, _, _ => 0#13
  | n + 1, a, b => (if b.getLsbD n then it n a else 0#13) ^^^ mulS n a b
def sumS : Nat → F → F
  | 0, _ => 0#13
  | n + 1, b => (if b.getLsbD n then ex n else 0#13) ^^^ sumS n b
theorem ex_small (i : Nat) (h : i < 13) : ∀ j, j < 13 → (ex i).getLsbD j = decide (i = j) := by
  have : ∀ i : Fin 13, ∀ j : Fin 13, (ex i.val).getLsbD j.val = decide (i.val = j.val) := by decide +kernel
  intro j hj
  exact this ⟨i, h⟩ ⟨j, hj⟩
theorem sumS_bit (n : Nat) (hn : n ≤ 13) (b : F) : ∀ j, j < 13 → (sumS n b).getLsbD j = (decide (j < n) && b.getLsbD j) := by
  induction n with
  | zero => intro j hj; simp [sumS]
  | succ n ih =>
    intro j hj
    simp only [sumS, BitVec.getLsbD_xor]
    rw [ih (by omega) j hj]
    by_cases hb : b.getLsbD n = true
    · rw [if_pos hb, ex_small n (by omega) j hj]
      by_cases h1 : n = j
      · subst h1; simp [hb]
      · have : (j < n + 1) ↔ (j < n) := by omega
        simp [h1, this]
    · rw [if_neg hb]
      by_cases h1 : n = j
      · subst h1; simp [hb]
      · have : (j < n + 1) ↔ (j < n) := by omega
        simp [this]
theorem sumS_all (b : F) : sumS 13 b = b := by
  apply BitVec.eq_of_getLsbD_eq
  intro j hj
  rw [sumS_bit 13 (Nat.le_refl _) b j hj]
  simp [hj]
theorem mul_sumS (a b : F) (n : Nat) : mul a (sumS n b) = mulS n a b := by
  induction n with
  | zero => exact mul_zero a
  | succ n ih =>
    simp only [sumS, mulS]
    rw [mul_xor, ih]
    congr 1
    split
    · rw [mul_comm, ex_mul]
    · exact mul_zero a
theorem mul_eq_mulS : mul = mulS 13 := by
  funext a b
  rw [← mul_sumS, sumS_all]

def minT : Nat → List Nat
  | 0 => [13, 4, 3, 1, 0]
  | 1 => [13, 10, 9, 7, 5, 4, 0]
  | 2 => [13, 11, 8, 7, 4, 1, 0]
  | 3 => [13, 10, 9, 8, 6, 3, 2, 1, 0]
  | 4 => [13, 12, 8, 7, 6, 5, 0]
  | 5 => [13, 9, 8, 7, 5, 1, 0]
  | 6 => [13, 12, 6, 5, 4, 3, 0]
  | 7 => [13, 9, 7, 5, 4, 3, 2, 1, 0]
  | _ => []
def genT : Nat → List Nat
  | 0 => [0]
  | 1 => [13, 4, 3, 1, 0]
  | 2 => [26, 23, 22, 20, 18, 16, 12, 10, 8, 6, 3, 1, 0]
  | 3 => [39, 37, 36, 35, 33, 31, 30, 29, 28, 26, 24, 23, 21, 20, 17, 15, 13, 12, 11, 10, 8, 7, 6, 5, 3, 2, 0]
  | 4 => [52, 50, 46, 44, 41, 37, 36, 30, 25, 24, 23, 21, 19, 17, 16, 15, 10, 9, 7, 5, 3, 1, 0]
  | 5 => [65, 64, 63, 62, 60, 58, 57, 55, 52, 50, 47, 45, 44, 43, 42, 34, 32, 30, 29, 27, 25, 23, 22, 15, 14, 12, 10, 9, 8, 7, 3, 1, 0]
  | 6 => [78, 77, 76, 75, 74, 73, 72, 69, 68, 67, 66, 63, 62, 59, 56, 53, 52, 47, 46, 45, 42, 39, 38, 37, 36, 31, 30, 28, 27, 26, 23, 21, 20, 19, 16, 15, 13, 12, 8, 6, 5, 4, 3, 2, 0]
  | 7 => [91, 75, 67, 62, 61, 59, 57, 56, 54, 51, 50, 48, 45, 44, 43, 35, 33, 32, 31, 30, 29, 26, 25, 23, 19, 18, 16, 13, 11, 10, 8, 7, 5, 2, 0]
  | 8 => [104, 100, 98, 96, 95, 94, 93, 92, 91, 88, 84, 82, 79, 78, 77, 70, 69, 68, 67, 65, 64, 59, 58, 52, 49, 48, 47, 42, 41, 40, 38, 32, 31, 30, 26, 24, 23, 22, 18, 15, 14, 13, 12, 11, 9, 8, 5, 1, 0]
  | _ => []

theorem rootsT (k i : Nat) : rootsL k i = (List.range i).map fun j => ex (k * 2 ^ j % 8191) := by
  unfold rootsL
  apply List.map_congr_left
  intro j _
  rw [ex_mod]
theorem roots_new {k : Nat} (hk : ∀ i : Fin 13, ∀ j : Fin 13, j.val < i.val → k * 2 ^ j.val % 8191 ≠ k * 2 ^ i.val % 8191) (i : Nat) (hi : i < 13) : ex (k * 2 ^ i) ∉ rootsL k i := by
  intro hm
  obtain ⟨j, hj, he⟩ := List.mem_map.1 hm
  have hj := List.mem_range.1 hj
  rw [← ex_mod (k * 2 ^ j), ← ex_mod (k * 2 ^ i)] at he
  exact hk ⟨i, hi⟩ ⟨j, by omega⟩ hj (ex_inj (Nat.mod_lt _ (by decide)) (Nat.mod_lt _ (by decide)) he)
theorem roots_back (k : Nat) : ex (k * 2 ^ 13) ∈ rootsL k 13 := by
  refine List.mem_map.2 ⟨0, List.mem_range.2 (by decide), ?_⟩
  have : k * 2 ^ 13 = k * 2 ^ 0 + 8191 * k := by omega
  rw [this, ex_mul_order]
theorem odd1 : ∀ i : Fin 13, ∀ j : Fin 13, j.val < i.val → 1 * 2 ^ j.val % 8191 ≠ 1 * 2 ^ i.val % 8191 := by decide +kernel
theorem rootsv1 : rootsL 1 13 = [2#13, 4#13, 16#13, 256#13, 216#13, 4470#13, 3478#13, 6753#13, 6432#13, 2713#13, 5132#13, 5514#13, 5488#13] := by rw [rootsT]; decide +kernel
theorem min1 : minimalL 1 = minT 0 := by
  unfold minimalL
  rw [mul_eq_mulS, rootsv1]
  decide +kernel
theorem odd3 : ∀ i : Fin 13, ∀ j : Fin 13, j.val < i.val → 3 * 2 ^ j.val % 8191 ≠ 3 * 2 ^ i.val % 8191 := by decide +kernel
theorem rootsv3 : rootsL 3 13 = [8#13, 64#13, 4096#13, 6234#13, 7941#13, 104#13, 5184#13, 1498#13, 7210#13, 1925#13, 3615#13, 6574#13, 2811#13] := by rw [rootsT]; decide +kernel
theorem min3 : minimalL 3 = minT 1 := by
  unfold minimalL
  rw [mul_eq_mulS, rootsv3]
  decide +kernel
theorem odd5 : ∀ i : Fin 13, ∀ j : Fin 13, j.val < i.val → 5 * 2 ^ j.val % 8191 ≠ 5 * 2 ^ i.val % 8191 := by decide +kernel
theorem rootsv5 : rootsL 5 13 = [32#13, 1024#13, 3456#13, 7029#13, 6376#13, 6711#13, 2100#13, 4875#13, 7079#13, 2522#13, 1969#13, 2831#13, 5622#13] := by rw [rootsT]; decide +kernel
theorem min5 : minimalL 5 = minT 2 := by
  unfold minimalL
  rw [mul_eq_mulS, rootsv5]
  decide +kernel
theorem odd7 : ∀ i : Fin 13, ∀ j : Fin 13, j.val < i.val → 7 * 2 ^ j.val % 8191 ≠ 7 * 2 ^ i.val % 8191 := by decide +kernel
theorem rootsv7 : rootsL 7 13 = [128#13, 54#13, 1300#13, 3144#13, 3035#13, 1232#13, 7350#13, 1763#13, 6867#13, 7186#13, 709#13, 4935#13, 3063#13] := by rw [rootsT]; decide +kernel
theorem min7 : minimalL 7 = minT 3 := by
  unfold minimalL
  rw [mul_eq_mulS, rootsv7]
  decide +kernel
theorem odd9 : ∀ i : Fin 13, ∀ j : Fin 13, j.val < i.val → 9 * 2 ^ j.val % 8191 ≠ 9 * 2 ^ i.val % 8191 := by decide +kernel
theorem rootsv9 : rootsL 9 13 = [512#13, 864#13, 6072#13, 4884#13, 6898#13, 6163#13, 3908#13, 2099#13, 4894#13, 6838#13, 2051#13, 5662#13, 6126#13] := by rw [rootsT]; decide +kernel
theorem min9 : minimalL 9 = minT 4 := by
  unfold minimalL
  rw [mul_eq_mulS, rootsv9]
  decide +kernel
theorem odd11 : ∀ i : Fin 13, ∀ j : Fin 13, j.val < i.val → 11 * 2 ^ j.val % 8191 ≠ 11 * 2 ^ i.val % 8191 := by decide +kernel
theorem rootsv11 : rootsL 11 13 = [2048#13, 5659#13, 6143#13, 769#13, 953#13, 1743#13, 7811#13, 146#13, 306#13, 1500#13, 7230#13, 1685#13, 4039#13] := by rw [rootsT]; decide +kernel
theorem min11 : minimalL 11 = minT 5 := by
  unfold minimalL
  rw [mul_eq_mulS, rootsv11]
  decide +kernel
theorem odd13 : ∀ i : Fin 13, ∀ j : Fin 13, j.val < i.val → 13 * 2 ^ j.val % 8191 ≠ 13 * 2 ^ i.val % 8191 := by decide +kernel
theorem rootsv13 : rootsL 13 13 = [27#13, 325#13, 4297#13, 2093#13, 4682#13, 2942#13, 247#13, 5411#13, 4359#13, 6295#13, 3938#13, 3111#13, 8078#13] := by rw [rootsT]; decide +kernel
theorem min13 : minimalL 13 = minT 6 := by
  unfold minimalL
  rw [mul_eq_mulS, rootsv13]
  decide +kernel
theorem odd15 : ∀ i : Fin 13, ∀ j : Fin 13, j.val < i.val → 15 * 2 ^ j.val % 8191 ≠ 15 * 2 ^ i.val % 8191 := by decide +kernel
theorem rootsv15 : rootsL 15 13 = [108#13, 5200#13, 1242#13, 7410#13, 5875#13, 905#13, 975#13, 5083#13, 2705#13, 5196#13, 1418#13, 3370#13, 7943#13] := by rw [rootsT]; decide +kernel
theorem min15 : minimalL 15 = minT 7 := by
  unfold minimalL
  rw [mul_eq_mulS, rootsv15]
  decide +kernel
theorem gen1 : mulR (genT 0) (minT 0) = genT 1 := by decide +kernel
theorem gen2 : mulR (genT 1) (minT 1) = genT 2 := by decide +kernel
theorem gen3 : mulR (genT 2) (minT 2) = genT 3 := by decide +kernel
theorem gen4 : mulR (genT 3) (minT 3) = genT 4 := by decide +kernel
theorem gen5 : mulR (genT 4) (minT 4) = genT 5 := by decide +kernel
theorem gen6 : mulR (genT 5) (minT 5) = genT 6 := by decide +kernel
theorem gen7 : mulR (genT 6) (minT 6) = genT 7 := by decide +kernel
theorem gen8 : mulR (genT 7) (minT 7) = genT 8 := by decide +kernel

theorem odd_new (i : Nat) (hi : i < 8) : ∀ a : Fin 13, ∀ b : Fin 13, b.val < a.val → (2 * i + 1) * 2 ^ b.val % 8191 ≠ (2 * i + 1) * 2 ^ a.val % 8191 := by
  match i, hi with
  | 0, _ => exact odd1
  | 1, _ => exact odd3
  | 2, _ => exact odd5
  | 3, _ => exact odd7
  | 4, _ => exact odd9
  | 5, _ => exact odd11
  | 6, _ => exact odd13
  | 7, _ => exact odd15
theorem min_eq (i : Nat) (hi : i < 8) : minimalL (2 * i + 1) = minT i := by
  match i, hi with
  | 0, _ => exact min1
  | 1, _ => exact min3
  | 2, _ => exact min5
  | 3, _ => exact min7
  | 4, _ => exact min9
  | 5, _ => exact min11
  | 6, _ => exact min13
  | 7, _ => exact min15
theorem gen_eq (i : Nat) (hi : i < 8) : mulR (genT i) (minT i) = genT (i + 1) := by
  match i, hi with
  | 0, _ => exact gen1
  | 1, _ => exact gen2
  | 2, _ => exact gen3
  | 3, _ => exact gen4
  | 4, _ => exact gen5
  | 5, _ => exact gen6
  | 6, _ => exact gen7
  | 7, _ => exact gen8
theorem min_differ : ∀ i : Fin 8, ∀ j : Fin 8, j.val < i.val → minT j.val ≠ minT i.val := by decide +kernel
theorem gen_small : ∀ i : Fin 9, ∀ e ∈ genT i.val, e ≤ 104 := by decide +kernel
theorem min_small : ∀ i : Fin 8, ∀ e ∈ minT i.val, e ≤ 13 := by decide +kernel
theorem gen_deg : ∀ i : Fin 8, degR (rowR (genT i.val)) = 13 * i.val := by decide +kernel
theorem min_deg : ∀ i : Fin 8, degR (rowR (minT i.val)) = 13 := by decide +kernel
theorem gen_poly : ∀ i : Fin 8, polyR (rowR (genT i.val)) = genT i.val := by decide +kernel
theorem gen_head : ∀ i : Fin 9, (genT i.val)[0]? = some (13 * i.val) := by decide +kernel
end Go.Proofs.Ytfhefcpkknidcaa
/- sync.Once in one goroutine: what Do does the first time, and afterwards. -/
namespace Go.Proofs.Ytfhefcpkknidcaa
open Go.RowKit

theorem disable (w : World) : (callFunc 76 #[]).run Try.prog w = .ok (.value (.tuple #[])) w := run_call_mark0 Try.func76 (by kernel_rfl) (by kernel_rfl) (by kernel_rfl) .disable (by kernel_rfl) w
theorem enable (w : World) : (callFunc 78 #[]).run Try.prog w = .ok (.value (.tuple #[])) w := run_call_mark0 Try.func78 (by kernel_rfl) (by kernel_rfl) (by kernel_rfl) .enable (by kernel_rfl) w
theorem acquire (a : Addr) (w : World) : (callFunc 79 #[.pointer (some a)]).run Try.prog w = .ok (.value (.tuple #[])) w := run_call_marked Try.func79 (by kernel_rfl) (by kernel_rfl) (by kernel_rfl) .acquire (by kernel_rfl) a w
theorem releaseMerge (a : Addr) (w : World) : (callFunc 81 #[.pointer (some a)]).run Try.prog w = .ok (.value (.tuple #[])) w := run_call_marked Try.func81 (by kernel_rfl) (by kernel_rfl) (by kernel_rfl) .releaseMerge (by kernel_rfl) a w

theorem store_deferred (a : Addr) (x : Value) (u : FrameMode) (w : World) (hc : w.cell? a = some x) (hz : w.frozen? a = false) :
    CallsD Try.prog 57 #[.pointer (some a), .bool true] u w fun e u' w' => u' = u ∧ (e = .returned (.tuple #[]) ∧ w' = w.drew.setCell a (.int .u32 1)) := by
  have hc' : w.drew.cell? a = some x := by go_simp
  have hz' : w.drew.frozen? a = false := by go_simp
  have hst := run_call_store (P := Try.prog) Try.func71 (by kernel_rfl) (by kernel_rfl) (by kernel_rfl) (by kernel_rfl) (k := .u32) (y := 1) hc' hz'
  go_enter_d Try.func57, Try.ntmps57
  go_wp2
  go_region_calls
  all_goals (go_end0; exact ⟨rfl, rfl⟩)

set_option maxRecDepth 100000 in
theorem unlock_deferred (a : Addr) (u : FrameMode) (w : World) (hc : w.cell? a = some (.int .i32 1)) (hz : w.frozen? a = false) :
    CallsD Try.prog 56 #[.pointer (some a)] u w fun e u' w' => u' = u ∧ (e = .returned (.tuple #[]) ∧ w' = w.setCell a (.int .i32 0)) := by
  have hd := disable
  have he := enable
  have hr := releaseMerge
  have hadd := run_call_add (P := Try.prog) Try.func82 (by kernel_rfl) (by kernel_rfl) (by kernel_rfl) .i32 (by kernel_rfl) (y := -1) (s := 0) hc hz (by simp [go_sem]; rfl)
  have hcv := run_convert_to_unsafe (P := Try.prog) (src := 116) (dst := 120) Try.underlying116 Try.underlying120 (by kernel_rfl) hc
  go_enter_d Try.func56, Try.ntmps56
  go_wp2
  go_end0
  go_wp2
  go_end0
  exact ⟨rfl, rfl⟩

set_option maxRecDepth 100000 in
theorem lock_free (a : Addr) (w : World) (hc : w.cell? a = some (.int .i32 0)) (hz : w.frozen? a = false) :
    Calls Try.prog 55 #[.pointer (some a)] w fun e w' => e = .returned (.tuple #[]) ∧ w' = w.setCell a (.int .i32 1) := by
  have hd := disable
  have he := enable
  have ha := acquire
  have hcas := run_call_cas_hit (P := Try.prog) Try.func77 (by kernel_rfl) (by kernel_rfl) (by kernel_rfl) .i32 (by kernel_rfl) (y := 1) hc hz
  have hc' : (w.setCell a (.int .i32 1)).cell? a = some (.int .i32 1) := World.cell?_setCell_same w a _ hc
  have hcv := run_convert_to_unsafe (P := Try.prog) (src := 116) (dst := 120) Try.underlying116 Try.underlying120 (by kernel_rfl) hc'
  go_enter Try.func55, Try.ntmps55
  go_wp2
  first | go_end0 | (simp only [Exit.inBlock, Exit.then]; refine bodyPost_ret (results_none rfl _ _ _) rfl ?_) | refine bodyPost_ret (results_none rfl _ _ _) rfl ?_
  go_wp2
  go_end0
  exact ⟨rfl, rfl⟩

theorem load_bool (a : Addr) (x : Int) (w : World) (hc : w.cell? a = some (.int .u32 x)) :
    Calls Try.prog 38 #[.pointer (some a)] w fun e w' => e = .returned (.bool (x != 0)) ∧ w = w' := by
  have hl := run_call_load (P := Try.prog) Try.func54 (by kernel_rfl) (by kernel_rfl) (by kernel_rfl) .u32 (by kernel_rfl) hc
  go_enter Try.func38, Try.ntmps38
  go_wp2
  go_ret
  exact ⟨rfl, rfl⟩

def OnceEnd (R : World → Prop) (b off : Nat) (e : Ending) (w' : World) : Prop :=
  e = .returned (.tuple #[]) ∧ ∃ w2, R w2 ∧ w' = (w2.drew.setCell ⟨b, off, none⟩ (.int .u32 1)).setCell ⟨b, off + 1, none⟩ (.int .i32 0)

def OnceKeeps (R : World → Prop) (b off : Nat) : Prop :=
  ∀ w2, R w2 → (∃ x, w2.cell? ⟨b, off, none⟩ = some x) ∧ w2.cell? ⟨b, off + 1, none⟩ = some (.int .i32 1) ∧ w2.frozen? ⟨b, off, none⟩ = false ∧ w2.frozen? ⟨b, off + 1, none⟩ = false

set_option maxRecDepth 100000 in
set_option maxHeartbeats 1600000 in
theorem slow_any (b off K : Nat) (caps : Array Value) (R : World → Prop) (w : World) (hK : ∀ args w, (callFunc K args).run Try.prog w = .ok (.enter K args) w)
    (h0 : w.cell? ⟨b, off, none⟩ = some (.int .u32 0)) (h1 : w.cell? ⟨b, off + 1, none⟩ = some (.int .i32 0)) (f1 : w.frozen? ⟨b, off + 1, none⟩ = false)
    (hf : Calls Try.prog K caps (w.setCell ⟨b, off + 1, none⟩ (.int .i32 1)) fun e w2 => e = .returned (.tuple #[]) ∧ R w2) (hR : OnceKeeps R b off) :
    Calls Try.prog 39 #[.pointer (some ⟨b, off, none⟩), .func (.func K) #[] caps] w (OnceEnd R b off) := by
  have hl : (w.setCell ⟨b, off + 1, none⟩ (.int .i32 1)).cell? ⟨b, off, none⟩ = some (.int .u32 0) := (World.cell?_setCell_other _ ⟨b, off + 1, none⟩ ⟨b, off, none⟩ _ (by simp)).trans h0
  have hnot : ∀ (x : Bool) (w : World), (Op.unary .not (.bool x)).run Try.prog w = .ok (.bool (!x)) w := fun _ _ => rfl
  have HF := Lib.hid hf
  have HR := Lib.hid hR
  clear hf hR
  go_enter_defers Try.func39, Try.ntmps39
  go_wp2_with (first | (go_at_call 55; refine (lock_free ⟨b, off + 1, none⟩ _ (by go_simp) (by go_simp)).mono ?_; rintro e w' ⟨rfl, rfl⟩) | (go_at_call 38; refine (load_bool ⟨b, off, none⟩ 0 _ hl).mono ?_; rintro e w' ⟨rfl, rfl⟩))
  refine HF.out.mono ?_
  rintro e w2 ⟨rfl, hR2⟩
  obtain ⟨⟨x0, g0⟩, g1, k0, k1⟩ := HR.out w2 hR2
  clear hl h0 h1 f1 hK
  go_wp2
  -- two deferred calls, the last laid first
  refine leaves_cons (f := 57) (args := #[.pointer (some ⟨b, off, none⟩), .bool true]) (by simp) (by simp [go_sem]) ?_
  refine (store_deferred ⟨b, off, none⟩ x0 .returning _ g0 k0).mono ?_
  rintro e u' w'' ⟨rfl, rfl, rfl⟩
  refine leaves_cons (f := 56) (args := #[.pointer (some ⟨b, off + 1, none⟩)]) (by simp [settle]) (by simp [go_sem]) ?_
  refine (unlock_deferred ⟨b, off + 1, none⟩ _ _ ?_ (by simp [k1])).mono ?_
  · refine (World.cell?_setCell_other _ ⟨b, off, none⟩ ⟨b, off + 1, none⟩ _ (by simp)).trans ?_
    rw [World.cell?_drew]
    exact g1
  rintro e u' w'' ⟨rfl, rfl, rfl⟩
  simp [Leaves, settle, results, Try.results39]
  exact ⟨rfl, w2, hR2, rfl⟩

set_option maxRecDepth 100000 in
set_option maxHeartbeats 1600000 in
theorem do_first (b off K : Nat) (caps : Array Value) (R : World → Prop) (w : World) (hK : ∀ args w, (callFunc K args).run Try.prog w = .ok (.enter K args) w)
    (h0 : w.cell? ⟨b, off, none⟩ = some (.int .u32 0)) (h1 : w.cell? ⟨b, off + 1, none⟩ = some (.int .i32 0)) (f1 : w.frozen? ⟨b, off + 1, none⟩ = false)
    (hf : Calls Try.prog K caps (w.setCell ⟨b, off + 1, none⟩ (.int .i32 1)) fun e w2 => e = .returned (.tuple #[]) ∧ R w2) (hR : OnceKeeps R b off) :
    Calls Try.prog 25 #[.pointer (some ⟨b, off, none⟩), .func (.func K) #[] caps] w (OnceEnd R b off) := by
  have hnot : ∀ (x : Bool) (w : World), (Op.unary .not (.bool x)).run Try.prog w = .ok (.bool (!x)) w := fun _ _ => rfl
  have HS := Lib.hid (slow_any b off K caps R w hK h0 h1 f1 hf hR)
  clear hK h1 f1 hf hR
  go_enter Try.func25, Try.ntmps25
  go_wp2_with (first | (go_at_call 39; refine HS.out.mono ?_; rintro e w' ⟨rfl, hR2⟩) | (go_at_call 38; refine (load_bool ⟨b, off, none⟩ 0 _ h0).mono ?_; rintro e w' ⟨rfl, rfl⟩))
  go_end0
  exact ⟨rfl, hR2⟩

theorem do_done (a : Addr) (fv : Value) (w : World) (h0 : w.cell? a = some (.int .u32 1)) :
    Calls Try.prog 25 #[.pointer (some a), fv] w fun e w' => e = .returned (.tuple #[]) ∧ w = w' := by
  have hnot : ∀ (x : Bool) (w : World), (Op.unary .not (.bool x)).run Try.prog w = .ok (.bool (!x)) w := fun _ _ => rfl
  go_enter Try.func25, Try.ntmps25
  go_wp2_with ((go_at_call 38; refine (load_bool a 1 _ h0).mono ?_; rintro e w' ⟨rfl, rfl⟩))
  go_end0
  exact ⟨rfl, rfl⟩
end Go.Proofs.Ytfhefcpkknidcaa
/- The field's methods, walked: what each does to memory. -/
namespace Go.Proofs.Ytfhefcpkknidcaa
open Go.RowKit Gf

theorem low_any (a : Int) (w : World) : Calls Try.prog 49 #[.int .i64 a] w fun e w' => e = .returned (.int .i64 (Go.bits .and .i64 a 8191)) ∧ w = w' := by
  go_enter Try.func49, Try.ntmps49
  go_wp2
  go_ret
  exact ⟨rfl, rfl⟩
theorem low_of (x : F) (w : World) : Calls Try.prog 49 #[.int .i64 (fi x)] w fun e w' => e = .returned (.int .i64 (fi x)) ∧ w = w' := by
  have := low_any (fi x) w
  rwa [low_fi] at this

theorem around_eq (n : Int) : (n.tmod 8191 < 0 → n.tmod 8191 + 8191 = n % 8191) ∧ (0 ≤ n.tmod 8191 → n.tmod 8191 = n % 8191) := by
  rw [Int.tmod_eq_emod]
  split <;> omega
theorem around_any (n : Int) (w : World) : Calls Try.prog 46 #[.int .i64 n] w fun e w' => e = .returned (.int .i64 (n % 8191)) ∧ w = w' := by
  have h := around_eq n
  have H := Lib.hid h
  clear h
  go_enter Try.func46, Try.ntmps46
  go_wp2
  · have h1 : n.tmod 8191 < 0 := by assumption
    have h2 := H.out.1 h1
    go_ret
    exact ⟨by show Ending.returned (.int .i64 _) = _; rw [← h2]; unfold wrap64; congr 2; omega, rfl⟩
  · have h1 : 0 ≤ n.tmod 8191 := by assumption
    have h2 := H.out.2 h1
    go_ret
    exact ⟨by rw [← h2]; rfl, rfl⟩

/-- The tables are there. -/
structure Tabs (w : World) (E L : Nat) : Prop where
  exp : Blk w E (expArr 8191) 3
  log : Blk w L (logArr 8191) 3
abbrev sl (b n : Nat) : Value := .slice (some ⟨b, 0, none⟩) n n
/-- The field of the code at b is ready; p: how often it multiplied. -/
structure FldR (w : World) (b : Nat) (t ch d m : Int) (p dg : Int) (low : Value) (E L : Nat) : Prop where
  code : Blk w b (codeArr t ch d m 1 0 (sl E 16382) (sl L 8192) p dg low) 61
  tabs : Tabs w E L

theorem times_any (x y : F) (hx : x ≠ 0#13) (hy : y ≠ 0#13) {b E L : Nat} {t ch d m p dg : Int} {low : Value} (w : World) (h : FldR w b t ch d m p dg low E L) :
    Calls Try.prog 48 #[.pointer (some ⟨b, 5, none⟩), .int .i64 (fi x), .int .i64 (fi y)] w fun e w' => e = .returned (.int .i64 (fi (mul x y))) ∧ ∃ n, w' = w.drewN n := by
  have c8 : w.cell? ⟨b, 8, none⟩ = some (.slice (some ⟨E, 0, none⟩) 16382 16382) := h.code.cell rfl
  have c9 : w.cell? ⟨b, 9, none⟩ = some (.slice (some ⟨L, 0, none⟩) 8192 8192) := h.code.cell rfl
  have hx' := fi_zero_ne hx
  have hy' := fi_zero_ne hy
  have l1 : w.cell? ⟨L, x.toNat, none⟩ = some (.int .i64 (lg x)) := by rw [← logAt_full]; exact h.tabs.log.cell (logArr_at x.isLt)
  have l2 : w.cell? ⟨L, y.toNat, none⟩ = some (.int .i64 (lg y)) := by rw [← logAt_full]; exact h.tabs.log.cell (logArr_at y.isLt)
  have b1 := lg_lt x
  have b2 := lg_lt y
  have e1 : w.cell? ⟨E, lg x + lg y, none⟩ = some (.int .i64 (fi (mul x y))) := by
    have : mul x y = ex (lg x + lg y) := by unfold mul; rw [if_neg (by simp [hx, hy])]
    rw [this, ← expAt_full (by omega)]; exact h.tabs.exp.cell (expArr_at (by omega))
  have f1 := fi_bd x
  have f2 := fi_bd y
  have n1 : (fi x).toNat = x.toNat := by simp [fi]
  have n2 : (fi y).toNat = y.toNat := by simp [fi]
  have n3 : ((lg x : Int) + (lg y : Int)).toNat = lg x + lg y := by omega
  clear h hx hy
  go_enter Try.func48, Try.ntmps48
  go_wp2_with (first | (go_at_call 49; refine (low_of _ _).mono ?_; rintro e w' ⟨rfl, rfl⟩))
  go_quiet (fail)
  go_wp2
  go_ret
  exact ⟨rfl, _, rfl⟩

theorem mk22 (m : Nat) (hm : m ≤ 35184372088832) : ∀ W : World, (Instr.makeSlice 22 (.int .i64 (m : Int)) (.int .i64 (m : Int))).run Try.prog W = .ok (.slice (some ⟨W.heap.size, 0, none⟩) m m) (W.alloc (.cells (madeCells #[.int .i64 0] m) 3)) := by
  intro W
  exact run_make_row' 22 3 (.int .i64 0) 8 Try.underlying22 (by kernel_rfl) rfl .i64 .i64 m (by omega) (by omega) W

/-- What the tables' maker leaves. -/
def TabsMade (b : Nat) (t ch d m fm p dg : Int) (low : Value) (w w2 : World) : Prop :=
  ∃ E L, Blk w2 b (codeArr t ch d m 0 fm (sl E 16382) (sl L 8192) p dg low) 61 ∧ Tabs w2 E L ∧ w.heap.size ≤ E ∧ w.heap.size ≤ L ∧ Only b w w2

set_option maxRecDepth 100000 in
set_option maxHeartbeats 1600000 in
theorem tables1_any {b q : Nat} {t ch d m fm p dg : Int} {ev lv low : Value} (w : World) (hq : Blk w q #[.pointer (some ⟨b, 5, none⟩)] 75)
    (h : Blk w b (codeArr t ch d m 0 fm ev lv p dg low) 61) :
    Calls Try.prog 65 #[.pointer (some ⟨q, 0, none⟩)] w fun e w2 => e = .returned (.tuple #[]) ∧ TabsMade b t ch d m fm p dg low w w2 := by
  have hm1 : ∀ W : World, (Instr.makeSlice 22 (.int .i64 16382) (.int .i64 16382)).run Try.prog W = .ok (.slice (some ⟨W.heap.size, 0, none⟩) 16382 16382) (W.alloc (.cells (madeCells #[.int .i64 0] 16382) 3)) := fun W => mk22 16382 (by omega) W
  have hm2 : ∀ W : World, (Instr.makeSlice 22 (.int .i64 8192) (.int .i64 8192)).run Try.prog W = .ok (.slice (some ⟨W.heap.size, 0, none⟩) 8192 8192) (W.alloc (.cells (madeCells #[.int .i64 0] 8192) 3)) := fun W => mk22 8192 (by omega) W
  have hqb : q ≠ b := hq.ne h (by decide)
  have q0 : w.cell? ⟨q, 0, none⟩ = some (.pointer (some ⟨b, 5, none⟩)) := hq.cell rfl
  have q1 : ∀ o, (w.alloc o).cell? ⟨q, 0, none⟩ = some (.pointer (some ⟨b, 5, none⟩)) := fun o => (hq.alloc o).cell rfl
  have c8 : ∀ o, (w.alloc o).cell? ⟨b, 8, none⟩ = some ev := fun o => (h.alloc o).cell rfl
  have z8 : ∀ o, (w.alloc o).frozen? ⟨b, 8, none⟩ = false := fun o => (h.alloc o).free 8
  go_enter Try.func65, Try.ntmps65
  go_wp2
  go_region
  clear q0 q1 c8 z8 hm1
  generalize hW : World.drew _ = w1
  have B1 : Blk w1 b (codeArr t ch d m 0 fm (sl w.heap.size 16382) lv p dg low) 61 := by rw [← hW]; exact ((h.alloc _).put 8 _).drew
  have Q1 : Blk w1 q #[.pointer (some ⟨b, 5, none⟩)] 75 := by rw [← hW]; exact ((hq.alloc _).far hqb _).drew
  have E1 : Blk w1 w.heap.size (expArr 0) 3 := by rw [← hW, ← expArr_zero]; exact ((Blk.new _ _ _).far (Nat.ne_of_gt h.lt) _).drew
  have O1 : Only b w w1 := by rw [← hW]; exact (((Only.refl b w).alloc _).put (.inl rfl) _).drew
  have s1 := E1.lt
  clear hW
  have q0 : w1.cell? ⟨q, 0, none⟩ = some (.pointer (some ⟨b, 5, none⟩)) := Q1.cell rfl
  have q1 : ∀ o, (w1.alloc o).cell? ⟨q, 0, none⟩ = some (.pointer (some ⟨b, 5, none⟩)) := fun o => (Q1.alloc o).cell rfl
  have c9 : ∀ o, (w1.alloc o).cell? ⟨b, 9, none⟩ = some lv := fun o => (B1.alloc o).cell rfl
  have z9 : ∀ o, (w1.alloc o).frozen? ⟨b, 9, none⟩ = false := fun o => (B1.alloc o).free 9
  go_wp2
  go_region
  clear q0 q1 c9 z9 hm2
  generalize hW : World.drew _ = w2
  have B2 : Blk w2 b (codeArr t ch d m 0 fm (sl w.heap.size 16382) (sl w1.heap.size 8192) p dg low) 61 := by rw [← hW]; exact ((B1.alloc _).put 9 _).drew
  have Q2 : Blk w2 q #[.pointer (some ⟨b, 5, none⟩)] 75 := by rw [← hW]; exact ((Q1.alloc _).far hqb _).drew
  have E2 : Blk w2 w.heap.size (expArr 0) 3 := by rw [← hW]; exact ((E1.alloc _).far (Nat.ne_of_gt h.lt) _).drew
  have L2 : Blk w2 w1.heap.size (logArr 0) 3 := by rw [← hW, ← logArr_zero]; exact ((Blk.new _ _ _).far (Nat.ne_of_gt B1.lt) _).drew
  have O2 : Only b w w2 := by rw [← hW]; exact ((O1.alloc _).put (.inl rfl) _).drew
  clear hW
  have sz := h.lt
  generalize hE : w.heap.size = E at *
  generalize hL : w1.heap.size = L at *
  have hEL : E ≠ L := by omega
  have hE' : w.heap.size ≤ E := Nat.le_of_eq hE
  have hL' : w.heap.size ≤ L := by omega
  clear hE hL
  clear h hq B1 Q1 E1 O1 s1 sz
  go_wp2
  go_loopw [1, 11] (fun x i wr => ∃ k : Nat, k ≤ 8191 ∧ i = .int .i64 k ∧ x = .int .i64 (fi (ex k)) ∧ Blk wr b (codeArr t ch d m 0 fm (sl E 16382) (sl L 8192) p dg low) 61 ∧ Blk wr q #[.pointer (some ⟨b, 5, none⟩)] 75 ∧
    Blk wr E (expArr k) 3 ∧ Blk wr L (logArr k) 3 ∧ Only b w wr) (fun _ i _ => 8191 - (intOf i).toNat)
  case atStart => exact ⟨0, by omega, rfl, rfl, B2, Q2, E2, L2, O2⟩
  case round =>
    obtain ⟨k, hk, rfl, rfl, B3, Q3, E3, L3, O3⟩ := hrel
    clear B2 Q2 E2 L2 O2
    by_cases hlt : k < 8191
    · have q0 : wr.cell? ⟨q, 0, none⟩ = some (.pointer (some ⟨b, 5, none⟩)) := Q3.cell rfl
      have c8 : wr.cell? ⟨b, 8, none⟩ = some (.slice (some ⟨E, 0, none⟩) 16382 16382) := B3.cell rfl
      have hbE : b ≠ E := B3.ne E3 (by decide)
      have hqE : q ≠ E := Q3.ne E3 (by decide)
      have q0' : ∀ j v, (wr.setCell ⟨E, j, none⟩ v).cell? ⟨q, 0, none⟩ = some (.pointer (some ⟨b, 5, none⟩)) := fun j v => (Q3.far hqE v).cell rfl
      have c8' : ∀ j v, (wr.setCell ⟨E, j, none⟩ v).cell? ⟨b, 8, none⟩ = some (.slice (some ⟨E, 0, none⟩) 16382 16382) := fun j v => (B3.far hbE v).cell rfl
      have e1 : wr.cell? ⟨E, k, none⟩ = some (.int .i64 (expAt k k)) := E3.cell (expArr_at (by omega))
      have e2 : wr.cell? ⟨E, k + 8191, none⟩ = some (.int .i64 (expAt k (k + 8191))) := E3.cell (expArr_at (by omega))
      have e2' : ∀ v, (wr.setCell ⟨E, k, none⟩ v).cell? ⟨E, k + 8191, none⟩ = some (.int .i64 (expAt k (k + 8191))) := fun v => (World.cell?_setCell_other _ ⟨E, k, none⟩ ⟨E, k + 8191, none⟩ _ (by simp)).trans e2
      have z1 : ∀ j, wr.frozen? ⟨E, j, none⟩ = false := fun j => E3.free j
      have z2 : ∀ j u v, (wr.setCell ⟨E, j, none⟩ v).frozen? ⟨E, u, none⟩ = false := fun j u v => (E3.put j v).free u
      have n1 : ((k : Int) + 8191).toNat = k + 8191 := by omega
      go_wp2
      go_region
      have L4' := (L3.far (p := ⟨E, k, none⟩) (Ne.symm hEL) (.int .i64 (fi (ex k)))).far (p := ⟨E, k + 8191, none⟩) (Ne.symm hEL) (.int .i64 (fi (ex k)))
      have E4' := (E3.put k (.int .i64 (fi (ex k)))).put (k + 8191) (.int .i64 (fi (ex k)))
      have B4' := (B3.far (p := ⟨E, k, none⟩) hbE (.int .i64 (fi (ex k)))).far (p := ⟨E, k + 8191, none⟩) hbE (.int .i64 (fi (ex k)))
      have Q4' := (Q3.far (p := ⟨E, k, none⟩) hqE (.int .i64 (fi (ex k)))).far (p := ⟨E, k + 8191, none⟩) hqE (.int .i64 (fi (ex k)))
      have O4' := (O3.put (p := ⟨E, k, none⟩) (.inr hE') (.int .i64 (fi (ex k)))).put (p := ⟨E, k + 8191, none⟩) (.inr hE') (.int .i64 (fi (ex k)))
      rw [expArr_step k hlt] at E4'
      clear q0 q0' c8 c8' e1 e2 e2' z1 z2 n1 B3 Q3 E3 L3 O3
      generalize hW : World.drew _ = w4
      have B4 : Blk w4 b (codeArr t ch d m 0 fm (sl E 16382) (sl L 8192) p dg low) 61 := by rw [← hW]; exact B4'
      have Q4 : Blk w4 q #[.pointer (some ⟨b, 5, none⟩)] 75 := by rw [← hW]; exact Q4'
      have E4 : Blk w4 E (expArr (k + 1)) 3 := by rw [← hW]; exact E4'
      have L4 : Blk w4 L (logArr k) 3 := by rw [← hW]; exact L4'
      have O4 : Only b w w4 := by rw [← hW]; exact O4'.drew
      clear hW B4' Q4' E4' L4' O4'
      have hbL : b ≠ L := B4.ne L4 (by decide)
      have hqL : q ≠ L := Q4.ne L4 (by decide)
      have q0 : w4.cell? ⟨q, 0, none⟩ = some (.pointer (some ⟨b, 5, none⟩)) := Q4.cell rfl
      have c9 : w4.cell? ⟨b, 9, none⟩ = some (.slice (some ⟨L, 0, none⟩) 8192 8192) := B4.cell rfl
      have l1 : w4.cell? ⟨L, (ex k).toNat, none⟩ = some (.int .i64 (logAt k (ex k).toNat)) := L4.cell (logArr_at (ex k).isLt)
      have z1 := L4.free (ex k).toNat
      have f1 := fi_bd (ex k)
      have n1 : (fi (ex k)).toNat = (ex k).toNat := by simp [fi]
      have HD := Lib.hid (dbl_fi (ex k))
      go_wp2
      all_goals
        go_roundw
        case rel =>
          refine ⟨k + 1, by omega, by go_num, ?_, B4.far hbL _, Q4.far hqL _, E4.far hEL _, by rw [← logArr_step k hlt]; exact L4.put _ _, O4.put (.inr hL') _⟩
          rw [ex_succ]
          first | rw [HD.out.1 (by with_reducible assumption)] | rw [HD.out.2 (by with_reducible assumption)]
        case measure =>
          clear n1 f1 l1 HD z1 c9 q0 B4 Q4 E4 L4 O4
          simp only [intOf]
          omega
    · have : k = 8191 := by omega
      subst this
      go_wp2
      go_end0
      exact ⟨rfl, E, L, B3, ⟨E3, L3⟩, by omega, by omega, O3⟩

/-- The field is fresh, or ready. -/
def FldS (w : World) (b : Nat) (t ch d m dg : Int) (low : Value) : Prop :=
  (∃ ev lv p, Blk w b (codeArr t ch d m 0 0 ev lv p dg low) 61) ∨ (∃ p E L, FldR w b t ch d m p dg low E L)
/-- What a method of the field leaves. -/
def FldP (b : Nat) (t ch d m dg : Int) (low : Value) (w w' : World) : Prop := Only b w w' ∧ ∃ p E L, FldR w' b t ch d m p dg low E L ∧ ∀ p0 E0 L0, FldR w b t ch d m p0 dg low E0 L0 → E0 = E ∧ L0 = L
theorem FldR.same {w : World} {b : Nat} {t ch d m p dg p0 : Int} {low : Value} {E L E0 L0 : Nat} (h : FldR w b t ch d m p dg low E L) (h0 : FldR w b t ch d m p0 dg low E0 L0) : E0 = E ∧ L0 = L := by
  have a := h.code
  have b := h0.code
  unfold Blk at a b
  rw [a] at b
  simp only [codeArr, Option.some.injEq, Obj.cells.injEq, and_true, Array.mk.injEq, List.cons.injEq, Value.slice.injEq, Addr.mk.injEq, true_and] at b
  exact ⟨b.1.symm, b.2.1.symm⟩
theorem FldR.notFresh {w : World} {b : Nat} {t ch d m p dg p0 : Int} {low ev lv : Value} {E0 L0 : Nat} (h : Blk w b (codeArr t ch d m 0 0 ev lv p dg low) 61) (h0 : FldR w b t ch d m p0 dg low E0 L0) : False := by
  have b := h0.code
  unfold Blk at h b
  rw [h] at b
  simp [codeArr] at b
theorem FldR.below {w w' : World} {b : Nat} {t ch d m p dg : Int} {low : Value} {E L : Nat} (h : FldR w b t ch d m p dg low E L) (hb : Below w.heap.size w w') : FldR w' b t ch d m p dg low E L :=
  ⟨h.code.below hb, ⟨h.tabs.exp.below hb, h.tabs.log.below hb⟩⟩
theorem FldS.below {w w' : World} {b : Nat} {t ch d m dg : Int} {low : Value} (h : FldS w b t ch d m dg low) (hb : Below w.heap.size w w') : FldS w' b t ch d m dg low := by
  rcases h with ⟨ev, lv, p, h⟩ | ⟨p, E, L, h⟩
  · exact .inl ⟨ev, lv, p, h.below hb⟩
  · exact .inr ⟨p, E, L, h.below hb⟩

theorem enter_tables (args : Array Value) (w : World) : (callFunc 65 args).run Try.prog w = .ok (.enter 65 args) w :=
  run_callFunc_body Try.func65 (by kernel_rfl) rfl args w

theorem tabs_keep (b : Nat) (t ch d m p dg : Int) (low : Value) (w : World) : OnceKeeps (TabsMade b t ch d m 1 p dg low w) b 5 := by
  rintro w2 ⟨E, L, hc, _⟩
  exact ⟨⟨_, hc.cell rfl⟩, hc.cell rfl, hc.free 5, hc.free 6⟩

theorem tables_any {b : Nat} {t ch d m dg : Int} {low : Value} (w : World) (h : FldS w b t ch d m dg low) :
    Calls Try.prog 45 #[.pointer (some ⟨b, 5, none⟩)] w fun e w' => e = .returned (.tuple #[]) ∧ FldP b t ch d m dg low w w' := by
  have hmf : ∀ (fn : Fn) (first cap : Array Value) (w : World), (Instr.makeFunc fn first cap).run Try.prog w = .ok (.func fn first cap) w := fun _ _ _ _ => rfl
  rcases h with ⟨ev, lv, p, h⟩ | ⟨p, E, L, h⟩
  · have hq := Blk.new w #[.pointer (some ⟨b, 5, none⟩)] 75
    have ha := h.alloc (.cells #[.pointer (some ⟨b, 5, none⟩)] 75 (0, 0))
    have hq' : Blk ((w.alloc (.cells #[.pointer (some ⟨b, 5, none⟩)] 75)).setCell ⟨b, 6, none⟩ (.int .i32 1)) w.heap.size #[.pointer (some ⟨b, 5, none⟩)] 75 := hq.far (Nat.ne_of_gt h.lt) _
    have hc' : Blk ((w.alloc (.cells #[.pointer (some ⟨b, 5, none⟩)] 75)).setCell ⟨b, 6, none⟩ (.int .i32 1)) b (codeArr t ch d m 0 1 ev lv p dg low) 61 := ha.put 6 (.int .i32 1)
    have HD := Lib.hid (do_first b 5 65 #[.pointer (some ⟨w.heap.size, 0, none⟩)] _ _ enter_tables (ha.cell rfl) (ha.cell rfl) (ha.free 6) (tables1_any _ hq' hc') (tabs_keep b t ch d m p dg low _))
    clear hq' hc' hq
    go_enter Try.func45, Try.ntmps45
    go_wp2_with (go_at_call 25; refine HD.out.mono ?_; rintro e w' ⟨rfl, hR⟩)
    go_end0
    refine ⟨rfl, ?_⟩
    obtain ⟨w2, ⟨E, L, hc, ht, hE, hL, ho⟩, rfl⟩ := hR
    have o1 : Only b w w2 := (((Only.refl b w).alloc _).put (p := ⟨b, 6, none⟩) (.inl rfl) _).trans ho
    refine ⟨((o1.drew).put (.inl rfl) _).put (.inl rfl) _, p, E, L, ⟨?_, ?_, ?_⟩, fun p0 E0 L0 h0 => (h0.notFresh h).elim⟩
    · exact (hc.drew.put 5 (.int .u32 1)).put 6 (.int .i32 0)
    · exact (ht.exp.drew.far (ht.exp.ne hc (by decide)) _).far (ht.exp.ne hc (by decide)) _
    · exact (ht.log.drew.far (ht.log.ne hc (by decide)) _).far (ht.log.ne hc (by decide)) _
  · have ha := h.code.alloc (.cells #[.pointer (some ⟨b, 5, none⟩)] 75 (0, 0))
    have HD := Lib.hid (do_done ⟨b, 5, none⟩ (.func (.func 65) #[] #[.pointer (some ⟨w.heap.size, 0, none⟩)]) _ (ha.cell (i := 5) rfl))
    go_enter Try.func45, Try.ntmps45
    go_wp2_with (go_at_call 25; refine HD.out.mono ?_; rintro e w' ⟨rfl, rfl⟩)
    go_end0
    exact ⟨rfl, (Only.refl b w).alloc _, p, E, L, h.below ((Below.refl _ _).alloc (Nat.le_refl _) _), fun p0 E0 L0 h0 => h.same h0⟩
end Go.Proofs.Ytfhefcpkknidcaa
/- The field's methods over its tables: a power, a product, an inverse, a logarithm. -/
namespace Go.Proofs.Ytfhefcpkknidcaa
open Go.RowKit Gf

/-- The power of any number. -/
def exI (n : Int) : F := ex (n % 8191).toNat
theorem exI_nat (n : Nat) : exI n = ex n := by
  unfold exI
  rw [show (8191 : Int) = ((8191 : Nat) : Int) from rfl, ← Int.natCast_emod, Int.toNat_natCast, ex_mod]

theorem FldP.ready {b : Nat} {t ch d m dg : Int} {low : Value} {w w1 w2 : World} (h : FldP b t ch d m dg low w w1) (h2 : Below w1.heap.size w1 w2) : FldP b t ch d m dg low w w2 := by
  obtain ⟨o, p, E, L, r, hr⟩ := h
  exact ⟨o.below h2, p, E, L, r.below h2, hr⟩
theorem FldP.rdy {b : Nat} {t ch d m dg p0 : Int} {low : Value} {E L : Nat} {w w1 : World} (h : FldP b t ch d m dg low w w1) (h0 : FldR w b t ch d m p0 dg low E L) : ∃ p, FldR w1 b t ch d m p dg low E L := by
  obtain ⟨o, p, E', L', r, hr⟩ := h
  obtain ⟨rfl, rfl⟩ := hr p0 E L h0
  exact ⟨p, r⟩
theorem FldP.drewN {b : Nat} {t ch d m dg : Int} {low : Value} {w w1 : World} (h : FldP b t ch d m dg low w w1) (n : Nat) : FldP b t ch d m dg low w (w1.drewN n) :=
  h.ready (below_drewN' (Below.refl _ _) n)

theorem exp_any (n : Int) {b : Nat} {t ch d m dg : Int} {low : Value} (w : World) (h : FldS w b t ch d m dg low) :
    Calls Try.prog 29 #[.pointer (some ⟨b, 5, none⟩), .int .i64 n] w fun e w' => e = .returned (.int .i64 (fi (exI n))) ∧ FldP b t ch d m dg low w w' := by
  have HT := Lib.hid (tables_any w h)
  clear h
  go_enter Try.func29, Try.ntmps29
  go_wp2_with (go_at_call 45; refine HT.out.mono ?_; rintro e w1 ⟨rfl, hP⟩)
  have HP := Lib.hid hP
  obtain ⟨_, p, E, L, r, hjunk1⟩ := hP
  clear hjunk1
  have c8 : w1.cell? ⟨b, 8, none⟩ = some (.slice (some ⟨E, 0, none⟩) 16382 16382) := r.code.cell rfl
  have b1 : 0 ≤ n % 8191 := Int.emod_nonneg _ (by decide)
  have b2 : n % 8191 < 16382 := by have := Int.emod_lt_of_pos n (b := 8191) (by decide); omega
  have e1 : w1.cell? ⟨E, (n % 8191).toNat, none⟩ = some (.int .i64 (fi (exI n))) := by
    unfold exI
    rw [← expAt_full (by omega)]; exact r.tabs.exp.cell (expArr_at (by omega))
  clear r HT
  generalize hk : n % 8191 = k at *
  have HK := Lib.hid hk
  clear hk
  go_quiet ((go_at_call 46; exact Calls.quiet_of_same ((around_any _ _).mono fun e w' h => ⟨h.1.trans (by rw [HK.out]), h.2.symm⟩)))
  go_wp2
  go_ret
  exact ⟨rfl, HP.out.drewN _⟩

theorem fi_zero_eq : (fi 0#13 == 0) = true := rfl

theorem times_all (x y : F) {b E L : Nat} {t ch d m p dg : Int} {low : Value} (w : World) (h : FldR w b t ch d m p dg low E L) :
    Calls Try.prog 48 #[.pointer (some ⟨b, 5, none⟩), .int .i64 (fi x), .int .i64 (fi y)] w fun e w' => e = .returned (.int .i64 (fi (mul x y))) ∧ ∃ n, w' = w.drewN n := by
  by_cases hx : x = 0#13
  · subst hx
    have h0 := fi_zero_eq
    have HZ := Lib.hid (zero_mul y)
    clear h
    go_enter Try.func48, Try.ntmps48
    go_wp2_with (first | (go_at_call 49; refine (low_of _ _).mono ?_; rintro e w' ⟨rfl, rfl⟩))
    go_ret
    exact ⟨by rw [HZ.out]; rfl, 0, rfl⟩
  · by_cases hy : y = 0#13
    · subst hy
      have h0 := fi_zero_eq
      have hx' := fi_zero_ne hx
      have HZ := Lib.hid (mul_zero x)
      clear h hx
      go_enter Try.func48, Try.ntmps48
      go_wp2_with (first | (go_at_call 49; refine (low_of _ _).mono ?_; rintro e w' ⟨rfl, rfl⟩))
      go_ret
      exact ⟨by rw [HZ.out]; rfl, 0, rfl⟩
    · exact times_any x y hx hy w h

theorem add_any (a : Addr) (x : Int) (w : World) (hc : w.cell? a = some (.int .i64 x)) (hz : w.frozen? a = false) :
    Calls Try.prog 47 #[.pointer (some a), .int .i64 1] w fun e w' => e = .returned (.int .i64 (wrap64 (x + 1))) ∧ w' = w.setCell a (.int .i64 (wrap64 (x + 1))) := by
  have hadd := run_call_add (P := Try.prog) Try.func66 (by kernel_rfl) (by kernel_rfl) (by kernel_rfl) .i64 (by kernel_rfl) (y := 1) (s := wrap64 (x + 1)) hc hz (by simp [go_sem, wrap64, IntKind.wrap_i64])
  go_enter Try.func47, Try.ntmps47
  go_wp2
  go_ret
  exact ⟨rfl, rfl⟩

theorem mul_any (x y : F) {b : Nat} {t ch d m dg : Int} {low : Value} (w : World) (h : FldS w b t ch d m dg low) :
    Calls Try.prog 30 #[.pointer (some ⟨b, 5, none⟩), .int .i64 (fi x), .int .i64 (fi y)] w fun e w' => e = .returned (.int .i64 (fi (mul x y))) ∧ FldP b t ch d m dg low w w' := by
  have HT := Lib.hid (tables_any w h)
  clear h
  go_enter Try.func30, Try.ntmps30
  go_wp2_with (go_at_call 45; refine HT.out.mono ?_; rintro e w1 ⟨rfl, hP⟩)
  obtain ⟨ho, p, E, L, r, hr⟩ := hP
  have HR := Lib.hid hr
  clear hr
  have c10 : w1.cell? ⟨b, 10, none⟩ = some (.int .i64 p) := r.code.cell rfl
  have z10 := r.code.free 10
  have r2 : FldR (w1.setCell ⟨b, 10, none⟩ (.int .i64 (wrap64 (p + 1)))) b t ch d m (wrap64 (p + 1)) dg low E L :=
    ⟨r.code.put 10 _, ⟨r.tabs.exp.far (r.tabs.exp.ne r.code (by decide)) _, r.tabs.log.far (r.tabs.log.ne r.code (by decide)) _⟩⟩
  have R2 := Lib.hid r2
  have HO := Lib.hid (ho.put (p := ⟨b, 10, none⟩) (.inl rfl) (.int .i64 (wrap64 (p + 1))))
  clear r r2 ho HT
  go_wp2_with (go_at_call 47; refine (add_any _ p _ c10 z10).mono ?_; rintro e w' ⟨rfl, rfl⟩)
  generalize World.setCell w1 _ _ = w2 at *
  clear c10 z10
  go_wp2_with (go_at_call 48; refine (times_all x y _ R2.out).mono ?_; rintro e w' ⟨rfl, n, rfl⟩)
  go_ret
  exact ⟨rfl, HO.out.drewN n, _, E, L, R2.out.below (below_drewN' (Below.refl _ _) n), HR.out⟩

theorem ex_order_sub {x : F} : inv x = ex (8191 - lg x) := rfl
theorem inv_any (x : F) (hx : x ≠ 0#13) {b : Nat} {t ch d m dg : Int} {low : Value} (w : World) (h : FldS w b t ch d m dg low) :
    Calls Try.prog 31 #[.pointer (some ⟨b, 5, none⟩), .int .i64 (fi x)] w fun e w' => e = .returned (.tuple #[.int .i64 (fi (inv x)), .bool true]) ∧ FldP b t ch d m dg low w w' := by
  have HT := Lib.hid (tables_any w h)
  have hx' := fi_zero_ne hx
  clear h hx
  go_enter Try.func31, Try.ntmps31
  go_wp2_with (first | (go_at_call 49; refine (low_of _ _).mono ?_; rintro e w' ⟨rfl, rfl⟩) | (go_at_call 45; refine HT.out.mono ?_; rintro e w1 ⟨rfl, hP⟩))
  have HP := Lib.hid hP
  obtain ⟨_, p, E, L, r, hjunk1⟩ := hP
  clear hjunk1
  have c8 : w1.cell? ⟨b, 8, none⟩ = some (.slice (some ⟨E, 0, none⟩) 16382 16382) := r.code.cell rfl
  have c9 : w1.cell? ⟨b, 9, none⟩ = some (.slice (some ⟨L, 0, none⟩) 8192 8192) := r.code.cell rfl
  have l1 : w1.cell? ⟨L, x.toNat, none⟩ = some (.int .i64 (lg x)) := by rw [← logAt_full]; exact r.tabs.log.cell (logArr_at x.isLt)
  have b1 := lg_lt x
  have e1 : w1.cell? ⟨E, 8191 - lg x, none⟩ = some (.int .i64 (fi (inv x))) := by
    rw [ex_order_sub, ← expAt_full (by omega)]; exact r.tabs.exp.cell (expArr_at (by omega))
  have f1 := fi_bd x
  have n1 : (fi x).toNat = x.toNat := by simp [fi]
  have n2 : (8191 - (lg x : Int)).toNat = 8191 - lg x := by omega
  clear r HT
  go_quiet ((go_at_call 49; exact Calls.quiet_of_same ((low_of _ _).mono fun e w' h => ⟨h.1, h.2.symm⟩)))
  go_wp2
  go_ret2
  exact ⟨rfl, HP.out.drewN _⟩

theorem log_any (x : F) (hx : x ≠ 0#13) {b : Nat} {t ch d m dg : Int} {low : Value} (w : World) (h : FldS w b t ch d m dg low) :
    Calls Try.prog 33 #[.pointer (some ⟨b, 5, none⟩), .int .i64 (fi x)] w fun e w' => e = .returned (.tuple #[.int .i64 (lg x), .bool true]) ∧ FldP b t ch d m dg low w w' := by
  have HT := Lib.hid (tables_any w h)
  have hx' := fi_zero_ne hx
  clear h hx
  go_enter Try.func33, Try.ntmps33
  go_wp2_with (first | (go_at_call 49; refine (low_of _ _).mono ?_; rintro e w' ⟨rfl, rfl⟩) | (go_at_call 45; refine HT.out.mono ?_; rintro e w1 ⟨rfl, hP⟩))
  have HP := Lib.hid hP
  obtain ⟨_, p, E, L, r, hjunk1⟩ := hP
  clear hjunk1
  have c9 : w1.cell? ⟨b, 9, none⟩ = some (.slice (some ⟨L, 0, none⟩) 8192 8192) := r.code.cell rfl
  have l1 : w1.cell? ⟨L, x.toNat, none⟩ = some (.int .i64 (lg x)) := by rw [← logAt_full]; exact r.tabs.log.cell (logArr_at x.isLt)
  have b1 := lg_lt x
  have f1 := fi_bd x
  have n1 : (fi x).toNat = x.toNat := by simp [fi]
  clear r HT
  go_quiet ((go_at_call 49; exact Calls.quiet_of_same ((low_of _ _).mono fun e w' h => ⟨h.1, h.2.symm⟩)))
  go_wp2
  go_ret2
  exact ⟨rfl, HP.out.drewN _⟩

/-- The logarithm of 0: none, and nothing is touched. -/
theorem log_zero {b : Nat} (w : World) :
    Calls Try.prog 33 #[.pointer (some ⟨b, 5, none⟩), .int .i64 0] w fun e w' => e = .returned (.tuple #[.int .i64 0, .bool false]) ∧ w = w' := by
  have hl : ∀ w, Calls Try.prog 49 #[.int .i64 0] w fun e w' => e = .returned (.int .i64 0) ∧ w = w' := fun w => low_of 0#13 w
  go_enter Try.func33, Try.ntmps33
  go_wp2_with (go_at_call 49; refine (low_of 0#13 _).mono ?_; rintro e w' ⟨rfl, rfl⟩)
  go_ret2
  exact ⟨rfl, rfl⟩

theorem pow2_eq {x : F} (hx : x ≠ 0#13) : ∃ j : Nat, ((lg x : Int) * 2).tmod 8191 = j ∧ j < 8191 ∧ ex j = mul x x := by
  have h : ((lg x : Int) * 2).tmod 8191 = (((lg x * 2) % 8191 : Nat) : Int) := by
    rw [Int.tmod_eq_emod_of_nonneg (by omega)]; omega
  refine ⟨_, h, Nat.mod_lt _ (by decide), ?_⟩
  rw [ex_mod, Nat.mul_two, ← mul_ex_ex, (lg_spec hx).2]

theorem pow2_any (x : F) (hx : x ≠ 0#13) {b : Nat} {t ch d m dg : Int} {low : Value} (w : World) (h : FldS w b t ch d m dg low) :
    Calls Try.prog 59 #[.pointer (some ⟨b, 5, none⟩), .int .i64 (fi x), .int .i64 2] w fun e w' => e = .returned (.int .i64 (fi (mul x x))) ∧ FldP b t ch d m dg low w w' := by
  have HT := Lib.hid (tables_any w h)
  have hx' := fi_zero_ne hx
  obtain ⟨j, hj, hj2, hj3⟩ := pow2_eq hx
  have HJ := Lib.hid hj3
  clear h hx hj3
  have b1 := lg_lt x
  have f1 := fi_bd x
  go_enter Try.func59, Try.ntmps59
  go_wp2_with (first | (go_at_call 49; refine (low_of _ _).mono ?_; rintro e w' ⟨rfl, rfl⟩) | (go_at_call 45; refine HT.out.mono ?_; rintro e w1 ⟨rfl, hP⟩))
  have HP := Lib.hid hP
  obtain ⟨_, p, E, L, r, hjunk1⟩ := hP
  clear hjunk1
  have c8 : w1.cell? ⟨b, 8, none⟩ = some (.slice (some ⟨E, 0, none⟩) 16382 16382) := r.code.cell rfl
  have c9 : w1.cell? ⟨b, 9, none⟩ = some (.slice (some ⟨L, 0, none⟩) 8192 8192) := r.code.cell rfl
  have l1 : w1.cell? ⟨L, x.toNat, none⟩ = some (.int .i64 (lg x)) := by rw [← logAt_full]; exact r.tabs.log.cell (logArr_at x.isLt)
  have e1 : w1.cell? ⟨E, j, none⟩ = some (.int .i64 (fi (mul x x))) := by
    rw [← HJ.out, ← expAt_full (by omega)]; exact r.tabs.exp.cell (expArr_at (by omega))
  have n1 : (fi x).toNat = x.toNat := by simp [fi]
  have m1 : IntKind.i64.wrap ((lg x : Int) * 2) = (lg x : Int) * 2 := by rw [IntKind.wrap_i64]; omega
  have m2 : IntKind.i64.wrap (j : Int) = j := by rw [IntKind.wrap_i64]; omega
  have j0 : (j : Int) < 16382 := by omega
  clear r HT
  go_quiet ((go_at_call 46; exact Calls.quiet_of_same ((around_any 2 _).mono fun e w' h => ⟨h.1, h.2.symm⟩)))
  go_wp2
  go_ret
  exact ⟨rfl, HP.out.drewN _⟩
end Go.Proofs.Ytfhefcpkknidcaa
/- The library's generic functions on slices that the codes use, walked: Index, Contains. -/
namespace Go.Proofs.Ytfhefcpkknidcaa
open Go.RowKit

def FoundAt (xs : List Int) (x : Int) (w : World) (e : Ending) (w' : World) : Prop := ∃ r : Int, e = .returned (.int .i64 r) ∧ decide (0 ≤ r) = decide (x ∈ xs) ∧ w = w'

theorem index_any (xs : List Int) (x : Int) {B : Nat} {v : Value} (w : World) (h : Own w B 3 v (xs.map (.int .i64 ·))) :
    Calls Try.prog 73 #[v, .int .i64 x] w (FoundAt xs x w) := by
  obtain ⟨a, c, rfl, hc⟩ := h.form
  have hl := h.len
  simp only [List.length_map] at *
  clear h
  generalize hn : xs.length = n at *
  have HN := Lib.hid hn
  clear hn
  go_enter Try.func73, Try.ntmps73
  go_wp2
  go_loop [8] (fun i => ∃ k : Nat, k ≤ n ∧ i = .int .i64 k ∧ x ∉ xs.take k) (fun i => n - (intOf i).toNat)
  case atStart => exact ⟨0, Nat.zero_le _, rfl, by simp⟩
  case round =>
    obtain ⟨k, hk, rfl, hno⟩ := hrel
    by_cases hlt : k < n
    · have hkx : k < xs.length := by rw [HN.out]; exact hlt
      obtain ⟨g, rfl, _, _, hcell, _⟩ := hc k (.int .i64 xs[k]) (by simp [hkx])
      clear hc
      have HT : x ∉ xs.take (k + 1) ↔ x ≠ xs[k] := by
        rw [List.take_succ_eq_append_getElem hkx, List.mem_append, List.mem_singleton]
        exact ⟨fun h e => h (.inr e), fun h => fun h' => h'.elim hno h⟩
      have HI : x = xs[k] → x ∈ xs := fun e => by rw [e]; exact List.getElem_mem _
      generalize xs[k] = y at *
      have HT := Lib.hid HT
      have HI := Lib.hid HI
      clear hno hkx
      go_wp2
      · have he : (x == y) = true := by with_reducible assumption
        have hx := HI.out (by simpa using he)
        go_ret
        exact ⟨_, rfl, by simp [hx], rfl⟩
      · have he : (x == y) = false := by with_reducible assumption
        go_round
        case rel => exact ⟨k + 1, by omega, by go_num, HT.out.2 (by simpa using he)⟩
        case measure => simp [intOf]; omega
    · obtain rfl : k = n := by omega
      have hx : x ∉ xs := by
        rw [← HN.out, List.take_length] at hno
        exact hno
      clear hc hno
      go_wp2
      go_ret
      exact ⟨_, rfl, by simp [hx], rfl⟩

theorem contains_any (xs : List Int) (x : Int) {B : Nat} {v : Value} (w : World) (h : Own w B 3 v (xs.map (.int .i64 ·))) :
    Calls Try.prog 58 #[v, .int .i64 x] w fun e w' => e = .returned (.bool (decide (x ∈ xs))) ∧ w = w' := by
  have HI := Lib.hid (index_any xs x w h)
  clear h
  go_enter Try.func58, Try.ntmps58
  go_wp2_with (go_at_call 73; refine HI.out.mono ?_; rintro e w' ⟨r, rfl, hr, rfl⟩)
  go_ret
  exact ⟨rfl, rfl⟩

def EqualEnd (xs ys : List Int) (w : World) (e : Ending) (w' : World) : Prop := e = .returned (.bool (decide (xs = ys))) ∧ ∃ n, w' = w.drewN n

theorem equal_any (xs ys : List Int) {B B' : Nat} {v v' : Value} (w : World) (h : Own w B 3 v (xs.map (.int .i64 ·))) (h' : Own w B' 3 v' (ys.map (.int .i64 ·))) :
    Calls Try.prog 43 #[v, v'] w (EqualEnd xs ys w) := by
  obtain ⟨a, c, rfl, hc⟩ := h.form
  obtain ⟨a', c', rfl, hc'⟩ := h'.form
  have hl := h.len
  have hl' := h'.len
  simp only [List.length_map] at *
  clear h h'
  by_cases hn : xs.length = ys.length
  · have HN := Lib.hid hn
    rw [← hn] at hl' ⊢
    clear hn
    generalize hx : xs.length = n at *
    have HX := Lib.hid hx
    clear hx hl'
    go_enter Try.func43, Try.ntmps43
    go_wp2
    go_loopw [13] (fun i wr => ∃ k m : Nat, k ≤ n ∧ i = .int .i64 k ∧ wr = w.drewN m ∧ xs.take k = ys.take k) (fun i _ => n - (intOf i).toNat)
    case atStart => exact ⟨0, 0, Nat.zero_le _, rfl, rfl, by simp⟩
    case round =>
      obtain ⟨k, m, hk, rfl, hwr, hno⟩ := hrel
      subst hwr
      by_cases hlt : k < n
      · have hkx : k < xs.length := by have := HX.out; unfold Hid at *; omega
        have hky : k < ys.length := by have := HN.out; omega
        obtain ⟨g, rfl, _, _, hcell, _⟩ := hc k (.int .i64 xs[k]) (by simp [hkx])
        obtain ⟨g', rfl, _, _, hcell', _⟩ := hc' k (.int .i64 ys[k]) (by simp [hky])
        clear hc hc'
        have HT : xs[k] = ys[k] → xs.take (k + 1) = ys.take (k + 1) := fun e => by
          rw [List.take_succ_eq_append_getElem hkx, List.take_succ_eq_append_getElem hky, hno, e]
        have HI : xs[k] ≠ ys[k] → xs ≠ ys := fun h e => by subst e; exact h rfl
        generalize xs[k] = x at *
        generalize ys[k] = y at *
        have HT := Lib.hid HT
        have HI := Lib.hid HI
        clear hno hkx hky
        have k0 : 0 ≤ (k : Int) := by omega
        have k1 : (k : Int) < n := by omega
        by_cases he : x = y
        · have hb : (x != y) = false := by simp [he]
          have HE := Lib.hid he
          clear he
          go_wp2
          go_quiet (fail)
          go_wp2
          go_roundw
          case rel => exact ⟨k + 1, _, by omega, by go_num, rfl, HT.out HE.out⟩
          case measure => simp [intOf]; omega
        · have hb : (x != y) = true := by simp [he]
          have hne := HI.out he
          have HE := Lib.hid hne
          clear he hne
          go_wp2
          go_quiet (fail)
          go_wp2
          go_ret
          exact ⟨by rw [decide_eq_false HE.out]; rfl, _, World.drewN_drewN _ _ _⟩
      · obtain rfl : k = n := by omega
        have hx : xs = ys := by
          have h1 : xs.take k = xs := by rw [← HX.out, List.take_length]
          have h2 : ys.take k = ys := List.take_of_length_le (by have := HN.out; omega)
          rw [← h1, ← h2, hno]
        have HE := Lib.hid hx
        clear hc hc' hno hx
        go_wp2
        go_ret
        exact ⟨by rw [decide_eq_true HE.out]; rfl, m, rfl⟩
  · have hb : (xs.length != ys.length) = true := by simp [hn]
    have hne : xs ≠ ys := fun e => hn (by rw [e])
    have HE := Lib.hid hne
    clear hne hc hc' hn
    go_enter Try.func43, Try.ntmps43
    go_wp2
    go_ret
    exact ⟨by rw [decide_eq_false HE.out]; rfl, 0, rfl⟩

/-- The closure: is a polynomial that of the variable that it captured? -/
theorem gen1_any (xs ys : List Int) {B B' q : Nat} {v v' : Value} (w : World) (hq : w.cell? ⟨q, 0, none⟩ = some v') (h : Own w B 3 v (xs.map (.int .i64 ·))) (h' : Own w B' 3 v' (ys.map (.int .i64 ·))) :
    Calls Try.prog 42 #[v, .pointer (some ⟨q, 0, none⟩)] w (EqualEnd xs ys w) := by
  have HE := Lib.hid (equal_any xs ys w h h')
  clear h h'
  go_enter Try.func42, Try.ntmps42
  go_wp2_with (go_at_call 43; refine HE.out.mono ?_; rintro e w' ⟨rfl, n, rfl⟩)
  go_ret
  exact ⟨rfl, n, rfl⟩

theorem enter_gen1 (args : Array Value) (w : World) : (callFunc 42 args).run Try.prog w = .ok (.enter 42 args) w :=
  run_callFunc_body Try.func42 (by kernel_rfl) rfl args w

def NotFound (w : World) (e : Ending) (w' : World) : Prop := e = .returned (.int .i64 (-1)) ∧ ∃ n, w' = w.drewN n
/-- None of the polynomials seen is the one in the variable. -/
theorem indexFunc_none (vs : List Value) {B q : Nat} {v v' : Value} (w : World) (hq : w.cell? ⟨q, 0, none⟩ = some v') (ys : List Int) (h' : Own w B 3 v' (ys.map (.int .i64 ·)))
    (hv : Own w B 72 v vs) (hs : ∀ (j : Nat) (x : Value), vs[j]? = some x → ∃ xs : List Int, Own w B 3 x (xs.map (.int .i64 ·)) ∧ xs ≠ ys) :
    Calls Try.prog 60 #[v, .func (.func 42) #[] #[.pointer (some ⟨q, 0, none⟩)]] w (NotFound w) := by
  obtain ⟨a, c, rfl, hc⟩ := hv.form
  have hl := hv.len
  have he := enter_gen1
  clear hv
  generalize hn : vs.length = n at *
  have HN := Lib.hid hn
  clear hn
  go_enter Try.func60, Try.ntmps60
  go_wp2
  go_loopw [8] (fun i wr => ∃ k m : Nat, k ≤ n ∧ i = .int .i64 k ∧ wr = w.drewN m) (fun i _ => n - (intOf i).toNat)
  case atStart => exact ⟨0, 0, Nat.zero_le _, rfl, rfl⟩
  case round =>
    obtain ⟨k, m, hk, rfl, hwr⟩ := hrel
    subst hwr
    by_cases hlt : k < n
    · have hkx : k < vs.length := by rw [HN.out]; exact hlt
      obtain ⟨g, rfl, _, _, hcell, _⟩ := hc k vs[k] (by simp [hkx])
      obtain ⟨xs, hx, hne⟩ := hs k vs[k] (by simp [hkx])
      have HG := Lib.hid (gen1_any xs ys (w.drewN m) (q := q) hq (hx.drewN m) (h'.drewN m))
      clear hc hs hx h' hq
      have HE := Lib.hid hne
      clear hne
      generalize vs[k] = y at *
      go_wp2_with (first | (go_at_call 42; refine HG.out.mono ?_; rintro e w' ⟨rfl, n2, rfl⟩; rw [decide_eq_false HE.out]))
      go_roundw
      case rel => exact ⟨k + 1, _, by omega, by go_num, rfl⟩
      case measure => simp [intOf]; omega
    · obtain rfl : k = n := by omega
      clear hc hs h' hq
      go_wp2
      go_ret
      exact ⟨rfl, m, rfl⟩

theorem containsFunc_none (vs : List Value) {B q : Nat} {v v' : Value} (w : World) (hq : w.cell? ⟨q, 0, none⟩ = some v') (ys : List Int) (h' : Own w B 3 v' (ys.map (.int .i64 ·)))
    (hv : Own w B 72 v vs) (hs : ∀ (j : Nat) (x : Value), vs[j]? = some x → ∃ xs : List Int, Own w B 3 x (xs.map (.int .i64 ·)) ∧ xs ≠ ys) :
    Calls Try.prog 41 #[v, .func (.func 42) #[] #[.pointer (some ⟨q, 0, none⟩)]] w fun e w' => e = .returned (.bool false) ∧ ∃ n, w' = w.drewN n := by
  have HI := Lib.hid (indexFunc_none vs w hq ys h' hv hs)
  clear hq h' hv hs
  go_enter Try.func41, Try.ntmps41
  go_wp2_with (go_at_call 60; refine HI.out.mono ?_; rintro e w' ⟨rfl, n, rfl⟩)
  go_ret
  exact ⟨rfl, n, rfl⟩
end Go.Proofs.Ytfhefcpkknidcaa
/- Polynomials over two numbers as rows of words: what each method does to memory. -/
namespace Go.Proofs.Ytfhefcpkknidcaa
open Go.RowKit

theorem flip_any (g c n e x : Nat) (w : World) (hn : n ≤ 1000000) (hj : e / 64 < n) (hc : w.cell? ⟨g, e / 64, none⟩ = some (.int .u64 x)) (hz : w.frozen? ⟨g, e / 64, none⟩ = false) (hx : x < 18446744073709551616) :
    Calls Try.prog 74 #[.slice (some ⟨g, 0, none⟩) n c, .int .i64 e] w fun e' w' => e' = .returned (.tuple #[]) ∧ w' = (w.setCell ⟨g, e / 64, none⟩ (.int .u64 ((x ^^^ 2 ^ (e % 64) : Nat) : Int))).drew := by
  have he : (e : Int) ≤ 64000000 := by omega
  have q1 : (e : Int).tdiv 64 = ((e / 64 : Nat) : Int) := by rw [Int.tdiv_eq_ediv_of_nonneg (by omega)]; omega
  have q2 : (e : Int).tmod 64 = ((e % 64 : Nat) : Int) := by rw [Int.tmod_eq_emod_of_nonneg (by omega)]; omega
  have q3 : ((e / 64 : Nat) : Int) < n := by omega
  have q4 : ((e / 64 : Nat) : Int) ≤ 64000000 := by omega
  have q5 : ((e % 64 : Nat) : Int) < 64 := by omega
  have HX := Lib.hid (u64_xor_pow hx (i := e % 64) (Nat.mod_lt _ (by decide)))
  clear hx
  generalize e / 64 = j at *
  generalize e % 64 = i at *
  go_enter Try.func74, Try.ntmps74
  go_wp2
  go_region
  go_end0
  exact ⟨rfl, by rw [HX.out]⟩

theorem mk102 (m : Nat) (hm : m ≤ 35184372088832) : ∀ W : World, (Instr.makeSlice 102 (.int .i64 (m : Int)) (.int .i64 (m : Int))).run Try.prog W = .ok (.slice (some ⟨W.heap.size, 0, none⟩) m m) (W.alloc (.cells (madeCells #[.int .u64 0] m) 114)) := by
  intro W
  exact run_make_row' 102 114 (.int .u64 0) 8 Try.underlying102 (by kernel_rfl) rfl .i64 .i64 m (by omega) (by omega) W

/-- A row of words behind a value that is not nil. -/
def RowAt (w : World) (B : Nat) (v : Value) (r : List Nat) : Prop := Own w B 114 v (u64s r) ∧ W64 r
theorem u64s_at {r : List Nat} {j : Nat} (h : j < r.length) : (u64s r)[j]? = some (.int .u64 ((r.getD j 0 : Nat) : Int)) := by
  simp [u64s, h]
theorem u64s_set (r : List Nat) (j x : Nat) : (u64s r).set j (.int .u64 (x : Int)) = u64s (r.set j x) := by
  simp [u64s, List.map_set]
theorem u64s_length (r : List Nat) : (u64s r).length = r.length := by simp [u64s]
theorem i64s_length (r : List Nat) : (i64s r).length = r.length := by simp [i64s]
theorem i64s_at {r : List Nat} {j : Nat} (h : j < r.length) : (i64s r)[j]? = some (.int .i64 ((r[j] : Nat) : Int)) := by
  simp [i64s, h]

def RowMade (p : List Nat) (w : World) (e : Ending) (w' : World) : Prop :=
  ∃ g, e = .returned (.slice (some ⟨g, 0, none⟩) 257 257) ∧ Own w' w.heap.size 114 (.slice (some ⟨g, 0, none⟩) 257 257) (u64s (rowR p)) ∧ Below w.heap.size w w'

set_option maxHeartbeats 800000 in
theorem rowOf_any (p : List Nat) (hp : ∀ e ∈ p, e ≤ 16384) {B : Nat} {v : Value} (w : World) (h : Own w B 3 v (i64s p)) :
    Calls Try.prog 61 #[v] w (RowMade p w) := by
  have hm : ∀ W : World, (Instr.makeSlice 102 (.int .i64 257) (.int .i64 257)).run Try.prog W = .ok (.slice (some ⟨W.heap.size, 0, none⟩) 257 257) (W.alloc (.cells (madeCells #[.int .u64 0] 257) 114)) := fun W => mk102 257 (by omega) W
  obtain ⟨a, c, rfl, hc⟩ := h.form
  have hl := h.len
  rw [i64s_length] at *
  have hmade := Own.made w w.heap.size 114 (.int .u64 0) 257 (Nat.le_refl _) (by omega)
  have ez : List.replicate 257 (Value.int .u64 0) = u64s (rowR (p.take 0)) := by unfold u64s rowR; rw [List.take_zero, List.foldl_nil, List.map_replicate]; rfl
  rw [ez] at hmade
  clear ez
  have hb0 : Below w.heap.size w (w.alloc (.cells (madeCells #[.int .u64 0] 257) 114)) := (Below.refl _ _).alloc (Nat.le_refl _) _
  generalize hn : p.length = n at *
  have HN := Lib.hid hn
  have HM := Lib.hid hmade
  have HB := Lib.hid hb0
  clear hn h hmade hb0
  go_enter Try.func61, Try.ntmps61
  go_wp2
  generalize hW : w.alloc _ = w1 at *
  have g1 : w.heap.size < w1.heap.size := by rw [← hW]; simp
  clear hW
  generalize hG : w.heap.size = G at *
  have HG := Lib.hid hG
  clear hG hm
  go_loopw [9] (fun i wr => ∃ k : Nat, k ≤ n ∧ i = .int .i64 k ∧ Own wr G 114 (.slice (some ⟨G, 0, none⟩) 257 257) (u64s (rowR (p.take k))) ∧ Below G w wr) (fun i _ => n - (intOf i).toNat)
  case atStart => exact ⟨0, Nat.zero_le _, rfl, HM.out, HB.out⟩
  case round =>
    obtain ⟨k, hk, rfl, hown, hbel⟩ := hrel
    clear HM HB
    by_cases hlt : k < n
    · have hkx : k < p.length := by have := HN.out; omega
      obtain ⟨g, rfl, _, hg2, hcell, _⟩ := hc k _ (i64s_at hkx)
      have hc1 : wr.cell? ⟨g, k, none⟩ = some (.int .i64 (p[k] : Nat)) := by
        refine (hbel.cell (p := ⟨g, k, none⟩) ?_).trans hcell
        have := HG.out; simp only; omega
      have he : p[k] ≤ 16384 := hp _ (List.getElem_mem _)
      obtain ⟨r1, r2⟩ := rowR_ok (p.take k)
      have hrow := rowR_snoc p k hkx
      have hj : p[k] / 64 < 257 := by omega
      obtain ⟨hce, hfe⟩ := hown.get (u64s_at (r := rowR (p.take k)) (j := p[k] / 64) (by omega))
      have hxlt := getD_lt r1 (p[k] / 64)
      have HF := Lib.hid (flip_any G 257 257 p[k] _ wr (by omega) hj hce hfe hxlt)
      have hput := hown.put (by rw [u64s_length, r2]) (p[k] / 64) (.int .u64 (((rowR (p.take k)).getD (p[k] / 64) 0 ^^^ 2 ^ (p[k] % 64) : Nat) : Int))
      rw [u64s_set] at hput
      have e2 : (rowR (p.take k)).set (p[k] / 64) ((rowR (p.take k)).getD (p[k] / 64) 0 ^^^ 2 ^ (p[k] % 64)) = rowR (p.take (k + 1)) := hrow.symm
      rw [e2] at hput
      have HP := Lib.hid hput
      have HBel := Lib.hid ((hbel.setCell (p := ⟨G, p[k] / 64, none⟩) (Nat.le_refl _) (.int .u64 (((rowR (p.take k)).getD (p[k] / 64) 0 ^^^ 2 ^ (p[k] % 64) : Nat) : Int))).drew)
      clear hc hcell hp r1 r2 hrow hce hfe hxlt hput e2 hown hbel hj
      generalize p[k] = e at *
      generalize ((rowR (p.take k)).getD (e / 64) 0 ^^^ 2 ^ (e % 64) : Nat) = y at *
      go_wp2_with (go_at_call 74; refine HF.out.mono ?_; rintro e' w' ⟨rfl, rfl⟩)
      go_roundw
      case rel => exact ⟨k + 1, by omega, by go_num, HP.out.drew, HBel.out⟩
      case measure => simp [intOf]; omega
    · obtain rfl : k = n := by omega
      have e1 : p.take k = p := List.take_of_length_le (by have := HN.out; omega)
      rw [e1] at hown
      have HO := Lib.hid hown
      have HBel := Lib.hid hbel
      clear hc hp hown hbel e1
      go_wp2
      go_ret
      refine ⟨G, rfl, ?_, ?_⟩
      · rw [HG.out]; exact HO.out
      · rw [HG.out]; exact HBel.out

set_option maxHeartbeats 800000 in
theorem degree_any (r : List Nat) (hr : W64 r) (hl : r.length ≤ 1000000) {B c g : Nat} (w : World) (h : Own w B 114 (.slice (some ⟨g, 0, none⟩) r.length c) (u64s r)) :
    Calls Try.prog 62 #[.slice (some ⟨g, 0, none⟩) r.length c] w fun e w' => e = .returned (.int .i64 (degR r)) ∧ w = w' := by
  unfold degR
  have H := Lib.hid h
  clear h
  generalize hn : r.length = n at *
  have HN := Lib.hid hn
  clear hn
  go_enter Try.func62, Try.ntmps62
  go_wp2
  go_loop [3] (fun i => ∃ j : Int, -1 ≤ j ∧ j < n ∧ i = .int .i64 j ∧ degN r n = degN r (j + 1).toNat) (fun i => (intOf i + 1).toNat)
  case atStart => exact ⟨(n : Int) - 1, by omega, by omega, rfl, by rw [show ((n : Int) - 1 + 1).toNat = n by omega]⟩
  case round =>
    obtain ⟨j, hj1, hj2, rfl, hd⟩ := hrel
    by_cases hlt : 0 ≤ j
    · obtain ⟨m, rfl⟩ := Int.eq_ofNat_of_zero_le hlt
      have hm : m < n := by omega
      obtain ⟨hc, _⟩ := H.out.get (u64s_at (r := r) (j := m) (by have := HN.out; omega))
      have hx := getD_lt hr m
      have hd' : degN r n = if r.getD m 0 = 0 then degN r m else 64 * (m : Int) + (Lib.bitLen (r.getD m 0) : Int) - 1 := by
        rw [hd, show ((m : Int) + 1).toNat = m + 1 by omega]; rfl
      have HD := Lib.hid hd'
      clear hd hd'
      generalize r.getD m 0 = x at *
      by_cases h0 : x = 0
      · have hb : ((x : Int) != 0) = false := by simp [h0]
        have h0' := Lib.hid h0
        clear h0
        go_wp2
        go_round
        case rel => exact ⟨(m : Int) - 1, by omega, by omega, rfl, by rw [HD.out, if_pos h0'.out, show ((m : Int) - 1 + 1).toNat = m by omega]⟩
        case measure => simp only [intOf]; omega
      · have hb : ((x : Int) != 0) = true := by simp [h0]
        have h0' := Lib.hid h0
        have hL := bitLen_pos hx h0
        have L1 : Lib.bitLen x ≤ 64 := hL.2.1
        have HL := Lib.hid (Try.bits_Len64 (x : Int) w (by omega) (by omega))
        rw [Int.toNat_natCast] at HL
        clear h0 hL
        generalize Lib.bitLen x = L at *
        go_wp2_with (go_at_call 75; refine HL.out.mono ?_; rintro e w' ⟨rfl, rfl⟩)
        go_ret
        exact ⟨by rw [HD.out, if_neg h0'.out]; rfl, rfl⟩
    · obtain rfl : j = -1 := by omega
      have HD := Lib.hid hd
      clear hd
      go_wp2
      go_ret
      exact ⟨by rw [HD.out]; rfl, rfl⟩

def PolyMade (l : List Nat) (w : World) (e : Ending) (w' : World) : Prop := ∃ v, e = .returned v ∧ Own w' w.heap.size 3 v (i64s l) ∧ Below w.heap.size w w'

set_option maxRecDepth 100000 in
set_option maxHeartbeats 1600000 in
theorem poly_any (r : List Nat) (hr : W64 r) (hl : r.length ≤ 1000000) {B c g : Nat} (w : World) (h : Own w B 114 (.slice (some ⟨g, 0, none⟩) r.length c) (u64s r)) :
    Calls Try.prog 63 #[.slice (some ⟨g, 0, none⟩) r.length c] w (PolyMade (polyR r) w) := by
  unfold polyR
  have hlenP := polyN_length r r.length
  have hg : r.length ≠ 0 → g < w.heap.size := fun hn => by
    obtain ⟨a, c', he, hc⟩ := h.form
    obtain ⟨g', ha, _, h1, _⟩ := hc 0 _ (u64s_at (r := r) (j := 0) (by omega))
    subst ha
    simp only [Value.slice.injEq, Option.some.injEq, Addr.mk.injEq, and_true] at he
    omega
  have H := Lib.hid h
  have Hg := Lib.hid hg
  clear h hg
  generalize hn : r.length = n at *
  have HN := Lib.hid hn
  generalize hG : w.heap.size = G at *
  have HG := Lib.hid hG
  have hb0 : Below G w w := Below.refl _ _
  have HB0 := Lib.hid hb0
  clear hn hG hb0
  go_enter Try.func63, Try.ntmps63
  go_wp2
  go_loopw [3, 4] (fun v i wr => ∃ (j : Int) (l : List Nat), -1 ≤ j ∧ j < n ∧ i = .int .i64 j ∧ Own wr G 3 v (i64s l) ∧ Below G w wr ∧ l ++ polyN r (j + 1).toNat = polyN r n) (fun _ i _ => (intOf i + 1).toNat)
  case atStart => exact ⟨(n : Int) - 1, [], by omega, by omega, rfl, Own.nil _ _ _, HB0.out, by rw [show ((n : Int) - 1 + 1).toNat = n by omega]; rfl⟩
  case round =>
    obtain ⟨j, l, hj1, hj2, rfl, hown, hbel, hd⟩ := hrel
    clear HB0
    have HO := Lib.hid hown
    have HB := Lib.hid hbel
    clear hown hbel
    by_cases hlt : 0 ≤ j
    · obtain ⟨m, rfl⟩ := Int.eq_ofNat_of_zero_le hlt
      have hm : m < n := by omega
      obtain ⟨hc, _⟩ := H.out.get (u64s_at (r := r) (j := m) (by have := HN.out; omega))
      have hc' := (HB.out.cell (p := ⟨g, m, none⟩) (by have := Hg.out (by omega); have := HG.out; simp only; omega)).trans hc
      have hx := getD_lt hr m
      have hd' : l ++ (bitsF 64 (r.getD m 0)).map (64 * m + ·) ++ polyN r m = polyN r n := by
        rw [← hd, show ((m : Int) + 1).toNat = m + 1 by omega, List.append_assoc]; rfl
      have hb64 : Lib.bitLen (r.getD m 0) ≤ 64 := by
        by_cases h0 : r.getD m 0 = 0
        · rw [h0, bitLen_zero]; omega
        · exact (bitLen_pos hx h0).2.1
      have HD := Lib.hid hd'
      have HX := Lib.hid hx
      have H64 := Lib.hid hb64
      clear hd hd' hc hx hb64
      generalize r.getD m 0 = x0 at *
      go_wp2
      go_loopw [3, 5] (fun v i wr => ∃ (f x : Nat) (l : List Nat), i = .int .u64 x ∧ x < 18446744073709551616 ∧ Lib.bitLen x ≤ f ∧ Own wr G 3 v (i64s l) ∧ Below G w wr ∧ l ++ (bitsF f x).map (64 * m + ·) ++ polyN r m = polyN r n) (fun _ i _ => (intOf i).toNat)
      case atStart => exact ⟨64, x0, l, rfl, HX.out, H64.out, HO.out, HB.out, HD.out⟩
      case round =>
        obtain ⟨f, x, l, rfl, hx, hf, hown, hbel, hd⟩ := hrel
        clear HX H64 HO HB HD
        by_cases h0 : x = 0
        · have hb : ((x : Int) != 0) = false := by simp [h0]
          have HD : Hid (l ++ polyN r m = polyN r n) := by
            rw [h0, bitsF_zero] at hd
            simpa [Hid] using hd
          have HO := Lib.hid hown
          have HB := Lib.hid hbel
          clear h0 hd hx hf hown hbel hc'
          go_wp2
          go_roundw
          case rel => exact ⟨(m : Int) - 1, l, by omega, by omega, rfl, HO.out, HB.out, by rw [show ((m : Int) - 1 + 1).toNat = m by omega]; exact HD.out⟩
          case measure => simp only [intOf]; omega
        · have hb : ((x : Int) != 0) = true := by simp [h0]
          obtain ⟨p1, p2, p3, p4⟩ := bitLen_pos hx h0
          obtain ⟨q1, q2⟩ := bitLen_less hx h0
          obtain ⟨f, rfl⟩ : ∃ f', f = f' + 1 := ⟨f - 1, by omega⟩
          rw [bitsF_step h0] at hd
          have hlen : l.length ≤ 64000000 := by
            have := congrArg List.length hd
            simp only [List.length_append] at this
            omega
          have HL := Lib.hid (Try.bits_Len64 (x : Int) · (by omega) (by omega))
          have HXO := Lib.hid (u64_xor_pow hx (i := Lib.bitLen x - 1) (by omega))
          simp only [Int.toNat_natCast] at HL
          have HO := Lib.hid hown
          have HB := Lib.hid hbel
          have HF : Lib.bitLen (x ^^^ 2 ^ (Lib.bitLen x - 1)) ≤ f := by omega
          clear hown hbel p3 p4 hf
          obtain ⟨T, hT⟩ : ∃ T, Lib.bitLen x = T + 1 := ⟨Lib.bitLen x - 1, by omega⟩
          rw [hT] at HL HXO hd q1 q2 HF p2
          simp only [Nat.add_sub_cancel] at HXO hd q1 q2 HF
          have hd' : (l ++ [64 * m + T]) ++ (bitsF f (x ^^^ 2 ^ T)).map (64 * m + ·) ++ polyN r m = polyN r n := by
            rw [← hd]; simp
          have HD := Lib.hid hd'
          have HX : x ^^^ 2 ^ T < 18446744073709551616 := by omega
          have HT := Lib.hid hT
          have t1 : (T : Int) ≤ 63 := by omega
          clear hd hd' hT p1 h0 hc' q2
          generalize x ^^^ 2 ^ T = y at *
          have HQ := Lib.hid q1
          have HY := Lib.hid HX
          clear q1 HX
          go_wp2_with (first | (go_at_call 75; refine (HL.out _).mono ?_; rintro e w' ⟨rfl, rfl⟩) | (at_builtin; refine append1 G rfl (.tmp 23) (.tmp 28) 72 3 (.int .i64 0) 8 rfl Try.underlying72 (by kernel_rfl) rfl (by decide) _ (i64s l) _ rfl rfl rfl HO.out HB.out (by have := HB.out.size; have := HG.out; omega) (by rw [i64s_length]; omega) ?_; intro v3 w3 hown3 hbel3 _ _))
          have HO3 := Lib.hid hown3
          have HB3 := Lib.hid hbel3
          clear hown3 hbel3
          go_wp2
          go_roundw
          case rel => exact ⟨f, y, l ++ [64 * m + T], by rw [HXO.out], HY.out, HF, by have := HO3.out; simpa [i64s] using this, HB3.out, HD.out⟩
          case measure =>
            rw [HXO.out]
            have := HQ.out
            simp only [intOf]
            omega
    · obtain rfl : j = -1 := by omega
      have hd' : l = polyN r n := by simpa [polyN] using hd
      have HD := Lib.hid hd'
      clear hd hd'
      go_wp2
      go_ret
      refine ⟨_, rfl, ?_, ?_⟩
      · rw [HG.out, ← HD.out]; exact HO.out
      · rw [HG.out]; exact HB.out

def AddDone (B g n c : Nat) (r : List Nat) (w : World) (e : Ending) (w' : World) : Prop :=
  e = .returned (.tuple #[]) ∧ Own w' B 114 (.slice (some ⟨g, 0, none⟩) n c) (u64s r) ∧ Only g w w'

set_option maxRecDepth 100000 in
set_option maxHeartbeats 1600000 in
theorem rowadd_any' (r o : List Nat) (up : Nat) (hr : W64 r) (ho : W64 o) (hlr : r.length ≤ 1000000) (hup : up ≤ 1000000) (hfit : ∀ i, i < o.length → i + up / 64 + 1 < r.length) {B B' g g' c c' : Nat} (w : World) (hgg : g' ≠ g)
    (h : Own w B 114 (.slice (some ⟨g, 0, none⟩) r.length c) (u64s r)) (h' : Own w B' 114 (.slice (some ⟨g', 0, none⟩) o.length c') (u64s o)) :
    Calls Try.prog 64 #[.slice (some ⟨g, 0, none⟩) r.length c, .slice (some ⟨g', 0, none⟩) o.length c', .int .i64 up] w (AddDone B g r.length c (addR r o up) w) := by
  unfold addR
  have q1 : (up : Int).tdiv 64 = ((up / 64 : Nat) : Int) := by rw [Int.tdiv_eq_ediv_of_nonneg (by omega)]; omega
  have q2 : (up : Int).tmod 64 = ((up % 64 : Nat) : Int) := by rw [Int.tmod_eq_emod_of_nonneg (by omega)]; omega
  have q3 : up % 64 < 64 := Nat.mod_lt _ (by decide)
  have hA : ∀ k, W64 (addN o up r k) ∧ (addN o up r k).length = r.length := addN_ok up hr ho
  have hS : ∀ k, addN o up r (k + 1) = addS (up / 64) (up % 64) (addN o up r k) k (o.getD k 0) := fun _ => rfl
  have H0 : Hid (Own w B 114 (.slice (some ⟨g, 0, none⟩) r.length c) (u64s (addN o up r 0))) := Lib.hid h
  have H' := Lib.hid h'
  have HS := Lib.hid hS
  have HA := Lib.hid hA
  have HF := Lib.hid hfit
  clear hS hA hfit h h' hr
  generalize hn : r.length = n at *
  generalize hm : o.length = m at *
  have HN := Lib.hid hn
  have HM := Lib.hid hm
  have hml : m ≤ 1000000 := by
    rcases Nat.eq_zero_or_pos m with h | h
    · omega
    · have := HF.out (m - 1) (by omega); omega
  have HW : Hid (up / 64 ≤ 15625) := by show up / 64 ≤ 15625; omega
  clear hn hm
  generalize up / 64 = words at *
  generalize up % 64 = left at *
  have w1 : (words : Int) ≤ 15625 := by have := HW.out; omega
  have w2 : (left : Int) < 64 := by omega
  generalize hR : addN o up r = R at *
  clear hR
  go_enter Try.func64, Try.ntmps64
  go_wp2
  go_loopw [16] (fun i wr => ∃ k : Nat, k ≤ m ∧ i = .int .i64 k ∧ Own wr B 114 (.slice (some ⟨g, 0, none⟩) n c) (u64s (R k)) ∧ Only g w wr) (fun i _ => m - (intOf i).toNat)
  case atStart => exact ⟨0, Nat.zero_le _, rfl, H0.out, Only.refl _ _⟩
  case round =>
    obtain ⟨k, hk, rfl, hown, honly⟩ := hrel
    clear H0
    have HO := Lib.hid hown
    have HL := Lib.hid honly
    clear hown honly
    by_cases hlt : k < m
    · obtain ⟨hc0, _⟩ := H'.out.get (u64s_at (r := o) (j := k) (by have := HM.out; omega))
      have hg' : g' < w.heap.size := by
        obtain ⟨a, c2, he, hcc⟩ := H'.out.form
        obtain ⟨g2, ha, _, h1, _⟩ := hcc k _ (u64s_at (r := o) (j := k) (by have := HM.out; omega))
        subst ha
        simp only [Value.slice.injEq, Option.some.injEq, Addr.mk.injEq, and_true] at he
        omega
      have hc : wr.cell? ⟨g', k, none⟩ = some (.int .u64 ((o.getD k 0 : Nat) : Int)) := by
        unfold World.cell? at *
        simp only at *
        rw [HL.out.block g' hg' hgg]
        exact hc0
      have hx := getD_lt ho k
      have hs := HS.out k
      generalize o.getD k 0 = x at *
      have HSk := Lib.hid hs
      clear hs hc0
      by_cases h0 : x = 0
      · have hb : ((x : Int) == 0) = true := by simp [h0]
        have HR : Hid (R (k + 1) = R k) := by rw [h0] at HSk; show R (k + 1) = R k; rw [HSk.out]; simp [addS]
        have h0' := Lib.hid h0
        clear h0 hx
        go_wp2
        go_roundw
        case rel => exact ⟨k + 1, by omega, by go_num, by rw [HR.out]; exact HO.out, HL.out⟩
        case measure => simp [intOf]; omega
      · have hb : ((x : Int) == 0) = false := by simp [h0]
        have hfit := HF.out k hlt
        have hRk := HA.out k
        obtain ⟨ha, hfa⟩ := HO.out.get (u64s_at (r := R k) (j := k + words) (by omega))
        have hya := getD_lt hRk.1 (k + words)
        have k1 : (k : Int) + words < n := by omega
        have k2 : (k : Int) + words + 1 < n := by omega
        have k3 : ((k : Int) + words).toNat = k + words := by omega
        have k4 : ((k : Int) + words + 1).toNat = k + words + 1 := by omega
        have h0' := Lib.hid h0
        generalize hY : (R k).getD (k + words) 0 = y at *
        have HY := Lib.hid hY
        clear h0 hY
        go_wp2
        go_region
        have HXO := Lib.hid (u64_xor_shl (y := y) (x := x) (left := left) hya)
        rw [HXO.out]
        have hput := HO.out.put (by rw [u64s_length, hRk.2]) (k + words) (.int .u64 ((y ^^^ (x * 2 ^ left % 18446744073709551616) : Nat) : Int))
        rw [u64s_set] at hput
        have honly := (HL.out.put (p := ⟨g, k + words, none⟩) (.inl rfl) (.int .u64 ((y ^^^ (x * 2 ^ left % 18446744073709551616) : Nat) : Int))).drew
        have hW1 := hRk.1.set (k + words) (xor64 hya (Nat.mod_lt (x * 2 ^ left) (by decide : 0 < 18446744073709551616)))
        have hl1 : ((R k).set (k + words) (y ^^^ (x * 2 ^ left % 18446744073709551616))).length = n := by rw [List.length_set, hRk.2]
        have hs : R (k + 1) = addS words left (R k) k x := HSk.out
        unfold addS at hs
        rw [if_neg h0'.out, HY.out] at hs
        simp only at hs
        have HP := Lib.hid hput.drew
        have HO1 := Lib.hid honly
        have HS1 := Lib.hid hs
        have HW1 := Lib.hid hW1
        have HL1 := Lib.hid hl1
        clear hput honly hs hW1 hl1 HO HL HSk ha hfa hb hc hRk HXO
        generalize (R k).set (k + words) (y ^^^ (x * 2 ^ left % 18446744073709551616)) = r1 at *
        generalize World.drew _ = w2 at *
        obtain ⟨ha2, hf2⟩ := HP.out.get (u64s_at (r := r1) (j := k + words + 1) (by have := HL1.out; omega))
        have hya2 := getD_lt HW1.out (k + words + 1)
        generalize hY2 : r1.getD (k + words + 1) 0 = y2 at *
        have HY2 := Lib.hid hY2
        clear hY2
        by_cases hl0 : left = 0
        · have HS2 : Hid (R (k + 1) = r1) := by show R (k + 1) = r1; rw [HS1.out, if_neg (by omega)]
          have t1 : ¬ (0 : Int) < left := by omega
          have hl0' := Lib.hid hl0
          clear HS1 hl0 ha2 hf2
          go_wp2
          go_roundw
          case rel => exact ⟨k + 1, by omega, by go_num, by rw [HS2.out]; exact HP.out, HO1.out⟩
          case measure => simp [intOf]; omega
        · have t1 : (0 : Int) < left := by omega
          have hde : ((x : Int) / 2 ^ (64 - left)) = ((x / 2 ^ (64 - left) : Nat) : Int) := by simp
          have HDE := Lib.hid hde
          clear hde
          by_cases hq : x / 2 ^ (64 - left) = 0
          · have HS2 : Hid (R (k + 1) = r1) := by show R (k + 1) = r1; rw [HS1.out, if_neg (by omega)]
            have tt : ((x : Int) / 2 ^ (64 - left) != 0) = false := by rw [HDE.out, hq]; rfl
            have hq' := Lib.hid hq
            clear HS1 hl0 ha2 hf2 hq
            go_wp2
            go_roundw
            case rel => exact ⟨k + 1, by omega, by go_num, by rw [HS2.out]; exact HP.out, HO1.out⟩
            case measure => simp [intOf]; omega
          · have HS2 : Hid (R (k + 1) = r1.set (k + words + 1) (y2 ^^^ (x / 2 ^ (64 - left)))) := by
              show R (k + 1) = r1.set (k + words + 1) (y2 ^^^ (x / 2 ^ (64 - left)))
              rw [HS1.out, if_pos ⟨by omega, hq⟩]
            have tt : ((x : Int) / 2 ^ (64 - left) != 0) = true := by
              rw [HDE.out]; simp only [bne_iff_ne, ne_eq]; omega
            have HXD := Lib.hid (u64_xor_div (y := y2) (x := x) (s := 64 - left) hya2 hx)
            have hput := HP.out.put (by rw [u64s_length, HL1.out]) (k + words + 1) (.int .u64 ((y2 ^^^ x / 2 ^ (64 - left) : Nat) : Int))
            rw [u64s_set, ← HS2.out] at hput
            have HP2 := Lib.hid hput
            have HO2 := Lib.hid (HO1.out.put (p := ⟨g, k + words + 1, none⟩) (.inl rfl) (.int .u64 ((y2 ^^^ x / 2 ^ (64 - left) : Nat) : Int)))
            have hq' := Lib.hid hq
            clear HS1 hl0 hq hput HS2
            go_wp2
            go_region
            rw [HXD.out]
            go_wp2
            go_roundw
            case rel => exact ⟨k + 1, by omega, by go_num, HP2.out.drew, HO2.out.drew⟩
            case measure => simp [intOf]; omega
    · obtain rfl : k = m := by omega
      go_wp2
      go_end0
      exact ⟨rfl, HO.out, HL.out⟩

theorem rowadd_any (r o : List Nat) (up : Nat) (hr : W64 r) (ho : W64 o) (hlr : r.length ≤ 1000000) (hup : up ≤ 1000000) (hfit : ∀ i, i < o.length → i + up / 64 + 1 < r.length) {B B' g g' c c' n m : Nat} (w : World) (hn : n = r.length) (hm : m = o.length) (hgg : g' ≠ g)
    (h : Own w B 114 (.slice (some ⟨g, 0, none⟩) n c) (u64s r)) (h' : Own w B' 114 (.slice (some ⟨g', 0, none⟩) m c') (u64s o)) :
    Calls Try.prog 64 #[.slice (some ⟨g, 0, none⟩) n c, .slice (some ⟨g', 0, none⟩) m c', .int .i64 up] w (AddDone B g n c (addR r o up) w) := by
  subst hn hm
  exact rowadd_any' r o up hr ho hlr hup hfit w hgg h h'
end Go.Proofs.Ytfhefcpkknidcaa
