/- (*strings.Replacer).build, at four old strings of one byte each, where one new string at least is not one byte long: a byteStringReplacer. -/
import Derived.Test.YtjlgfcgdagikgaaDoorBuild
import Derived.ArgAppend
import Derived.Deep.AppendLies
import Derived.Deep.DeepAppendRoom
import Derived.Deep.OwnRows
import Derived.Deep.RegionHeld3
import Derived.Laws.IdiomStrings
import Derived.Laws.MakeOwn
import Derived.Laws.OwnMore
import Derived.Lib.ConvBytes
import Derived.Maps.AppendAt
import Derived.OneCell
import Derived.ProofKit
import Derived.Tactics
import Derived.WalkKit
namespace Go.Proofs.YtjlgfcgdagikgaaDoor.repl
open Go.RowKit
open Go.Proofs.YtjlgfcgdagikgaaDoorW.PrintWords Go.Proofs.YtjlgfcgdagikgaaDoorW.PrintLast Go.Proofs.YtjlgfcgdagikgaaDoorW.PrintMore
set_option linter.unusedVariables false

/-- One element appended to a row of the call's own: in its place, or in a new block, all old ones kept. -/
theorem append_one {P : Program} {W : World} {ops : Array Oper} {rest : List Oper} {o : Oper} {a : Act} {Q : Exit → Act → World → Prop} (hgd : o.guard = none) (s x : Operand) (t e : TypeId) (z : Value) (bytes : Nat)
    (ho : o.op = .call { callee := .builtin .append, args := #[s, x], argTypes := #[t, t] })
    (ht : P.underlying t = some (.slice e)) (hinfo : (P.info? e).map (fun i => (i.zero, i.size, i.bytes)) = some (some z, 1, bytes)) (hz : z.cells.size = 1)
    (base g n cap : Nat) (xs : List Value) (y : Value) (hs : a.eval s = .slice (some ⟨g, 0, none⟩) n cap) (hx : a.eval x = .slice (some ⟨W.heap.size, 0, none⟩) 1 1) (h1 : y.oneCell' = true)
    (HO : W.ownsRow base e 1 (.slice (some ⟨g, 0, none⟩) n cap) n xs) (hbase : base ≤ W.heap.size) (hm : n + 1 ≤ maxLen) (hl : (n + 1) * bytes ≤ 140737488355328)
    (h : ∀ g' cap' w', w'.ownsRow base e 1 (.slice (some ⟨g', 0, none⟩) (n + 1) cap') (n + 1) (xs ++ [y]) → ((g' = g ∧ cap' = cap ∧ W.grownBy w' (some g)) ∨ (W.heap.size ≤ g' ∧ W.grownBy w' none)) →
      wpList P ops Q rest (a.put o.dst (.slice (some ⟨g', 0, none⟩) (n + 1) cap')) w') :
    wpList P ops Q (o :: rest) a (W.alloc (.cells #[y] e)) := by
  obtain ⟨i0, hi, hzz⟩ := Option.map_eq_some_iff.1 hinfo
  simp only [Prod.mk.injEq] at hzz
  obtain ⟨hz0, hz1, hz2⟩ := hzz
  have HO1 := HO.alloc (.cells #[y] e)
  by_cases hroom : n + 1 ≤ cap
  · refine wpList_append_own_spare (W.alloc (.cells #[y] e)) hgd s x t ho base e i0 1 ht hi hz1 g n cap xs hs HO1 ⟨W.heap.size, 0, none⟩ 1 1 [y] hx rfl (cell_one_new W y e) (by simpa using h1) hroom ?_
    intro w' hown hg
    exact h g cap w' hown (.inl ⟨rfl, rfl, World.grownBy.trans (World.grownBy_alloc W _ _) hg⟩)
  · refine wpList_append_grows (W.alloc (.cells #[y] e)) hgd s x t ho e i0 z 1 bytes ht hi hz0 hz1 hz2 hz (by decide) (some ⟨g, 0, none⟩) n cap xs hs (by simp) (by simpa using HO1.1) (fun b hb => by cases hb; exact HO1.cells (g := g) rfl) ⟨W.heap.size, 0, none⟩ 1 1 [y] hx rfl (cell_one_new W y e) (by simpa using h1) (by omega) hm hl ?_
    intro v' w' hown hg
    obtain ⟨g', cap', rfl, hb, _⟩ := hown.form (by omega)
    have hsz : (W.alloc (.cells #[y] e)).heap.size = W.heap.size + 1 := by simp
    rw [hsz] at hb
    have hg2 : W.grownBy w' none := World.grownBy.trans (World.grownBy_alloc W _ _) hg
    refine h g' cap' w' (own_weaken hown (by rw [hsz]; omega)) (.inr ⟨by omega, hg2⟩)

theorem info9o : (Tryd.prog.info? 9).map (fun i => (i.zero, i.size, i.bytes)) = some (some (.string ⟨#[]⟩), 1, 16) := by kernel_rfl
/-- A row of one-celled things, made empty with room for n. -/
theorem make_room {P : Program} (t e : TypeId) (z : Value) (bytes n : Nat) (ht : P.underlying t = some (.slice e)) (hinfo : (P.info? e).map (fun i => (i.zero, i.size, i.bytes)) = some (some z, 1, bytes))
    (hb : bytes * n ≤ 281474976710656) (hn : n ≤ 9223372036854775807) (base : Nat) (w : World) (hbase : base ≤ w.heap.size) :
    (Instr.makeSlice t (.int .i64 0) (.int .i64 (n : Int))).run P w = .ok (.slice (some ⟨w.heap.size, 0, none⟩) 0 n) (w.alloc (.cells (madeCells z.cells n) e)) ∧
      (w.alloc (.cells (madeCells z.cells n) e)).ownsRow base e 1 (.slice (some ⟨w.heap.size, 0, none⟩) 0 n) 0 [] := by
  obtain ⟨i0, hi, hzz⟩ := Option.map_eq_some_iff.1 hinfo
  simp only [Prod.mk.injEq] at hzz
  obtain ⟨hz0, hz1, hz2⟩ := hzz
  have hb' : (i0.bytes : Int) * (n : Int) ≤ 281474976710656 := by
    have : ((bytes * n : Nat) : Int) ≤ 281474976710656 := by omega
    rwa [hz2, ← Int.natCast_mul]
  have h := run_make (P := P) w t e i0 z ht hi hz0 .i64 .i64 0 n (Int.le_refl _) (by omega) hb' (by omega)
  simp only [Int.toNat_zero, Int.toNat_natCast, hz1, Nat.mul_one] at h
  refine ⟨h, ?_⟩
  have := World.ownsRow_made (base := base) (e := e) (size := 1) w (madeCells z.cells n) n hbase (by simpa [maxLen] using hn) (by rw [size_madeCells, Nat.mul_one])
  exact this

theorem zero79 : Tryd.zeroCells79 = Array.replicate 257 (.slice none 0 0) := by kernel_rfl
/-- The cells of a byteStringReplacer that has no replacement yet. -/
noncomputable def repCells (g : Nat) : Array Value := (Tryd.zeroCells79.toList.set 256 (Value.slice (some ⟨g, 0, none⟩) 0 4)).toArray
theorem repCells_size (g : Nat) : (repCells g).size = 257 := by unfold repCells; rw [zero79, List.size_toArray, List.length_set, Array.length_toList, Array.size_replicate]
theorem repCells_at (g c : Nat) (hc : c < 256) : (repCells g)[c]? = some (.slice none 0 0) := by
  unfold repCells
  rw [zero79, List.getElem?_toArray, List.getElem?_set_ne (by omega), Array.getElem?_toList, Array.getElem?_replicate, if_pos (by omega)]
theorem repCells_last (g : Nat) : (repCells g)[256]? = some (Value.slice (some ⟨g, 0, none⟩) 0 4) := by
  unfold repCells
  rw [zero79, List.getElem?_toArray, List.getElem?_set_self (by rw [Array.length_toList, Array.size_replicate]; decide)]
theorem store_rep (W : World) (g : Nat) : (storeCells ⟨W.heap.size, 0, none⟩ (Tryd.zeroCells79.toList.set 256 (Value.slice (some ⟨g, 0, none⟩) 0 4))).run Tryd.prog (W.alloc (.cells Tryd.zeroCells79 79)) = .ok () (W.alloc (.cells (repCells g) 79)) :=
  run_storeCells_new (P := Tryd.prog) W 79 Tryd.zeroCells79 (repCells g) (by rw [repCells_size]; kernel_rfl) (by rw [repCells_size, zero79, Array.size_replicate]) (by
    rw [Array.all_eq_true]
    intro c hc
    rw [repCells_size] at hc
    by_cases h : c < 256
    · have := repCells_at g c h
      rw [Array.getElem?_eq_getElem (by rw [repCells_size]; omega)] at this
      injection this with this
      rw [this]; rfl
    · obtain rfl : c = 256 := by omega
      have := repCells_last g
      rw [Array.getElem?_eq_getElem (by rw [repCells_size]; omega)] at this
      injection this with this
      rw [this]; rfl)
theorem tab_rep (W : World) (g : Nat) : Tab (W.alloc (.cells (repCells g) 79)) W.heap.size (fun _ => .slice none 0 0) ∧
    (W.alloc (.cells (repCells g) 79)).cell? ⟨W.heap.size, 256, none⟩ = some (.slice (some ⟨g, 0, none⟩) 0 4) ∧ (W.alloc (.cells (repCells g) 79)).frozen? ⟨W.heap.size, 256, none⟩ = false := by
  have h := heap_alloc_last W (.cells (repCells g) 79)
  refine ⟨fun c hc => ⟨by rw [cell_of_row _ _ c _ 79 (0, 0) h]; exact repCells_at g c hc, ?_⟩, by rw [cell_of_row _ _ 256 _ 79 (0, 0) h]; exact repCells_last g, ?_⟩
  all_goals
    unfold World.frozen?
    rw [h]
    simp

/-- A slice that holds the bytes of s. -/
def BSl (w : World) (v : Value) (s : ByteArray) (B b g : Nat) : Prop := ∃ x c, v = .slice (some ⟨x, 0, none⟩) s.size c ∧ B ≤ x ∧ x ≠ b ∧ x ≠ g ∧ x < w.heap.size ∧ ∀ j (h : j < s.size), w.cell? ⟨x, j, none⟩ = some (.int .u8 s[j].toNat)

/-- Between the rounds: d of the four are laid, from behind. -/
structure Half (B b d : Nat) (kc : Nat → UInt8) (kv : Nat → ByteArray) (w : World) (f : Nat → Value) (g cap : Nat) : Prop where
  tab : Tab w b f
  row : w.cell? ⟨b, 256, none⟩ = some (.slice (some ⟨g, 0, none⟩) d cap)
  thaw : w.frozen? ⟨b, 256, none⟩ = false
  keys : w.ownsRow B 9 1 (.slice (some ⟨g, 0, none⟩) d cap) d ((List.range d).map fun k => Value.string ⟨#[kc (3 - k)]⟩)
  ne : g ≠ b
  done : ∀ k, k < d → BSl w (f (kc (3 - k)).toNat) (kv (3 - k)) B b g
  rest : ∀ c, c < 256 → (∀ k, k < d → c ≠ (kc (3 - k)).toNat) → f c = .slice none 0 0

theorem grown_setCell (w : World) (a : Addr) (v : Value) : w.grownBy (w.setCell a v) (some a.block) := by
  refine ⟨rfl, rfl, rfl, by simp [World.setCell], fun k hk hne => ?_⟩
  have h : k ≠ a.block := fun e => hne (by rw [e])
  unfold World.setCell
  simp only [Array.getElem?_modify]
  rw [if_neg (Ne.symm h)]
theorem grown_bytes (w : World) (e : TypeId) (s : ByteArray) : w.grownBy (Lib.bytesWorld w e s) none :=
  ⟨rfl, rfl, rfl, by rw [Lib.bytesWorld_size]; omega, fun k hk _ => Lib.bytesWorld_at_old w e s k hk⟩
theorem Tab.other {w : World} {b : Nat} {f : Nat → Value} (h : Tab w b f) (v : Value) : Tab (w.setCell ⟨b, 256, none⟩ v) b f := fun c hx => by
  rw [World.frozen?_setCell, World.cell?_setCell_other _ _ _ _ (fun e => by injection e; omega)]
  exact h c hx
theorem Tab.grown {w w' : World} {b : Nat} {f : Nat → Value} (h : Tab w b f) {row : Option Nat} (hg : w.grownBy w' row) (hb : b < w.heap.size) (hr : some b ≠ row) : Tab w' b f := fun c hx => by
  rw [hg.cell_far ⟨b, c, none⟩ hb hr, hg.frozen_far ⟨b, c, none⟩ hb hr]
  exact h c hx

theorem half_row5 {B b d g cap g' cap' : Nat} {kc : Nat → UInt8} {kv : Nat → ByteArray} {wr w5 : World} {f : Nat → Value} (o : Obj) (h : Half B b d kc kv wr f g cap) (hb : b < wr.heap.size)
    (hc : (g' = g ∧ cap' = cap ∧ (wr.alloc o).grownBy w5 (some g)) ∨ ((wr.alloc o).heap.size ≤ g' ∧ (wr.alloc o).grownBy w5 none)) :
    w5.cell? ⟨b, 256, none⟩ = some (.slice (some ⟨g, 0, none⟩) d cap) ∧ w5.frozen? ⟨b, 256, none⟩ = false := by
  have hgW : wr.grownBy (wr.alloc o) none := World.grownBy_alloc wr o none
  have hbg : b ≠ g := Ne.symm h.ne
  have hs : (wr.alloc o).heap.size = wr.heap.size + 1 := by simp
  obtain ⟨row, hg5, hrow⟩ : ∃ row, (wr.alloc o).grownBy w5 row ∧ some b ≠ row := by
    rcases hc with ⟨rfl, _, hg⟩ | ⟨hle, hg⟩
    · exact ⟨_, hg, fun e => hbg (by injection e)⟩
    · exact ⟨none, hg, fun e => by simp at e⟩
  rw [hg5.cell_far ⟨b, 256, none⟩ (by show b < _; omega) hrow, hgW.cell_far ⟨b, 256, none⟩ hb (fun e => by cases e), hg5.frozen_far ⟨b, 256, none⟩ (by show b < _; omega) hrow, hgW.frozen_far ⟨b, 256, none⟩ hb (fun e => by cases e)]
  exact ⟨h.row, h.thaw⟩

theorem half_below {B b d g cap g' cap' : Nat} {kc : Nat → UInt8} {kv : Nat → ByteArray} {w0 wr w5 : World} {f : Nat → Value} (o : Obj) (hB : Below B w0 wr) (h : Half B b d kc kv wr f g cap) (hBb : B ≤ b) (hb : b < wr.heap.size)
    (hc : (g' = g ∧ cap' = cap ∧ (wr.alloc o).grownBy w5 (some g)) ∨ ((wr.alloc o).heap.size ≤ g' ∧ (wr.alloc o).grownBy w5 none)) (s : ByteArray) (u1 u2 : Value) (c : Nat) :
    Below B w0 ((Lib.bytesWorld (w5.setCell ⟨b, 256, none⟩ u1) 5 s).setCell ⟨b, c, none⟩ u2) := by
  have hs : (wr.alloc o).heap.size = wr.heap.size + 1 := by simp
  have h1 : Below B w0 (wr.alloc o) := hB.alloc (by omega) o
  have h2 : Below B w0 w5 ∧ B ≤ w5.heap.size := by
    rcases hc with ⟨rfl, _, hg⟩ | ⟨hle, hg⟩
    · exact ⟨h1.grown hg (by omega) (fun k e => by injection e with e; subst e; exact (h.keys.lt _ rfl).1), Nat.le_trans (by omega) hg.size⟩
    · exact ⟨h1.grown hg (by omega) (fun k e => by simp at e), Nat.le_trans (by omega) hg.size⟩
  have h3 : Below B w0 (w5.setCell ⟨b, 256, none⟩ u1) := h2.1.setCell hBb _
  have h4 : Below B w0 (Lib.bytesWorld (w5.setCell ⟨b, 256, none⟩ u1) 5 s) := h3.grown (grown_bytes _ 5 s) (by simpa using h2.2) (fun k e => by simp at e)
  exact h4.setCell hBb _

theorem half_tab7 {B b d g cap g' cap' : Nat} {kc : Nat → UInt8} {kv : Nat → ByteArray} {wr w5 : World} {f : Nat → Value} (o : Obj) (h : Half B b d kc kv wr f g cap) (hb : b < wr.heap.size)
    (hc : (g' = g ∧ cap' = cap ∧ (wr.alloc o).grownBy w5 (some g)) ∨ ((wr.alloc o).heap.size ≤ g' ∧ (wr.alloc o).grownBy w5 none)) (s : ByteArray) (u1 : Value) (c : Nat) (hc2 : c < 256) :
    (Lib.bytesWorld (w5.setCell ⟨b, 256, none⟩ u1) 5 s).cell? ⟨b, c, none⟩ = some (f c) ∧ (Lib.bytesWorld (w5.setCell ⟨b, 256, none⟩ u1) 5 s).frozen? ⟨b, c, none⟩ = false := by
  have hs : (wr.alloc o).heap.size = wr.heap.size + 1 := by simp
  have hbg : b ≠ g := Ne.symm h.ne
  obtain ⟨row, hg5, hrow⟩ : ∃ row, (wr.alloc o).grownBy w5 row ∧ some b ≠ row := by
    rcases hc with ⟨rfl, _, hg⟩ | ⟨hle, hg⟩
    · exact ⟨_, hg, fun e => hbg (by injection e)⟩
    · exact ⟨none, hg, fun e => by simp at e⟩
  have h5s := hg5.size
  have ht5 : Tab w5 b f := (h.tab.grown (World.grownBy_alloc wr o none) hb (fun e => by cases e)).grown hg5 (by omega) hrow
  exact ((ht5.other u1).grown (grown_bytes _ 5 s) (by simp [World.setCell]; omega) (fun e => by cases e)) c hc2

theorem half_step {B b d g cap g' cap' : Nat} {kc : Nat → UInt8} {kv : Nat → ByteArray} {wr W w5 : World} {f : Nat → Value} (o : Obj) (h : Half B b d kc kv wr f g cap) (hBb : B ≤ b) (hb : b < wr.heap.size) (hd : d < 4)
    (hi : ∀ m n, m < 4 → n < 4 → m ≠ n → (kc m).toNat ≠ (kc n).toNat) (hW : W = wr.alloc o)
    (ho : w5.ownsRow B 9 1 (.slice (some ⟨g', 0, none⟩) (d + 1) cap') (d + 1) (((List.range d).map fun k => Value.string ⟨#[kc (3 - k)]⟩) ++ [.string ⟨#[kc (3 - d)]⟩]))
    (hc : (g' = g ∧ cap' = cap ∧ W.grownBy w5 (some g)) ∨ (W.heap.size ≤ g' ∧ W.grownBy w5 none)) (c : Nat) :
    Half B b (d + 1) kc kv ((Lib.bytesWorld (w5.setCell ⟨b, 256, none⟩ (.slice (some ⟨g', 0, none⟩) (d + 1) cap')) 5 (kv (3 - d))).setCell ⟨b, (kc (3 - d)).toNat, none⟩ (.slice (some ⟨w5.heap.size, 0, none⟩) (kv (3 - d)).size c))
      (upd f (kc (3 - d)).toNat (.slice (some ⟨w5.heap.size, 0, none⟩) (kv (3 - d)).size c)) g' cap' := by
  have hWs : W.heap.size = wr.heap.size + 1 := by rw [hW]; simp
  have hgW : wr.grownBy W none := by rw [hW]; exact World.grownBy_alloc wr o none
  obtain ⟨row, hg5, hrow, hg'⟩ : ∃ row, W.grownBy w5 row ∧ (∀ x, x < wr.heap.size → x ≠ g → some x ≠ row) ∧ (∀ x, x < wr.heap.size → x ≠ g → x ≠ g') := by
    rcases hc with ⟨rfl, _, hg⟩ | ⟨hle, hg⟩
    · exact ⟨_, hg, fun x _ h e => h (by injection e), fun x _ h => h⟩
    · exact ⟨none, hg, fun _ _ _ h => (by simp at h), fun x h _ => by omega⟩
  have h5s : W.heap.size ≤ w5.heap.size := hg5.size
  have hgl : g' < w5.heap.size := (ho.lt g' rfl).2
  obtain ⟨w6, hw6⟩ : ∃ w6, w6 = w5.setCell ⟨b, 256, none⟩ (.slice (some ⟨g', 0, none⟩) (d + 1) cap') := ⟨_, rfl⟩
  have hg6 : w5.grownBy w6 (some b) := by rw [hw6]; exact grown_setCell _ _ _
  have h6s : w6.heap.size = w5.heap.size := by rw [hw6]; simp
  obtain ⟨w7, hw7⟩ : ∃ w7, w7 = Lib.bytesWorld w6 5 (kv (3 - d)) := ⟨_, rfl⟩
  have hg7 : w6.grownBy w7 none := by rw [hw7]; exact grown_bytes _ _ _
  have h7s : w7.heap.size = w6.heap.size + 1 := by rw [hw7, Lib.bytesWorld_size]
  obtain ⟨w8, hw8⟩ : ∃ w8, w8 = w7.setCell ⟨b, (kc (3 - d)).toNat, none⟩ (.slice (some ⟨w5.heap.size, 0, none⟩) (kv (3 - d)).size c) := ⟨_, rfl⟩
  have hg8 : w7.grownBy w8 (some b) := by rw [hw8]; exact grown_setCell _ _ _
  have h8s : w8.heap.size = w7.heap.size := by rw [hw8]; simp
  rw [← hw6, ← hw7, ← hw8]
  have hbg : b ≠ g := Ne.symm h.ne
  have far : ∀ a : Addr, a.block < wr.heap.size → a.block ≠ b → a.block ≠ g → w8.cell? a = wr.cell? a := fun a h1 h2 h3 => by
    rw [hg8.cell_far a (by omega) (fun e => h2 (by injection e)), hg7.cell_far a (by omega) (fun e => by cases e), hg6.cell_far a (by omega) (fun e => h2 (by injection e)), hg5.cell_far a (by omega) (hrow _ h1 h3), hgW.cell_far a h1 (fun e => by cases e)]
  have ht5 : Tab w5 b f := (h.tab.grown hgW hb (fun e => by cases e)).grown hg5 (by omega) (hrow b hb hbg)
  have ht7 : Tab w7 b f := (by rw [hw6]; exact ht5.other _ : Tab w6 b f).grown hg7 (by omega) (fun e => by cases e)
  have hr5 : w5.cell? ⟨b, 256, none⟩ = some (.slice (some ⟨g, 0, none⟩) d cap) := by
    rw [hg5.cell_far ⟨b, 256, none⟩ (by show b < _; omega) (hrow b hb hbg), hgW.cell_far ⟨b, 256, none⟩ hb (fun e => by cases e)]
    exact h.row
  have hz5 : w5.frozen? ⟨b, 256, none⟩ = false := by
    rw [hg5.frozen_far ⟨b, 256, none⟩ (by show b < _; omega) (hrow b hb hbg), hgW.frozen_far ⟨b, 256, none⟩ hb (fun e => by cases e)]
    exact h.thaw
  have hlt := (kc (3 - d)).toNat_lt
  refine ⟨by rw [hw8]; exact ht7.set _ _ hlt, ?_, ?_, ?_, Ne.symm (hg' b hb hbg), ?_, ?_⟩
  · rw [hw8, World.cell?_setCell_other _ _ _ _ (fun e => by injection e; omega), hg7.cell_far ⟨b, 256, none⟩ (by show b < _; omega) (fun e => by cases e), hw6]
    exact World.cell?_setCell_same _ _ _ hr5
  · rw [hw8, World.frozen?_setCell, hg7.frozen_far ⟨b, 256, none⟩ (by show b < _; omega) (fun e => by cases e), hw6, World.frozen?_setCell]
    exact hz5
  · rw [List.range_succ, List.map_append, List.map_singleton]
    have hne : (Value.slice (some ⟨g', 0, none⟩) (d + 1) cap').ownBlock ≠ some b := fun e => hg' b hb hbg (by injection e with e; exact e.symm)
    have h6 : w6.ownsRow B 9 1 (.slice (some ⟨g', 0, none⟩) (d + 1) cap') (d + 1) (((List.range d).map fun k => Value.string ⟨#[kc (3 - k)]⟩) ++ [.string ⟨#[kc (3 - d)]⟩]) := by rw [hw6]; exact ownsRow_setCell_other ho hne _
    have h7 := h6.kept hg7 (.inr (fun e => by cases e))
    rw [hw8]
    exact ownsRow_setCell_other h7 hne _
  · intro k hk
    by_cases hkd : k = d
    · subst hkd
      refine ⟨w5.heap.size, c, by unfold upd; rw [if_pos rfl], ?_, by omega, by omega, by omega, fun j hj => ?_⟩
      · have := (ho.lt g' rfl).1
        omega
      · rw [hw8, World.cell?_setCell_other _ _ _ _ (fun e => by injection e; omega), hw7, ← h6s, Lib.bytesWorld_cell _ _ _ _ hj]
        have hj2 : j < (kv (3 - k)).data.toList.length := by simpa using hj
        rw [List.getD_eq_getElem?_getD, List.getElem?_eq_getElem hj2]
        simp [ByteArray.getElem_eq_getElem_data]
    · obtain ⟨x, cx, hv, h1, h2, h3, h4, h5⟩ := h.done k (by omega)
      refine ⟨x, cx, by unfold upd; rw [if_neg (hi _ _ (by omega) (by omega) (by omega))]; exact hv, h1, h2, hg' x h4 h3, by omega, fun j hj => ?_⟩
      rw [far ⟨x, j, none⟩ h4 h2 h3]
      exact h5 j hj
  · intro c' hc' hn
    unfold upd
    rw [if_neg (hn d (by omega))]
    exact h.rest c' hc' (fun k hk => hn k (by omega))

set_option maxHeartbeats 4000000 in
set_option maxRecDepth 100000 in
theorem build_strings (r o cap : Nat) (kc : Nat → UInt8) (kv : Nat → ByteArray) (w : World) (hr : w.cell? ⟨r, 4, none⟩ = some (.slice (some ⟨o, 0, none⟩) 8 cap))
    (ho : Old w o kc kv) (h0 : ∃ m, m < 4 ∧ (kv m).size ≠ 1)
    (hi : ∀ m n, m < 4 → n < 4 → m ≠ n → (kc m).toNat ≠ (kc n).toNat) :
    Calls Tryd.prog 21 #[.pointer (some ⟨r, 0, none⟩)] w fun e w' => ∃ b f g cap2, e = .returned (.iface 80 (.pointer (some ⟨b, 0, none⟩))) ∧ w.heap.size ≤ b ∧ Half w.heap.size b 4 kc kv w' f g cap2 ∧ Below w.heap.size w w' := by
  have HO := Aside0.mk ho
  have heq : ∀ w : World, (binOp .eql 55 (.slice none 0 0) (.slice none 0 0)).run Tryd.prog w = .ok (.bool true) w := fun _ => rfl
  have H1 := Aside0.mk h0
  have HI := Aside0.mk hi
  clear ho h0 hi
  go_enter Tryd.func21, Tryd.ntmps21
  go_wp2_with (fail)
  go_loopg [4, 5] 4 (fun g v4 v5 wx => ∃ (m : Nat) (b : Bool), m + g = 4 ∧ v5 = .int .i64 (2 * m : Nat) ∧ v4 = .bool b ∧ wx = w ∧ Aside0 (b = true → ∀ k, k < m → (kv k).size = 1))
  case atStart => exact ⟨0, true, rfl, rfl, rfl, rfl, ⟨fun _ _ h => by omega⟩⟩
  case round =>
    obtain ⟨m, b, hm, rfl, rfl, rfl, HB⟩ := hrel
    by_cases hm4 : m < 4
    · obtain ⟨hx, hy⟩ := HO.out m hm4
      have q1 : ((2 * m : Nat) : Int) < 8 := by omega
      have q2 : ((2 * m : Nat) : Int) + 1 < 8 := by omega
      by_cases hs : (kv m).size = 1
      · have HS := Aside0.mk hs
        have q3 : (((kv m).size : Int) != 1) = false := by rw [hs]; rfl
        clear hs
        go_wp2_with (fail)
        go_roundg (4 - (m + 1))
        case measure => omega
        case rel => exact ⟨m + 1, b, by omega, by simp; omega, rfl, rfl, ⟨fun hb k hk => by rcases Nat.lt_succ_iff_lt_or_eq.1 hk with h | h; exact HB.out hb k h; rw [h]; exact HS.out⟩⟩
      · have HS := Aside0.mk hs
        have q3 : (((kv m).size : Int) != 1) = true := by rw [bne_iff_ne]; omega
        clear hs
        go_wp2_with (fail)
        go_roundg (4 - (m + 1))
        case measure => omega
        case rel => exact ⟨m + 1, false, by omega, by simp; omega, rfl, rfl, ⟨fun hb => by cases hb⟩⟩
    · obtain rfl : m = 4 := by omega
      obtain rfl : b = false := by
        cases b with
        | false => rfl
        | true => obtain ⟨m, h1, h2⟩ := H1.out; exact absurd (HB.out rfl m h1) h2
      clear HB H1
      obtain ⟨hmk, hown⟩ := make_room (P := Tryd.prog) 31 9 (.string ⟨#[]⟩) 16 4 Tryd.underlying31 info9o (by decide) (by decide) wr.heap.size wr (Nat.le_refl _)
      have hmk : (Instr.makeSlice 31 (.int .i64 0) (.int .i64 4)).run Tryd.prog wr = .ok (.slice (some ⟨wr.heap.size, 0, none⟩) 0 4) (wr.alloc (.cells (madeCells #[Value.string ⟨#[]⟩] 4) 9)) := hmk
      have HR := Aside0.mk (show (wr.alloc (.cells (madeCells #[Value.string ⟨#[]⟩] 4) 9)).ownsRow _ _ _ _ _ _ from hown)
      clear hown
      obtain ⟨W1, hW1⟩ : ∃ W1, W1 = wr.alloc (.cells (madeCells #[Value.string ⟨#[]⟩] 4) 9) := ⟨_, rfl⟩
      have hs1 : W1.heap.size = wr.heap.size + 1 := by rw [hW1]; simp
      have hst := store_rep W1 wr.heap.size
      have HB := Aside0.mk (show Below wr.heap.size wr W1 by rw [hW1]; exact below_alloc (Below.refl _ wr) _)
      rw [← hW1] at hmk HR
      rw [hs1] at hst
      have HT0 := Aside0.mk (tab_rep W1 wr.heap.size)
      rw [hs1] at HT0
      have HW := Aside0.mk hW1
      clear hW1
      go_wp2_with (fail)
      obtain ⟨wo, rfl⟩ : ∃ wo, wo = wr := ⟨_, rfl⟩
      have HH := Aside0.mk (show Half wo.heap.size (wo.heap.size + 1) 0 kc kv (W1.alloc (.cells (repCells wo.heap.size) 79)) (fun _ => .slice none 0 0) wo.heap.size 4 from
        ⟨HT0.out.1, HT0.out.2.1, HT0.out.2.2, by simpa using HR.out.alloc _, by omega, fun k hk => by omega, fun _ _ _ => rfl⟩)
      have HB1 := Aside0.mk (show Below wo.heap.size wo (W1.alloc (.cells (repCells wo.heap.size) 79)) from below_alloc HB.out _)
      clear HT0 hst hmk HR HB HW hs1
      go_loopg [12, 13, 14] 4 (fun g v12 _ _ wx => ∃ (d : Nat) (i : Int) (f : Nat → Value) (g2 cap2 : Nat), d + g = 4 ∧ i = 6 - 2 * (d : Int) ∧ v12 = .int .i64 i ∧ Aside0 (Half wo.heap.size (wo.heap.size + 1) d kc kv wx f g2 cap2) ∧ Aside0 (Below wo.heap.size wo wx))
      case atStart => exact ⟨0, 6, _, _, _, rfl, rfl, rfl, HH, HB1⟩
      case round =>
        clear HH HB1
        obtain ⟨d, i, f, g2, cap2, hd, hi, rfl, HH, HB⟩ := hrel
        by_cases hd4 : d < 4
        · obtain ⟨m, hm⟩ : ∃ m, m = 3 - d := ⟨_, rfl⟩
          obtain rfl : i = ((2 * m : Nat) : Int) := by omega
          obtain ⟨hx, hy⟩ := HO.out m (by omega)
          have hx := pw_cell_below HB.out hx
          have hy := pw_cell_below HB.out hy
          obtain ⟨hc, hz⟩ := HH.out.tab (kc m).toNat (kc m).toNat_lt
          have hc0 := HH.out.rest (kc m).toNat (kc m).toNat_lt (fun k hk => HI.out m (3 - k) (by omega) (by omega) (by omega))
          rw [hc0] at hc
          have hrow := HH.out.row
          have q0 : (0 : Int) ≤ ((2 * m : Nat) : Int) := by omega
          have q1 : ((2 * m : Nat) : Int) < 8 := by omega
          have q2 : ((2 * m : Nat) : Int) + 1 < 8 := by omega
          have q3 : (((kc m).toNat : Nat) : Int) < 256 := by have := (kc m).toNat_lt; omega
          have q4 : (kc m).toNat < 256 := (kc m).toNat_lt
          have q5 : ∀ h : 0 < (⟨#[kc m]⟩ : ByteArray).size, (⟨#[kc m]⟩ : ByteArray)[0]'h = kc m := fun _ => rfl
          have HM := Aside0.mk hm
          have hcv : ∀ w : World, (convert 55 9 (.slice (some ⟨w.heap.size, 0, none⟩) 1 1)).run Tryd.prog (w.alloc (.cells #[.int .u8 (kc m).toNat] 5)) = .ok (.string ⟨#[kc m]⟩) (w.alloc (.cells #[.int .u8 (kc m).toNat] 5)) := fun w =>
            run_convert_bytes_back _ 55 9 5 ⟨w.heap.size, 0, none⟩ 1 [kc m] Tryd.underlying55 Tryd.underlying5 Tryd.underlying9 (fun j hj => by
              obtain rfl : j = 0 := by simpa using hj
              simp [Addr.add])
          have hbw : wo.heap.size + 1 < wr.heap.size := World.block_lt_of_cell? _ _ hrow
          have hd9 : (d + 1) * 16 ≤ 140737488355328 := by omega
          have hd8 : d + 1 ≤ maxLen := by unfold maxLen; omega
          have HD := Aside0.mk (And.intro hbw (And.intro hd8 hd9))
          clear hm hi hc0 hbw hd8 hd9
          go_upto_region 34 with ((with_reducible refine gate_builtin (b := .append) (xs := #[.tmp 119, .tmp 123]) rfl ?_); at_builtin; refine append_one rfl (.tmp 119) (.tmp 123) 31 9 (.string ⟨#[]⟩) 16 rfl Tryd.underlying31 info9o rfl wo.heap.size g2 d cap2 _ (.string ⟨#[kc m]⟩) rfl (by show Value.slice (some ⟨wr.heap.size + 1, 0, none⟩) 1 1 = _; simp) rfl (HH.out.keys.alloc _) (Nat.le_trans HB.out.size (by simp)) HD.out.2.1 HD.out.2.2 ?_; intro g' cap' w5 ho hcase; obtain ⟨hrow5, hz5⟩ := half_row5 _ HH.out HD.out.1 hcase; have HO5 := Aside0.mk ho; have HC5 := Aside0.mk hcase; clear ho hcase)
          clear hrow hcv
          have HS := Aside0.mk (fun c => half_step _ HH.out (Nat.le_succ _) HD.out.1 hd4 HI.out rfl (by rw [← HM.out]; exact HO5.out) HC5.out c)
          have HBw := Aside0.mk (fun u2 => half_below _ HB.out HH.out (Nat.le_succ _) HD.out.1 HC5.out (kv m) (.slice (some ⟨g', 0, none⟩) (d + 1) cap') u2 (kc m).toNat)
          obtain ⟨w6, hw6⟩ : ∃ w6, w6 = w5.setCell ⟨wo.heap.size + 1, 256, none⟩ (.slice (some ⟨g', 0, none⟩) (d + 1) cap') := ⟨_, rfl⟩
          have h6s : w6.heap.size = w5.heap.size := by rw [hw6]; simp
          rw [← hw6] at HS HBw ⊢
          rw [← HM.out] at HS
          have hcv := Lib.run_convert_string_bytes (P := Tryd.prog) w6 9 55 5 (kv m) Tryd.underlying9 Tryd.underlying55 Tryd.underlying5
          have hT7 := half_tab7 _ HH.out HD.out.1 HC5.out (kv m) (.slice (some ⟨g', 0, none⟩) (d + 1) cap') (kc m).toNat q4
          rw [← hw6] at hT7
          obtain ⟨ht7, hz7⟩ := hT7
          have H6 := Aside0.mk h6s
          clear hx hy hc hz hrow5 hz5 hw6 h6s HH HB HO5 HC5
          go_wp2_with (fail)
          go_roundg (4 - (d + 1))
          case measure => omega
          case rel => exact ⟨d + 1, 2 * (m : Int) - 2, _, _, _, by omega, by have := HM.out; omega, by first | rfl | simp, ⟨by rw [H6.out]; exact HS.out _⟩, ⟨HBw.out _⟩⟩
        · obtain rfl : d = 4 := by omega
          obtain rfl : i = -2 := by omega
          go_wp2_with (fail)
          go_ret
          exact ⟨_, _, _, _, rfl, Nat.le_succ _, HH.out, HB.out⟩
end Go.Proofs.YtjlgfcgdagikgaaDoor.repl
