/- What a Say says: the words of a kind, each letter N, I, B, O by its number in decimal digits. -/
import Derived.Test.YtjlgfcgdagikgaaDoorReplace
import Derived.Lib.ItoaLen
namespace Go.Proofs.YtjlgfcgdagikgaaDoor.says
open Go.RowKit
open Go.Proofs.YtjlgfcgdagikgaaDoor.repl
open Go.Proofs.YtjlgfcgdagikgaaDoorW.PrintWords Go.Proofs.YtjlgfcgdagikgaaDoorW.PrintLast Go.Proofs.YtjlgfcgdagikgaaDoorW.PrintMore
set_option linter.unusedVariables false

def kc4 : Nat → UInt8 | 0 => 78 | 1 => 73 | 2 => 66 | _ => 79
def kv4 (a b c d : ByteArray) : Nat → ByteArray | 0 => a | 1 => b | 2 => c | _ => d
theorem kc4_ne (m n : Nat) (hm : m < 4) (hn : n < 4) (h : m ≠ n) : (kc4 m).toNat ≠ (kc4 n).toNat := by
  have h0 : ∀ a b : Fin 4, a ≠ b → (kc4 a.1).toNat ≠ (kc4 b.1).toNat := by decide
  exact h0 ⟨m, hm⟩ ⟨n, hn⟩ (fun e => h (by injection e))
def fits (n : Int) : Prop := -9223372036854775808 ≤ n ∧ n ≤ 9223372036854775807
def itB (n : Int) : ByteArray := ⟨(Lib.itoa n).toArray⟩
theorem itB_size (n : Int) (h0 : -9223372036854775808 ≤ n) (h1 : n ≤ 9223372036854775807) : 1 ≤ (itB n).size ∧ (itB n).size ≤ 100 := by
  have h2 := Lib.itoa_length_le n h0 h1
  have h3 : 1 ≤ (Lib.itoa n).length := by
    unfold Lib.itoa
    split
    · simp
    · rw [Lib.decDigits_length]; exact Lib.nDigits_pos _
  have : (itB n).size = (Lib.itoa n).length := by simp [itB, ByteArray.size]
  omega

abbrev Tabs (w : World) : Prop := Lib.TabIs Tryd.prog w "internal/strconv.uint64pow10" .u64 Lib.pow10Tab
theorem tab_below {w w' : World} (h : Tabs w) (hb : Below w.heap.size w w') : Tabs w' := by
  have hg : Tryd.prog.globalNamed "internal/strconv.uint64pow10" = some 1 := by kernel_rfl
  unfold Tabs Lib.TabIs World.var? at h ⊢
  rw [hg] at h ⊢
  simp only [Option.bind_some] at h ⊢
  have hlt : 1 < w.heap.size := by
    rcases Nat.lt_or_ge 1 w.heap.size with h' | h'
    · exact h'
    · rw [Array.getElem?_eq_none h'] at h; cases h
  rw [hb.block 1 hlt]
  exact h
theorem below_grow (w : World) (k : Nat) (os : Array Obj) : Below w.heap.size w (Sort.grow (w.drewN k) os) := by
  refine ⟨rfl, rfl, rfl, by simp [Sort.grow, World.drewN], fun j hj => ?_⟩
  simp only [Sort.grow, World.drewN]
  rw [Array.getElem?_append_left hj]
theorem itoa_any (n : Int) (h0 : -9223372036854775808 ≤ n) (h1 : n ≤ 9223372036854775807) (w : World) (ht : Tabs w) :
    Calls Tryd.prog 11 #[.int .i64 n] w fun e w' => e = .returned (.string (itB n)) ∧ Below w.heap.size w w' :=
  (Tryd.strconv_Itoa n h0 h1 w ht).mono fun e w' ⟨he, k, os, hw⟩ => ⟨he, by rw [hw]; exact below_grow w k os⟩

/-- The row of old and new strings, as the caller lays it. -/
theorem old4 (w : World) (a b c d : ByteArray) : Old (w.alloc (.cells #[Value.string ⟨#[78]⟩, Value.string a, Value.string ⟨#[73]⟩, Value.string b, Value.string ⟨#[66]⟩, Value.string c, Value.string ⟨#[79]⟩, Value.string d] 9)) w.heap.size kc4 (kv4 a b c d) := by
  have h := heap_alloc_last w (.cells #[Value.string ⟨#[78]⟩, Value.string a, Value.string ⟨#[73]⟩, Value.string b, Value.string ⟨#[66]⟩, Value.string c, Value.string ⟨#[79]⟩, Value.string d] 9)
  intro m hm
  match m, hm with
  | 0, _ => exact ⟨cell_of_row _ _ 0 _ 9 (0, 0) h, cell_of_row _ _ 1 _ 9 (0, 0) h⟩
  | 1, _ => exact ⟨cell_of_row _ _ 2 _ 9 (0, 0) h, cell_of_row _ _ 3 _ 9 (0, 0) h⟩
  | 2, _ => exact ⟨cell_of_row _ _ 4 _ 9 (0, 0) h, cell_of_row _ _ 5 _ 9 (0, 0) h⟩
  | 3, _ => exact ⟨cell_of_row _ _ 6 _ 9 (0, 0) h, cell_of_row _ _ 7 _ 9 (0, 0) h⟩

/-- The words, with the numbers in. -/
def said (t : ByteArray) (a b c d : Int) : ByteArray := ⟨(rep (repOf kc4 (kv4 (itB a) (itB b) (itB c) (itB d))) t.data.toList).toArray⟩

theorem kv4_size (a b c d : Int) (ha : -9223372036854775808 ≤ a ∧ a ≤ 9223372036854775807) (hb : -9223372036854775808 ≤ b ∧ b ≤ 9223372036854775807) (hc : -9223372036854775808 ≤ c ∧ c ≤ 9223372036854775807) (hd : -9223372036854775808 ≤ d ∧ d ≤ 9223372036854775807) :
    ∀ m, m < 4 → 1 ≤ (kv4 (itB a) (itB b) (itB c) (itB d) m).size ∧ (kv4 (itB a) (itB b) (itB c) (itB d) m).size ≤ 100 := by
  intro m hm
  match m, hm with
  | 0, _ => exact itB_size a ha.1 ha.2
  | 1, _ => exact itB_size b hb.1 hb.2
  | 2, _ => exact itB_size c hc.1 hc.2
  | 3, _ => exact itB_size d hd.1 hd.2

/-- The four numbers of a struct of five that lies at the head of block x. -/
def Five (w : World) (x : Nat) (k a b c d : Int) : Prop :=
  w.cell? ⟨x, 0, none⟩ = some (.int .i64 k) ∧ w.cell? ⟨x, 1, none⟩ = some (.int .i64 a) ∧ w.cell? ⟨x, 2, none⟩ = some (.int .i64 b) ∧ w.cell? ⟨x, 3, none⟩ = some (.int .i64 c) ∧ w.cell? ⟨x, 4, none⟩ = some (.int .i64 d)
theorem five_new (w : World) (k a b c d : Int) (t : TypeId) : Five (w.alloc (.cells #[.int .i64 k, .int .i64 a, .int .i64 b, .int .i64 c, .int .i64 d] t)) w.heap.size k a b c d := by
  have h := heap_alloc_last w (.cells #[Value.int .i64 k, .int .i64 a, .int .i64 b, .int .i64 c, .int .i64 d] t)
  exact ⟨cell_of_row _ _ 0 _ t (0, 0) h, cell_of_row _ _ 1 _ t (0, 0) h, cell_of_row _ _ 2 _ t (0, 0) h, cell_of_row _ _ 3 _ t (0, 0) h, cell_of_row _ _ 4 _ t (0, 0) h⟩

/-- What stands while the words are made: the four numbers' cells, and nothing old has changed. -/
abbrev Stand (w1 : World) (x : Nat) (a b c d : Int) (w' : World) : Prop :=
  w'.cell? ⟨x, 1, none⟩ = some (.int .i64 a) ∧ w'.cell? ⟨x, 2, none⟩ = some (.int .i64 b) ∧ w'.cell? ⟨x, 3, none⟩ = some (.int .i64 c) ∧ w'.cell? ⟨x, 4, none⟩ = some (.int .i64 d) ∧ Aside0 (Below w1.heap.size w1 w')
theorem below_alloc_le {B : Nat} {w : World} (hB : B ≤ w.heap.size) (o : Obj) : Below B w (w.alloc o) := (below_alloc (Below.refl _ w) o).mono hB
theorem stand_start {w1 : World} {x : Nat} {k a b c d : Int} (h : Five w1 x k a b c d) : Stand w1 x a b c d w1.drew := ⟨h.2.1, h.2.2.1, h.2.2.2.1, h.2.2.2.2, ⟨below_drew (Below.refl _ _)⟩⟩
theorem stand_below {w1 w w' : World} {x : Nat} {a b c d : Int} {B : Nat} (hx : x < w1.heap.size) (hB : w1.heap.size ≤ B) (hb : Below B w w') (h : Stand w1 x a b c d w) : Stand w1 x a b c d w' := by
  have e : ∀ j, w'.cell? ⟨x, j, none⟩ = w.cell? ⟨x, j, none⟩ := fun j => hb.cell (by show x < B; omega)
  obtain ⟨h1, h2, h3, h4, h5⟩ := h
  exact ⟨by rw [e]; exact h1, by rw [e]; exact h2, by rw [e]; exact h3, by rw [e]; exact h4, ⟨h5.out.trans (hb.mono hB)⟩⟩
theorem stand_alloc {w1 w : World} {x : Nat} {a b c d : Int} (hx : x < w1.heap.size) (o : Obj) (h : Stand w1 x a b c d w) : Stand w1 x a b c d (w.alloc o) :=
  stand_below hx (Nat.le_refl _) (below_alloc_le (h.2.2.2.2.out.size) o) h
end Go.Proofs.YtjlgfcgdagikgaaDoor.says
