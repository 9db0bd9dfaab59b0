/- strings.NewReplacer and (*strings.Replacer).Replace at four old strings of one byte each. -/
import Derived.Test.YtjlgfcgdagikgaaDoorReplw
namespace Go.Proofs.YtjlgfcgdagikgaaDoor.repl
open Go.RowKit
open Go.Proofs.YtjlgfcgdagikgaaDoorW.PrintWords Go.Proofs.YtjlgfcgdagikgaaDoorW.PrintLast Go.Proofs.YtjlgfcgdagikgaaDoorW.PrintMore
set_option linter.unusedVariables false

/-- A Replacer that has not been used. -/
structure Fresh (r o cap : Nat) (kc : Nat → UInt8) (kv : Nat → ByteArray) (w : World) : Prop where
  c0 : w.cell? ⟨r, 0, none⟩ = some (.int .u32 0)
  c1 : w.cell? ⟨r, 1, none⟩ = some (.int .i32 0)
  c3 : ∃ v, w.cell? ⟨r, 3, none⟩ = some v
  c4 : w.cell? ⟨r, 4, none⟩ = some (.slice (some ⟨o, 0, none⟩) 8 cap)
  z : ∀ j, w.frozen? ⟨r, j, none⟩ = false
  old : Old w o kc kv
  ne : o ≠ r

set_option maxRecDepth 100000 in
set_option maxHeartbeats 1600000 in
theorem build_once (r : Nat) (Good : World → TypeId → Nat → Prop) (w : World) (v3 v4 : Value) (hrl : r < w.heap.size)
    (h3 : w.cell? ⟨r, 3, none⟩ = some v3) (h4 : w.cell? ⟨r, 4, none⟩ = some v4) (z : ∀ j, w.frozen? ⟨r, j, none⟩ = false)
    (hb : Calls Tryd.prog 21 #[.pointer (some ⟨r, 0, none⟩)] w fun e w1 => ∃ t b, e = .returned (.iface t (.pointer (some ⟨b, 0, none⟩))) ∧ Good w1 t b ∧ Below w.heap.size w w1) :
    Calls Tryd.prog 17 #[.pointer (some ⟨r, 0, none⟩)] w fun e w' => e = .returned (.tuple #[]) ∧ ∃ w1 t b, Good w1 t b ∧ Below w.heap.size w w1 ∧ w' = (w1.setCell ⟨r, 3, none⟩ (.iface t (.pointer (some ⟨b, 0, none⟩)))).setCell ⟨r, 4, none⟩ (.slice none 0 0) := by
  go_enter Tryd.func17, Tryd.ntmps17
  go_wp2_with (go_at_call 21; refine hb.mono ?_; rintro e w1 ⟨t, b, rfl, hg, hbl⟩; have d3 := (hbl.cell (p := ⟨r, 3, none⟩) hrl).trans h3; have d4 := (hbl.cell (p := ⟨r, 4, none⟩) hrl).trans h4; have z3 := (hbl.frozen (p := ⟨r, 3, none⟩) hrl).trans (z 3); have z4 := (hbl.frozen (p := ⟨r, 4, none⟩) hrl).trans (z 4); have HG := Aside0.mk (And.intro hg hbl); clear hg hbl)
  go_end0
  exact ⟨rfl, _, _, _, HG.out.1, HG.out.2, rfl⟩

theorem once_state {r o cap : Nat} {kc : Nat → UInt8} {kv : Nat → ByteArray} {w : World} (h : Fresh r o cap kc kv w) :
    Old (w.setCell ⟨r, 1, none⟩ (.int .i32 1)) o kc kv ∧ (w.setCell ⟨r, 1, none⟩ (.int .i32 1)).cell? ⟨r, 4, none⟩ = some (.slice (some ⟨o, 0, none⟩) 8 cap) ∧
      (∃ v, (w.setCell ⟨r, 1, none⟩ (.int .i32 1)).cell? ⟨r, 3, none⟩ = some v) ∧ (∀ j, (w.setCell ⟨r, 1, none⟩ (.int .i32 1)).frozen? ⟨r, j, none⟩ = false) ∧
      (w.setCell ⟨r, 1, none⟩ (.int .i32 1)).cell? ⟨r, 0, none⟩ = some (.int .u32 0) ∧ (w.setCell ⟨r, 1, none⟩ (.int .i32 1)).cell? ⟨r, 1, none⟩ = some (.int .i32 1) ∧ (w.setCell ⟨r, 1, none⟩ (.int .i32 1)).heap.size = w.heap.size := by
  refine ⟨fun m hm => ?_, ?_, ?_, fun j => by rw [World.frozen?_setCell]; exact h.z j, ?_, World.cell?_setCell_same _ _ _ h.c1, by simp⟩
  · rw [World.cell?_setCell_other _ _ _ _ (fun e => by injection e with e; exact h.ne e.symm), World.cell?_setCell_other _ _ _ _ (fun e => by injection e with e; exact h.ne e.symm)]
    exact h.old m hm
  · rw [World.cell?_setCell_other _ _ _ _ (by simp)]; exact h.c4
  · obtain ⟨v, hv⟩ := h.c3
    exact ⟨v, by rw [World.cell?_setCell_other _ _ _ _ (by simp)]; exact hv⟩
  · rw [World.cell?_setCell_other _ _ _ _ (by simp)]; exact h.c0

/-- The world behind the first Do: done, unlocked, built. -/
def Behind (r : Nat) (w1 : World) (v : Value) : World :=
  (((w1.setCell ⟨r, 3, none⟩ v).setCell ⟨r, 4, none⟩ (.slice none 0 0)).drew.setCell ⟨r, 0, none⟩ (.int .u32 1)).setCell ⟨r, 1, none⟩ (.int .i32 0)

theorem do_build {r o cap : Nat} {kc : Nat → UInt8} {kv : Nat → ByteArray} {w : World} (h : Fresh r o cap kc kv w) (Good : World → TypeId → Nat → Prop)
    (hb : Calls Tryd.prog 21 #[.pointer (some ⟨r, 0, none⟩)] (w.setCell ⟨r, 1, none⟩ (.int .i32 1)) fun e w1 => ∃ t b, e = .returned (.iface t (.pointer (some ⟨b, 0, none⟩))) ∧ Good w1 t b ∧ Below w.heap.size (w.setCell ⟨r, 1, none⟩ (.int .i32 1)) w1) :
    Calls Tryd.prog 16 #[.pointer (some ⟨r, 0, none⟩), .func (.func 17) #[.pointer (some ⟨r, 0, none⟩)] #[]] w fun e w' => e = .returned (.tuple #[]) ∧
      ∃ w1 t b, Good w1 t b ∧ Below w.heap.size (w.setCell ⟨r, 1, none⟩ (.int .i32 1)) w1 ∧ w' = Behind r w1 (.iface t (.pointer (some ⟨b, 0, none⟩))) := by
  obtain ⟨h1, h2, ⟨v3, h3⟩, h4, h5, h6, h7⟩ := once_state h
  have hrl : r < w.heap.size := World.block_lt_of_cell? _ _ h.c0
  have hbo := build_once r Good (w.setCell ⟨r, 1, none⟩ (.int .i32 1)) v3 _ (by rw [h7]; exact hrl) h3 h2 h4 (by rw [h7]; exact hb)
  rw [h7] at hbo
  refine (once.do_first r (fun w' => ∃ w1 t b, Good w1 t b ∧ Below w.heap.size (w.setCell ⟨r, 1, none⟩ (.int .i32 1)) w1 ∧ w' = (w1.setCell ⟨r, 3, none⟩ (.iface t (.pointer (some ⟨b, 0, none⟩)))).setCell ⟨r, 4, none⟩ (.slice none 0 0)) w h.c0 h.c1 (h.z 1) hbo ?_).mono ?_
  · rintro w' ⟨w1, t, b, _, hbl, rfl⟩
    have d0 := (hbl.cell (p := ⟨r, 0, none⟩) hrl).trans h5
    have d1 := (hbl.cell (p := ⟨r, 1, none⟩) hrl).trans h6
    have z0 := (hbl.frozen (p := ⟨r, 0, none⟩) hrl).trans (h4 0)
    have z1 := (hbl.frozen (p := ⟨r, 1, none⟩) hrl).trans (h4 1)
    refine ⟨?_, by rw [World.frozen?_setCell, World.frozen?_setCell]; exact z0, ?_, by rw [World.frozen?_setCell, World.frozen?_setCell]; exact z1⟩
    · rw [World.cell?_setCell_other _ _ _ _ (by simp), World.cell?_setCell_other _ _ _ _ (by simp)]; exact d0
    · rw [World.cell?_setCell_other _ _ _ _ (by simp), World.cell?_setCell_other _ _ _ _ (by simp)]; exact d1
  · rintro e w' ⟨rfl, w2, ⟨w1, t, b, hg, hbl, rfl⟩, rfl⟩
    exact ⟨rfl, w1, t, b, hg, hbl, rfl⟩

theorem behind_cell {r : Nat} {w1 : World} {v : Value} {a : Addr} (ha : a.block ≠ r) : (Behind r w1 v).cell? a = w1.cell? a := by
  have h : ∀ j, (⟨r, j, none⟩ : Addr) ≠ a := fun j e => ha (by rw [← e])
  unfold Behind
  rw [World.cell?_setCell_other _ _ _ _ (h 1), World.cell?_setCell_other _ _ _ _ (h 0), World.cell?_drew, World.cell?_setCell_other _ _ _ _ (h 4), World.cell?_setCell_other _ _ _ _ (h 3)]
theorem behind_frozen {r : Nat} {w1 : World} {v : Value} {a : Addr} : (Behind r w1 v).frozen? a = w1.frozen? a := by
  unfold Behind
  rw [World.frozen?_setCell, World.frozen?_setCell]
  show (((w1.setCell ⟨r, 3, none⟩ v).setCell ⟨r, 4, none⟩ (.slice none 0 0))).frozen? a = _
  rw [World.frozen?_setCell, World.frozen?_setCell]
theorem behind_iface {r : Nat} {w1 : World} {v u : Value} (h : w1.cell? ⟨r, 3, none⟩ = some u) : (Behind r w1 v).cell? ⟨r, 3, none⟩ = some v := by
  unfold Behind
  rw [World.cell?_setCell_other _ _ _ _ (by simp), World.cell?_setCell_other _ _ _ _ (by simp), World.cell?_drew, World.cell?_setCell_other _ _ _ _ (by simp)]
  exact World.cell?_setCell_same _ _ _ h
theorem behind_below {r : Nat} {w w1 : World} {v : Value} (hr : r < w.heap.size) (h : Below w.heap.size (w.setCell ⟨r, 1, none⟩ (.int .i32 1)) w1) : Below r w (Behind r w1 v) := by
  have h0 : Below r w (w.setCell ⟨r, 1, none⟩ (.int .i32 1)) := (Below.refl r w).setCell (Nat.le_refl r) _
  have h1 : Below r w w1 := h0.trans (h.mono (Nat.le_of_lt hr))
  unfold Behind
  exact ((((h1.setCell (Nat.le_refl r) _).setCell (Nat.le_refl r) _).drew).setCell (Nat.le_refl r) _).setCell (Nat.le_refl r) _
theorem behind_tab {r b : Nat} {w1 : World} {v : Value} {f : Nat → Value} (h : Tab w1 b f) (hb : b ≠ r) : Tab (Behind r w1 v) b f := fun c hc => by
  rw [behind_cell (a := ⟨b, c, none⟩) hb, behind_frozen]
  exact h c hc

/-- The replacement of a byte. -/
def repOf (kc : Nat → UInt8) (kv : Nat → ByteArray) (c : UInt8) : Option ByteArray :=
  if c = kc 0 then some (kv 0) else if c = kc 1 then some (kv 1) else if c = kc 2 then some (kv 2) else if c = kc 3 then some (kv 3) else none

def newByte (kc nb : Nat → UInt8) (c : UInt8) : UInt8 := if c = kc 0 then nb 0 else if c = kc 1 then nb 1 else if c = kc 2 then nb 2 else if c = kc 3 then nb 3 else c
theorem bytesF_at (kc nb : Nat → UInt8) (c : UInt8) : bytesF kc nb 4 c.toNat = .int .u8 (newByte kc nb c).toNat := by
  simp only [bytesF, upd, newByte, UInt8.toNat_inj]
  repeat' split
  all_goals rfl
theorem map_rep (kc nb : Nat → UInt8) (s : ByteArray) : mapB (newByte kc nb) s = ⟨(rep (repOf kc (fun m => ⟨#[nb m]⟩)) s.data.toList).toArray⟩ := by
  unfold mapB
  have : ∀ l : List UInt8, l.map (newByte kc nb) = rep (repOf kc (fun m => ⟨#[nb m]⟩)) l := by
    intro l
    induction l with
    | nil => rfl
    | cons c l ih =>
      have h : repC (repOf kc (fun m => ⟨#[nb m]⟩)) c = [newByte kc nb c] := by
        unfold repC repOf newByte
        by_cases h0 : c = kc 0
        · simp only [h0, if_true]
        by_cases h1 : c = kc 1
        · simp only [if_neg h0]; simp only [h1, if_true]
        by_cases h2 : c = kc 2
        · simp only [if_neg h0, if_neg h1]; simp only [h2, if_true]
        by_cases h3 : c = kc 3
        · simp only [if_neg h0, if_neg h1, if_neg h2]; simp only [h3, if_true]
        simp only [if_neg h0, if_neg h1, if_neg h2, if_neg h3]
      simp only [rep, List.flatMap_cons, List.map_cons] at ih ⊢
      rw [h, ih]
      rfl
  rw [this]

set_option maxRecDepth 100000 in
set_option maxHeartbeats 1600000 in
theorem replacer_bytes (r o cap : Nat) (kc nb : Nat → UInt8) (s : ByteArray) (w : World) (h : Fresh r o cap kc (fun m => ⟨#[nb m]⟩) w) (hs : s.size ≤ 1000) :
    Calls Tryd.prog 12 #[.pointer (some ⟨r, 0, none⟩), .string s] w fun e w' => e = .returned (.string ⟨(rep (repOf kc (fun m => ⟨#[nb m]⟩)) s.data.toList).toArray⟩) ∧ Below r w w' := by
  have hrl : r < w.heap.size := World.block_lt_of_cell? _ _ h.c0
  obtain ⟨h1, h2, ⟨v3, h3⟩, h4, h5, h6, h7⟩ := once_state h
  have hbd := build_bytes r o cap kc nb (w.setCell ⟨r, 1, none⟩ (.int .i32 1)) h2 h1 (World.block_lt_of_cell? _ _ (h1 0 (by omega)).1)
  rw [h7] at hbd
  have hdo := do_build h (fun w1 t b => t = 76 ∧ w.heap.size ≤ b ∧ Tab w1 b (bytesF kc nb 4)) (hbd.mono (fun e w1 ⟨b, he, hb, ht, hbl⟩ => ⟨_, b, he, ⟨rfl, hb, ht⟩, hbl⟩))
  have HD := Aside0.mk hdo
  have HS := Aside0.mk hs
  have HL := Aside0.mk hrl
  have H3 := Aside0.mk h3
  clear h h1 h2 h3 h4 h5 h6 h7 hbd hdo hs hrl
  have hme : ∀ (b : Nat) (w : World), (method 264 76 (.pointer (some ⟨b, 0, none⟩)) "Replace").run Tryd.prog w = .ok (92, .pointer (some ⟨b, 0, none⟩)) w := fun b w => by kernel_rfl
  have hmf : ∀ (fn : Fn) (first cap : Array Value) (w : World), (Instr.makeFunc fn first cap).run Tryd.prog w = .ok (.func fn first cap) w := fun _ _ _ _ => rfl
  go_enter Tryd.func12, Tryd.ntmps12
  go_wp2_with (first
    | (go_at_call 16; refine HD.out.mono ?_; rintro e w2 ⟨rfl, w1, t, b, ⟨rfl, hb, ht⟩, hbl, hw2⟩; have hif : w2.cell? ⟨r, 3, none⟩ = some _ := (by rw [hw2]; exact behind_iface ((hbl.cell (p := ⟨r, 3, none⟩) HL.out).trans H3.out)); have HT := Aside0.mk (show Tab w2 b (bytesF kc nb 4) by rw [hw2]; exact behind_tab ht (by have := HL.out; omega)); have HB := Aside0.mk (show Below r w w2 by rw [hw2]; exact behind_below HL.out hbl); clear hb ht hbl hw2)
    | (go_at_call 92; refine (replace_bytes b _ (newByte kc nb) s _ HT.out (bytesF_at kc nb) (by have := HS.out; omega)).mono ?_; rintro e w3 ⟨rfl, hb3⟩; rw [map_rep]))
  go_ret
  exact ⟨rfl, HB.out.trans (hb3.mono (Nat.le_trans (Nat.le_of_lt HL.out) HB.out.size))⟩

theorem repOf_at {kc : Nat → UInt8} {kv : Nat → ByteArray} (hi : ∀ m n, m < 4 → n < 4 → m ≠ n → (kc m).toNat ≠ (kc n).toNat) (m : Nat) (hm : m < 4) : repOf kc kv (kc m) = some (kv m) := by
  have ne : ∀ n, n < 4 → n ≠ m → kc m ≠ kc n := fun n hn h e => hi m n hm hn (Ne.symm h) (by rw [e])
  unfold repOf
  match m, hm with
  | 0, _ => rw [if_pos rfl]
  | 1, _ => rw [if_neg (ne 0 (by omega) (by omega)), if_pos rfl]
  | 2, _ => rw [if_neg (ne 0 (by omega) (by omega)), if_neg (ne 1 (by omega) (by omega)), if_pos rfl]
  | 3, _ => rw [if_neg (ne 0 (by omega) (by omega)), if_neg (ne 1 (by omega) (by omega)), if_neg (ne 2 (by omega) (by omega)), if_pos rfl]
theorem repOf_none {kc : Nat → UInt8} {kv : Nat → ByteArray} (c : UInt8) (h : ∀ m, m < 4 → c ≠ kc m) : repOf kc kv c = none := by
  unfold repOf
  rw [if_neg (h 0 (by omega)), if_neg (h 1 (by omega)), if_neg (h 2 (by omega)), if_neg (h 3 (by omega))]

theorem half_says {B b r g cap : Nat} {kc : Nat → UInt8} {kv : Nat → ByteArray} {w1 : World} {f : Nat → Value} {v : Value} (h : Half B b 4 kc kv w1 f g cap) (hr : r < B)
    (hi : ∀ m n, m < 4 → n < 4 → m ≠ n → (kc m).toNat ≠ (kc n).toNat) (hsz : ∀ m, m < 4 → 1 ≤ (kv m).size ∧ (kv m).size ≤ 100) : Says (Behind r w1 v) f (repOf kc kv) := by
  intro c
  by_cases hc : ∃ m, m < 4 ∧ c = kc m
  · obtain ⟨m, hm, rfl⟩ := hc
    refine .inr ⟨kv m, ?_⟩
    obtain ⟨x, cx, hv, h1, _, _, _, h5⟩ := h.done (3 - m) (by omega)
    rw [show 3 - (3 - m) = m by omega] at hv h5
    refine ⟨x, cx, repOf_at hi m hm, hv, (hsz m hm).1, (hsz m hm).2, fun j hj => ?_⟩
    rw [behind_cell (a := ⟨x, j, none⟩) (by show x ≠ r; omega), h5 j hj, at_get (kv m) j hj]
  · have hn : ∀ m, m < 4 → c ≠ kc m := fun m hm e => hc ⟨m, hm, e⟩
    exact .inl ⟨repOf_none c hn, h.rest c.toNat c.toNat_lt (fun k hk e => hn (3 - k) (by omega) (UInt8.toNat_inj.1 e))⟩

theorem strs_state {B b r g cap : Nat} {kc : Nat → UInt8} {kv : Nat → ByteArray} {w1 w2 : World} {f : Nat → Value} {v : Value} (h : Half B b 4 kc kv w1 f g cap) (hb : B ≤ b) (hr : r < B) (hw : w2 = Behind r w1 v)
    (hi : ∀ m n, m < 4 → n < 4 → m ≠ n → (kc m).toNat ≠ (kc n).toNat) (hsz : ∀ m, m < 4 → 1 ≤ (kv m).size ∧ (kv m).size ≤ 100) :
    Tab w2 b f ∧ w2.cell? ⟨b, 256, none⟩ = some (.slice (some ⟨g, 0, none⟩) 4 cap) ∧ (∀ k, k < 4 → w2.cell? ⟨g, k, none⟩ = some (.string ⟨#[kc (3 - k)]⟩)) ∧ Says w2 f (repOf kc kv) := by
  subst hw
  have hg := (h.keys.lt g rfl).1
  refine ⟨behind_tab h.tab (by omega), ?_, fun k hk => ?_, half_says h hr hi hsz⟩
  · rw [behind_cell (a := ⟨b, 256, none⟩) (by show b ≠ r; omega)]
    exact h.row
  · rw [behind_cell (a := ⟨g, k, none⟩) (by show g ≠ r; omega), h.keys.cellAt k (by omega)]
    simp [hk]

set_option maxRecDepth 100000 in
set_option maxHeartbeats 1600000 in
theorem replacer_strs (r o cap : Nat) (kc : Nat → UInt8) (kv : Nat → ByteArray) (s : ByteArray) (w : World) (h : Fresh r o cap kc kv w) (hs : s.size ≤ 1000)
    (hi : ∀ m n, m < 4 → n < 4 → m ≠ n → (kc m).toNat ≠ (kc n).toNat) (hsz : ∀ m, m < 4 → 1 ≤ (kv m).size ∧ (kv m).size ≤ 100) (hne : ∃ m, m < 4 ∧ (kv m).size ≠ 1) :
    Calls Tryd.prog 12 #[.pointer (some ⟨r, 0, none⟩), .string s] w fun e w' => e = .returned (.string ⟨(rep (repOf kc kv) s.data.toList).toArray⟩) ∧ Below r w w' := by
  have hrl : r < w.heap.size := World.block_lt_of_cell? _ _ h.c0
  obtain ⟨h1, h2, ⟨v3, h3⟩, h4, h5, h6, h7⟩ := once_state h
  have hbd := build_strings r o cap kc kv (w.setCell ⟨r, 1, none⟩ (.int .i32 1)) h2 h1 hne hi
  rw [h7] at hbd
  have hdo := do_build h (fun w1 t b => t = 80 ∧ w.heap.size ≤ b ∧ ∃ f g cap2, Half w.heap.size b 4 kc kv w1 f g cap2) (hbd.mono (fun e w1 ⟨b, f, g, cap2, he, hb, ht, hbl⟩ => ⟨_, b, he, ⟨rfl, hb, f, g, cap2, ht⟩, hbl⟩))
  have HD := Aside0.mk hdo
  have HS := Aside0.mk hs
  have HL := Aside0.mk hrl
  have H3 := Aside0.mk h3
  have HI := Aside0.mk hi
  have HZ := Aside0.mk hsz
  clear h h1 h2 h3 h4 h5 h6 h7 hbd hdo hs hrl hi hsz hne
  have hme : ∀ (b : Nat) (w : World), (method 264 80 (.pointer (some ⟨b, 0, none⟩)) "Replace").run Tryd.prog w = .ok (94, .pointer (some ⟨b, 0, none⟩)) w := fun b w => by kernel_rfl
  have hmf : ∀ (fn : Fn) (first cap : Array Value) (w : World), (Instr.makeFunc fn first cap).run Tryd.prog w = .ok (.func fn first cap) w := fun _ _ _ _ => rfl
  go_enter Tryd.func12, Tryd.ntmps12
  go_wp2_with (first
    | (go_at_call 16; refine HD.out.mono ?_; rintro e w2 ⟨rfl, w1, t, b, ⟨rfl, hb, f, g, cap2, ht⟩, hbl, hw2⟩; have hif : w2.cell? ⟨r, 3, none⟩ = some _ := (by rw [hw2]; exact behind_iface ((hbl.cell (p := ⟨r, 3, none⟩) HL.out).trans H3.out)); have HT := Aside0.mk (strs_state ht hb HL.out hw2 HI.out HZ.out); have HB := Aside0.mk (show Below r w w2 by rw [hw2]; exact behind_below HL.out hbl); clear hb ht hbl hw2)
    | (go_at_call 94; refine (replace_strs b f (repOf kc kv) (fun k => kc (3 - k)) g cap2 s _ HT.out.1 HT.out.2.1 HT.out.2.2.1 HT.out.2.2.2 (fun p q hp hq hpq e => HI.out (3 - p) (3 - q) (by omega) (by omega) (by omega) (by rw [e])) (fun c hc => repOf_none c (fun m hm => by have := hc (3 - m) (by omega); rwa [show 3 - (3 - m) = m by omega] at this)) (fun q hq => ⟨_, repOf_at HI.out (3 - q) (by omega)⟩) HS.out).mono ?_; rintro e w3 ⟨rfl, hb3⟩))
  go_ret
  exact ⟨rfl, HB.out.trans (hb3.mono (Nat.le_trans (Nat.le_of_lt HL.out) HB.out.size))⟩

/-- (*strings.Replacer).Replace at a Replacer that has not been used: each of the four letters by its text. -/
theorem replacer_any (r o cap : Nat) (kc : Nat → UInt8) (kv : Nat → ByteArray) (s : ByteArray) (w : World) (h : Fresh r o cap kc kv w) (hs : s.size ≤ 1000)
    (hi : ∀ m n, m < 4 → n < 4 → m ≠ n → (kc m).toNat ≠ (kc n).toNat) (hsz : ∀ m, m < 4 → 1 ≤ (kv m).size ∧ (kv m).size ≤ 100) :
    Calls Tryd.prog 12 #[.pointer (some ⟨r, 0, none⟩), .string s] w fun e w' => e = .returned (.string ⟨(rep (repOf kc kv) s.data.toList).toArray⟩) ∧ Below r w w' := by
  by_cases hne : ∃ m, m < 4 ∧ (kv m).size ≠ 1
  · exact replacer_strs r o cap kc kv s w h hs hi hsz hne
  · have h1 : ∀ m, m < 4 → (kv m).size = 1 := fun m hm => Classical.byContradiction fun e => hne ⟨m, hm, e⟩
    have e : ∀ m, m < 4 → kv m = ⟨#[at_ (kv m) 0]⟩ := fun m hm => by
      have hh := h1 m hm
      have hl : (kv m).data.toList.length = 1 := by simpa using hh
      obtain ⟨x, hx⟩ := List.length_eq_one_iff.1 hl
      have h2 : at_ (kv m) 0 = x := by unfold at_; rw [hx]; rfl
      rw [h2]
      have h3 : (kv m).data = #[x] := by rw [← Array.toArray_toList (xs := (kv m).data), hx]
      exact ByteArray.ext h3
    have hr : repOf kc kv = repOf kc (fun m => ⟨#[at_ (kv m) 0]⟩) := by
      funext c
      unfold repOf
      dsimp only
      rw [← e 0 (by omega), ← e 1 (by omega), ← e 2 (by omega), ← e 3 (by omega)]
    rw [hr]
    exact replacer_bytes r o cap kc (fun m => at_ (kv m) 0) s w ⟨h.c0, h.c1, h.c3, h.c4, h.z, fun m hm => ⟨(h.old m hm).1, by rw [(h.old m hm).2, ← e m hm]⟩, h.ne⟩ hs

theorem fresh_new (w : World) (kc : Nat → UInt8) (kv : Nat → ByteArray) (zs : Array Value) (c : Nat) :
    Fresh (w.heap.size + 1) w.heap.size c kc kv (((w.alloc (.cells (#[Value.string ⟨#[kc 0]⟩, Value.string (kv 0), Value.string ⟨#[kc 1]⟩, Value.string (kv 1), Value.string ⟨#[kc 2]⟩, Value.string (kv 2), Value.string ⟨#[kc 3]⟩, Value.string (kv 3)] ++ zs) 9)).alloc
      (.cells #[Value.int .u32 0, Value.int .i32 0, Value.int .u32 0, Value.nilIface, Value.slice (some ⟨w.heap.size, 0, none⟩) 8 c] 53)).drew) := by
  have e : (w.alloc (.cells (#[Value.string ⟨#[kc 0]⟩, Value.string (kv 0), Value.string ⟨#[kc 1]⟩, Value.string (kv 1), Value.string ⟨#[kc 2]⟩, Value.string (kv 2), Value.string ⟨#[kc 3]⟩, Value.string (kv 3)] ++ zs) 9)).heap.size = w.heap.size + 1 := by simp
  have h2 := heap_alloc_last (w.alloc (.cells (#[Value.string ⟨#[kc 0]⟩, Value.string (kv 0), Value.string ⟨#[kc 1]⟩, Value.string (kv 1), Value.string ⟨#[kc 2]⟩, Value.string (kv 2), Value.string ⟨#[kc 3]⟩, Value.string (kv 3)] ++ zs) 9)) (.cells #[Value.int .u32 0, Value.int .i32 0, Value.int .u32 0, Value.nilIface, Value.slice (some ⟨w.heap.size, 0, none⟩) 8 c] 53)
  rw [e] at h2
  have h1 := heap_alloc_last w (.cells (#[Value.string ⟨#[kc 0]⟩, Value.string (kv 0), Value.string ⟨#[kc 1]⟩, Value.string (kv 1), Value.string ⟨#[kc 2]⟩, Value.string (kv 2), Value.string ⟨#[kc 3]⟩, Value.string (kv 3)] ++ zs) 9)
  have c2 : ∀ j, (((w.alloc (.cells (#[Value.string ⟨#[kc 0]⟩, Value.string (kv 0), Value.string ⟨#[kc 1]⟩, Value.string (kv 1), Value.string ⟨#[kc 2]⟩, Value.string (kv 2), Value.string ⟨#[kc 3]⟩, Value.string (kv 3)] ++ zs) 9)).alloc (.cells #[Value.int .u32 0, Value.int .i32 0, Value.int .u32 0, Value.nilIface, Value.slice (some ⟨w.heap.size, 0, none⟩) 8 c] 53)).drew).cell? ⟨w.heap.size + 1, j, none⟩ =
      (#[Value.int .u32 0, Value.int .i32 0, Value.int .u32 0, Value.nilIface, Value.slice (some ⟨w.heap.size, 0, none⟩) 8 c] : Array Value)[j]? := fun j => by
    rw [World.cell?_drew]
    exact cell_of_row _ _ j _ 53 (0, 0) h2
  have c1 : ∀ j, j < 8 → (((w.alloc (.cells (#[Value.string ⟨#[kc 0]⟩, Value.string (kv 0), Value.string ⟨#[kc 1]⟩, Value.string (kv 1), Value.string ⟨#[kc 2]⟩, Value.string (kv 2), Value.string ⟨#[kc 3]⟩, Value.string (kv 3)] ++ zs) 9)).alloc (.cells #[Value.int .u32 0, Value.int .i32 0, Value.int .u32 0, Value.nilIface, Value.slice (some ⟨w.heap.size, 0, none⟩) 8 c] 53)).drew).cell? ⟨w.heap.size, j, none⟩ =
      (#[Value.string ⟨#[kc 0]⟩, Value.string (kv 0), Value.string ⟨#[kc 1]⟩, Value.string (kv 1), Value.string ⟨#[kc 2]⟩, Value.string (kv 2), Value.string ⟨#[kc 3]⟩, Value.string (kv 3)] : Array Value)[j]? := fun j hj => by
    rw [World.cell?_drew, World.cell?_alloc_past _ _ _ (by rw [e]; exact Nat.lt_succ_self _), cell_of_row _ _ j _ 9 (0, 0) h1, Array.getElem?_append_left (by simpa using hj)]
  refine ⟨c2 0, c2 1, ⟨_, c2 3⟩, c2 4, fun j => ?_, fun m hm => ?_, by omega⟩
  · show World.frozen? _ _ = false
    unfold World.frozen?
    show (match ((w.alloc _).alloc _).heap[w.heap.size + 1]? with | some (.cells _ _ (lo, hi)) => decide (lo ≤ j) && decide (j < hi) | _ => false) = false
    rw [h2]
    simp
  · match m, hm with
    | 0, _ => exact ⟨c1 0 (by omega), c1 1 (by omega)⟩
    | 1, _ => exact ⟨c1 2 (by omega), c1 3 (by omega)⟩
    | 2, _ => exact ⟨c1 4 (by omega), c1 5 (by omega)⟩
    | 3, _ => exact ⟨c1 6 (by omega), c1 7 (by omega)⟩

set_option maxRecDepth 100000 in
set_option maxHeartbeats 1600000 in
/-- strings.NewReplacer at four pairs. -/
theorem new_replacer (o cap : Nat) (kc : Nat → UInt8) (kv : Nat → ByteArray) (w : World) (ho : Old w o kc kv) :
    Calls Tryd.prog 10 #[.slice (some ⟨o, 0, none⟩) 8 cap] w fun e w' => ∃ r o' cap', e = .returned (.pointer (some ⟨r, 0, none⟩)) ∧ w.heap.size ≤ r ∧ Fresh r o' cap' kc kv w' ∧ Below w.heap.size w w' := by
  obtain ⟨a0, a1⟩ := ho 0 (by omega)
  obtain ⟨a2, a3⟩ := ho 1 (by omega)
  obtain ⟨a4, a5⟩ := ho 2 (by omega)
  obtain ⟨a6, a7⟩ := ho 3 (by omega)
  simp only [Nat.mul_zero, Nat.mul_one, Nat.zero_add, show 2 * 2 = 4 from rfl, show 2 * 3 = 6 from rfl, show 2 + 1 = 3 from rfl, show 4 + 1 = 5 from rfl, show 6 + 1 = 7 from rfl] at a0 a1 a2 a3 a4 a5 a6 a7
  clear ho
  go_enter Tryd.func10, Tryd.ntmps10
  go_wp2_with (fail)
  go_ret
  exact ⟨_, _, _, rfl, Nat.le_succ _, fresh_new w kc kv _ _, below_drew (below_alloc (below_alloc (Below.refl _ w) _) _)⟩
end Go.Proofs.YtjlgfcgdagikgaaDoor.repl
