/- Packed by this session's own program (wip/tools/pack.py): what the claim needs of its texts. -/
import Derived.Test.YtkfikinjlbbibaaDoorUPkr
import Derived.Deep.RegionLaw
namespace Go.Proofs.YtkfikinjlbbibaaDoor
open Go.RowKit Go.Lib
open Go.Proofs.YtkfikinjlbbibaaDoorW.PrintWords Go.Proofs.YtkfikinjlbbibaaDoorW.PrintLast Go.Proofs.YtkfikinjlbbibaaDoor.PT
set_option linter.unusedVariables false
set_option linter.unusedSimpArgs false
section
variable {P : Program} {ops : Array Oper} {o : Oper} {a : Act} {Q : Exit → Act → World → Prop} {K : Act → World → Prop} {E : Prop}
theorem step_append_ints {w0 W : World} (k : IntKind) (base : Nat) (hgd : o.guard = none) (s x : Operand) (t e : TypeId) (bytes : Nat)
    (ho : o.op = .call { callee := .builtin .append, args := #[s, x], argTypes := #[t, t] })
    (ht : P.underlying t = some (.slice e)) (hinfo : (P.info? e).map (fun i => (i.zero, i.size, i.bytes)) = some (some (.int k 0), 1, bytes)) (hb0 : 0 < bytes)
    (v : Value) (xs ys : List Int) (A : Option Addr) (m c : Nat) (ok : Nat → Prop) (hs : a.eval s = v) (hx : a.eval x = .slice A m c) (hfresh : ∀ k, W.heap.size ≤ k → ok k)
    (HO : (Kd.int k).R e W base ok v xs) (HR : (Kd.int k).C W A m ys) (HB : Below base w0 W) (hbase : base ≤ W.heap.size) (hl : (xs.length + m) * bytes ≤ 140737488355328)
    (h : ∀ v1 w1, (Kd.int k).R e w1 base ok v1 (xs ++ ys) → Below base w0 w1 → W.grownBy w1 v.ownBlock → (v1.ownBlock = v.ownBlock ∨ ∃ b, v1.ownBlock = some b ∧ W.heap.size ≤ b) → K (a.put o.dst v1) w1) :
    if Region.wanted o (yielded ops a.tmps) = true then Oper.wp P o a W K Q else E := by
  obtain ⟨i0, hi, hzz⟩ := Option.map_eq_some_iff.1 hinfo
  simp only [Prod.mk.injEq] at hzz
  obtain ⟨hz0, hz1, hz2⟩ := hzz
  have hm : ys.length = m := HR.1
  have HO1 : W.ownsRow base e 1 v xs.length (encs (Value.int k) xs) := Kd.own_of_R HO
  have HR1 : ReadsOf (Value.int k) (0 : Int) W A m ys := Kd.reads_of_C (enc := Value.int k) (d := (0 : Int)) (h1 := fun _ => rfl) HR
  have hlen : xs.length + m ≤ 140737488355328 := Nat.le_trans (Nat.le_mul_of_pos_right _ hb0) hl
  have hrun : ∃ v1 w1, (Builtin.append_ #[t, t] o.type #[v, .slice A m c]).run P W = .ok v1 w1 ∧ w1.ownsRow base e 1 v1 (xs ++ ys).length (encs (Value.int k) (xs ++ ys)) ∧ W.grownBy w1 v.ownBlock ∧ (v1.ownBlock = v.ownBlock ∨ v1.ownBlock = some W.heap.size) := by
    rcases A with _ | ad
    · have h0 : m = 0 := by
        rcases Nat.eq_zero_or_pos m with h0 | h0
        · exact h0
        · obtain ⟨ad, h, _⟩ := HR1.2.2 h0
          cases h
      subst h0
      obtain rfl : ys = [] := List.eq_nil_of_length_eq_zero hm
      refine ⟨v, W, ?_, by simpa using HO1, World.grownBy.refl W _, .inl rfl⟩
      rcases HO1.2 with ⟨rfl, hn⟩ | ⟨g, cap, cur, rfl, _, _, hnc, _⟩
      · simp [Builtin.append_, run_underlying ht, sizeOf, typeInfo, hi, Builtin.lenOf, Builtin.firstCells]
      · simp [Builtin.append_, run_underlying ht, sizeOf, typeInfo, hi, Builtin.lenOf, Builtin.firstCells, hnc, storeCells]
    · have hcells : ∀ j u, (encs (Value.int k) ys)[j]? = some u → W.cell? (ad.add j) = some u := by
        intro j u hu
        have hj : j < ys.length := by
          rcases Nat.lt_or_ge j ys.length with h | h
          · exact h
          · simp [encs, List.getElem?_eq_none h] at hu
        obtain ⟨ad', h', hc⟩ := HR1.2.2 (by omega)
        injection h' with h'
        subst h'
        rw [encs_get (d := (0 : Int)) ys j hj] at hu
        rw [← hu]
        exact hc j (by omega)
      obtain ⟨v1, w1, hr, h2, h3, _, h5⟩ := run_append_own_at (P := P) W base t o.type e i0 (.int k 0) 1 bytes ht hi hz0 hz1 hz2 rfl (by omega) v xs.length (encs (Value.int k) xs) HO1 ad m c (encs (Value.int k) ys) (by simp [encs, hm]) hcells
        (by intro u hu; simp only [encs, List.mem_map] at hu; obtain ⟨q, _, rfl⟩ := hu; rfl) (by simp only [maxLen]; omega) hl hbase
      exact ⟨v1, w1, hr, by simpa [encs, hm] using h2, h3, h5⟩
  obtain ⟨v1, w1, hr, hown, hg, hat⟩ := hrun
  have hw : Region.wanted o (yielded ops a.tmps) = true := by simp [Region.wanted, hgd]
  rw [if_pos hw]
  unfold Oper.wp execOp
  simp only [ho, resolve, invoke, builtin, Sem.run_bind, Sem.run_pure, Result.andThen_ok, List.map_toArray, List.map_cons, List.map_nil, hs, hx, hr]
  have hok : ∀ k, v1.ownBlock = some k → ok k := fun j hj => by
    rcases hat with hat | hat
    · exact HO.1 j (hat ▸ hj)
    · rw [hat] at hj
      injection hj with hj
      exact hfresh j (by omega)
  refine h v1 w1 (Kd.R_of_own hown hok) (HB.grown hg hbase (own_base HO1)) hg ?_
  rcases hat with hat | hat
  · exact .inl hat
  · exact .inr ⟨_, hat, Nat.le_refl _⟩
end
def Ps (B : Nat) (w : World) (g : Nat) (out : List Int) (n : Int) : Prop := (out = magicD ∧ ∃ b, Pf B w g b n) ∨ ∃ v, Pk B w g v out n
theorem Ps.below {B g : Nat} {w w1 : World} {out : List Int} {n : Int} (H : Ps B w g out n) (hb : Below w.heap.size w w1) : Ps B w1 g out n := by
  rcases H with ⟨ho, b, H⟩ | ⟨v, H⟩
  · exact .inl ⟨ho, b, H.below hb⟩
  · exact .inr ⟨v, H.below hb⟩
theorem Ps.low {B g : Nat} {w : World} {out : List Int} {n : Int} (H : Ps B w g out n) : B ≤ g := by
  rcases H with ⟨_, b, H⟩ | ⟨v, H⟩
  · exact H.low
  · exact H.low
theorem Ps.blk {B g : Nat} {w : World} {out : List Int} {n : Int} (H : Ps B w g out n) : ∃ v, w.heap[g]? = some (.cells #[v, .int .i64 n] 65 (0, 0)) := by
  rcases H with ⟨_, b, H⟩ | ⟨v, H⟩
  · exact ⟨_, H.blk⟩
  · exact ⟨_, H.blk⟩
theorem Ps.count {B g : Nat} {w : World} {out : List Int} {n : Int} (H : Ps B w g out n) : w.cell? ⟨g, 1, none⟩ = some (.int .i64 n) ∧ w.frozen? ⟨g, 1, none⟩ = false := by
  obtain ⟨v, h⟩ := H.blk
  exact ⟨by rw [blk_cell h]; rfl, blk_frozen h 1⟩
theorem Ps.bump {B g : Nat} {w : World} {out : List Int} {n : Int} (H : Ps B w g out n) (n1 : Int) : Ps B (w.setCell ⟨g, 1, none⟩ (.int .i64 n1)) g out n1 := by
  rcases H with ⟨ho, b, H⟩ | ⟨v, H⟩
  · refine .inl ⟨ho, b, ⟨by have := blk_set H.blk 1 (.int .i64 n1); simpa using this, ?_, H.low⟩⟩
    have hne : g ≠ b := fun e => by
      have h1 := H.blk
      rw [e, H.arr] at h1
      injection h1 with h1
      injection h1 with _ h1
      exact absurd h1 (by decide)
    exact (Below.heap_setCell w ⟨g, 1, none⟩ _ b (fun e => hne e.symm)).trans H.arr
  · exact .inr ⟨v, ⟨by have := blk_set H.blk 1 (.int .i64 n1); simpa using this, Kd.R_set H.row H.blk (by intro q hq; simp [Kd.int, Kd.scalar] at hq; subst hq; decide) 1 _, H.low⟩⟩
theorem num_one (w0 w : World) (g : Nat) (out : List Int) (n x : Int) (H : Ps w0.heap.size w g out n) (hb : Below w0.heap.size w0 w) (hl : out.length ≤ 1099511627776) :
    Calls Tryd.prog 44 #[.pointer (some ⟨g, 0, none⟩), .int .i64 x, .int .i64 1] w fun e w' => e = .returned (.tuple #[]) ∧ (∃ v', Pk w0.heap.size w' g v' (out ++ leB 1 x) n) ∧ Below w0.heap.size w0 w' ∧ Fr g w w' := by
  rcases H with ⟨rfl, b, H⟩ | ⟨v, H⟩
  · exact num_first w0 w g b n x H hb
  · exact num_any w0 w g v out n x 1 H hb (by decide) hl
def runsB (l : List S73) : List Int := l.flatMap fun r => leB 4 r.f0 ++ leB 4 r.f1
def itemB (x : S27) : List Int :=
  leB 1 x.f0 ++ leB 2 x.f1.size ++ bytesOf x.f1 ++
    (if x.f0 = 1 then leB 8 x.f3 ++ leB 4 x.f4.length ++ runsB x.f4 ++ x.f5 else if x.f0 = 3 ∨ x.f0 = 4 then leB 2 x.f2.size ++ bytesOf x.f2 else [])
def boxI (x : S27) (A4 : Option Addr) (c4 : Nat) (A5 : Option Addr) (c5 : Nat) : Array Value := #[.int .i64 x.f0, .string x.f1, .string x.f2, .int .i64 x.f3, .slice A4 x.f4.length c4, .slice A5 x.f5.length c5]
structure Sm (x : S27) : Prop where
  p : x.f1.size ≤ 1048576
  t : x.f2.size ≤ 1048576
  r : x.f4.length ≤ 1048576
  d : x.f5.length ≤ 1073741824
set_option maxHeartbeats 16000000 in
set_option maxRecDepth 100000 in
theorem add_any (w0 w : World) (g : Nat) (out : List Int) (n : Int) (x : S27) (A4 : Option Addr) (c4 : Nat) (A5 : Option Addr) (c5 : Nat) (H : Ps w0.heap.size w g out n) (hb : Below w0.heap.size w0 w) (hl : out.length ≤ 1073741824) (hs : Sm x) (hn : 0 ≤ n) (hn2 : n ≤ 1048576)
    (h4 : Kd.C k73 w0 A4 x.f4.length x.f4) (h5 : Kd.C (Kd.int .u8) w0 A5 x.f5.length x.f5) (l4 : x.f4.length ≤ c4) (l5 : x.f5.length ≤ c5) :
    Calls Tryd.prog 29 #[.pointer (some ⟨g, 0, none⟩), .agg #[.int .i64 x.f0, .string x.f1, .string x.f2, .int .i64 x.f3, .slice A4 x.f4.length c4, .slice A5 x.f5.length c5]] w fun e w' => e = .returned (.tuple #[]) ∧ (∃ v', Pk w0.heap.size w' g v' (out ++ itemB x) (n + 1)) ∧ Below w0.heap.size w0 w' := by
  obtain ⟨X, hX⟩ : ∃ X, boxI x A4 c4 A5 c5 = X := ⟨_, rfl⟩
  have H1 := (H.below ((Below.refl w.heap.size w).alloc (Nat.le_refl _) (.cells X 27)))
  have hbk := blk_new w (.cells X 27)
  have hb1 := hb.alloc hb.size (.cells X 27)
  have hgn : w.heap.size ≠ g := by
    obtain ⟨v, h⟩ := H.blk
    have := blk_lt h
    omega
  rw [← hX] at H1 hbk hb1
  unfold boxI at H1 hbk hb1
  obtain ⟨c1, f1⟩ := H1.count
  have H2 := Aside0.mk (H1.bump (n + 1))
  have HB2 := Aside0.mk (hb1.setCell (p := ⟨g, 1, none⟩) H.low (.int .i64 (n + 1)))
  have HK2 := Aside0.mk ((Below.heap_setCell _ ⟨g, 1, none⟩ (.int .i64 (n + 1)) _ hgn).trans hbk)
  have HS := Aside0.mk hs
  have HR4 := Aside0.mk h4
  have HR5 := Aside0.mk h5
  have hl5 := hs.p
  clear H H1 hb hb1 hbk hs h4 h5 hX
  go_enter Tryd.func29, Tryd.ntmps29
  go_wp2_with fail
  refine (num_one w0 _ g out (n + 1) x.f0 H2.out HB2.out (by omega)).mono ?_
  rintro e w1 ⟨rfl, ⟨v1, h1⟩, hb1, hf1⟩
  have HP1 := Aside0.mk h1
  have HB1 := Aside0.mk hb1
  have hk1 := hf1.cell HK2.out hgn (by decide)
  have d0 : w1.cell? ⟨w.heap.size, 0, none⟩ = some (.int .i64 x.f0) := by rw [blk_cell hk1]; rfl
  have d1 : w1.cell? ⟨w.heap.size, 1, none⟩ = some (.string x.f1) := by rw [blk_cell hk1]; rfl
  have HK1 := Aside0.mk hk1
  have z1 := blk_lt hk1
  have hl1 : (out ++ leB 1 x.f0).length = out.length + 1 := by rw [List.length_append, leB_length]
  obtain ⟨o1, ho1⟩ : ∃ o, out ++ leB 1 x.f0 = o := ⟨_, rfl⟩
  rw [ho1] at hl1 HP1
  have HO1 := Aside0.mk ho1
  have hle1 : o1.length ≤ 1073741825 := by omega
  clear h1 hb1 hf1 hk1 H2 HB2 HK2 hl1 ho1 c1 f1
  go_wp2_with fail
  refine (text_any w0 w1 g v1 o1 (n + 1) x.f1 HP1.out HB1.out (by omega) (by omega)).mono ?_
  rintro e w2 ⟨rfl, ⟨v2, h2⟩, hb2, hf2⟩
  have HP2 := Aside0.mk h2
  have HB2 := Aside0.mk hb2
  have hk2 := hf2.cell HK1.out hgn (by decide)
  have e0 : w2.cell? ⟨w.heap.size, 0, none⟩ = some (.int .i64 x.f0) := by rw [blk_cell hk2]; rfl
  have e2 : w2.cell? ⟨w.heap.size, 2, none⟩ = some (.string x.f2) := by rw [blk_cell hk2]; rfl
  have e3 : w2.cell? ⟨w.heap.size, 3, none⟩ = some (.int .i64 x.f3) := by rw [blk_cell hk2]; rfl
  have HK2 := Aside0.mk hk2
  have z2 := blk_lt hk2
  have hl2 : (o1 ++ leB 2 x.f1.size ++ bytesOf x.f1).length = o1.length + 2 + x.f1.size := by rw [List.length_append, List.length_append, leB_length, bytesOf_length]
  obtain ⟨o2, ho2⟩ : ∃ o, o1 ++ leB 2 (x.f1.size : Int) ++ bytesOf x.f1 = o := ⟨_, rfl⟩
  rw [ho2] at hl2 HP2
  have HO2 := Aside0.mk (show out ++ leB 1 x.f0 ++ leB 2 (x.f1.size : Int) ++ bytesOf x.f1 = o2 by rw [HO1.out]; exact ho2)
  have hle2 : o2.length ≤ 1075838978 := by omega
  clear h2 hb2 hf2 hk2 HP1 HB1 HK1 hl2 ho2 hle1 HO1 d0 d1 z1
  by_cases k1 : x.f0 = 1
  · have t1 : (x.f0 == 1) = true := beq_iff_eq.2 k1
    have HK := Aside0.mk k1
    clear k1
    go_wp2_with fail
    refine (num_any w0 w2 g v2 o2 (n + 1) x.f3 8 HP2.out HB2.out (by decide) (by omega)).mono ?_
    rintro e w3 ⟨rfl, ⟨v3, h3⟩, hb3, hf3⟩
    have HP3 := Aside0.mk h3
    have HB3 := Aside0.mk hb3
    have hk3 := hf3.cell HK2.out hgn (by decide)
    have g4 : w3.cell? ⟨w.heap.size, 4, none⟩ = some (.slice A4 x.f4.length c4) := by rw [blk_cell hk3]; rfl
    have HK3 := Aside0.mk hk3
    have z3 := blk_lt hk3
    have hl3 : (o2 ++ leB 8 x.f3).length = o2.length + 8 := by rw [List.length_append, leB_length]
    obtain ⟨o3, ho3⟩ : ∃ o, o2 ++ leB 8 x.f3 = o := ⟨_, rfl⟩
    rw [ho3] at hl3 HP3
    have HO3 := Aside0.mk ho3
    have hle3 : o3.length ≤ 1075838986 := by omega
    clear h3 hb3 hf3 hk3 HP2 HB2 HK2 hl3 ho3 hle2 e0 e2 e3 z2
    go_wp2_with fail
    refine (num_any w0 w3 g v3 o3 (n + 1) x.f4.length 4 HP3.out HB3.out (by decide) (by omega)).mono ?_
    rintro e w4 ⟨rfl, ⟨v4, h4⟩, hb4, hf4⟩
    have HP4 := Aside0.mk h4
    have HB4 := Aside0.mk hb4
    have hk4 := hf4.cell HK3.out hgn (by decide)
    have HK4 := Aside0.mk hk4
    have q4 : w4.cell? ⟨w.heap.size, 4, none⟩ = some (.slice A4 x.f4.length c4) := by rw [blk_cell hk4]; rfl
    have z4 := blk_lt hk4
    have hl4 : (o3 ++ leB 4 (x.f4.length : Int)).length = o3.length + 4 := by rw [List.length_append, leB_length]
    obtain ⟨o4, ho4⟩ : ∃ o, o3 ++ leB 4 (x.f4.length : Int) = o := ⟨_, rfl⟩
    rw [ho4] at hl4 HP4
    have HO4 := Aside0.mk ho4
    have hle4 : o4.length ≤ 1075838990 := by omega
    clear h4 hb4 hf4 hk4 HP3 HB3 HK3 hl4 ho4 hle3 g4 z3
    have HR := Aside0.mk (Kd.C_below HR4.out HB4.out)
    have hsr0 := HS.out.r
    go_wp2_with fail
    go_loopg [37] x.f4.length (fun gk s37 wx => ∃ (i : Nat) (vi : Value) (oi : List Int), i + gk = x.f4.length ∧ s37 = .int .i64 i ∧ Aside0 (o4 ++ runsB (x.f4.take i) = oi) ∧ oi.length ≤ 1075838990 + 8 * i ∧ Aside0 (Pk w0.heap.size wx g vi oi (n + 1)) ∧ Aside0 (Below w0.heap.size w0 wx) ∧ Aside0 (wx.heap[w.heap.size]? = w4.heap[w.heap.size]?))
    case atStart => exact ⟨0, v4, o4, by omega, rfl, ⟨by simp [runsB]⟩, by omega, HP4, HB4, ⟨rfl⟩⟩
    case round =>
      clear HP4 HB4 HR z4
      obtain ⟨i, vi, oi, hig, rfl, HOi, hlei, HPi, HBi, HKi⟩ := hrel
      have hki := HKi.out.trans HK4.out
      have zi := blk_lt hki
      by_cases hi : i < x.f4.length
      · have hd : decide ((i : Int) < (x.f4.length : Int)) = true := decide_eq_true (by omega)
        have hd2 : decide (i < x.f4.length) = true := decide_eq_true hi
        obtain ⟨ad, hA, r0, r1⟩ := at_T73 (Kd.C_below HR4.out HBi.out) (i : Int) (by omega) (by omega)
        rw [Int.toNat_natCast] at r0 r1
        have hrd : rd_T73 x.f4 (i : Int) = x.f4[i]'hi := by simp [rd_T73, hi]
        obtain ⟨ru, hru⟩ : ∃ r, x.f4[i]'hi = r := ⟨_, rfl⟩
        rw [hrd, hru] at r0 r1
        have hnx : runsB (x.f4.take (i + 1)) = runsB (x.f4.take i) ++ (leB 4 ru.f0 ++ leB 4 ru.f1) := by
          unfold runsB
          rw [List.take_succ_eq_append_getElem hi, hru, List.flatMap_append]
          simp
        have HNX := Aside0.mk hnx
        have HKI := Aside0.mk hki
        have HA := Aside0.mk hA
        subst hA
        have hW1 := HPi.out.below ((Below.refl wr.heap.size wr).alloc (Nat.le_refl _) (.cells #[.int .i64 ru.f0, .int .i64 ru.f1] 73))
        have hW2 := HBi.out.alloc HBi.out.size (.cells #[.int .i64 ru.f0, .int .i64 ru.f1] 73)
        have hW3 := blk_new wr (.cells #[.int .i64 ru.f0, .int .i64 ru.f1] 73)
        have hW4 := blk_alloc hki (.cells #[.int .i64 ru.f0, .int .i64 ru.f1] 73)
        have hgw : wr.heap.size ≠ g := by have := HPi.out.lt; omega
        have HW1 := Aside0.mk hW1
        have HW2 := Aside0.mk hW2
        have HW3 := Aside0.mk hW3
        have HW4 := Aside0.mk hW4
        clear hrd hru hnx hki hW1 hW2 hW3 hW4
        go_wp2_with fail
        refine (num_any w0 _ g vi oi (n + 1) ru.f0 4 HW1.out HW2.out (by decide) (by omega)).mono ?_
        rintro e w5 ⟨rfl, ⟨v5, h5⟩, hb5, hf5⟩
        have HP5 := Aside0.mk h5
        have HB5 := Aside0.mk hb5
        have hk5 := hf5.cell HW4.out hgn (by decide)
        have hr5 := hf5.cell HW3.out hgw (by decide)
        have y1 : w5.cell? ⟨wr.heap.size, 1, none⟩ = some (.int .i64 ru.f1) := by rw [blk_cell hr5]; rfl
        have HK5 := Aside0.mk hk5
        have z5 := blk_lt hr5
        have hl5' : (oi ++ leB 4 ru.f0).length = oi.length + 4 := by rw [List.length_append, leB_length]
        obtain ⟨o5, ho5⟩ : ∃ o, oi ++ leB 4 ru.f0 = o := ⟨_, rfl⟩
        rw [ho5] at hl5' HP5
        have HO5 := Aside0.mk ho5
        have hle5 : o5.length ≤ 1075838994 + 8 * i := by omega
        clear h5 hb5 hf5 hk5 hr5 HW1 HW2 HW3 HW4 hl5' ho5 r0 r1
        go_wp2_with fail
        refine (num_any w0 w5 g v5 o5 (n + 1) ru.f1 4 HP5.out HB5.out (by decide) (by omega)).mono ?_
        rintro e w6 ⟨rfl, ⟨v6, h6⟩, hb6, hf6⟩
        have HP6 := Aside0.mk h6
        have HB6 := Aside0.mk hb6
        have HK6 := Aside0.mk (hf6.cell HK5.out hgn (by decide))
        clear h6 hb6 hf6 HP5 HB5 HK5 y1 z5
        go_wp2_with fail
        go_roundg (x.f4.length - (i + 1))
        case measure => omega
        case rel => exact ⟨i + 1, v6, o5 ++ leB 4 ru.f1, by omega, by first | rfl | simp, ⟨by rw [HNX.out, ← HO5.out, ← HOi.out]; simp only [List.append_assoc]⟩, by rw [List.length_append, leB_length]; omega, HP6, HB6, ⟨HK6.out.trans HK4.out.symm⟩⟩
      · have hd : decide ((i : Int) < (x.f4.length : Int)) = false := decide_eq_false (by omega)
        have hd2 : decide (i < x.f4.length) = false := decide_eq_false hi
        have hE : x.f4.take i = x.f4 := List.take_of_length_le (by omega)
        have u4 : wr.cell? ⟨w.heap.size, 5, none⟩ = some (.slice A5 x.f5.length c5) := by rw [blk_cell hki]; rfl
        have hfin : ∀ w' v', Pk w0.heap.size w' g v' (oi ++ x.f5) (n + 1) → Pk w0.heap.size w' g v' (out ++ itemB x) (n + 1) := by
          intro w' v' h
          unfold itemB
          rw [if_pos HK.out]
          rw [← HOi.out, hE, ← HO4.out, ← HO3.out, ← HO2.out] at h
          simpa only [List.append_assoc] using h
        have HF := Aside0.mk hfin
        have HR := Aside0.mk (Kd.C_below HR5.out HBi.out)
        have hsd := HS.out.d
        have hsr := HS.out.r
        have c0 := HPi.out.cell
        obtain ⟨A, c, hv⟩ := HPi.out.slice
        subst hv
        clear hfin hE hki
        have HD := HPi.out.below (w1 := wr.drew) (below_drew (Below.refl _ _))
        have HBD := below_drew HBi.out
        have HRD := Kd.C_below HR.out (below_drew (Below.refl wr.heap.size wr))
        have HPD := Aside0.mk HD
        have HBD := Aside0.mk HBD
        have HRD := Aside0.mk HRD
        clear HD HR
        go_wp2_with fail
        go_region_law ((refine step_append_ints (w0 := w0) .u8 w0.heap.size rfl (.tmp 54) (.tmp 56) 25 5 1 rfl Tryd.underlying25 info5 (by decide) (.slice A oi.length c) oi x.f5 A5 x.f5.length c5 (fun _ => True) rfl rfl (fun _ _ => trivial) HPD.out.row HRD.out HBD.out HBD.out.size (by omega) ?_; intro v7 w7 ho hb hg _h; have HO7 := Aside0.mk ho; have HG7 := Aside0.mk hg; have HB7 := Aside0.mk hb; obtain ⟨cF, fF, lF⟩ := HPD.out.cells hg; clear ho hb hg _h; obtain ⟨A7, c7, hv7⟩ := Kd.R_slice HO7.out; subst hv7))
        all_goals (
          have hO := HO7.out
          simp only [List.length_append] at hO
          go_wp2_with fail
          go_end0
          exact ⟨rfl, ⟨_, HF.out _ _ (HPD.out.put HG7.out hO)⟩, HB7.out.setCell HPi.out.low _⟩)
  · have t1 : (x.f0 == 1) = false := beq_eq_false_iff_ne.2 k1
    by_cases k3 : x.f0 = 3 ∨ x.f0 = 4
    · have t3 : (x.f0 == 3) = true ∨ ((x.f0 == 3) = false ∧ (x.f0 == 4) = true) := by
        by_cases h : x.f0 = 3
        · exact .inl (beq_iff_eq.2 h)
        · exact .inr ⟨beq_eq_false_iff_ne.2 h, beq_iff_eq.2 (by omega)⟩
      have HK := Aside0.mk k3
      have HKn := Aside0.mk k1
      clear k1 k3
      have hfin : ∀ w' v', Pk w0.heap.size w' g v' (o2 ++ leB 2 x.f2.size ++ bytesOf x.f2) (n + 1) → Pk w0.heap.size w' g v' (out ++ itemB x) (n + 1) := by
        intro w' v' h
        unfold itemB
        rw [if_neg HKn.out, if_pos HK.out]
        rw [← HO2.out] at h
        simpa only [List.append_assoc] using h
      have HF := Aside0.mk hfin
      have hsz := HS.out.t
      clear hfin
      rcases t3 with t3 | ⟨t3, t4⟩
      all_goals (
        go_wp2_with fail
        refine (text_any w0 w2 g v2 o2 (n + 1) x.f2 HP2.out HB2.out (by omega) (by omega)).mono ?_
        rintro e w3 ⟨rfl, ⟨v3, h3⟩, hb3, hf3⟩
        have HP3 := Aside0.mk h3
        have HB3 := Aside0.mk hb3
        clear h3 hb3 hf3
        go_wp2_with fail
        go_end0
        exact ⟨rfl, ⟨v3, HF.out _ _ HP3.out⟩, HB3.out⟩)
    · have t3 : (x.f0 == 3) = false := beq_eq_false_iff_ne.2 (by omega)
      have t4 : (x.f0 == 4) = false := beq_eq_false_iff_ne.2 (by omega)
      have hfin : Pk w0.heap.size w2 g v2 (out ++ itemB x) (n + 1) := by
        have h := HP2.out
        unfold itemB
        rw [if_neg k1, if_neg k3, List.append_nil]
        rw [← HO2.out] at h
        simpa only [List.append_assoc] using h
      have HF := Aside0.mk hfin
      clear k1 k3 hfin
      go_wp2_with fail
      go_end0
      exact ⟨rfl, ⟨v2, HF.out⟩, HB2.out⟩
def closeB (out : List Int) (n : Int) : List Int := out ++ leB 1 0 ++ leB 4 n ++ leB 4 (crcSum (out ++ leB 1 0 ++ leB 4 n))
set_option maxHeartbeats 8000000 in
set_option maxRecDepth 100000 in
theorem end_any (w0 w : World) (g : Nat) (out : List Int) (n : Int) (H : Ps w0.heap.size w g out n) (hb : Below w0.heap.size w0 w) (hl : out.length ≤ 1099511627000) (hwf : ∀ x ∈ out, 0 ≤ x ∧ x ≤ 255) :
    Calls Tryd.prog 30 #[.pointer (some ⟨g, 0, none⟩)] w fun e w' => ∃ v', e = .returned v' ∧ Kd.R (Kd.int .u8) 5 w' w0.heap.size (fun _ => True) v' (closeB out n) ∧ Below w0.heap.size w0 w' := by
  have HS := Aside0.mk H
  have HB := Aside0.mk hb
  have HW := Aside0.mk hwf
  clear H hb hwf
  go_enter Tryd.func30, Tryd.ntmps30
  go_wp2_with fail
  refine (num_one w0 _ g out n 0 HS.out HB.out (by omega)).mono ?_
  rintro e w1 ⟨rfl, ⟨v1, h1⟩, hb1, hf1⟩
  have HP1 := Aside0.mk h1
  have HB1 := Aside0.mk hb1
  have d1 : w1.cell? ⟨g, 1, none⟩ = some (.int .i64 n) := by rw [blk_cell h1.blk]; rfl
  have hl1 : (out ++ leB 1 0).length = out.length + 1 := by rw [List.length_append, leB_length]
  obtain ⟨o1, ho1⟩ : ∃ o, out ++ leB 1 0 = o := ⟨_, rfl⟩
  rw [ho1] at hl1 HP1
  have HO1 := Aside0.mk ho1
  have hle1 : o1.length ≤ 1099511627001 := by omega
  clear h1 hb1 hf1 hl1 ho1
  go_wp2_with fail
  refine (num_any w0 w1 g v1 o1 n n 4 HP1.out HB1.out (by decide) (by omega)).mono ?_
  rintro e w2 ⟨rfl, ⟨v2, h2⟩, hb2, hf2⟩
  have hl2 : (o1 ++ leB 4 n).length = o1.length + 4 := by rw [List.length_append, leB_length]
  have hw2 : ∀ x ∈ o1 ++ leB 4 n, 0 ≤ x ∧ x ≤ 255 := by
    intro x hx
    rcases List.mem_append.1 hx with hx | hx
    · rw [← HO1.out] at hx
      rcases List.mem_append.1 hx with hx | hx
      · exact HW.out x hx
      · exact leB_wf _ _ x hx
    · exact leB_wf _ _ x hx
  obtain ⟨o2, ho2⟩ : ∃ o, o1 ++ leB 4 n = o := ⟨_, rfl⟩
  rw [ho2] at hl2 h2 hw2
  have HP2 := Aside0.mk h2
  have HB2 := Aside0.mk hb2
  have HO2 := Aside0.mk (show out ++ leB 1 0 ++ leB 4 n = o2 by rw [HO1.out]; exact ho2)
  have HW2 := Aside0.mk hw2
  have hle2 : o2.length ≤ 1099511627005 := by omega
  have c2 := h2.cell
  obtain ⟨A, c, e2, hcap, hread⟩ := Kd.R_reads h2.row
  subst e2
  have HR2 := Aside0.mk hread
  clear h2 hb2 hf2 hl2 ho2 hw2 hread HP1 HB1 HO1 hle1 d1
  go_wp2_with fail
  refine (sum_any A c o2 w2 HR2.out hcap HW2.out).mono ?_
  rintro e w3 ⟨rfl, hb3⟩
  have HP3 := Aside0.mk (HP2.out.below hb3)
  have HB3 := Aside0.mk (HB2.out.trans (hb3.mono HB2.out.size))
  clear hb3 c2
  go_wp2_with fail
  refine (num_any w0 w3 g _ o2 n (crcSum o2) 4 HP3.out HB3.out (by decide) (by omega)).mono ?_
  rintro e w4 ⟨rfl, ⟨v4, h4⟩, hb4, hf4⟩
  have c4 := h4.cell
  have HP4 := Aside0.mk h4
  have HB4 := Aside0.mk hb4
  clear h4 hb4 hf4
  go_wp2_with fail
  go_ret
  refine ⟨_, rfl, ?_, HB4.out⟩
  unfold closeB
  rw [HO2.out]
  exact HP4.out.row
end Go.Proofs.YtkfikinjlbbibaaDoor
