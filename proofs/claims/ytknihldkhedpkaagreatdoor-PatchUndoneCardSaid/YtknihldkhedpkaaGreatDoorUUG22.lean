import Derived.Test.YtknihldkhedpkaaGreatDoorUUG20
import Derived.Test.YtknihldkhedpkaaGreatDoorUUG21
import Derived.StringKeys
set_option linter.all false
set_option maxHeartbeats 16000000
set_option maxRecDepth 100000
namespace Go.Proofs.YtknihldkhedpkaaGreatDoor
open Go.RowKit Go.Lib Go.Maps Go.WideAt
open Go.Proofs.YtknihldkhedpkaaGreatDoorW.PrintWords Go.Proofs.YtknihldkhedpkaaGreatDoorW.PrintLast Go.Proofs.YtknihldkhedpkaaGreatDoor.PT
structure QY (w:World) (c:Ch) (C4:Option Addr) (mE:Nat) (C5:Option Addr) (mF:Nat) (C7:Option Addr) (nP:Nat):Prop where
 l4:c.f1.f4.length≤mE
 g4:Kd.C dB w C4 c.f1.f4.length c.f1.f4
 l5:c.f1.f5.length≤mF
 g5:Kd.C (Kd.int .u8) w C5 c.f1.f5.length c.f1.f5
 l7:c.f2.length≤nP
 g7:Kd.C dB w C7 c.f2.length c.f2
theorem QY.below {w w1:World} {c:Ch} {C4:Option Addr} {mE:Nat} {C5:Option Addr} {mF:Nat} {C7:Option Addr} {nP:Nat} (h:QY w c C4 mE C5 mF C7 nP) (hb:Below w.heap.size w w1):QY w1 c C4 mE C5 mF C7 nP :=
 ⟨h.l4,Kd.aC h.g4 hb,h.l5,Kd.aC h.g5 hb,h.l7,Kd.aC h.g7 hb⟩
def qX (w W:World) (bm n:Nat) (cs:List Ch):Prop:=∃F,kU Tryz.prog 9 W bm n F∧∀k:ByteArray,match tT cs k with
 | none=>F (.string (bs k))=none
 | some c=>∃C4 mE C5 mF C7 nP,F (.string (bs k))=some (chV c C4 mE C5 mF C7 nP)∧QY w c C4 mE C5 mF C7 nP
section
variable {w W W1 : World} {bm n : Nat} {cs : List Ch}
theorem qX.made (w W:World):qX w (W.alloc (.map #[] 0)) W.heap.size 0 []:=⟨fun _=>none,kU.made _ _ _,fun k=>rfl⟩
theorem qX.same (h:qX w W bm n cs) (hb:W1.heap[bm]?=W.heap[bm]?):qX w W1 bm n cs:=by
 obtain⟨F,h1,h2⟩:=h;exact⟨F,h1.same hb,h2⟩
theorem qX.lt (h:qX w W bm n cs):bm<W.heap.size:=by
 obtain⟨F,h1,h2⟩:=h;exact h1.lt
theorem qX.below (h:qX w W bm n cs) (hb:Below W.heap.size W W1):qX w W1 bm n cs:=h.same (hb.block bm h.lt)
theorem qX.has (h:qX w W bm n cs):∃o,W.heap[bm]?=some o∧o.isCells=false:=by
 obtain⟨F,⟨D,⟨es,clock,h1,_⟩,_⟩,h2⟩:=h;exact⟨_,h1,rfl⟩
theorem qX.others (h:qX w W bm n cs) (hs:∀o:Obj,W.heap[bm]?=some o→o.isCells=false→W1.heap[bm]?=some o):qX w W1 bm n cs:=by
 obtain⟨o,h1,h2⟩:=h.has;exact h.same ((hs o h1 h2).trans h1.symm)
open Classical in
theorem qX.put {c:Ch} {C4:Option Addr} {mE:Nat} {C5:Option Addr} {mF:Nat} {C7:Option Addr} {nP:Nat} {t:TypeId} (h:qX w W bm n cs) (ht:Tryz.prog.underlying t=some (.map 9 31)) (hn:n<maxLen) (hk:(qR c).size≤maxLen) (hl:QY w c C4 mE C5 mF C7 nP) :
  ∃w',(Instr.mapUpdate t (.map (some bm)) (.string (qR c)) (chV c C4 mE C5 mF C7 nP)).run Tryz.prog W=.ok () w'∧qX w w' bm (n+1) (cs++[c])∧W.grownBy w' (some bm):=by
 obtain⟨F,h1,h2⟩:=h;obtain⟨w',r1,r2,r3⟩:=h1.update Xf ht hn (chV c C4 mE C5 mF C7 nP) (Go.WideMaps.keyOf_string_mk Tryz.underlying9 hk);refine⟨w',r1,⟨fun q=>if q=.string (bs (qR c)) then some (chV c C4 mE C5 mF C7 nP) else F q,r2 _ (if_pos rfl) (fun q hq=>if_neg hq),fun k=>?_⟩,r3⟩;rw[Uk];by_cases e:qR c=k
 ·subst e;rw[if_pos rfl];exact⟨C4,mE,C5,mF,C7,nP,if_pos rfl,hl⟩
 rw[if_neg e]
 have hne:¬(Lit.string (bs k)=Lit.string (bs (qR c))):=fun h=>e (mg (Lit.string.inj h)).symm
 have:=h2 k
 cases hc:tT cs k with
 | none=>
  rw[hc] at this;exact (if_neg hne).trans this
 | some d=>
  rw[hc] at this;obtain⟨a4,b4,a5,b5,a7,b7,g1,g2⟩:=this;exact⟨a4,b4,a5,b5,a7,b7,(if_neg hne).trans g1,g2⟩
end
abbrev zCh:Value:=.agg #[.int .i64 0,.int .i64 0,.string ⟨#[]⟩,.string ⟨#[]⟩,.int .i64 0,.slice none 0 0,.slice none 0 0,.slice none 0 0]
theorem ahj:∀w:World,(zeroValue 31).run Tryz.prog w=.ok zCh w:=fun w=>by kernel_rfl
theorem qX.look {w W:World} {bm n:Nat} {cs:List Ch} {t:TypeId} (h:qX w W bm n cs) (ht:Tryz.prog.underlying t=some (.map 9 31)) (k:ByteArray) (hk:k.size≤maxLen) :
  match tT cs k with
  | none=>(Instr.lookup t (.map (some bm)) (.string k) true).run Tryz.prog W=.ok (.tuple #[zCh,.bool false]) W
  | some c=>∃C4 mE C5 mF C7 nP,(Instr.lookup t (.map (some bm)) (.string k) true).run Tryz.prog W=.ok (.tuple #[chV c C4 mE C5 mF C7 nP,.bool true]) W∧QY w c C4 mE C5 mF C7 nP:=by
 obtain⟨F,h1,h2⟩:=h;have hl:=h1.look Xf ht (ahj W) (Go.WideMaps.keyOf_string_mk Tryz.underlying9 hk);have:=h2 k
 cases hc:tT cs k with
 | none=>
  rw[hc] at this;rw[show F (.string k.data.toList)=none from this] at hl;exact hl
 | some c=>
  rw[hc] at this;obtain⟨a4,b4,a5,b5,a7,b7,g1,g2⟩:=this;rw[show F (.string k.data.toList)=some (chV c a4 b4 a5 b5 a7 b7) from g1] at hl;exact⟨a4,b4,a5,b5,a7,b7,hl,g2⟩
theorem vZ {α:Type} {d:Kd α} {e base nb:Nat} {A C:World} {v:Value} {xs:List α} (h:d.R e A base (fun k=>k<nb) v xs) (hk:∀k cs q,k<nb→q∈e::d.E→A.heap[k]?=some (.cells cs q (0,0))→C.heap[k]?=some (.cells cs q (0,0))):d.R e C base (fun k=>k<nb) v xs:=by
 have h2:=Kd.gM h;refine Kd.dU (Kd.ou h2 (fun k ho hlt=>?_)) (fun k hk=>hk.1);obtain⟨h0,_,_,q,hq,cs,hc⟩:=ho;exact (hk k cs q h0 hq hc).trans hc.symm
theorem GH {q:Nat} (h:q∈29::om.E):q=29∨q=117∨q=5:=by
 simp[om,Kd.Po,Kd.pair,Kd.int,Kd.scalar,Kd.string,Kd.slice,dB] at h;omega
def UK (w:World) (nb:Nat) (vf:Value) (fr:List It) (W:World):Prop:=Below w.heap.size w W∧Kd.R om 29 W w.heap.size (fun k=>k<nb) vf fr
theorem UK.below {w W W1:World} {nb:Nat} {vf:Value} {fr:List It} (h:UK w nb vf fr W) (hb:Below W.heap.size W W1):UK w nb vf fr W1 :=
 ⟨h.1.trans (hb.mono h.1.size),vZ h.2 (fun k cs q _ _ hc=>aG hc hb)⟩
def UL {w:World} {nb:Nat} {A0 A1:Option Addr} {c1:Nat} {old fr:List It} (hr:Kd.C om w A0 old.length old) (hb:w.heap.size≤nb):Two.Reader (lg old fr) (lg A0 A1) where
 P:=UK w nb (.slice A1 fr.length c1) fr
 base:=nb
 rd:=fun W h=>oO (Kd.aC hr h.1) (Kd.bT h.2).2.2
 below:=fun W W1 h hb=>h.below hb
 st:=fun B W W1 hB h hs=>⟨hs.low (Nat.le_trans hb hB) h.1 (Nat.le_refl _),vZ h.2 (fun k cs q h0 hq hc=>by
  rcases hs.blocks k (bE hc) with e|⟨_,cs1,cs2,t,ht,e1,e2⟩
  ·exact e.trans hc
  rw[hc] at e1
  injection e1 with e1
  injection e1 with _ e1
  rcases GH hq with rfl|rfl|rfl <;> rcases ht with rfl|rfl <;> exact absurd e1 aD)⟩
theorem UK.kq {w A C:World} {nb B:Nat} {vf:Value} {fr:List It} (h:UK w nb vf fr A) (hq:Kq B A C) (h0:w.heap.size≤nb) (h1:nb≤B):UK w nb vf fr C :=
 ⟨hq.low (Nat.le_trans h0 h1) (Nat.le_refl _) h.1,vZ h.2 (fun k cs q hk _ hc=>hq.blocks _ _ hc (.inl aj))⟩
theorem Two.UM {L:Nat→List It} {A:Nat→Option Addr} {rs:List Two.Rd} {W:World} {pre:List Two.oG} {x:Two.oG} {l:Nat} {o o':Obj} (h:Two.Tx L A rs pre x W) (ho:W.heap[l]?=some o) (hc:o.isCells=false):Two.Tx L A rs pre x (W.putObj l o'):=by
 obtain⟨hr,p0,p1,hg,h0,h1⟩:=h;refine⟨hr,p0,p1,(World.putObj_heap_other (fun e=>?_)).trans hg,h0,h1⟩;rw[e,ho] at hg
 injection hg with hg
 subst hg;cases hc
theorem ZJ {P:World→Prop} {nb:Nat} {S:Nat→Prop} {A C:World} {l:Nat} {o o1 p o2:Obj} (hP:∀(W:World) (o o':Obj),P W→W.heap[l]?=some o→o.isCells=false→P (W.putObj l o')) (hS:∀k,S k→k<nb) (hl:nb≤l) (ho:A.heap[l]?=some o) (hc:o.isCells=false) (h:Two.KpG P S (A.putObj l o1) C) (hp:C.heap[l]?=some p) (hpc:p.isCells=false):Two.KpG P S A (C.putObj l o2):=by
 refine⟨fun hA=>hP _ _ _ (h.low (hP _ _ _ hA ho hc)) hp hpc,fun k hk=>?_,fun k cs hk=>?_⟩
 ·have hne:k≠l:=by have:=hS k hk;omega
  exact (World.putObj_heap_other hne).trans ((h.same k hk).trans (World.putObj_heap_other hne))
 have hne:k≠l:=fun e=>by
  rw[e,ho] at hk
  injection hk with hk
  subst hk;cases hc
 exact (World.putObj_heap_other hne).trans (h.nums k cs ((World.putObj_heap_other hne).trans hk))
structure Tz (w:World) (nb pl pb pm bm nm:Nat) (cs:List Ch) (S:List It) (W:World):Prop where
 low:Below w.heap.size w W
 big:nb≤W.heap.size
 lb:∃v,W.heap[pl]?=some (.cells #[v] 25 (0,0))∧Kd.S om 29 W nb (fun _=>True) v S
 ob:W.heap[pb]?=some (.cells #[.bool false] 4 (0,0))
 mb:W.heap[pm]?=some (.cells #[.map (some bm)] 162 (0,0))
 mp:qX w W bm nm cs
section
variable {w A C : World} {nb pl pb pm bm nm B : Nat} {cs : List Ch} {S : List It}
theorem Tz.below (h:Tz w nb pl pb pm bm nm cs S A) (hb:Below A.heap.size A C):Tz w nb pl pb pm bm nm cs S C:=by
 obtain⟨v,hv,ML⟩:=h.lb;exact⟨h.low.trans (hb.mono h.low.size),Nat.le_trans h.big hb.size,⟨v,aG hv hb,Kd.nk ML hb⟩,aG h.ob hb,aG h.mb hb,h.mp.below hb⟩
theorem Tz.kq (h:Tz w nb pl pb pm bm nm cs S A) (hq:Kq B A C) (h0:w.heap.size≤B) (h1:pl<B∧pb<B∧pm<B∧bm<B):Tz w nb pl pb pm bm nm cs S C:=by
 obtain⟨v,hv,ML⟩:=h.lb;exact⟨hq.low h0 (Nat.le_refl _) h.low,Nat.le_trans h.big hq.size,⟨v,hq.blocks _ _ hv (.inl h1.1),hq.afR ML (fun q hq=>by rcases GH hq with rfl|rfl|rfl <;> decide)⟩,hq.blocks _ _ h.ob (.inl h1.2.1),hq.blocks _ _ h.mb (.inl h1.2.2.1),h.mp.others (fun o ho _=>hq.blocks _ _ ho (.inl h1.2.2.2))⟩
theorem Tz.push {W1:World} {x:It} {v v1:Value} (h:Tz w nb pl pb pm bm nm cs S A) (hv:A.heap[pl]?=some (.cells #[v] 25 (0,0))) (hr:Kd.S om 29 A nb (fun _=>True) v S)
  (hr1:Kd.S om 29 W1 nb (fun _=>True) v1 (S++[x])) (hg:A.grownBy W1 v.ownBlock) (h0:w.heap.size≤nb) (h1:w.heap.size≤pl) (hd:pl≠pb∧pl≠pm):Tz w nb pl pb pm bm nm cs (S++[x]) (W1.setCell ⟨pl,0,none⟩ v1):=by
 have hoth:∀k (o:Obj),A.heap[k]?=some o→(∀cs,o≠.cells cs 29 (0,0))→W1.heap[k]?=some o:=fun k o ho hne=>(hg.block k (bE ho) (jO (Kd.I9 hr) ho hne)).trans ho
 have hb:=hoth _ _ hv (fun cs e=>by injection e with _ e;exact absurd e aD);refine⟨((h.low.grown hg h.low.size (fun k e=>by have:=Kd.Xg hr k e;omega)).setCell (by show w.heap.size≤pl;omega) _),?_,⟨v1,iC hb 0 v1 (by rfl),Kd.Xh hr1 hb (fun q hq=>by rcases GH hq with rfl|rfl|rfl <;> decide) 0 v1⟩,?_,?_,?_⟩
 ·have h2:=((Below.refl 0 W1).setCell (p:=⟨pl,0,none⟩) (Nat.zero_le _) v1).size;exact Nat.le_trans h.big (Nat.le_trans hg.size h2)
 ·exact iL (hoth _ _ h.ob (fun cs e=>by injection e with _ e;exact absurd e aD)) (by show pb≠pl;exact fun e=>hd.1 e.symm) _
 ·exact iL (hoth _ _ h.mb (fun cs e=>by injection e with _ e;exact absurd e aD)) (by show pm≠pl;exact fun e=>hd.2 e.symm) _
 refine h.mp.others (fun o ho hc=>?_);have h5:=hoth _ _ ho (fun cs e=>by rw[e] at hc;cases hc)
 have hne:bm≠pl:=fun e=>by
  rw[e,hb] at h5;obtain rfl:=Option.some.inj h5;cases hc
 exact (Below.heap_setCell W1 ⟨pl,0,none⟩ v1 bm hne).trans h5
end
def OcX (w:World) (pl pb:Nat) (o:Option (List It)) (ch:List PanicEntry) (W:World):Prop :=
 ch=[{ v:=.iface 160 (.agg #[]),recovered:=false }]∧o=none∧Below w.heap.size w W∧(∃v,W.heap[pl]?=some (.cells #[v] 25 (0,0)))∧W.heap[pb]?=some (.cells #[.bool false] 4 (0,0))
def ZK (w:World) (nb pl pb pm bm nm b1 b2 br:Nat) (R:World→Prop) (cs:List Ch) (o:Option (List It)) (rs:List Two.Rd) (W:World) (e:Exit) (a:Act) (B:World):Prop :=
 (e=.normal∧(∃S,kP cs rs []=some S∧Tz w nb pl pb pm bm nm cs S B)∧Two.KpG R (fun k=>k=b1∨k=b2∨k=br) W B∧Still nb W B)∨(∃ch,e=.panic ch∧a.defers=[]∧OcX w pl pb o ch B∧Still nb W B)
def adT (w:World) (o:Option (List It)) (e:Ending) (w':World):Prop:=Below w.heap.size w w'∧match o with
 | none=>e=.returned (.tuple #[.slice none 0 0,.bool false])
 | some l=>∃v,e=.returned (.tuple #[v,.bool true])∧Kd.S om 29 w' w.heap.size (fun _=>True) v l
theorem am6 {w W:World} {nb pl b1 b2 br:Nat} {vf:Value} {fr:List It} (hR:UK w nb vf fr W) (h0:w.heap.size≤nb) (h1:w.heap.size≤pl) (h2:pl<nb) (hn:nb≤W.heap.size) (hb:(b1<nb∧b1≠pl)∧(b2<nb∧b2≠pl)∧(br<nb∧br≠pl))
  (hl:∃v,W.heap[pl]?=some (.cells #[v] 25 (0,0))) {B:World} (hc:kg nb (fun k=>k=pl) (fun q=>q=29) W B):Two.KpG (UK w nb vf fr) (fun k=>k=b1∨k=b2∨k=br) W B∧Still nb W B:=by
 obtain⟨v,hv⟩:=hl;refine⟨⟨fun _=>⟨hc.low h0 (fun k hk=>by omega) (Nat.le_refl _) hR.1,vZ hR.2 (fun k cs q hk hq ho=>hc.keep ho (fun e=>?_) (.inl hk))⟩,fun k hk=>?_,fun k cs ho=>hc.keep ho (fun e=>?_) (.inr (fun cs2 q e=>by injection e with _ e;rw[← e];decide))⟩,hc.still (fun k hk=>by omega)⟩
 ·have e:k=pl:=e;rw[e,hv] at ho
  injection ho with ho
  injection ho with _ ho
  rcases GH hq with rfl|rfl|rfl <;> exact absurd ho aD
 ·have h3:k<W.heap.size:=by omega
  have h4:=Array.getElem?_eq_getElem h3;rw[h4];exact hc.keep h4 (fun e=>by have e:k=pl:=e;omega) (.inl aj)
 have e:k=pl:=e;rw[e,hv] at ho
 injection ho with ho
 injection ho with _ ho
 exact absurd ho aD
end Go.Proofs.YtknihldkhedpkaaGreatDoor
