import Derived.Test.YtknihldkhedpkaaGreatDoorDDG27
import Derived.Test.YtknihldkhedpkaaGreatDoorDDG24
import Derived.StringKeys
set_option linter.all false
set_option maxHeartbeats 16000000
set_option maxRecDepth 100000
section
namespace Go.Proofs.YtknihldkhedpkaaGreatDoor
open Go.RowKit Go.Lib Go.Maps Go.WideAt
open Go.Proofs.YtknihldkhedpkaaGreatDoorW.PrintWords Go.Proofs.YtknihldkhedpkaaGreatDoorW.PrintLast Go.Proofs.YtknihldkhedpkaaGreatDoor.PT
structure Q6 (w:World) (c:Ch) (C4:Option Addr) (wF:Nat) (C5:Option Addr) (wG:Nat) (C7:Option Addr) (zJ:Nat):Prop where
 l4:c.f1.f4.length≤wF
 g4:Kd.C dw w C4 c.f1.f4.length c.f1.f4
 l5:c.f1.f5.length≤wG
 g5:Kd.C (Kd.int .u8) w C5 c.f1.f5.length c.f1.f5
 l7:c.f2.length≤zJ
 g7:Kd.C dw w C7 c.f2.length c.f2
theorem Q6.below {w w1:World} {c:Ch} {C4:Option Addr} {wF:Nat} {C5:Option Addr} {wG:Nat} {C7:Option Addr} {zJ:Nat} (h:Q6 w c C4 wF C5 wG C7 zJ) (hb:Below w.heap.size w w1):Q6 w1 c C4 wF C5 wG C7 zJ :=
 ⟨h.l4,Kd.aC h.g4 hb,h.l5,Kd.aC h.g5 hb,h.l7,Kd.aC h.g7 hb⟩
def qF (w W:World) (bm n:Nat) (cs:List Ch):Prop:=∃F,mq Tryz.prog 9 W bm n F∧∀k:ByteArray,match wL cs k with
 | none=>F (.string (bs k))=none
 | some c=>∃C4 wF C5 wG C7 zJ,F (.string (bs k))=some (chV c C4 wF C5 wG C7 zJ)∧Q6 w c C4 wF C5 wG C7 zJ
section
variable {w W W1 : World} {bm n : Nat} {cs : List Ch}
theorem qF.made (w W:World):qF w (W.alloc (.map #[] 0)) W.heap.size 0 []:=⟨fun _=>none,mq.made _ _ _,fun k=>rfl⟩
theorem qF.same (h:qF w W bm n cs) (hb:W1.heap[bm]?=W.heap[bm]?):qF w W1 bm n cs:=by
 obtain⟨F,h1,h2⟩:=h;exact⟨F,h1.same hb,h2⟩
theorem qF.lt (h:qF w W bm n cs):bm<W.heap.size:=by
 obtain⟨F,h1,h2⟩:=h;exact h1.lt
theorem qF.below (h:qF w W bm n cs) (hb:Below W.heap.size W W1):qF w W1 bm n cs:=h.same (hb.block bm h.lt)
theorem qF.has (h:qF w W bm n cs):∃o,W.heap[bm]?=some o∧o.isCells=false:=by
 obtain⟨F,⟨D,⟨es,clock,h1,_⟩,_⟩,h2⟩:=h;exact⟨_,h1,rfl⟩
theorem qF.others (h:qF w W bm n cs) (hs:∀o:Obj,W.heap[bm]?=some o→o.isCells=false→W1.heap[bm]?=some o):qF w W1 bm n cs:=by
 obtain⟨o,h1,h2⟩:=h.has;exact h.same ((hs o h1 h2).trans h1.symm)
open Classical in
theorem qF.put {c:Ch} {C4:Option Addr} {wF:Nat} {C5:Option Addr} {wG:Nat} {C7:Option Addr} {zJ:Nat} {t:TypeId} (h:qF w W bm n cs) (ht:Tryz.prog.underlying t=some (.map 9 31)) (hn:n<maxLen) (hk:(C9 c).size≤maxLen) (hl:Q6 w c C4 wF C5 wG C7 zJ) :
  ∃w',(Instr.mapUpdate t (.map (some bm)) (.string (C9 c)) (chV c C4 wF C5 wG C7 zJ)).run Tryz.prog W=.ok () w'∧qF w w' bm (n+1) (cs++[c])∧W.grownBy w' (some bm):=by
 obtain⟨F,h1,h2⟩:=h;obtain⟨w',r1,r2,r3⟩:=h1.update Yy ht hn (chV c C4 wF C5 wG C7 zJ) (Go.WideMaps.keyOf_string_mk Tryz.underlying9 hk);refine⟨w',r1,⟨fun q=>if q=.string (bs (C9 c)) then some (chV c C4 wF C5 wG C7 zJ) else F q,r2 _ (if_pos rfl) (fun q hq=>if_neg hq),fun k=>?_⟩,r3⟩;rw[UA];by_cases e:C9 c=k
 ·subst e;rw[if_pos rfl];exact⟨C4,wF,C5,wG,C7,zJ,if_pos rfl,hl⟩
 rw[if_neg e]
 have hne:¬(Lit.string (bs k)=Lit.string (bs (C9 c))):=fun h=>e (nY (Lit.string.inj h)).symm
 have:=h2 k
 cases hc:wL cs k with
 | none=>
  rw[hc] at this;exact (if_neg hne).trans this
 | some d=>
  rw[hc] at this;obtain⟨a4,b4,a5,b5,a7,b7,g1,g2⟩:=this;exact⟨a4,b4,a5,b5,a7,b7,(if_neg hne).trans g1,g2⟩
end
abbrev zCh:Value:=.agg #[.int .i64 0,.int .i64 0,.string ⟨#[]⟩,.string ⟨#[]⟩,.int .i64 0,.slice none 0 0,.slice none 0 0,.slice none 0 0]
theorem ajf:∀w:World,(zeroValue 31).run Tryz.prog w=.ok zCh w:=fun w=>by kernel_rfl
theorem qF.look {w W:World} {bm n:Nat} {cs:List Ch} {t:TypeId} (h:qF w W bm n cs) (ht:Tryz.prog.underlying t=some (.map 9 31)) (k:ByteArray) (hk:k.size≤maxLen) :
  match wL cs k with
  | none=>(Instr.lookup t (.map (some bm)) (.string k) true).run Tryz.prog W=.ok (.tuple #[zCh,.bool false]) W
  | some c=>∃C4 wF C5 wG C7 zJ,(Instr.lookup t (.map (some bm)) (.string k) true).run Tryz.prog W=.ok (.tuple #[chV c C4 wF C5 wG C7 zJ,.bool true]) W∧Q6 w c C4 wF C5 wG C7 zJ:=by
 obtain⟨F,h1,h2⟩:=h;have hl:=h1.look Yy ht (ajf W) (Go.WideMaps.keyOf_string_mk Tryz.underlying9 hk);have:=h2 k
 cases hc:wL cs k with
 | none=>
  rw[hc] at this;rw[show F (.string k.data.toList)=none from this] at hl;exact hl
 | some c=>
  rw[hc] at this;obtain⟨a4,b4,a5,b5,a7,b7,g1,g2⟩:=this;rw[show F (.string k.data.toList)=some (chV c a4 b4 a5 b5 a7 b7) from g1] at hl;exact⟨a4,b4,a5,b5,a7,b7,hl,g2⟩
theorem wz {α:Type} {d:Kd α} {e base nb:Nat} {A C:World} {v:Value} {xs:List α} (h:d.R e A base (fun k=>k<nb) v xs) (hk:∀k cs q,k<nb→q∈e::d.E→A.heap[k]?=some (.cells cs q (0,0))→C.heap[k]?=some (.cells cs q (0,0))):d.R e C base (fun k=>k<nb) v xs:=by
 have h2:=Kd.ig h;refine Kd.dX (Kd.nZ h2 (fun k ho hlt=>?_)) (fun k hk=>hk.1);obtain⟨h0,_,_,q,hq,cs,hc⟩:=ho;exact (hk k cs q h0 hq hc).trans hc.symm
theorem H9 {q:Nat} (h:q∈29::mV.E):q=29∨q=117∨q=5:=by
 simp[mV,Kd.Mr,Kd.pair,Kd.int,Kd.scalar,Kd.string,Kd.slice,dw] at h;omega
def Vs (w:World) (nb:Nat) (vf:Value) (fr:List It) (W:World):Prop:=Below w.heap.size w W∧Kd.R mV 29 W w.heap.size (fun k=>k<nb) vf fr
theorem Vs.below {w W W1:World} {nb:Nat} {vf:Value} {fr:List It} (h:Vs w nb vf fr W) (hb:Below W.heap.size W W1):Vs w nb vf fr W1 :=
 ⟨h.1.trans (hb.mono h.1.size),wz h.2 (fun k cs q _ _ hc=>aJ hc hb)⟩
def Vt {w:World} {nb:Nat} {A0 A1:Option Addr} {c1:Nat} {old fr:List It} (hr:Kd.C mV w A0 old.length old) (hb:w.heap.size≤nb):Two.Reader (jw old fr) (jw A0 A1) where
 P:=Vs w nb (.slice A1 fr.length c1) fr
 base:=nb
 rd:=fun W h=>oF (Kd.aC hr h.1) (Kd.bU h.2).2.2
 below:=fun W W1 h hb=>h.below hb
 st:=fun B W W1 hB h hs=>⟨hs.low (Nat.le_trans hb hB) h.1 (Nat.le_refl _),wz h.2 (fun k cs q h0 hq hc=>by
  rcases hs.blocks k (bG hc) with e|⟨_,cs1,cs2,t,ht,e1,e2⟩
  ·exact e.trans hc
  rw[hc] at e1
  injection e1 with e1
  injection e1 with _ e1
  rcases H9 hq with rfl|rfl|rfl <;> rcases ht with rfl|rfl <;> exact absurd e1 aH)⟩
theorem Vs.kq {w A C:World} {nb B:Nat} {vf:Value} {fr:List It} (h:Vs w nb vf fr A) (hq:Kq B A C) (h0:w.heap.size≤nb) (h1:nb≤B):Vs w nb vf fr C :=
 ⟨hq.low (Nat.le_trans h0 h1) (Nat.le_refl _) h.1,wz h.2 (fun k cs q hk _ hc=>hq.blocks _ _ hc (.inl aj))⟩
theorem Two.Vu {L:Nat→List It} {A:Nat→Option Addr} {rs:List Two.Rd} {W:World} {pre:List Two.oJ} {x:Two.oJ} {l:Nat} {o o':Obj} (h:Two.Ue L A rs pre x W) (ho:W.heap[l]?=some o) (hc:o.isCells=false):Two.Ue L A rs pre x (W.putObj l o'):=by
 obtain⟨hr,p0,p1,hg,h0,h1⟩:=h;refine⟨hr,p0,p1,(World.putObj_heap_other (fun e=>?_)).trans hg,h0,h1⟩;rw[e,ho] at hg
 injection hg with hg
 subst hg;cases hc
theorem aa5 {P:World→Prop} {nb:Nat} {S:Nat→Prop} {A C:World} {l:Nat} {o o1 p o2:Obj} (hP:∀(W:World) (o o':Obj),P W→W.heap[l]?=some o→o.isCells=false→P (W.putObj l o')) (hS:∀k,S k→k<nb) (hl:nb≤l) (ho:A.heap[l]?=some o) (hc:o.isCells=false) (h:Two.KpG P S (A.putObj l o1) C) (hp:C.heap[l]?=some p) (hpc:p.isCells=false):Two.KpG P S A (C.putObj l o2):=by
 refine⟨fun hA=>hP _ _ _ (h.low (hP _ _ _ hA ho hc)) hp hpc,fun k hk=>?_,fun k cs hk=>?_⟩
 ·have hne:k≠l:=by have:=hS k hk;omega
  exact (World.putObj_heap_other hne).trans ((h.same k hk).trans (World.putObj_heap_other hne))
 have hne:k≠l:=fun e=>by
  rw[e,ho] at hk
  injection hk with hk
  subst hk;cases hc
 exact (World.putObj_heap_other hne).trans (h.nums k cs ((World.putObj_heap_other hne).trans hk))
structure Ug (w:World) (nb pl pb pm bm nm:Nat) (cs:List Ch) (S:List It) (W:World):Prop where
 low:Below w.heap.size w W
 big:nb≤W.heap.size
 lb:∃v,W.heap[pl]?=some (.cells #[v] 25 (0,0))∧Kd.S mV 29 W nb (fun _=>True) v S
 ob:W.heap[pb]?=some (.cells #[.bool false] 4 (0,0))
 mb:W.heap[pm]?=some (.cells #[.map (some bm)] 162 (0,0))
 mp:qF w W bm nm cs
section
variable {w A C : World} {nb pl pb pm bm nm B : Nat} {cs : List Ch} {S : List It}
theorem Ug.below (h:Ug w nb pl pb pm bm nm cs S A) (hb:Below A.heap.size A C):Ug w nb pl pb pm bm nm cs S C:=by
 obtain⟨v,hv,FI⟩:=h.lb;exact⟨h.low.trans (hb.mono h.low.size),Nat.le_trans h.big hb.size,⟨v,aJ hv hb,Kd.pQ FI hb⟩,aJ h.ob hb,aJ h.mb hb,h.mp.below hb⟩
theorem Ug.kq (h:Ug w nb pl pb pm bm nm cs S A) (hq:Kq B A C) (h0:w.heap.size≤B) (h1:pl<B∧pb<B∧pm<B∧bm<B):Ug w nb pl pb pm bm nm cs S C:=by
 obtain⟨v,hv,FI⟩:=h.lb;exact⟨hq.low h0 (Nat.le_refl _) h.low,Nat.le_trans h.big hq.size,⟨v,hq.blocks _ _ hv (.inl h1.1),hq.ajg FI (fun q hq=>by rcases H9 hq with rfl|rfl|rfl <;> decide)⟩,hq.blocks _ _ h.ob (.inl h1.2.1),hq.blocks _ _ h.mb (.inl h1.2.2.1),h.mp.others (fun o ho _=>hq.blocks _ _ ho (.inl h1.2.2.2))⟩
theorem Ug.push {W1:World} {x:It} {v v1:Value} (h:Ug w nb pl pb pm bm nm cs S A) (hv:A.heap[pl]?=some (.cells #[v] 25 (0,0))) (hr:Kd.S mV 29 A nb (fun _=>True) v S)
  (hr1:Kd.S mV 29 W1 nb (fun _=>True) v1 (S++[x])) (hg:A.grownBy W1 v.ownBlock) (h0:w.heap.size≤nb) (h1:w.heap.size≤pl) (hd:pl≠pb∧pl≠pm):Ug w nb pl pb pm bm nm cs (S++[x]) (W1.setCell ⟨pl,0,none⟩ v1):=by
 have hoth:∀k (o:Obj),A.heap[k]?=some o→(∀cs,o≠.cells cs 29 (0,0))→W1.heap[k]?=some o:=fun k o ho hne=>(hg.block k (bG ho) (gX (Kd.V6 hr) ho hne)).trans ho
 have hb:=hoth _ _ hv (fun cs e=>by injection e with _ e;exact absurd e aH);refine⟨((h.low.grown hg h.low.size (fun k e=>by have:=Kd.Yz hr k e;omega)).setCell (by show w.heap.size≤pl;omega) _),?_,⟨v1,gY hb 0 v1 (by rfl),Kd.YA hr1 hb (fun q hq=>by rcases H9 hq with rfl|rfl|rfl <;> decide) 0 v1⟩,?_,?_,?_⟩
 ·have h2:=((Below.refl 0 W1).setCell (p:=⟨pl,0,none⟩) (Nat.zero_le _) v1).size;exact Nat.le_trans h.big (Nat.le_trans hg.size h2)
 ·exact fJ (hoth _ _ h.ob (fun cs e=>by injection e with _ e;exact absurd e aH)) (by show pb≠pl;exact fun e=>hd.1 e.symm) _
 ·exact fJ (hoth _ _ h.mb (fun cs e=>by injection e with _ e;exact absurd e aH)) (by show pm≠pl;exact fun e=>hd.2 e.symm) _
 refine h.mp.others (fun o ho hc=>?_);have h5:=hoth _ _ ho (fun cs e=>by rw[e] at hc;cases hc)
 have hne:bm≠pl:=fun e=>by
  rw[e,hb] at h5;obtain rfl:=Option.some.inj h5;cases hc
 exact (Below.heap_setCell W1 ⟨pl,0,none⟩ v1 bm hne).trans h5
end
def OcX (w:World) (pl pb:Nat) (o:Option (List It)) (ch:List PanicEntry) (W:World):Prop :=
 ch=[{ v:=.iface 160 (.agg #[]),recovered:=false }]∧o=none∧Below w.heap.size w W∧(∃v,W.heap[pl]?=some (.cells #[v] 25 (0,0)))∧W.heap[pb]?=some (.cells #[.bool false] 4 (0,0))
def aa6 (w:World) (nb pl pb pm bm nm b1 b2 br:Nat) (R:World→Prop) (cs:List Ch) (o:Option (List It)) (rs:List Two.Rd) (W:World) (e:Exit) (a:Act) (B:World):Prop :=
 (e=.normal∧(∃S,oL cs rs []=some S∧Ug w nb pl pb pm bm nm cs S B)∧Two.KpG R (fun k=>k=b1∨k=b2∨k=br) W B∧Still nb W B)∨(∃ch,e=.panic ch∧a.defers=[]∧OcX w pl pb o ch B∧Still nb W B)
def ajh (w:World) (o:Option (List It)) (e:Ending) (w':World):Prop:=Below w.heap.size w w'∧match o with
 | none=>e=.returned (.tuple #[.slice none 0 0,.bool false])
 | some l=>∃v,e=.returned (.tuple #[v,.bool true])∧Kd.S mV 29 w' w.heap.size (fun _=>True) v l
theorem aox {w W:World} {nb pl b1 b2 br:Nat} {vf:Value} {fr:List It} (hR:Vs w nb vf fr W) (h0:w.heap.size≤nb) (h1:w.heap.size≤pl) (h2:pl<nb) (hn:nb≤W.heap.size) (hb:(b1<nb∧b1≠pl)∧(b2<nb∧b2≠pl)∧(br<nb∧br≠pl))
  (hl:∃v,W.heap[pl]?=some (.cells #[v] 25 (0,0))) {B:World} (hc:ng nb (fun k=>k=pl) (fun q=>q=29) W B):Two.KpG (Vs w nb vf fr) (fun k=>k=b1∨k=b2∨k=br) W B∧Still nb W B:=by
 obtain⟨v,hv⟩:=hl;refine⟨⟨fun _=>⟨hc.low h0 (fun k hk=>by omega) (Nat.le_refl _) hR.1,wz hR.2 (fun k cs q hk hq ho=>hc.keep ho (fun e=>?_) (.inl hk))⟩,fun k hk=>?_,fun k cs ho=>hc.keep ho (fun e=>?_) (.inr (fun cs2 q e=>by injection e with _ e;rw[← e];decide))⟩,hc.still (fun k hk=>by omega)⟩
 ·have e:k=pl:=e;rw[e,hv] at ho
  injection ho with ho
  injection ho with _ ho
  rcases H9 hq with rfl|rfl|rfl <;> exact absurd ho aH
 ·have h3:k<W.heap.size:=by omega
  have h4:=Array.getElem?_eq_getElem h3;rw[h4];exact hc.keep h4 (fun e=>by have e:k=pl:=e;omega) (.inl aj)
 have e:k=pl:=e;rw[e,hv] at ho
 injection ho with ho
 injection ho with _ ho
 exact absurd ho aH
end Go.Proofs.YtknihldkhedpkaaGreatDoor
end
section
namespace Go.Proofs.YtknihldkhedpkaaGreatDoor
open Go.RowKit Go.Lib Go.Maps Go.WideAt
open Go.Proofs.YtknihldkhedpkaaGreatDoorW.PrintWords Go.Proofs.YtknihldkhedpkaaGreatDoorW.PrintLast Go.Proofs.YtknihldkhedpkaaGreatDoor.PT
attribute [local go_sem] Oper.semAt_some
theorem YB {y:It} (h4:y.f4.length≤1048576) (h5:y.f5.length≤1073741824):iA.f y.f0 y.f1 y.f2 y.f3 y.f4 y.f5=some (y.f0,y.f1,y.f2,y.f3,y.f4,y.f5):=by
 unfold iA.f oq.f kY.f;rw[if_pos h4,if_pos h5];rfl
theorem Uh:(Tryz.prog.info? 29).map (fun i=>(i.zero,i.size,i.bytes))=some (some (.agg #[.int .i64 0,.string ⟨#[]⟩,.string ⟨#[]⟩,.int .i64 0,.slice none 0 0,.slice none 0 0]),6,96):=by kernel_rfl
theorem aji:∀w:World,(isAgg 25).run Tryz.prog w=.ok false w:=fun w=>by kernel_rfl
theorem Vv {fn:Func} {P:Program} {p1 p2:Tmp} {t1 t2:TypeId} (h:fn.results=#[.cell p1 t1,.cell p2 t2]) (tmps:Array Value) (w:World) (b1 b2:Nat) (v:Value) (ok:Bool)
  (h1:tmps.getD p1 undef=.pointer (some ⟨b1,0,none⟩)) (h2:tmps.getD p2 undef=.pointer (some ⟨b2,0,none⟩)) (g1:w.heap[b1]?=some (.cells #[v] t1 (0,0))) (g2:w.heap[b2]?=some (.cells #[.bool ok] t2 (0,0)))
  (ht1:∀w:World,(isAgg t1).run P w=.ok false w) (ht2:∀w:World,(isAgg t2).run P w=.ok false w) :
  (results fn tmps).run P w=.ok (.tuple #[v,.bool ok]) w:=by
 have h1':tmps[p1]?.getD undef=.pointer (some ⟨b1,0,none⟩):=by simpa using h1
 have h2':tmps[p2]?.getD undef=.pointer (some ⟨b2,0,none⟩):=by simpa using h2
 have hc1:w.cell? ⟨b1,0,none⟩=some v:=ak g1 0;have hc:w.cell? ⟨b2,0,none⟩=some (.bool ok):=ak g2 0
 have e1:(loadVar t1 ⟨b1,0,none⟩).run P w=.ok v w:=by simp[hc1,ht1,go_sem,Result.andThen]
 have e2:(loadVar t2 ⟨b2,0,none⟩).run P w=.ok (.bool ok) w:=by simp[hc,ht2,go_sem,Result.andThen]
 simp only[results,h];simp[h1',h2',asAddr,e1,e2,Result.andThen,Sem.run_bind]
def ads (K:Act→World→Prop):Exit→Act→World→Prop
 | .normal,a,w=>K a w
 | _,_,_=>False
theorem Cq {K:Act→World→Prop} {a:Act} {w:World} (h:K a w):ads K .normal a w:=h
theorem J8 {P:Program} {B:FuncId→Prop} {Q:Exit→Act→World→Prop} {a:Act} {w:World} {x y:Code} (h:x.wp P (ads (Zm B P y Q)) a w):Zm B P (Code.seq x y) Q a w :=
 yD (rD (Code.wp_mono (fun e a w h=>by cases e <;> first|exact h|exact h.elim) h))
structure Oc1 (w:World) (pl:Nat) (cs:List Ch) (i:Nat) (v:Value) (W:World):Prop where
 low:Below w.heap.size w W
 lb:W.heap[pl]?=some (.cells #[.slice none 0 0] 25 (0,0))
 ob:W.heap[pl+1]?=some (.cells #[.bool false] 4 (0,0))
 mb:W.heap[pl+1+1+1]?=some (.cells #[.map (some (pl+1+1))] 162 (0,0))
 mp:qF w W (pl+1+1) i (cs.take i)
 fr:Kd.R mV 29 W w.heap.size (fun _=>True) v (fC (cs.take i))
theorem Oc1.below {w W W1:World} {pl:Nat} {cs:List Ch} {i:Nat} {v:Value} (h:Oc1 w pl cs i v W) (hb:Below W.heap.size W W1):Oc1 w pl cs i v W1 :=
 ⟨h.low.trans (hb.mono h.low.size),aJ h.lb hb,aJ h.ob hb,aJ h.mb hb,h.mp.below hb,Kd.bO h.fr hb⟩
structure aa7 (w:World) (pl:Nat) (cs:List Ch) (i:Nat) (v:Value) (W:World):Prop where
 low:Below w.heap.size w W
 lb:W.heap[pl]?=some (.cells #[.slice none 0 0] 25 (0,0))
 ob:W.heap[pl+1]?=some (.cells #[.bool false] 4 (0,0))
 mb:W.heap[pl+1+1+1]?=some (.cells #[.map (some (pl+1+1))] 162 (0,0))
 mp:qF w W (pl+1+1) (i+1) (cs.take (i+1))
 fr:Kd.R mV 29 W w.heap.size (fun _=>True) v (fC (cs.take i))
theorem Oc1.aoy {w W W1:World} {pl:Nat} {cs:List Ch} {i:Nat} {v:Value} (h:Oc1 w pl cs i v W) (hm:qF w W1 (pl+1+1) (i+1) (cs.take (i+1))) (hg:W.grownBy W1 (some (pl+1+1))) (hp:w.heap.size≤pl):aa7 w pl cs i v W1:=by
 have hoth:∀k (o:Obj),W.heap[k]?=some o→o.isCells=true→W1.heap[k]?=some o:=fun k o ho hc=>(hg.block k (bG ho) (fun e=>by
  obtain⟨o2,h1,h2⟩:=h.mp.has;rw[Option.some.inj e,h1] at ho;obtain rfl:=Option.some.inj ho;rw[h2] at hc
  cases hc)).trans ho
 refine⟨h.low.grown hg h.low.size (fun k e=>by have:=Option.some.inj e;omega),hoth _ _ h.lb rfl,hoth _ _ h.ob rfl,hoth _ _ h.mb rfl,hm,Kd.dX (Kd.nZ (Kd.ig h.fr) (fun k hk hlt=>?_)) (fun _ _=>trivial)⟩;obtain⟨_,_,_,q,_,cells,hc⟩:=hk;exact (hoth _ _ hc rfl).trans hc.symm
theorem aa7.push {w W W1:World} {pl:Nat} {cs:List Ch} {i:Nat} {v v1:Value} {c:Ch} (h:aa7 w pl cs i v W) (hi:i<cs.length) (hc:cs[i]'hi=c) (hb:Below w.heap.size w W1) (hg:W.grownBy W1 v.ownBlock) (hr:Kd.R mV 29 W1 w.heap.size (fun _=>True) v1 (fC (cs.take i)++[zI c])):Oc1 w pl cs (i+1) v1 W1:=by
 have hoth:∀k (o:Obj),W.heap[k]?=some o→(∀cs,o≠.cells cs 29 (0,0))→W1.heap[k]?=some o:=fun k o ho hne=>(hg.block k (bG ho) (gX h.fr ho hne)).trans ho
 refine⟨hb,hoth _ _ h.lb (fun cs e=>by injection e with _ e;exact absurd e aH),hoth _ _ h.ob (fun cs e=>by injection e with _ e;exact absurd e aH),hoth _ _ h.mb (fun cs e=>by injection e with _ e;exact absurd e aH),h.mp.others (fun o ho hc=>hoth _ _ ho (fun cs e=>by rw[e] at hc;cases hc)),?_⟩
 have e:fC (cs.take (i+1))=fC (cs.take i)++[zI c]:=by
  unfold fC;rw[List.take_add_one,List.getElem?_eq_getElem hi,hc,List.map_append];rfl
 rw[e];exact hr
theorem aa6.out {w:World} {nb pl pb pm bm nm b1 b2 br:Nat} {R:World→Prop} {cs:List Ch} {o:Option (List It)} {rs:List Two.Rd} {W:World} {a:Act} {B:World} (h:aa6 w nb pl pb pm bm nm b1 b2 br R cs o rs W .outgrown a B):False:=by
 rcases h with⟨h,_⟩|⟨_,h,_⟩ <;> cases h
theorem Q7 {K:Act→World→Prop} {Q:Exit→Act→World→Prop} {id:Nat} {a:Act} {w:World} (h:K a w):Exit.inBlock id (Exit.then K Q) .normal a w:=h
theorem ajj {n n7 nr pl:Nat} (h:n+1=pl) (h7:n7=nr+3) (hp:pl+1+1+1<nr):pl<n7∧pl+1<n7∧n≤pl∧n≤pl+1:=by omega
theorem aa8 {w W:World} {nb pl:Nat} {o:Option (List It)} {S:List It} {v:Value} {a:Act} (hpl:w.heap.size+1=pl) (Er:w.heap.size≤nb) (hne:pl<nb∧pl+1<nb∧w.heap.size≤pl∧w.heap.size≤pl+1) (ho:o=some S) (hlow:Below w.heap.size w W)
  (hv:W.heap[pl]?=some (.cells #[v] 25 (0,0))) (FI:Kd.S mV 29 W nb (fun _=>True) v S) (hd:W.heap[nb]?=some (.deferred (some []))) (hob:(W.setCell ⟨pl,0,none⟩ v).heap[pl+1]?=some (.cells #[.bool false] 4 (0,0)))
  (h4:a.tmps.getD 4 undef=.pointer (some ⟨pl,0,none⟩)) (h5:a.tmps.getD 5 undef=.pointer (some ⟨pl+1,0,none⟩))
  (hdf:a.defers=[{ target:=.collected nb,args:=#[] },{ target:=.fn (.func 121) #[.pointer (some ⟨pl,0,none⟩),.pointer (some ⟨pl+1,0,none⟩)],args:=#[] }]) :
  bodyPostM Fence.wide 0 Tryz.prog Tryz.f93 (fun e w'=>ajh w o e w') .ret a ((W.setCell ⟨pl,0,none⟩ v).setCell ⟨pl+1,0,none⟩ (.bool true)):=by
 show LeavesInM _ _ _ _ a.tmps _ a.defers .returning _
 rw[hdf];have hd1:((W.setCell ⟨pl,0,none⟩ v).setCell ⟨pl+1,0,none⟩ (.bool true)).heap[nb]?=some (.deferred (some [])):=(Below.heap_setCell _ ⟨pl+1,0,none⟩ _ nb (by show nb≠pl+1;omega)).trans ((Below.heap_setCell _ ⟨pl,0,none⟩ _ nb (by show nb≠pl;omega)).trans hd)
 have hv1:(W.setCell ⟨pl,0,none⟩ v).heap[pl]?=some (.cells #[v] 25 (0,0)):=by have:=gB hv 0 v;simpa using this
 have hv2:((W.setCell ⟨pl,0,none⟩ v).setCell ⟨pl+1,0,none⟩ (.bool true)).heap[pl]?=some (.cells #[v] 25 (0,0)):=fJ hv1 (by show pl≠pl+1;omega) _
 have hb2:((W.setCell ⟨pl,0,none⟩ v).setCell ⟨pl+1,0,none⟩ (.bool true)).heap[pl+1]?=some (.cells #[.bool true] 4 (0,0)):=by have:=gB hob 0 (.bool true);simpa using this
 have hr1:Kd.S mV 29 (W.setCell ⟨pl,0,none⟩ v) nb (fun _=>True) v S:=Kd.YA FI hv (fun q hq=>by rcases H9 hq with rfl|rfl|rfl <;> decide) 0 v;have hr2:=Kd.YA hr1 hob (fun q hq=>by rcases H9 hq with rfl|rfl|rfl <;> decide) 0 (.bool true);have hl2:Below w.heap.size w ((W.setCell ⟨pl,0,none⟩ v).setCell ⟨pl+1,0,none⟩ (.bool true)):=(hlow.setCell (by show w.heap.size≤pl;omega) _).setCell (by show w.heap.size≤pl+1;omega) _
 obtain⟨W2,hW2⟩:∃W2,(W.setCell ⟨pl,0,none⟩ v).setCell ⟨pl+1,0,none⟩ (.bool true)=W2:=⟨_,rfl⟩
 rw[hW2] at hd1 hv2 hb2 hr2 hl2 ⊢;refine⟨by simp,.inl ⟨_,_,rfl,run_takeDeferred hd1,?_⟩⟩;have hkq:=Kq.Ah (B:=nb) (l:=nb) (o':=.deferred none) (Nat.le_refl _) hd1 rfl;refine⟨by simp,.inr ⟨fun h=>(by cases h),_,_,121,#[.pointer (some ⟨pl,0,none⟩),.pointer (some ⟨pl+1,0,none⟩)],rfl,by simp[go_sem],fun g hg=>trivial,?_⟩⟩;refine Lx (Yx _ _ _ _) ?_;rintro e u' w2 ⟨rfl,rfl,rfl⟩;refine⟨_,Vv rfl a.tmps _ _ _ v true h4 h5 (hkq.blocks _ _ hv2 (.inl hne.1)) (hkq.blocks _ _ hb2 (.inl hne.2.1)) aji O5,rA hl2 Er (Nat.le_refl _) hd1 rfl,?_⟩;rw[ho];exact⟨v,rfl,Kd.Fy (hkq.ajg hr2 (fun q hq=>by rcases H9 hq with rfl|rfl|rfl <;> decide)) Er⟩
theorem Od (A0:Option Addr) (c0:Nat) (old:List It) (A1:Option Addr) (c1:Nat) (b0 g0:Int) (cs:List Ch) (w:World)
  (hr:Kd.C mV w A0 old.length old) (hc:old.length≤c0) (hl:old.length≤4096) (hr1:Kd.C EA w A1 cs.length cs) (hc1:cs.length≤c1) (hl1:cs.length≤8192)
  (hs:∀x∈old,x.f1.size≤1023) (hs1:∀c∈cs,c.f1.f1.size≤1023) (hx:∀x∈old,x.f4.length≤1048576∧x.f5.length≤1073741824) (hx1:∀c∈cs,c.f1.f4.length≤1048576∧c.f1.f5.length≤1073741824)
  (hold:∀x,x∉old) (h2c:∀c∈cs,c.f0=2) (hsm:AO old cs≠none) :
  Calls Tryz.prog 93 #[.slice A0 old.length c0,.agg #[.int .i64 b0,.int .i64 g0,.slice A1 cs.length c1]] w fun e w'=>ajh w (AO old cs) e w':=by
 obtain⟨o,ho⟩:∃o,AO old cs=o:=⟨_,rfl⟩
 rw[ho] at hsm ⊢;have IJ:=ah.mk hsm;clear hsm
 have hmf:∀(fn:Fn) (first cap:Array Value) (w:World),(Instr.makeFunc fn first cap).run Tryz.prog w=.ok (.func fn first cap) w:=fun _ _ _ _=>rfl
 have hmm:=@run_makeMap Tryz.prog;have HO:=ah.mk ho;have HR:=ah.mk hr;have HR1:=ah.mk hr1;have HS:=ah.mk hs;have su:=ah.mk hs1;have HX:=ah.mk hx;have WB:=ah.mk hx1;have HOLD:=ah.mk hold;have H2C:=ah.mk h2c;clear ho hr hr1 hs hs1 hx hx1 hold h2c;refine Lm Tryz.func93 rfl ?_;simp only[Tryz.ntmps93,List.size_toArray,List.length_cons,List.length_nil,Nat.reduceSub,Nat.reduceAdd,Array.replicate_succ,Array.replicate_zero,List.push_toArray,List.append_toArray,List.nil_append,List.cons_append];refine yD (rD ?_)
 go_wp2_with fail
 refine yD (rD ?_)
 go_wp2_with fail
 refine yD (rD ?_)
 go_wp2_with fail
 refine yD (rD ?_)
 go_wp2_with fail
 refine J8 ?_
 have hO1:Oc1 w (w.heap.size+1) cs 0 (.slice none 0 0) (((((w.alloc (.cells #[.int .i64 b0,.int .i64 g0,.slice A1 cs.length c1] 24)).alloc (.cells #[.slice none 0 0] 25)).alloc (.cells #[.bool false] 4)).alloc (.map #[] 0)).alloc (.cells #[.map (some (w.heap.size+1+1+1))] 162)):=by
  have hb:=((((Below.refl w.heap.size w).alloc (Nat.le_refl _) (.cells #[.int .i64 b0,.int .i64 g0,.slice A1 cs.length c1] 24)).alloc bB (.cells #[.slice none 0 0] 25)).alloc (by simp;omega) (.cells #[.bool false] 4)).alloc (by simp;omega) (.map #[] 0) |>.alloc (by simp;omega) (.cells #[.map (some (w.heap.size+1+1+1))] 162)
  refine⟨hb,aN (aN (aN (lV bB _) _) _) _,aN (aN (lV bB _) _) _,lV bB _,?_,Kd.eD _ _ _ _ _⟩;have hm:=qF.made w ((((w.alloc (.cells #[.int .i64 b0,.int .i64 g0,.slice A1 cs.length c1] 24)).alloc (.cells #[.slice none 0 0] 25)).alloc (.cells #[.bool false] 4)));rw[World.size_alloc,World.size_alloc,World.size_alloc] at hm;exact hm.below ((Below.refl _ _).alloc (Nat.le_refl _) _)
 have x2:(((((w.alloc (.cells #[.int .i64 b0,.int .i64 g0,.slice A1 cs.length c1] 24)).alloc (.cells #[.slice none 0 0] 25)).alloc (.cells #[.bool false] 4)).alloc (.map #[] 0)).alloc (.cells #[.map (some (w.heap.size+1+1+1))] 162)).cell? ⟨w.heap.size,2,none⟩=some (.slice A1 cs.length c1):=ak (aN (aN (aN (aN (bF w (.cells #[.int .i64 b0,.int .i64 g0,.slice A1 cs.length c1] 24)) _) _) _) _) 2
 obtain⟨w5,Pn⟩:∃w5,(((((w.alloc (.cells #[.int .i64 b0,.int .i64 g0,.slice A1 cs.length c1] 24)).alloc (.cells #[.slice none 0 0] 25)).alloc (.cells #[.bool false] 4)).alloc (.map #[] 0)).alloc (.cells #[.map (some (w.heap.size+1+1+1))] 162))=w5:=⟨_,rfl⟩
 rw[Pn] at hO1 x2 ⊢
 obtain⟨pl,hpl⟩:∃pl,w.heap.size+1=pl:=⟨_,rfl⟩
 rw[hpl] at hO1 ⊢;have zP:=ah.mk hO1;clear Pn hO1 hmf hmm
 go_wp2_with fail
 go_loopg [7,19] cs.length (fun g s7 s19 wx=>∃(i:Nat) (v:Value),i+g=cs.length∧s19=.int .i64 i∧s7=v∧ah (Oc1 w pl cs i v wx))
 case atStart=>exact⟨0,_,by omega,rfl,rfl,zP⟩
 case round=>
  obtain⟨i,v,hig,rfl,rfl,yS⟩:=hrel;clear zP x2;by_cases hi:i<cs.length
  ·obtain⟨ad,C4,wF,C5,wG,C7,zJ,hA,r0,r1,r2,r3,r4,r5,r6,r7,l4,g4,l5,g5,l7,g7⟩:=CY HR1.out (i:Int) aj aj;rw[Int.toNat_natCast] at r0 r1 r2 r3 r4 r5 r6 r7
   have hrd:gV cs (i:Int)=cs[i]'hi:=by simp[gV,hi]
   have hcm:=List.getElem_mem hi
   obtain⟨c,hcx⟩:∃c,cs[i]'hi=c:=⟨_,rfl⟩
   rw[hrd,hcx] at r0 r1 r2 r3 r4 r5 r6 r7 l4 g4 l5 g5 l7 g7;rw[hcx] at hcm;have hcs:=su.out c hcm;subst hA;have HCI:=ah.mk hcx;have HLC:=ah.mk (Q6.mk l4 g4 l5 g5 l7 g7);have r0:=au yS.out.low r0;have r1:=au yS.out.low r1;have r2:=au yS.out.low r2;have r3:=au yS.out.low r3;have r4:=au yS.out.low r4;have r5:=au yS.out.low r5;have r6:=au yS.out.low r6;have r7:=au yS.out.low r7;obtain⟨Af,nf,hvf⟩:=Kd.bP yS.out.fr;subst hvf
   have hfl:(fC (cs.take i)).length=i:=by unfold fC;rw[List.length_map,List.length_take];omega
   clear hrd hcx hcm l4 g4 l5 g5 l7 g7
   go_wp2_with fail
   have hba:=(Below.refl wr.heap.size wr).alloc (Nat.le_refl _) (.cells #[.int .i64 c.f0,.int .i64 c.f1.f0,.string c.f1.f1,.string c.f1.f2,.int .i64 c.f1.f3,.slice C4 c.f1.f4.length wF,.slice C5 c.f1.f5.length wG,.slice C7 c.f2.length zJ] 31);have hbk:=bF wr (.cells #[.int .i64 c.f0,.int .i64 c.f1.f0,.string c.f1.f1,.string c.f1.f2,.int .i64 c.f1.f3,.slice C4 c.f1.f4.length wF,.slice C5 c.f1.f5.length wG,.slice C7 c.f2.length zJ] 31)
   obtain⟨W2,hW2⟩:∃W2,wr.alloc (.cells #[.int .i64 c.f0,.int .i64 c.f1.f0,.string c.f1.f1,.string c.f1.f2,.int .i64 c.f1.f3,.slice C4 c.f1.f4.length wF,.slice C5 c.f1.f5.length wG,.slice C7 c.f2.length zJ] 31)=W2:=⟨_,rfl⟩
   obtain⟨k,hk⟩:∃k,wr.heap.size=k:=⟨_,rfl⟩
   rw[hW2] at hba hbk ⊢;rw[hk] at hbk ⊢;have zm:W2.cell? ⟨(pl+1+1+1),0,none⟩=some (.map (some (pl+1+1))):=ak (aJ yS.out.mb hba) 0;have yS:=ah.mk (yS.out.below hba);have z0:W2.cell? ⟨k,0,none⟩=some (.int .i64 c.f0):=ak hbk 0;have z1:W2.cell? ⟨k,1,none⟩=some (.int .i64 c.f1.f0):=ak hbk 1;have z2:W2.cell? ⟨k,2,none⟩=some (.string c.f1.f1):=ak hbk 2;have z3:W2.cell? ⟨k,3,none⟩=some (.string c.f1.f2):=ak hbk 3;have z4:W2.cell? ⟨k,4,none⟩=some (.int .i64 c.f1.f3):=ak hbk 4;have z5:W2.cell? ⟨k,5,none⟩=some (.slice C4 c.f1.f4.length wF):=ak hbk 5;have z6:W2.cell? ⟨k,6,none⟩=some (.slice C5 c.f1.f5.length wG):=ak hbk 6;have z7:W2.cell? ⟨k,7,none⟩=some (.slice C7 c.f2.length zJ):=ak hbk 7;have HK:=ah.mk hbk;clear hba hbk hW2 hk r0 r1 r2 r3 r4 r5 r6 r7;have hdr:=bf (Below.refl W2.heap.size W2)
   have hS:W2.drew.cell? ⟨(pl+1+1+1),0,none⟩=some (.map (some (pl+1+1)))∧W2.drew.cell? ⟨k,0,none⟩=some (.int .i64 c.f0)∧W2.drew.cell? ⟨k,1,none⟩=some (.int .i64 c.f1.f0)∧W2.drew.cell? ⟨k,2,none⟩=some (.string c.f1.f1)∧W2.drew.cell? ⟨k,3,none⟩=some (.string c.f1.f2)∧W2.drew.cell? ⟨k,4,none⟩=some (.int .i64 c.f1.f3)∧W2.drew.cell? ⟨k,5,none⟩=some (.slice C4 c.f1.f4.length wF)∧W2.drew.cell? ⟨k,6,none⟩=some (.slice C5 c.f1.f5.length wG)∧W2.drew.cell? ⟨k,7,none⟩=some (.slice C7 c.f2.length zJ):=⟨au hdr zm,au hdr z0,au hdr z1,au hdr z2,au hdr z3,au hdr z4,au hdr z5,au hdr z6,au hdr z7⟩
   obtain⟨Wd,hWd⟩:∃Wd,W2.drew=Wd:=⟨_,rfl⟩
   have HOD:=ah.mk (yS.out.below (show Below W2.heap.size W2 Wd from hWd▸hdr));have HKD:=ah.mk (aJ HK.out (show Below W2.heap.size W2 Wd from hWd▸hdr));clear hdr zm z0 z1 z2 z3 z4 z5 z6 z7 yS HK;refine jJ (n:=7) (S:=(fun w'=>w'.cell? ⟨(pl+1+1+1),0,none⟩=some (.map (some (pl+1+1)))∧w'.cell? ⟨k,0,none⟩=some (.int .i64 c.f0)∧w'.cell? ⟨k,1,none⟩=some (.int .i64 c.f1.f0)∧w'.cell? ⟨k,2,none⟩=some (.string c.f1.f1)∧w'.cell? ⟨k,3,none⟩=some (.string c.f1.f2)∧w'.cell? ⟨k,4,none⟩=some (.int .i64 c.f1.f3)∧w'.cell? ⟨k,5,none⟩=some (.slice C4 c.f1.f4.length wF)∧w'.cell? ⟨k,6,none⟩=some (.slice C5 c.f1.f5.length wG)∧w'.cell? ⟨k,7,none⟩=some (.slice C7 c.f2.length zJ))) (ds:=[6]) (aM 7 0) aD rfl rfl hS (fun hHeld=>?_);clear hS;rw[hWd] at hHeld ⊢;clear hWd;refine gG 0 23 (aM 7 1) rfl hHeld (by rintro w' ⟨sm,s0,s1,s2,s3,s4,s5,s6,s7⟩;go_simp;with_reducible rfl) ?_;refine bA 1 24 (aM 7 3) ?_;refine bA 2 25 (aM 7 7) ?_;refine gG 3 26 (aM 7 15) rfl hHeld (by rintro w' ⟨sm,s0,s1,s2,s3,s4,s5,s6,s7⟩;go_simp;with_reducible rfl) ?_;refine gG 5 28 (aM 7 47) rfl hHeld (by rintro w' ⟨sm,s0,s1,s2,s3,s4,s5,s6,s7⟩;go_simp;with_reducible rfl) ?_;refine mD 4 (some 27) (aM 7 63) (fun K hK=>?_);refine mW Tryz.func88 #[.string c.f1.f1] ?_;refine (ou c.f1.f1 Wd aj).mono ?_;rintro e We ⟨rfl,hbe⟩;refine⟨_,rfl,?_⟩;have HOE:=ah.mk (HOD.out.below hbe);have HKE:=ah.mk (aJ HKD.out hbe);refine hK.out _ _ ⟨au hbe hHeld.1,au hbe hHeld.2.1,au hbe hHeld.2.2.1,au hbe hHeld.2.2.2.1,au hbe hHeld.2.2.2.2.1,au hbe hHeld.2.2.2.2.2.1,au hbe hHeld.2.2.2.2.2.2.1,au hbe hHeld.2.2.2.2.2.2.2.1,au hbe hHeld.2.2.2.2.2.2.2.2⟩ (fun hHeld=>?_);clear hK K hbe HOD HKD;refine fH 27 ?_;obtain⟨W6,hrun,hmp,hgm⟩:=HOE.out.mp.put (t:=162) (c:=c) Tryz.underlying162 (by unfold maxLen;omega) (by have:=vZ 47 0 c.f1.f1;unfold C9 maxLen;omega) HLC.out;rw[show cs.take i++[c]=cs.take (i+1) by rw[List.take_add_one,List.getElem?_eq_getElem hi,HCI.out];rfl] at hmp;have hO6:aa7 w pl cs i (.slice Af (fC (cs.take i)).length nf) W6:=HOE.out.aoy hmp hgm aj;have hk6:=(hgm.block k (bG HKE.out) (fun e=>by obtain⟨o,ho,hoc⟩:=HOE.out.mp.has;rw[Option.some.inj e,ho] at HKE;have:=Option.some.inj HKE.out;subst this;cases hoc)).trans HKE.out;have aoz:=ah.mk hrun;have Fb:=ah.mk hO6;have UN:=ah.mk hk6;clear hrun hmp hgm hO6 hk6 HOE HKE;refine kX (i:=6) (N:=none) (aM 7 127) rfl rfl aD aH (fun K hK=>?_);refine rG (w1:=W6) (by rfl) rfl ?_ ?_
   ·have hr:(Instr.mapUpdate 162 (.map (some (pl+1+1))) (.string (bY 47 0 c.f1.f1)) (.agg #[.int .i64 c.f0,.int .i64 c.f1.f0,.string c.f1.f1,.string c.f1.f2,.int .i64 c.f1.f3,.slice C4 c.f1.f4.length wF,.slice C5 c.f1.f5.length wG,.slice C7 c.f2.length zJ])).run Tryz.prog We=.ok () W6:=aoz.out;simp[execOp,go_sem,hr,Result.andThen]
   refine hK.out _ _ ?_;clear hK K;refine jK aD ?_;have y2:W6.cell? ⟨k,2,none⟩=some (.string c.f1.f1):=ak UN.out 2;clear hHeld
   go_wp2_with ((with_reducible refine bQ (b:=.append) (xs:=#[.tmp 29,.tmp 34]) rfl ?_);at_builtin;refine Kd.gJ mV (w0:=w) w.heap.size rfl (.tmp 29) (.tmp 34) 25 29 (.agg #[.int .i64 0,.string ⟨#[]⟩,.string ⟨#[]⟩,.int .i64 0,.slice none 0 0,.slice none 0 0]) 96 rfl Tryz.underlying25 Uh rfl aH aj (.slice Af (fC (cs.take i)).length nf) (fC (cs.take i)) (zI c) [.int .i64 0,.string c.f1.f1,.string ⟨#[]⟩,.int .i64 0,.slice none 0 0,.slice none 0 0] (fun _=>True) (fun _=>False) rfl rfl ?aP (fun _ hk=>hk.elim) (fun _ _=>trivial) Fb.out.fr Fb.out.low Fb.out.low.size aj ?_;(case aP=>exact Az _ _ _ (zI c) (Kd.eD _ _ _ _ _) (Kd.eD _ _ _ _ _));intro v2 w7 hr7 zQ hg7 qd;have Eb:=ah.mk (Fb.out.push hi HCI.out zQ hg7 hr7);clear hr7 zQ hg7 qd)
   go_roundg (cs.length - (i+1))
   case measure=>omega
   case rel=>exact⟨i+1,v2,by omega,by first|rfl|simp,rfl,Eb⟩
  obtain rfl:i=cs.length:=by omega
  have ho:=yS.out;obtain⟨Af,cf,hvf⟩:=Kd.bP ho.fr;subst hvf;have htl:cs.take cs.length=cs:=List.take_length;have hmp:=ho.mp;have hfr:=ho.fr;rw[htl] at hmp hfr
  have hfl:(fC (cs.take cs.length)).length=(fC cs).length:=by rw[htl]
  have HLB:=ah.mk ho.lb;have HOB:=ah.mk ho.ob;have HMB:=ah.mk ho.mb;have HLW:=ah.mk ho.low;have HMP:=ah.mk hmp;have HFR:=ah.mk hfr;have hfc:=(Kd.bU hfr).2.1;rw[hfl];clear ho htl hmp hfr hfl yS
  go_wp2_with fail
  refine Cq ?_;refine yD ?_;refine J8 ?_
  go_wp2_with (go_at_call 50;refine (AA _ _ _).mono ?_;rintro e w6 ⟨rfl,rfl⟩)
  refine Cq ?_;refine Vr ?_
  obtain⟨w7,hw7⟩:∃w7,(((wr.alloc (.cells #[.slice A0 old.length c0,.slice Af (fC cs).length cf] 25)).alloc (.cells #[.func (.func 51) #[] #[]] 93)).alloc (.cells #[.slice (some ⟨wr.heap.size,0,none⟩) 2 2] 75))=w7:=⟨_,rfl⟩
  have Yh:w7.heap.size=wr.heap.size+3:=by rw[← hw7];simp
  have zQ:Below wr.heap.size wr w7:=by
   rw[← hw7];exact (((Below.refl _ _).alloc (Nat.le_refl _) _).alloc bB _).alloc (by simp;omega) _
  have hls:=HLW.out.size;have hpz:=bG HMB.out
  have Er:w.heap.size≤w7.heap.size:=by omega
  have hrd:Vs w w7.heap.size (.slice Af (fC cs).length cf) (fC cs) w7:=⟨HLW.out.trans (zQ.mono hls),Kd.dX (Kd.ig (Kd.bO HFR.out zQ)) (fun k hk=>hk.2.2.1)⟩
  obtain⟨Rd,hRd⟩:∃Rd:Two.Reader (jw old (fC cs)) (jw A0 Af),Rd=Vt (nb:=w7.heap.size) (c1:=cf) HR.out Er:=⟨_,rfl⟩
  have hRP:Rd.P=Vs w w7.heap.size (.slice Af (fC cs).length cf) (fC cs):=by rw[hRd];rfl
  have hRb:Rd.base=w7.heap.size:=by rw[hRd];rfl
  have Zn:Two.Vk (jw old (fC cs)) (jw A0 Af) (jw c0 cf) Rd (wr.heap.size+1) (wr.heap.size+1+1) wr.heap.size w7:=by
   refine⟨by rw[hRP];exact hrd,?_,?_,?_⟩
   ·rw[← hw7];exact aN (lV bB _) _
   ·rw[← hw7];exact lV bB _
   rw[← hw7];exact aN (aN (bF _ _) _) _
  have hI0:Ug w w7.heap.size pl (pl+1) (pl+1+1+1) (pl+1+1) cs.length cs [] w7:=⟨hrd.1,Nat.le_refl _,⟨_,aJ HLB.out zQ,Kd.Ef _ _ _ _ _⟩,aJ HOB.out zQ,aJ HMB.out zQ,HMP.out.below zQ⟩
  have hfl:(fC cs).length=cs.length:=by unfold fC;rw[List.length_map]
  have hT:=Two.xQ (jw old (fC cs)) (jw A0 Af) (jw c0 cf) Rd w7 (wr.heap.size+1) (wr.heap.size+1+1) wr.heap.size
   (oF hc hfc) (oF (by show old.length≤_;omega) (by show (fC cs).length≤_;omega))
   (oF HS.out (fun x hx=>by obtain⟨c,hcm,rfl⟩:=List.mem_map.1 hx;exact su.out c hcm)) Zn (by rw[hRb];exact Nat.le_refl _)
  obtain⟨rs,hrs⟩:∃rs,Two.eO (jw old (fC cs)) (Two.jL (jw old (fC cs)) (fun _=>0)) (fun _=>0)=rs:=⟨_,rfl⟩
  rw[hrs,hRP] at hT
  have hrl:rs.length≤12288:=by
   have h1:=Two.length (L:=jw old (fC cs)) (Two.jL (jw old (fC cs)) (fun _=>0)) (fun _=>0);have h2:Two.jL (jw old (fC cs)) (fun _=>0)=old.length+(fC cs).length:=rfl;rw[hrs,h2] at h1;omega
  have HOG:ah (oL cs rs []=o):=⟨by rw[← hrs];exact HO.out⟩
  have HI0:=ah.mk hI0;have ajm:=ah.mk hrd;have HT:=ah.mk hT;have Zd:=ah.mk hrs;rw[hw7];clear hT hrs hI0 Zn hw7 zQ hls hrd HLB HOB HMB HLW HMP HFR hRP hRb hRd HO
  refine Lp (gf:=87) (lb:=#[.pointer (some ⟨(wr.heap.size+1+1),0,none⟩),.pointer (some ⟨(wr.heap.size+1),0,none⟩)]) (fun f h=>h) ?hg (enters_of Tryz.func87 aD rfl) (encs:=Two.encR) (fun _=>rfl) HT.out
   (fun pre W=>Vs w w7.heap.size (.slice Af (fC cs).length cf) (fC cs) W∧∃S,oL cs (pre.map Two.oJ.rd) []=some S∧Ug w w7.heap.size pl (pl+1) (pl+1+1+1) (pl+1+1) cs.length cs S W) (fun ch W=>OcX w pl (pl+1) o ch W) ?a1 (fun _ _=>N8)
   (fun pre A B ⟨h1,S,h2,h3⟩ hs=>⟨h1.kq (Kq.Yi hs) Er (Nat.le_refl _),S,h2,h3.kq (Kq.Yi hs) Er aj⟩)
   (fun pre W l o1 o' ⟨h1,S,h2,h3⟩ hl ho hc=>⟨h1.kq (Kq.Ah hl ho hc) Er (Nat.le_refl _),S,h2,h3.kq (Kq.Ah hl ho hc) Er aj⟩)
   (fun pre x W l o1 o' hgd hl ho hc=>Two.Vu hgd ho hc)
   (fun A B l o1 o2 p o3 hl ho hc hk hp hpc=>aa5 (nb:=w7.heap.size) (fun W q q' hW hq hqc=>hW.kq (Kq.Ah hl hq hqc) Er (Nat.le_refl _)) (fun k hk=>by omega) hl ho hc hk hp hpc)
   (fun o1 o'=>⟨ajm.out.kq (Kq.below (((Below.refl _ _).alloc (Nat.le_refl _) _).alloc bB _)) Er (Nat.le_refl _),[],rfl,HI0.out.kq (Kq.below (((Below.refl _ _).alloc (Nat.le_refl _) _).alloc bB _)) Er aj⟩)
   ?assign ?body ?done ?pan
  case assign=>
   intro l x W K hK;dsimp only[Two.encR]
   gi_wp2
   exact hK
  case hg=>
   first|rfl|(go_simp;done)|simp[go_sem]
  case body=>
   rintro l pre x W ⟨afJ,S0,hS0,hi⟩ hgd
   obtain⟨QE,hQE⟩:∃QE:Exit→Act→World→Prop,QE=fun e a B=>aa6 w w7.heap.size pl (pl+1) (pl+1+1+1) (pl+1+1) cs.length (wr.heap.size+1) (wr.heap.size+1+1) wr.heap.size (Vs w w7.heap.size (.slice Af (fC cs).length cf) (fC cs)) cs o ((pre++[x]).map Two.oJ.rd) W e a B:=⟨_,rfl⟩
   refine wpIn_mono (Q:=QE) ?_ (fun e a B h=>by
    rw[hQE] at h
    rcases h with⟨rfl,hs,hk,hst⟩|⟨ch,rfl,hd,hx,hst⟩
    ·exact .inl ⟨rfl,⟨hk.low afJ,hs⟩,hk,hst⟩
    exact .inr ⟨ch,rfl,hd,hx,hst⟩)
   obtain⟨⟨rest,hrest⟩,p0,p1,hg,o0,o1⟩:=hgd
   have hmem:x.rd∈rs:=by rw[hrest];simp
   have Hz:(∀y,x.a=some y→y∈old)∧(∀y,x.b=some y→y∈(fC cs)):=Two.here (Zd.out▸hmem);have hkey:(∀y,x.a=some y→gu y=x.key)∧(∀y,x.b=some y→gu y=x.key)∧(x.a=none→∃y,x.b=some y):=Two.key (Zd.out▸hmem)
   have hml:S0.length+1≤12288:=by
    have h1:=AP cs _ _ _ hS0;have h2:=congrArg List.length hrest;simp only[List.length_append,List.length_map,List.length_cons,List.length_nil] at h1 h2;omega
   have hgo:oL cs ((pre++[x]).map Two.oJ.rd) []=match AL cs x.rd with
     | none=>none
     | some l=>some (S0++l):=by
    rw[List.map_append,Da,hS0]
    show oL cs [x.rd] S0=_
    rw[oL]
    cases AL cs x.rd <;> rfl
   have hno:AL cs x.rd=none→o=none:=fun h=>by
    rw[← HOG.out,hrest,Da,hS0]
    show oL cs (x.rd::rest) S0=none
    rw[oL,h]
   have hk0:x.key.size≤1023:=by
    rcases hxa:x.a with _|y
    ·obtain⟨y,hy⟩:=hkey.2.2 hxa;obtain⟨c,hc,rfl⟩:=List.mem_map.1 (Hz.2 y hy);rw[show x.key=gu (zI c) from (hkey.2.1 _ hy).symm]
     show (bY 47 0 c.f1.f1).size≤_
     rw[vZ];exact su.out c hc
    rw[show x.key=gu y from (hkey.1 _ hxa).symm]
    show (bY 47 0 y.f1).size≤_
    rw[vZ];exact HS.out y (Hz.1 y hxa)
   have hoi:OI w p0 x.a:=Two.PI.oi (L:=jw old (fC cs)) (A:=jw A0 Af) (j:=0) HR.out o0
   have FIN:ah (∀a S' B,oL cs ((pre++[x]).map Two.oJ.rd) []=some S'→Ug w w7.heap.size pl (pl+1) (pl+1+1+1) (pl+1+1) cs.length cs S' B→ng w7.heap.size (fun k=>k=pl) (fun q=>q=29) W B→QE Exit.normal a B):=⟨fun a S' B h1 h2 h3=>by
    rw[hQE];obtain⟨v,hv,_⟩:=hi.lb;have h4:=aox afJ Er aj aj hi.big (b1:=(wr.heap.size+1)) (b2:=(wr.heap.size+1+1)) (br:=wr.heap.size) aj ⟨v,hv⟩ h3
    exact .inl ⟨rfl,⟨S',h1,h2⟩,h4.1,h4.2⟩⟩
   have PAN:ah (∀(a:Act) B,a.defers=[]→o=none→Ug w w7.heap.size pl (pl+1) (pl+1+1+1) (pl+1+1) cs.length cs S0 B→ng w7.heap.size (fun k=>k=pl) (fun q=>q=29) W B→QE (Exit.panic [{ v:=.iface 160 (.agg #[]),recovered:=false }]) a B):=⟨fun a B h0 h1 h2 h3=>by
    rw[hQE];obtain⟨v,hv,_⟩:=h2.lb
    exact .inr ⟨_,rfl,h0,⟨rfl,h1,h2.low,⟨v,hv⟩,h2.ob⟩,h3.still (fun k hk=>by have e:k=pl:=hk;omega)⟩⟩
   have afK:ah (∀c a N v B,QE (.panic c) (Act.put a N v) B→QE (.panic c) a B):=⟨fun c a N v B h=>by
    rw[hQE] at h ⊢
    rcases h with⟨h,_⟩|⟨ch,h1,h2,h3,h4⟩
    ·cases h
    exact .inr ⟨ch,h1,by cases N <;> exact h2,h3,h4⟩⟩
   have ajn:ah (∀a B,QE .outgrown a B→False):=⟨fun a B h=>by
    rw[hQE] at h
    exact aa6.out h⟩
   have hlk:=hi.mp.look Tryz.underlying162 x.key (by unfold maxLen;omega);have g0:W.cell? ⟨x.g,0,none⟩=some p0:=ak hg 0;have gm:W.cell? ⟨(pl+1+1+1),0,none⟩=some (.map (some (pl+1+1))):=ak hi.mb 0;have atm:=Tryz.underlying31;have atn:=Tryz.underlying29;have hq1:=Zu;have HI:=ah.mk hi;have HG:=ah.mk hg;have Nq:=ah.mk hml;have HOI:=ah.mk hoi;have HHA:=ah.mk Hz;have HKY:=ah.mk hkey;have aoE:=ah.mk hgo;have ato:=ah.mk hno;clear hQE hi hg hml hoi Hz hkey hgo hno hmem hrest o0 o1 hk0 afJ hS0
   cases hca:wL cs x.key with
   | none=>
    rw[hca] at hlk;dsimp only at hlk
    cases hxa:x.a with
    | none=>
     exfalso;obtain⟨y,hy⟩:=HKY.out.2.2 hxa;obtain⟨c,hc,rfl⟩:=List.mem_map.1 (HHA.out.2 y hy);exact Jj hca c hc (show C9 c=x.key from HKY.out.2.1 (zI c) hy)
    | some y=>
     exact absurd (HHA.out.1 y hxa) (HOLD.out y)
   | some c=>
    rw[hca] at hlk;dsimp only at hlk;obtain⟨C4,wF,C5,wG,C7,zJ,hlk,hlc⟩:=hlk;obtain⟨hcm,hck⟩:=Mv hca;have HLC:=ah.mk hlc;have HCM:=ah.mk hcm;have HOS:=ah.mk (show AL cs x.rd=if c.f0=2 then some [c.f1] else if c.f0=3 then (Kr x.a c).map (fun z=>[z]) else if x.a=none then none else some [] by unfold AL;rw[show wL cs x.rd.1=some c from hca];rfl);have HOP:=HOI;clear hca hck hcm hlc;have hba:=(Below.refl W.heap.size W).alloc (Nat.le_refl _) (.cells #[.int .i64 0,.int .i64 0,.string ⟨#[]⟩,.string ⟨#[]⟩,.int .i64 0,.slice none 0 0,.slice none 0 0,.slice none 0 0] 31);have hbs:=below_setRow hba (Nat.le_refl _) #[.int .i64 c.f0,.int .i64 c.f1.f0,.string c.f1.f1,.string c.f1.f2,.int .i64 c.f1.f3,.slice C4 c.f1.f4.length wF,.slice C5 c.f1.f5.length wG,.slice C7 c.f2.length zJ];have hbk:=setRow_heap (W.alloc (.cells #[.int .i64 0,.int .i64 0,.string ⟨#[]⟩,.string ⟨#[]⟩,.int .i64 0,.slice none 0 0,.slice none 0 0,.slice none 0 0] 31)) W.heap.size #[.int .i64 0,.int .i64 0,.string ⟨#[]⟩,.string ⟨#[]⟩,.int .i64 0,.slice none 0 0,.slice none 0 0,.slice none 0 0] #[.int .i64 c.f0,.int .i64 c.f1.f0,.string c.f1.f1,.string c.f1.f2,.int .i64 c.f1.f3,.slice C4 c.f1.f4.length wF,.slice C5 c.f1.f5.length wG,.slice C7 c.f2.length zJ] 31 (0,0) (bF _ _);refine wpIn_block ?_;refine wpIn_seq ?_;refine Co aD (by rintro⟨a,w',h⟩;exact ajn.out a w' h) ?_
    go_wp2_with (refine eX (.store 31 (.tmp 12) (.tmp 47)) rfl ?_;refine wpList_store_row rfl 31 (.tmp 12) (.tmp 47) rfl W.heap.size #[.int .i64 c.f0,.int .i64 c.f1.f0,.string c.f1.f1,.string c.f1.f2,.int .i64 c.f1.f3,.slice C4 c.f1.f4.length wF,.slice C5 c.f1.f5.length wG,.slice C7 c.f2.length zJ] rfl rfl 31 _ (by exact bF W _) aD (by rfl) (by simp[Value.oneCell']) ?_)
    obtain⟨Ws,hWs⟩:∃Ws,(W.alloc (.cells #[.int .i64 0,.int .i64 0,.string ⟨#[]⟩,.string ⟨#[]⟩,.int .i64 0,.slice none 0 0,.slice none 0 0,.slice none 0 0] 31)).setRow W.heap.size #[.int .i64 c.f0,.int .i64 c.f1.f0,.string c.f1.f1,.string c.f1.f2,.int .i64 c.f1.f3,.slice C4 c.f1.f4.length wF,.slice C5 c.f1.f5.length wG,.slice C7 c.f2.length zJ]=Ws:=⟨_,rfl⟩
    rw[hWs] at hbs hbk
    try rw[hWs]
    obtain⟨k,hk⟩:∃k,W.heap.size=k:=⟨_,rfl⟩
    have HIs:=ah.mk (HI.out.below hbs);have Lr:=ah.mk (show ng w7.heap.size (fun k=>k=pl) (fun q=>q=29) W Ws from ng.below hbs);have gs:=au hbs g0;rw[hk] at hbk
    try rw[hk]
    clear hWs hba hbs g0 gm hlk HI HG HOI hk;have k0:Ws.cell? ⟨k,0,none⟩=some (.int .i64 c.f0):=ak hbk 0;by_cases h2:c.f0=2
    ·have e2:(c.f0 == 2)=true:=beq_iff_eq.2 h2
     have HGO:ah (oL cs ((pre++[x]).map Two.oJ.rd) []=some (S0++[c.f1])):=⟨by rw[aoE.out,HOS.out,if_pos h2]⟩
     have OD:=ah.mk (WB.out c HCM.out);have HSK:=ah.mk (show yO Ws ⟨k,1,none⟩ c.f1 C4 wF C5 wG from⟨ak hbk 1,ak hbk 2,ak hbk 3,ak hbk 4,ak hbk 5,ak hbk 6⟩);clear hbk h2 gs
     gi_wp2_with fail
     have hdr:=bf (Below.refl Ws.heap.size Ws)
     obtain⟨Wd,hWd⟩:∃Wd,Ws.drew=Wd:=⟨_,rfl⟩
     have hdb:Below Ws.heap.size Ws Wd:=hWd▸hdr;have HID:=ah.mk (HIs.out.below hdb);obtain⟨va,hva,hra⟩:=HID.out.lb;obtain⟨Au,nu,cu,hvu⟩:=fU (Kd.V6 hra);subst hvu;have Yk:=ah.mk hva;have CW:=ah.mk hra;have UG:=ah.mk (Lr.out.trans (ng.below hdb));have Dj:=ah.mk (show w7.heap.size≤Wd.heap.size from HID.out.big);have HLD:=ah.mk (show Below w.heap.size w Wd from HID.out.low);have z2:Wd.cell? ⟨pl,0,none⟩=some (.slice Au nu cu):=ak hva 0;have V5:=ah.mk (show Wd.cell? ⟨pl,0,none⟩=some (.slice Au nu cu)∧yO Wd ⟨k,1,none⟩ c.f1 C4 wF C5 wG from⟨z2,HSK.out.below hdb⟩);have IZ:=ah.mk (show ∀W':World,(W'.cell? ⟨pl,0,none⟩=some (.slice Au nu cu)∧yO W' ⟨k,1,none⟩ c.f1 C4 wF C5 wG)→∀{W''},Below W'.heap.size W' W''→(W''.cell? ⟨pl,0,none⟩=some (.slice Au nu cu)∧yO W'' ⟨k,1,none⟩ c.f1 C4 wF C5 wG) from fun W' h W'' hb=>⟨au hb h.1,h.2.below hb⟩);clear hdr hva hra z2 hdb;refine uw (n:=7) (S:=fun w'=>w'.cell? ⟨pl,0,none⟩=some (.slice Au nu cu)∧yO w' ⟨k,1,none⟩ c.f1 C4 wF C5 wG) (ds:=[5,6]) (aM 7 0) aD aD (by rintro⟨a,w',h⟩;exact ajn.out a w' h) rfl rfl (by rw[hWd];exact V5.out) (fun hHeld=>?_);rw[hWd] at hHeld ⊢;clear hWd V5;refine sQ (i:=0) (N:=some 65) (v:=?_) (a':=?_) (aM 7 1) rfl rfl aD (fun c a B h=>afK.out c a _ _ B h) (Or.inl ⟨by rfl,?_⟩) hHeld ?_ ?_;rotate_left
     ·rintro w' ⟨s,⟨y0,y1,y2,y3,y4,y5⟩⟩
      go_simp
      with_reducible rfl
     rotate_left
     ·simp only[Act.put,aYa,aYb,aYc,eG,fI];rfl
     refine jU (i:=1) (N:=some 66) (v:=?_) (a':=?_) (aM 7 3) rfl rfl aD (fun c a B h=>afK.out c a _ _ B h) (Or.inl ⟨by rfl,?_⟩) ?_ ?_;rotate_left
     ·intro w'
      go_simp
      with_reducible rfl
     rotate_left
     ·simp only[Act.put,aYa,aYb,aYc,eG,fI];rfl
     refine sQ (i:=2) (N:=some 67) (v:=?_) (a':=?_) (aM 7 7) rfl rfl aD (fun c a B h=>afK.out c a _ _ B h) (Or.inl ⟨by rfl,?_⟩) hHeld ?_ ?_;rotate_left
     ·rintro w' ⟨s,⟨y0,y1,y2,y3,y4,y5⟩⟩
      go_simp
      with_reducible rfl
     rotate_left
     ·simp only[Act.put,aYa,aYb,aYc,eG,fI];rfl
     refine mD 3 (some 68) (aM 7 15) (fun K hK=>?_);refine mW Tryz.func122 #[.agg #[.int .i64 c.f1.f0,.string c.f1.f1,.string c.f1.f2,.int .i64 c.f1.f3,.slice C4 c.f1.f4.length wF,.slice C5 c.f1.f5.length wG]] ?_;refine (iA.calls c.f1.f0 c.f1.f1 c.f1.f2 c.f1.f3 C4 wF c.f1.f4 C5 wG c.f1.f5 c.f1.f0 c.f1.f1 c.f1.f2 c.f1.f3 c.f1.f4 c.f1.f5 Wd (Kd.aC HLC.out.g4 HLD.out) HLC.out.l4 (Kd.aC HLC.out.g5 HLD.out) HLC.out.l5 (YB OD.out.1 OD.out.2)).mono ?_;rintro e Wz ⟨v4,v5,rfl,hr4,yR,hbz⟩;refine⟨_,rfl,?_⟩;have qA:=ah.mk (aJ Yk.out hbz);have rE:=ah.mk (Kd.pQ CW.out hbz);have HRX:=ah.mk (Kd.vk (ok':=fun k=>True∧¬Wd.heap.size≤k) (Kd.acT CW.out hbz) (fun k hk=>⟨trivial,by have:=hk.2;omega⟩));have HIZ:=ah.mk (HID.out.below hbz);have Yl:=ah.mk (UG.out.trans (ng.below hbz));have Ym:=ah.mk (show w7.heap.size≤Wz.heap.size from Nat.le_trans Dj.out hbz.size);have Yp:=ah.mk (show ∀k,Wd.heap.size≤k→True∧some k≠(Value.slice Au nu cu).ownBlock from fun k hk=>⟨trivial,fun e=>by have:=Kd.ajo CW.out k e.symm;omega⟩);have Ls:=ah.mk (Az Wz w7.heap.size (fun k=>Wd.heap.size≤k) c.f1 (Kd.gD (Kd.dX (Kd.ig hr4) (fun k hk=>hk.2.1)) Dj.out) (Kd.gD (Kd.dX (Kd.ig yR) (fun k hk=>hk.2.1)) Dj.out));refine hK.out _ _ (IZ.out _ hHeld hbz) (fun hHeld=>?_);clear hK K hr4 yR hbz;refine fH 68 ?_;refine mD 4 (some 69) (aM 7 31) (fun K hK=>?_);refine pW (v:=.slice (some ⟨Wz.heap.size,0,none⟩) 1 1) (w1:=Wz.alloc (.cells #[.int .i64 c.f1.f0,.string c.f1.f1,.string c.f1.f2,.int .i64 c.f1.f3,v4,v5] 29)) (by rfl) rfl ?_ ?_
     ·go_simp
      try rfl
     have hal:=(Below.refl Wz.heap.size Wz).alloc (Nat.le_refl _) (.cells #[.int .i64 c.f1.f0,.string c.f1.f1,.string c.f1.f2,.int .i64 c.f1.f3,v4,v5] 29);refine hK.out _ _ (IZ.out _ hHeld hal) (fun hHeld=>?_);clear hK K hal;refine fH 69 ?_;refine kX (i:=5) (N:=some 70) (aM 7 63) rfl rfl aD aH (fun K hK=>?_);refine Kd.I4 mV (w0:=Wz) w7.heap.size (by rfl) (.tmp 65) (.tmp 69) 25 29 (.agg #[.int .i64 0,.string ⟨#[]⟩,.string ⟨#[]⟩,.int .i64 0,.slice none 0 0,.slice none 0 0]) 96 rfl Tryz.underlying25 Uh rfl (by show 0<6;decide) aH (.slice Au nu cu) S0 c.f1 [.int .i64 c.f1.f0,.string c.f1.f1,.string c.f1.f2,.int .i64 c.f1.f3,v4,v5] (fun _=>True) (fun k=>Wd.heap.size≤k) rfl rfl Ls.out Yp.out (fun _ _=>trivial) HRX.out (Below.refl _ _) Ym.out (by have:=Nq.out;omega) ?_;intro v1 w1 hr1 _hb hg1 qd;obtain⟨wP,DV,wQ,hv1⟩:=fU (Kd.V6 hr1);subst hv1;have hbx:=(hg1.block _ (bG qA.out) (gX (Kd.V6 rE.out) qA.out (fun cs e=>by injection e with _ e;exact absurd e aH))).trans qA.out;have QU:w1.cell? ⟨pl,0,none⟩=some (.slice Au nu cu):=ak hbx 0;have f10:=ay hbx 0;have ER:=ah.mk (HIZ.out.push qA.out rE.out hr1 hg1 Er aj ⟨by omega,by omega⟩);have Yn:=ah.mk (Yl.out.trans ((ng.grown (G:=fun k=>k=pl) (T:=fun q=>q=29) (Kd.V6 rE.out) (Nat.le_refl _) rfl hg1).trans (ng.set (G:=fun k=>k=pl) rfl 0 (.slice wP DV wQ))));clear hr1 _hb hg1 qd hbx;refine hK.out _ _ ?_;clear hK K hHeld;refine fH 70 ?_;refine kX (i:=6) (N:=none) (aM 7 127) rfl rfl aD aH (fun K hK=>?_);refine rG (w1:=w1.setCell ⟨pl,0,none⟩ (.slice wP DV wQ)) (by rfl) rfl ?_ ?_
     ·go_simp
     refine hK.out _ _ ?_;clear hK K;refine jK aD ?_;exact FIN.out _ _ _ HGO.out ER.out Yn.out
    exact absurd (H2C.out c HCM.out) h2
  case done=>
   rintro xs W hxs hlt ⟨aoF,S,hS,hi⟩ hd;have Yq:xs.map Two.oJ.rd=rs:=hxs;rw[Yq] at hS
   have HOO:ah (o=some S):=⟨HOG.out.symm.trans hS⟩
   obtain⟨v,hv,FI⟩:=hi.lb;obtain⟨Av,nv,cv,hvs⟩:=fU (Kd.V6 FI);subst hvs;have hne:=ajj (show w.heap.size+1=pl from hpl) Yh hpz;have y1:W.cell? ⟨pl,0,none⟩=some (.slice Av nv cv):=ak hv 0;have f1:=ay hv 0;have l1:=bG hv;have hob:=hi.ob;have YC:(W.setCell ⟨pl,0,none⟩ (.slice Av nv cv)).heap[pl+1]?=some (.cells #[.bool false] 4 (0,0)):=fJ hob (by show pl+1≠pl;omega) _;have y2:(W.setCell ⟨pl,0,none⟩ (.slice Av nv cv)).cell? ⟨pl+1,0,none⟩=some (.bool false):=ak YC 0;have f2:=ay YC 0;have l2:=bG YC;have HLW:=ah.mk hi.low;have HV:=ah.mk hv;have HRV:=ah.mk FI;have aoG:=ah.mk YC;have ER:=ah.mk hd;have HBG:=ah.mk hi.big;clear hxs Yq hS aoF hi hv FI hob YC hd HI0 ajm HT Zd HOG HR1 HS su HX WB HOLD H2C HR;refine Q7 ?_;refine rD ?_
   go_wp2_with fail
   exact aa8 hpl Er hne HOO.out HLW.out HV.out HRV.out ER.out aoG.out rfl rfl (by rw[Yh])
  case pan=>
   rintro ch W hlt ⟨rfl,ho,_⟩ hd;exact absurd ho IJ.out
end Go.Proofs.YtknihldkhedpkaaGreatDoor
end
