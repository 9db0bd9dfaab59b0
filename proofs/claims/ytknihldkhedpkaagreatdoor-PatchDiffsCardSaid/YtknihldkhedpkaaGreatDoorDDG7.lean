import Derived.Test.YtknihldkhedpkaaGreatDoorDDG2
import Derived.Test.YtknihldkhedpkaaGreatDoorDDG6
import Derived.Test.YtknihldkhedpkaaGreatDoorDDG5
import Derived.Laws.CopyOwn
import Derived.Laws.Tables
set_option linter.all false
set_option maxHeartbeats 16000000
set_option maxRecDepth 100000
section
namespace Go.Proofs.YtknihldkhedpkaaGreatDoor
open Go.RowKit Go.Maps Go.WideAt
open Go.Proofs.YtknihldkhedpkaaGreatDoorW.PrintWords Go.Proofs.YtknihldkhedpkaaGreatDoorW.PrintLast Go.Proofs.YtknihldkhedpkaaGreatDoor.PT
structure Fits (x:VU):Prop where
 b:∀n∈x.f5,0≤n∧n≤255
 n:x.f5.length=512*(idxs x.f4).length
 r:∀r∈x.f4,0≤r.f0∧r.f0≤r.f1∧r.f1≤16522
 l:x.f4.length≤16523
 i:(idxs x.f4).length≤16523
theorem uM {a b:List Int} (ha:∀x∈a,0≤x∧x≤255) (hb:∀x∈b,0≤x∧x≤255):((strOfNums a).toList == (strOfNums b).toList)=decide (a=b):=by
 have hl:∀(a b:List Int),(∀x∈a,0≤x∧x≤255)→(∀x∈b,0≤x∧x≤255)→a.map (fun n=>UInt8.ofNat n.toNat)=b.map (fun n=>UInt8.ofNat n.toNat)→a=b:=by
  intro a
  induction a with
  | nil=>
   intro b _ _ h
   cases b with
   | nil=>rfl
   | cons=>cases h
  | cons x a ih=>
   intro b ha hb h
   cases b with
   | nil=>cases h
   | cons z b=>
    rw[List.map_cons,List.map_cons] at h
    injection h with h1 h2
    have h3:=congrArg UInt8.toNat h1;have hx:=ha x bB;have hz:=hb z bB;rw[UInt8.toNat_ofNat',UInt8.toNat_ofNat',Nat.mod_eq_of_lt aj,Nat.mod_eq_of_lt aj] at h3;rw[show x=z by omega,ih b (fun w hw=>ha w (by simp[hw])) (fun w hw=>hb w (by simp[hw])) h2]
 by_cases e:a=b
 ·subst e;simp
 rw[decide_eq_false e];refine beq_eq_false_iff_ne.2 (fun h=>e (hl a b ha hb ?_));rw[ByteArray.toList_eq,ByteArray.toList_eq] at h;exact h
theorem DC:∀{l:List Int} {n:Nat} {i:Int} {k:Nat},iQ l n i=some k→k<n+l.length
 | [],_,_,_,h=>by cases h
 | x::l,n,i,k,h=>by
  unfold iQ at h
  cases hc:iQ l (n+1) i with
  | some j=>
   rw[hc] at h;obtain rfl:=Option.some.inj h;have:=DC hc;simp only[List.length_cons];omega
  | none=>
   rw[hc] at h;dsimp only at h;split at h
   ·obtain rfl:=Option.some.inj h;simp only[List.length_cons];omega
   cases h
theorem GI {w:World} {A:Option Addr} {d:List Int} {k:Nat} (h:Kd.C (Kd.int .u8) w A d.length d) (hk:512*(k+1)≤d.length):Kd.C (Kd.int .u8) w (A.map (·.add (512*k))) 512 (iX d k):=by
 have h1:=Kd.adJ (lo:=512*k) (hi:=512*k+512) (c:=d.length) h aj aj (Nat.le_refl _);rw[if_neg aj,show (Kd.int .u8).sz=1 from rfl,Nat.mul_one] at h1
 have h2:(d.take (512*k+512)).drop (512*k)=iX d k:=by
  unfold iX;rw[List.drop_take]
  congr 1
  omega
 rw[h2,gW hk] at h1;exact h1
theorem yB {w:World} {base:Nat} {ok:Nat→Prop} {v:Value} {xs:List Int} (h:Kd.R (Kd.int .u8) 5 w base ok v xs):Kd.R (Kd.int .u8) 5 w base (fun k=>v.ownBlock=some k) v xs:=by
 obtain⟨h0,inner,ho,hr⟩:=h;exact⟨fun k hk=>hk,inner,ho,hr.qK (fun p c hp=>hp)⟩
theorem nI {w:World} {base:Nat} {ok:Nat→Prop} {v:Value} {xs:List Rn} (h:Kd.R dw 117 w base ok v xs):Kd.R dw 117 w base (fun k=>v.ownBlock=some k) v xs:=by
 obtain⟨h0,inner,ho,hr⟩:=h;exact⟨fun k hk=>hk,inner,ho,hr.qK (fun p c hp=>hp)⟩
theorem vD {w:World} {base:Nat} {ok:Nat→Prop} {v:Value} {xs:List Int} (h:Kd.R (Kd.int .u8) 5 w base ok v xs):Kd.R (Kd.int .u8) 5 w base (fun _=>True) v xs:=Kd.dX h (fun _ _=>trivial)
theorem rC {w:World} {base:Nat} {ok:Nat→Prop} {v:Value} {xs:List Rn} (h:Kd.R dw 117 w base ok v xs):Kd.R dw 117 w base (fun _=>True) v xs:=Kd.dX h (fun _ _=>trivial)
theorem mq.others {P:Program} {k:TypeId} {w w1:World} {b n:Nat} {F:Lit→Option Value} (h:mq P k w b n F) (hs:∀(o:Obj),w.heap[b]?=some o→o.isCells=false→w1.heap[b]?=some o):mq P k w1 b n F:=by
 obtain⟨D,⟨es,clock,h1,h2,h3,h4⟩,hat⟩:=h;exact mq.same ⟨D,⟨es,clock,h1,h2,h3,h4⟩,hat⟩ ((hs _ h1 rfl).trans h1.symm)
structure LW (w:World) (mb p n:Nat) (F:Lit→Option Value) (path:ByteArray) (sz:Int) (v5:Value) (wK:List Rn) (rb:Nat) (rcs:Array Value) (rt:TypeId) (v6 v7:Value) (st:List Rn × List Int) (wx:World):Prop where
 low:Below w.heap.size w wx
 map:mq Tryz.prog 3 wx mb n F
 box:wx.heap[p]?=some (.cells #[.int .i64 3,.int .i64 1,.string path,.string ⟨#[]⟩,.int .i64 sz,v5,v6,v7] 31 (0,0))
 res:wx.heap[w.heap.size+2]?=some (.cells #[.int .i64 0,.int .i64 0,.string ⟨#[]⟩,.string ⟨#[]⟩,.int .i64 0,.slice none 0 0,.slice none 0 0,.slice none 0 0] 31 (0,0))
 Zt:wx.heap[rb]?=some (.cells rcs rt (0,0))
 runs:Kd.R dw 117 wx w.heap.size (fun _=>True) v5 wK
 data:Kd.R (Kd.int .u8) 5 wx w.heap.size (fun _=>True) v6 st.2
 set:Kd.R dw 117 wx w.heap.size (fun k=>some k≠v5.ownBlock∧k≠rb) v7 st.1
 hp:w.heap.size+2<p
 hr:rb≠p∧rt≠5
section
variable {w : World} {mb p n : Nat} {F : Lit → Option Value} {path : ByteArray} {sz : Int} {v5 : Value} {wK : List Rn} {rb : Nat} {rcs : Array Value} {rt : TypeId} {v6 v7 : Value} {st : List Rn × List Int} {wx : World}
theorem LW.below {w1:World} (h:LW w mb p n F path sz v5 wK rb rcs rt v6 v7 st wx) (hb:Below wx.heap.size wx w1):LW w mb p n F path sz v5 wK rb rcs rt v6 v7 st w1 :=
 ⟨h.low.trans (hb.mono h.low.size),h.map.below hb,aJ h.box hb,aJ h.res hb,aJ h.Zt hb,Kd.bO h.runs hb,Kd.bO h.data hb,Kd.bO h.set hb,h.hp,h.hr⟩
theorem LW.ajH (h:LW w mb p n F path sz v5 wK rb rcs rt v6 v7 st wx) (cs:Array Value):LW w mb p n F path sz v5 wK wx.heap.size cs 117 v6 v7 st (wx.alloc (.cells cs 117)):=by
 have hb:=(Below.refl wx.heap.size wx).alloc (Nat.le_refl _) (.cells cs 117);have h1:=h.below hb;have hlt:=bG h.box;exact⟨h1.low,h1.map,h1.box,h1.res,bF _ _,h1.runs,h1.data,Kd.dX (Kd.bO (nI h.set) hb) (fun k hk=>⟨(h.set.1 k hk).1,by have:=Kd.H7 h.set k hk;omega⟩),h1.hp,by omega,by decide⟩
theorem LW.back (h:LW w mb p n F path sz v5 wK rb rcs rt v6 v7 st wx):LW w mb p n F path sz v5 wK (w.heap.size+2) #[.int .i64 0,.int .i64 0,.string ⟨#[]⟩,.string ⟨#[]⟩,.int .i64 0,.slice none 0 0,.slice none 0 0,.slice none 0 0] 31 v6 v7 st wx :=
 ⟨h.low,h.map,h.box,h.res,h.res,h.runs,h.data,Kd.dX (nI h.set) (fun k hk=>⟨(h.set.1 k hk).1,fun e=>Kd.uW h.set h.res aH (by rw[← e];exact hk.symm)⟩),h.hp,by have:=h.hp;omega,by decide⟩
theorem LW.join {w1:World} {v8:Value} {l:List Rn} (h:LW w mb p n F path sz v5 wK rb rcs rt v6 v7 st wx) (hb:Below w.heap.size w w1) (hk:Kept wx w1 (fun k=>v7.ownBlock=some k)) (hr:Kd.R dw 117 w1 w.heap.size (fun k=>v7.ownBlock=some k∨wx.heap.size≤k) v8 l) :
  LW w mb p n F path sz v5 wK rb rcs rt v6 v8 (l,st.2) (w1.setCell ⟨p,7,none⟩ v8):=by
 have hoth:∀k (o:Obj),wx.heap[k]?=some o→(∀cs,o≠.cells cs 117 (0,0))→w1.heap[k]?=some o:=fun k o ho hne=>
  (hk.2 k (bG ho) (fun hp=>by
   obtain⟨cs,hc⟩:=Kd.mh h.set k hp;rw[ho] at hc
   exact hne cs (Option.some.inj hc))).trans ho
 have gN:=hoth p _ h.box (fun cs e=>by injection e with _ e;exact absurd e aH);have hres:=hoth _ _ h.res (fun cs e=>by injection e with _ e;exact absurd e aH);have hrb:w1.heap[rb]?=_:=(hk.2 rb (bG h.Zt) (fun hp=>(h.set.1 rb hp).2 rfl)).trans h.Zt;have hp:=h.hp;refine⟨hb.setCell (by show w.heap.size≤p;omega) _,?_,?_,?_,?_,?_,?_,?_,h.hp,h.hr⟩
 ·refine h.map.others (fun o ho hc=>?_);have h5:=hoth mb _ ho (fun cs e=>by rw[e] at hc;cases hc)
  have hne:mb≠p:=fun e=>by
   rw[e,gN] at h5;obtain rfl:=Option.some.inj h5;cases hc
  exact (Below.heap_setCell w1 ⟨p,7,none⟩ v8 mb hne).trans h5
 ·exact gY gN 7 v8 (by rfl)
 ·exact fJ hres (by show w.heap.size+2≠p;omega) _
 ·exact fJ hrb h.hr.1 _
 ·exact rC (Kd.oK (Kd.nZ (nI h.runs) (fun k ho hlt=>hk.2 k hlt (fun hp=>(h.set.1 k hp).1 ho.symm))) gN (by intro q hq;simp[dw,Kd.Mr,Kd.pair,Kd.int,Kd.scalar] at hq;subst hq;decide) 7 v8)
 ·refine vD (Kd.oK (Kd.nZ (yB h.data) (fun k ho hlt=>?_)) gN (by intro q hq;simp[Kd.int,Kd.scalar] at hq;subst hq;decide) 7 v8);obtain⟨cs,hc⟩:=Kd.mh h.data k ho;exact (hoth k _ hc (fun cs e=>by injection e with _ e;exact absurd e aH)).trans hc.symm
 refine Kd.oK (Kd.dX hr (fun k hk2=>?_)) gN (by intro q hq;simp[dw,Kd.Mr,Kd.pair,Kd.int,Kd.scalar] at hq;subst hq;decide) 7 v8
 rcases hk2 with h1|h1
 ·exact h.set.1 k h1
 have h2:=bG h.Zt;refine⟨fun e=>?_,by omega⟩;have:=Kd.H7 h.runs k e.symm;omega
theorem LW.append {w1:World} {v8:Value} {l:List Int} (h:LW w mb p n F path sz v5 wK rb rcs rt v6 v7 st wx) (hb:Below w.heap.size w w1) (hg:wx.grownBy w1 v6.ownBlock) (hr:Kd.R (Kd.int .u8) 5 w1 w.heap.size (fun _=>True) v8 l) :
  LW w mb p n F path sz v5 wK rb rcs rt v8 v7 (st.1,l) (w1.setCell ⟨p,6,none⟩ v8):=by
 have hoth:∀k (o:Obj),wx.heap[k]?=some o→(∀cs,o≠.cells cs 5 (0,0))→w1.heap[k]?=some o:=fun k o ho hne=>
  (hg.block k (bG ho) (fun e=>by
   obtain⟨cs,hc⟩:=Kd.mh h.data k e.symm;rw[ho] at hc
   exact hne cs (Option.some.inj hc))).trans ho
 have gN:=hoth p _ h.box (fun cs e=>by injection e with _ e;exact absurd e aH);have hres:=hoth _ _ h.res (fun cs e=>by injection e with _ e;exact absurd e aH);have hrb:=hoth _ _ h.Zt (fun cs e=>by injection e with _ e;exact absurd e h.hr.2);have hp:=h.hp;refine⟨hb.setCell (by show w.heap.size≤p;omega) _,?_,?_,?_,?_,?_,?_,?_,h.hp,h.hr⟩
 ·refine h.map.others (fun o ho hc=>?_);have h5:=hoth mb _ ho (fun cs e=>by rw[e] at hc;cases hc)
  have hne:mb≠p:=fun e=>by
   rw[e,gN] at h5;obtain rfl:=Option.some.inj h5;cases hc
  exact (Below.heap_setCell w1 ⟨p,6,none⟩ v8 mb hne).trans h5
 ·exact gY gN 6 v8 (by rfl)
 ·exact fJ hres (by show w.heap.size+2≠p;omega) _
 ·exact fJ hrb h.hr.1 _
 ·exact Kd.oK (Kd.K3 h.runs h.data (by intro q hq;simp[dw,Kd.Mr,Kd.pair,Kd.int,Kd.scalar] at hq;subst hq;decide) hg) gN (by intro q hq;simp[dw,Kd.Mr,Kd.pair,Kd.int,Kd.scalar] at hq;subst hq;decide) 6 v8
 ·exact Kd.oK hr gN (by intro q hq;simp[Kd.int,Kd.scalar] at hq;subst hq;decide) 6 v8
 exact Kd.oK (Kd.K3 h.set h.data (by intro q hq;simp[dw,Kd.Mr,Kd.pair,Kd.int,Kd.scalar] at hq;subst hq;decide) hg) gN (by intro q hq;simp[dw,Kd.Mr,Kd.pair,Kd.int,Kd.scalar] at hq;subst hq;decide) 6 v8
end
theorem Yo (x y:VU) (X4:Option Addr) (rZ:Nat) (X5:Option Addr) (sj:Nat) (Y4:Option Addr) (kD:Nat) (Y5:Option Addr) (lJ:Nat) (w:World)
  (fx:Fits x) (fy:Fits y)
  (lx4:x.f4.length≤rZ) (gx4:Kd.C dw w X4 x.f4.length x.f4) (lx5:x.f5.length≤sj) (gx5:Kd.C (Kd.int .u8) w X5 x.f5.length x.f5)
  (ly4:y.f4.length≤kD) (gy4:Kd.C dw w Y4 y.f4.length y.f4) (ly5:y.f5.length≤lJ) (gy5:Kd.C (Kd.int .u8) w Y5 y.f5.length y.f5) :
  Calls Tryz.prog 53 #[.agg #[.int .i64 x.f0,.string x.f1,.string x.f2,.int .i64 x.f3,.slice X4 x.f4.length rZ,.slice X5 x.f5.length sj],.agg #[.int .i64 y.f0,.string y.f1,.string y.f2,.int .i64 y.f3,.slice Y4 y.f4.length kD,.slice Y5 y.f5.length lJ]] w fun e w'=>
   ∃v5 v6 v7,e=.returned (.agg #[.int .i64 3,.int .i64 1,.string y.f1,.string ⟨#[]⟩,.int .i64 y.f3,v5,v6,v7]) ∧
    Kd.R dw 117 w' w.heap.size (fun _=>True) v5 y.f4∧Kd.R (Kd.int .u8) 5 w' w.heap.size (fun _=>True) v6 (uh x y).f1.f5∧Kd.R dw 117 w' w.heap.size (fun _=>True) v7 (uh x y).f2∧Below w.heap.size w w':=by
 have FX:=ah.mk fx;have FY:=ah.mk fy;have GX4:=ah.mk gx4;have GX5:=ah.mk gx5;have Zj:=ah.mk gy4;have GY5:=ah.mk gy5;clear fx fy gx4 gx5 gy4 gy5
 go_enter Tryz.func53,Tryz.ntmps53
 go_wp2_with fail
 obtain⟨W3,hW3⟩:∃W3,W3=((w.alloc (.cells #[.int .i64 x.f0,.string x.f1,.string x.f2,.int .i64 x.f3,.slice X4 x.f4.length rZ,.slice X5 x.f5.length sj] 29)).alloc (.cells #[.int .i64 y.f0,.string y.f1,.string y.f2,.int .i64 y.f3,.slice Y4 y.f4.length kD,.slice Y5 y.f5.length lJ] 29)).alloc (.cells #[.int .i64 0,.int .i64 0,.string ⟨#[]⟩,.string ⟨#[]⟩,.int .i64 0,.slice none 0 0,.slice none 0 0,.slice none 0 0] 31):=⟨_,rfl⟩
 rw[← hW3]
 have hb3:Below w.heap.size w W3:=by rw[hW3];exact (((Below.refl _ _).alloc (Nat.le_refl _) _).alloc bB _).alloc (by simp;omega) _
 have hs3:W3.heap.size=w.heap.size+3:=by rw[hW3];simp
 have hk0:=aN (aN (bF w (.cells #[.int .i64 x.f0,.string x.f1,.string x.f2,.int .i64 x.f3,.slice X4 x.f4.length rZ,.slice X5 x.f5.length sj] 29)) (.cells #[.int .i64 y.f0,.string y.f1,.string y.f2,.int .i64 y.f3,.slice Y4 y.f4.length kD,.slice Y5 y.f5.length lJ] 29)) (.cells #[.int .i64 0,.int .i64 0,.string ⟨#[]⟩,.string ⟨#[]⟩,.int .i64 0,.slice none 0 0,.slice none 0 0,.slice none 0 0] 31);rw[← hW3] at hk0;have HB3:=ah.mk hb3;have HW3:=ah.mk hW3;have ZH:=ah.mk hk0;have hsp:=OU X4 rZ x.f4 X5 x.f5.length sj W3 (Kd.aC GX4.out hb3) lx4 (by have:=FX.out.l;omega) FX.out.n lx5 (fun r hr=>⟨(FX.out.r r hr).1,(FX.out.r r hr).2.1,by have:=(FX.out.r r hr).2.2;omega⟩) (by have:=FX.out.i;omega);rw[hs3] at hsp;have HSP:=ah.mk hsp;clear hb3 hW3 hk0 hsp
 go_wp2_with (go_at_call 90;refine (HSP.out).mono ?_;rintro e w4 ⟨rfl,hv4,hb4⟩)
 have hk1:W3.heap[w.heap.size+1]?=some (.cells #[.int .i64 y.f0,.string y.f1,.string y.f2,.int .i64 y.f3,.slice Y4 y.f4.length kD,.slice Y5 y.f5.length lJ] 29 (0,0)):=by
  rw[HW3.out];have hz:=bF (w.alloc (.cells #[.int .i64 x.f0,.string x.f1,.string x.f2,.int .i64 x.f3,.slice X4 x.f4.length rZ,.slice X5 x.f5.length sj] 29)) (.cells #[.int .i64 y.f0,.string y.f1,.string y.f2,.int .i64 y.f3,.slice Y4 y.f4.length kD,.slice Y5 y.f5.length lJ] 29);rw[World.size_alloc] at hz;exact aN hz _
 have af5:Below W3.heap.size W3 w4:=by rw[hs3];exact hb4
 have YR:=aJ hk1 af5;have y1:w4.cell? ⟨w.heap.size+1,1,none⟩=some (.string y.f1):=ak YR 1;have y3:w4.cell? ⟨w.heap.size+1,3,none⟩=some (.int .i64 y.f3):=ak YR 3;have y4:w4.cell? ⟨w.heap.size+1,4,none⟩=some (.slice Y4 y.f4.length kD):=ak YR 4;have jH:=ah.mk YR;have iM:=ah.mk af5;have Tp:=ah.mk hv4
 have hcl:∀W:World,Below W3.heap.size W3 W→Calls Tryz.prog 91 #[.slice Y4 y.f4.length kD] W fun e w'=>∃v,e=.returned v∧Kd.R dw 117 w' W.heap.size (fun _=>True) v y.f4∧Below W.heap.size W w':=fun W hW=>
  zA Y4 kD y.f4 W (Kd.aC Zj.out (HB3.out.trans (hW.mono HB3.out.size))) (by have:=FY.out.l;omega)
 have OG:=ah.mk hcl;clear hk1 af5 YR hv4 hb4 hcl HSP;have hdr:=bf (Below.refl w4.heap.size w4)
 have hS:w4.drew.cell? ⟨w.heap.size+1,1,none⟩=some (.string y.f1)∧w4.drew.cell? ⟨w.heap.size+1,3,none⟩=some (.int .i64 y.f3)∧w4.drew.cell? ⟨w.heap.size+1,4,none⟩=some (.slice Y4 y.f4.length kD)∧ah (Below W3.heap.size W3 w4.drew):=⟨au hdr y1,au hdr y3,au hdr y4,⟨iM.out.trans (hdr.mono iM.out.size)⟩⟩
 obtain⟨W4,Zk⟩:∃W4,w4.drew=W4:=⟨_,rfl⟩
 have HD4:=ah.mk (show Below w4.heap.size w4 W4 from Zk▸hdr);clear y1 y3 y4 hdr;refine jJ (n:=11) (S:=(fun w'=>w'.cell? ⟨w.heap.size+1,1,none⟩=some (.string y.f1)∧w'.cell? ⟨w.heap.size+1,3,none⟩=some (.int .i64 y.f3)∧w'.cell? ⟨w.heap.size+1,4,none⟩=some (.slice Y4 y.f4.length kD)∧ah (Below W3.heap.size W3 w'))) (ds:=[10]) (aM 11 0) aD rfl rfl hS (fun hHeld=>?_);clear hS;rw[Zk] at hHeld ⊢;clear Zk;refine bA 0 19 (aM 11 1) ?_;refine gG 1 20 (aM 11 3) rfl hHeld (by rintro w' ⟨s1,s3,s4,s5⟩;go_simp;with_reducible rfl) ?_;refine bA 2 21 (aM 11 7) ?_;refine gG 3 22 (aM 11 15) rfl hHeld (by rintro w' ⟨s1,s3,s4,s5⟩;go_simp;with_reducible rfl) ?_;refine bA 4 23 (aM 11 31) ?_;refine gG 5 24 (aM 11 63) rfl hHeld (by rintro w' ⟨s1,s3,s4,s5⟩;go_simp;with_reducible rfl) ?_;refine ajI (σ:=Option Addr × Nat × Nat) 1 (aM 11 1023) (fun s=>[(25,.slice s.1 y.f4.length s.2.1),(26,.agg #[.int .i64 1,.string y.f1,.string ⟨#[]⟩,.int .i64 y.f3,.slice s.1 y.f4.length s.2.1,.slice none 0 0]),(27,.agg #[.int .i64 3,.int .i64 1,.string y.f1,.string ⟨#[]⟩,.int .i64 y.f3,.slice s.1 y.f4.length s.2.1,.slice none 0 0,.slice none 0 0]),(6,.pointer (some ⟨s.2.2,0,none⟩))]) (fun s w'=>Kd.R dw 117 w' W4.heap.size (fun _=>True) (.slice s.1 y.f4.length s.2.1) y.f4∧w'.heap[s.2.2]?=some (.cells #[.int .i64 0,.int .i64 0,.string ⟨#[]⟩,.string ⟨#[]⟩,.int .i64 0,.slice none 0 0,.slice none 0 0,.slice none 0 0] 31 (0,0))∧W4.heap.size≤s.2.2∧Below W4.heap.size W4 w') ?hcont (fun HC=>?_);rotate_left;refine apb (i:=6) (j:=9) (Ni:=some 25) (Nj:=some 6) (aM 11 127) (aM 11 575) rfl rfl rfl rfl aD aH aH (fun K hK=>?_) (fun K hK=>?_)
 ·refine mW Tryz.func91 #[.slice Y4 y.f4.length kD] ?_;refine (OG.out _ hHeld.2.2.2.out).mono ?_;rintro e w5 ⟨v5,rfl,yR,hb5⟩;obtain⟨Av5,cv5,hv5⟩:=Kd.bP yR;subst hv5;refine⟨_,rfl,?_⟩;have nE:=ah.mk yR;have kW:=ah.mk hb5;refine hK.out _ _ ⟨au hb5 hHeld.1,au hb5 hHeld.2.1,au hb5 hHeld.2.2.1,⟨hHeld.2.2.2.out.trans (hb5.mono hHeld.2.2.2.out.size)⟩⟩ ?_;clear yR hb5 hHeld hK K;intro hHeld;refine fH 25 ?_;refine bA 7 26 (aM 11 255) ?_;refine bA 8 27 (aM 11 511) ?_;refine mD 9 (some 6) (aM 11 1023) (fun K hK=>?_);refine pW (v:=.pointer (some ⟨w5.heap.size,0,none⟩)) (w1:=w5.alloc (.cells #[.int .i64 0,.int .i64 0,.string ⟨#[]⟩,.string ⟨#[]⟩,.int .i64 0,.slice none 0 0,.slice none 0 0,.slice none 0 0] 31)) (by rfl) rfl aD ?_;have hal:=(Below.refl w5.heap.size w5).alloc (Nat.le_refl _) (.cells #[.int .i64 0,.int .i64 0,.string ⟨#[]⟩,.string ⟨#[]⟩,.int .i64 0,.slice none 0 0,.slice none 0 0,.slice none 0 0] 31);refine hK.out _ _ ⟨au hal hHeld.1,au hal hHeld.2.1,au hal hHeld.2.2.1,⟨hHeld.2.2.2.out.trans (hal.mono hHeld.2.2.2.out.size)⟩⟩ ?_;clear hal hHeld hK K;intro hHeld;refine HC ⟨Av5,cv5,w5.heap.size⟩ _ ⟨?_,?_,?_,?_⟩
  ·exact Kd.bO nE.out ((Below.refl _ _).alloc (Nat.le_refl _) _)
  ·exact bF _ _
  ·exact kW.out.size
  exact kW.out.alloc kW.out.size _
 ·refine pW (v:=.pointer (some ⟨W4.heap.size,0,none⟩)) (w1:=W4.alloc (.cells #[.int .i64 0,.int .i64 0,.string ⟨#[]⟩,.string ⟨#[]⟩,.int .i64 0,.slice none 0 0,.slice none 0 0,.slice none 0 0] 31)) (by rfl) rfl aD ?_;have hal:=(Below.refl W4.heap.size W4).alloc (Nat.le_refl _) (.cells #[.int .i64 0,.int .i64 0,.string ⟨#[]⟩,.string ⟨#[]⟩,.int .i64 0,.slice none 0 0,.slice none 0 0,.slice none 0 0] 31);refine hK.out _ _ ⟨au hal hHeld.1,au hal hHeld.2.1,au hal hHeld.2.2.1,⟨hHeld.2.2.2.out.trans (hal.mono hHeld.2.2.2.out.size)⟩⟩ ?_;clear hal hHeld hK K;intro hHeld;refine fH 6 ?_;have HAL:=ah.mk ((Below.refl W4.heap.size W4).alloc (Nat.le_refl _) (.cells #[.int .i64 0,.int .i64 0,.string ⟨#[]⟩,.string ⟨#[]⟩,.int .i64 0,.slice none 0 0,.slice none 0 0,.slice none 0 0] 31));have HNB:=ah.mk (bF W4 (.cells #[.int .i64 0,.int .i64 0,.string ⟨#[]⟩,.string ⟨#[]⟩,.int .i64 0,.slice none 0 0,.slice none 0 0,.slice none 0 0] 31))
  obtain⟨W5,hW5⟩:∃W5,W4.alloc (.cells #[.int .i64 0,.int .i64 0,.string ⟨#[]⟩,.string ⟨#[]⟩,.int .i64 0,.slice none 0 0,.slice none 0 0,.slice none 0 0] 31)=W5:=⟨_,rfl⟩
  rw[hW5] at HAL HNB hHeld ⊢;clear hW5;refine mD 6 (some 25) (aM 11 639) (fun K hK=>?_);refine mW Tryz.func91 #[.slice Y4 y.f4.length kD] ?_;refine (OG.out _ hHeld.2.2.2.out).mono ?_;rintro e w5 ⟨v5,rfl,yR,hb5⟩;obtain⟨Av5,cv5,hv5⟩:=Kd.bP yR;subst hv5;refine⟨_,rfl,?_⟩;have nE:=ah.mk yR;have kW:=ah.mk hb5;refine hK.out _ _ ⟨au hb5 hHeld.1,au hb5 hHeld.2.1,au hb5 hHeld.2.2.1,⟨hHeld.2.2.2.out.trans (hb5.mono hHeld.2.2.2.out.size)⟩⟩ ?_;clear yR hb5 hHeld hK K;intro hHeld;refine fH 25 ?_;refine bA 7 26 (aM 11 767) ?_;refine bA 8 27 (aM 11 1023) ?_;refine HC ⟨Av5,cv5,W4.heap.size⟩ _ ⟨?_,?_,Nat.le_refl _,?_⟩
  ·exact Kd.gD nE.out HAL.out.size
  ·exact aJ HNB.out kW.out
  exact HAL.out.trans (kW.out.mono HAL.out.size)
 rintro⟨A5,c5,p⟩ W5 ⟨yR,hk5,Xf,hb5⟩;dsimp only at yR hk5 Xf;have nE:=ah.mk yR;have KC:=ah.mk hk5;have kW:=ah.mk hb5;have MQ:=ah.mk Xf;clear yR hk5 hb5 Xf;refine Uj (a':=?_) ?_ ?_;rotate_left
 ·show Im _ [_,_,_,_]=_
  simp only[Im,Act.put,aYa,aYb,aYc];rfl
 refine kX (i:=10) (N:=none) (aM 11 2047) rfl rfl aD aH (fun K hK=>?_);rw[if_pos (by rfl)];refine wp_store_row 31 (.tmp 6) (.tmp 27) rfl p #[.int .i64 3,.int .i64 1,.string y.f1,.string ⟨#[]⟩,.int .i64 y.f3,.slice A5 y.f4.length c5,.slice none 0 0,.slice none 0 0] rfl rfl 31 _ KC.out aD (by rfl) (by simp[Value.oneCell']) ?_;refine hK.out _ _ ?_;clear hK K;refine Uj (a':=?_) ?_ ?_;rotate_left
 ·show Act.put _ none _=_
  simp only[Act.put];rfl
 refine jK aD ?_;have h34:W3.heap.size≤w4.heap.size:=iM.out.size;have h44:w4.heap.size≤W4.heap.size:=HD4.out.size;have Xf:=MQ.out
 have hp6:w.heap.size+3<p:=by
  have:=Tp.out.lt;omega
 have h46:Below w4.heap.size w4 W5:=HD4.out.trans (kW.out.mono h44);have h36:Below W3.heap.size W3 W5:=iM.out.trans (h46.mono h34);have h06:Below w.heap.size w W5:=HB3.out.trans (h36.mono aj);have yR:=nE.out
 have af6:LW w (w.heap.size+3) p (idxs x.f4).length (CZ X5 (idxs x.f4)) y.f1 y.f3 (.slice A5 y.f4.length c5) y.f4 (w.heap.size+2) #[.int .i64 0,.int .i64 0,.string ⟨#[]⟩,.string ⟨#[]⟩,.int .i64 0,.slice none 0 0,.slice none 0 0,.slice none 0 0] 31 (.slice none 0 0) (.slice none 0 0) ([],[]) (W5.setRow p #[.int .i64 3,.int .i64 1,.string y.f1,.string ⟨#[]⟩,.int .i64 y.f3,.slice A5 y.f4.length c5,.slice none 0 0,.slice none 0 0]):=by
  have hres:(W5.setRow p #[.int .i64 3,.int .i64 1,.string y.f1,.string ⟨#[]⟩,.int .i64 y.f3,.slice A5 y.f4.length c5,.slice none 0 0,.slice none 0 0]).heap[w.heap.size+2]?=some (.cells #[.int .i64 0,.int .i64 0,.string ⟨#[]⟩,.string ⟨#[]⟩,.int .i64 0,.slice none 0 0,.slice none 0 0,.slice none 0 0] 31 (0,0)):=by
   rw[setRow_other _ _ _ _ aj];refine aJ ?_ h36;rw[HW3.out];have hz:=bF ((w.alloc (.cells #[.int .i64 x.f0,.string x.f1,.string x.f2,.int .i64 x.f3,.slice X4 x.f4.length rZ,.slice X5 x.f5.length sj] 29)).alloc (.cells #[.int .i64 y.f0,.string y.f1,.string y.f2,.int .i64 y.f3,.slice Y4 y.f4.length kD,.slice Y5 y.f5.length lJ] 29)) (.cells #[.int .i64 0,.int .i64 0,.string ⟨#[]⟩,.string ⟨#[]⟩,.int .i64 0,.slice none 0 0,.slice none 0 0,.slice none 0 0] 31);rw[World.size_alloc,World.size_alloc] at hz;exact hz
  refine⟨below_setRow h06 aj _,?_,setRow_heap _ _ _ _ _ _ KC.out,hres,hres,?_,Kd.eD _ _ _ _ _,Kd.eD _ _ _ _ _,by omega,by omega,by decide⟩
  ·refine (Tp.out.below h46).same ?_;exact setRow_other _ _ _ _ aj
  refine rC (Kd.nZ (Kd.gD (nI yR) aj) (fun k ho hlt=>setRow_other _ _ _ _ (fun e=>?_)));exact Kd.uW yR KC.out aH (by rw[← e];exact ho.symm)
 have q5:(W5.setRow p #[.int .i64 3,.int .i64 1,.string y.f1,.string ⟨#[]⟩,.int .i64 y.f3,.slice A5 y.f4.length c5,.slice none 0 0,.slice none 0 0]).cell? ⟨w.heap.size+1,5,none⟩=some (.slice Y5 y.f5.length lJ) :=
  (cell_setRow_other _ _ _ _ (by show w.heap.size+1≠p;omega)).trans (ak (aJ jH.out h46) 5)
 have q4:(W5.setRow p #[.int .i64 3,.int .i64 1,.string y.f1,.string ⟨#[]⟩,.int .i64 y.f3,.slice A5 y.f4.length c5,.slice none 0 0,.slice none 0 0]).cell? ⟨w.heap.size+1,4,none⟩=some (.slice Y4 y.f4.length kD) :=
  (cell_setRow_other _ _ _ _ (by show w.heap.size+1≠p;omega)).trans (ak (aJ jH.out h46) 4)
 obtain⟨W6,hW6⟩:∃W6,W5.setRow p #[.int .i64 3,.int .i64 1,.string y.f1,.string ⟨#[]⟩,.int .i64 y.f3,.slice A5 y.f4.length c5,.slice none 0 0,.slice none 0 0]=W6:=⟨_,rfl⟩
 rw[hW6] at af6 q5 q4 ⊢;have HE:=ah.mk af6
 obtain⟨v5,hv5⟩:∃v5,Value.slice A5 y.f4.length c5=v5:=⟨_,rfl⟩
 rw[hv5] at HE ⊢;clear af6 hW6 h34 h44 Xf h46 h36 h06 yR ZH iM HW3 jH Tp OG HD4 nE KC kW MQ;clear hs3 hv5
 go_wp2_with fail
 have HN:=ah.mk FY.out.n;have hly:=FY.out.l;obtain⟨i0,hi0,_,hz1,_⟩:=info_parts info5;have hlc:=ly5
 go_loopg [7,33] y.f4.length (fun g s7 s33 wx=>∃(i:Nat) (a:Option Addr) (v6 v7:Value),i+g=y.f4.length∧s33=.int .i64 i∧s7=.slice a (y.f5.length - 512*(idxs (y.f4.take i)).length) (lJ - 512*(idxs (y.f4.take i)).length)∧ah (512*(idxs (y.f4.take i)).length<lJ→a=Y5.map (·.add (512*(idxs (y.f4.take i)).length)))∧ah (LW w (w.heap.size+3) p (idxs x.f4).length (CZ X5 (idxs x.f4)) y.f1 y.f3 v5 y.f4 (w.heap.size+2) #[.int .i64 0,.int .i64 0,.string ⟨#[]⟩,.string ⟨#[]⟩,.int .i64 0,.slice none 0 0,.slice none 0 0,.slice none 0 0] 31 v6 v7 (jv x y (idxs (y.f4.take i)) 0 ([],[])) wx))
 case atStart=>exact⟨0,Y5,_,_,by omega,rfl,rfl,⟨fun _=>by cases Y5 <;> rfl⟩,HE⟩
 case round=>
  obtain⟨i,a,v6,v7,hig,rfl,rfl,HA,HS⟩:=hrel;clear HE q4 q5;by_cases hi:i<y.f4.length
  ·obtain⟨ad,hA,r0,r1⟩:=dQ (Kd.aC Zj.out HS.out.low) (i:Int) aj aj
   have hrd:aQ y.f4 (i:Int)=y.f4[i]:=by simp[aQ,hi]
   rw[hrd] at r0 r1;rw[Int.toNat_natCast] at r0 r1;subst hA
   go_wp2_with fail
   obtain⟨wo,rfl⟩:∃wo,wo=wr:=⟨_,rfl⟩
   obtain⟨go,rfl⟩:∃go,go=gk:=⟨_,rfl⟩
   obtain⟨q,hq⟩:∃q,y.f4[i]=q:=⟨_,rfl⟩
   have hqb:=FY.out.r _ (List.getElem_mem hi);have hidx:=C8 hi;rw[hq] at hqb hidx r0 r1 ⊢
   obtain⟨N,hN⟩:∃N,(idxs (y.f4.take i)).length=N:=⟨_,rfl⟩
   have hN1:(idxs (y.f4.take (i+1))).length=N+(q.f1 - q.f0).toNat:=by rw[hidx,List.length_append,hN];simp[jI]
   have hN2:(idxs (y.f4.take (i+1))).length≤(idxs y.f4).length:=by
    have h:=congrArg List.length (show idxs (y.f4.take (i+1))++idxs (y.f4.drop (i+1))=idxs y.f4 by unfold idxs;rw[← List.flatMap_append,List.take_append_drop]);rw[List.length_append] at h;omega
   rw[hN] at HA ⊢
   have su:ah (LW w (w.heap.size+3) p (idxs x.f4).length (CZ X5 (idxs x.f4)) y.f1 y.f3 v5 y.f4 wo.heap.size #[.int .i64 q.f0,.int .i64 q.f1] 117 v6 v7 (jv x y (idxs (y.f4.take i)++(jI q).take 0) 0 ([],[])) (wo.alloc (.cells #[.int .i64 q.f0,.int .i64 q.f1] 117))):=⟨by rw[List.take_zero,List.append_nil];exact HS.out.ajH _⟩
   have EB:=ah.mk hN1;have HIX:=ah.mk hidx;have HNN:=ah.mk hN
   have hmm:512*(N+(q.f1 - q.f0).toNat)≤y.f5.length:=by have:=HN.out;omega
   have hsm:N+(q.f1 - q.f0).toNat≤16523:=by have:=FY.out.i;omega
   clear hrd r0 r1 HS hq hidx hN1 hN2 hN
   go_loopg [7,10] (q.f1 - q.f0).toNat (fun g s7 s10 wx=>∃(j:Nat) (a2:Option Addr) (v6 v7:Value),j+g=(q.f1 - q.f0).toNat∧s10=.int .i64 (q.f0+j)∧s7=.slice a2 (y.f5.length - 512*(N+j)) (lJ - 512*(N+j))∧ah (512*(N+j)<lJ→a2=Y5.map (·.add (512*(N+j))))∧ah (LW w (w.heap.size+3) p (idxs x.f4).length (CZ X5 (idxs x.f4)) y.f1 y.f3 v5 y.f4 wo.heap.size #[.int .i64 q.f0,.int .i64 q.f1] 117 v6 v7 (jv x y (idxs (y.f4.take i)++(jI q).take j) 0 ([],[])) wx))
   case atStart=>exact⟨0,a,v6,v7,by omega,by simp,by simp,HA,su⟩
   case round=>
    obtain⟨j,a2,v6,v7,hjg,rfl,rfl,HA2,HS2⟩:=hrel;clear su HA;have z1:wr.cell? ⟨wo.heap.size,0,none⟩=some (.int .i64 q.f0):=ak HS2.out.Zt 0;have z2:wr.cell? ⟨wo.heap.size,1,none⟩=some (.int .i64 q.f1):=ak HS2.out.Zt 1;by_cases hj:j<(q.f1 - q.f0).toNat
    ·have d1:decide (q.f0+(j:Int)<q.f1)=true:=decide_eq_true aj
     have hcap:512*(N+j)+512≤y.f5.length:=by omega
     obtain⟨nA,Wi⟩:∃nA,y.f5.length - 512*(N+j)=nA:=⟨_,rfl⟩
     obtain⟨cA,hcA⟩:∃cA,lJ - 512*(N+j)=cA:=⟨_,rfl⟩
     have e1:(512:Int)≤(nA:Int):=by omega
     have e2:(512:Int)≤(cA:Int):=by omega
     rw[Wi,hcA];have HNA:=ah.mk Wi;have HCA:=ah.mk hcA;have hkey:keyOf Tryz.prog 3 (.int .i64 (q.f0+(j:Int)))=some (.int .i64 (q.f0+(j:Int))):=keyOf_int_mk Tryz.underlying3 (WalkArith.wf_i64 ⟨by omega,by omega⟩);have hlk:=HS2.out.map.look agS Tryz.underlying133 (acJ wr) hkey;rw[show CZ X5 (idxs x.f4) (.int .i64 (q.f0+(j:Int)))=(iQ (idxs x.f4) 0 (q.f0+(j:Int))).map (fun k=>.slice (X5.map (·.add (512*k))) 512 512) from rfl] at hlk;have hn5:=GY5.out
     have ajJ:Kd.C (Kd.int .u8) w a2 512 (iX y.f5 (N+j)):=by
      have h1:=Kd.adJ (lo:=512*(N+j)) (hi:=512*(N+j)+512) (c:=lJ) hn5 aj aj ly5;rw[if_neg aj,show (Kd.int .u8).sz=1 from rfl,Nat.mul_one] at h1
      have h2:(y.f5.take (512*(N+j)+512)).drop (512*(N+j))=iX y.f5 (N+j):=by
       unfold iX;rw[List.drop_take]
       congr 1
       omega
      rw[h2,gW aj,← HA2.out aj] at h1;exact h1
     have af7:=ah.mk ajJ;have hlen:=qh x y (idxs (y.f4.take i)++(jI q).take j) 0 ([],[])
     have hln:(idxs (y.f4.take i)++(jI q).take j).length=N+j:=by
      rw[List.length_append,HNN.out,List.length_take];unfold jI;rw[List.length_map,List.length_range];omega
     have hjl:(jI q).take (j+1)=(jI q).take j++[q.f0+(j:Int)]:=by
      rw[List.take_add_one]
      congr 1
      unfold jI;rw[List.getElem?_map,List.getElem?_range hj];rfl
     have hstep:=D8 x y (idxs (y.f4.take i)++(jI q).take j) (q.f0+(j:Int)) 0 ([],[]);rw[List.append_assoc,← hjl,hln,Nat.zero_add] at hstep;rw[hln] at hlen
     obtain⟨st,hst⟩:∃st,jv x y (idxs (y.f4.take i)++(jI q).take j) 0 ([],[])=st:=⟨_,rfl⟩
     rw[hst] at hstep hlen HS2
     have hl1:st.1.length≤N+j:=by have:=hlen.1;simpa using this
     have hl2:st.2.length≤512*(N+j):=by have:=hlen.2;simpa using this
     have YS:=ah.mk hstep;have hsl:=@FP Tryz.prog 27 5 .i64 i0 Tryz.underlying27 hi0 1 hz1 a2 nA cA 512 aH aj
     obtain⟨a3,Sl⟩:∃a3,(if cA=(512:Int).toNat then a2 else a2.map (·.add ((512:Int).toNat*1)))=a3:=⟨_,rfl⟩
     rw[Sl,show (512:Int).toNat=512 from rfl] at hsl
     have HA3:ah (512*(N+(j+1))<lJ→a3=Y5.map (·.add (512*(N+(j+1))))):=⟨fun h=>by
      have hcA:=HCA.out;rw[← Sl,if_neg (by show ¬cA=512;omega),HA2.out aj]
      cases Y5 with
      | none=>rfl
      | some x=>
       show some (Addr.add (Addr.add x _) _)=some (Addr.add x _)
       rw[add_add]
       congr 2⟩
     clear Wi hcA hkey ajJ hn5 Sl hlen hln hjl hstep hst;obtain⟨A7,c7,hv7⟩:=Kd.bP HS2.out.set;obtain⟨A6,c6,hv6⟩:=Kd.bP HS2.out.data;subst hv7;subst hv6;have u7:wr.cell? ⟨p,7,none⟩=some (.slice A7 st.1.length c7):=ak HS2.out.box 7
     have hwp:IntKind.i64.wrap (q.f0+(j:Int)+1)=q.f0+(j:Int)+1:=by rw[IntKind.wrap_i64];omega
     cases hla:iQ (idxs x.f4) 0 (q.f0+(j:Int)) with
     | none=>
      rw[hla] at hlk;simp only[Option.map_none,Option.getD_none,Option.isSome_none] at hlk;have YT:=ah.mk (show newAt x y (N+j) (q.f0+(j:Int))=true by unfold newAt;rw[hla]);clear hla
      go_wp2_with (first|(go_at_call 92;refine (PT.qg.calls (fun k=>(Value.slice A7 st.1.length c7).ownBlock=some k) _ st.1 (q.f0+(j:Int)) (qj st.1 (q.f0+(j:Int))) w _ HS2.out.low (nI HS2.out.set) (TJ st.1 _ aj aj aj)).mono ?_;rintro e w5 ⟨v8,rfl,Mk,Fe,EH⟩;have yU:=(EH.2 p (bG HS2.out.box) (fun hp=>Kd.uW HS2.out.set HS2.out.box aH hp.symm)).trans HS2.out.box;obtain⟨A8,c8,hv8⟩:=Kd.bP Mk;subst hv8;have Fj:=ah.mk (HS2.out.join Fe EH Mk);have u5:w5.cell? ⟨p,7,none⟩=some (.slice A7 st.1.length c7):=ak yU 7;have u6:w5.cell? ⟨p,6,none⟩=some (.slice A6 st.2.length c6):=ak yU 6;have f7:=ay yU 7;have l5:=bG yU;clear Mk Fe EH yU u7)|((with_reducible refine bQ (b:=.append) (xs:=#[.tmp 70,.tmp 71]) rfl ?_);at_builtin;refine Kd.CF (w0:=w) (.int .u8) 0 w.heap.size rfl (.tmp 70) (.tmp 71) 27 5 (.int .u8 0) 1 rfl Tryz.underlying27 info5 rfl aH (.slice A6 st.2.length c6) st.2 (iX y.f5 (N+j)) a2 512 cA (fun _=>True) rfl rfl (fun _ _=>trivial) Fj.out.data (Kd.aC af7.out Fj.out.low) Fj.out.low Fj.out.low.size aj ?_;intro v9 w9 Xq K7 U7 _h;have BI:=kM Fj.out.box U7 (Kd.uW Fj.out.data Fj.out.box aH);obtain⟨A9,c9,hv9⟩:=Kd.bP Xq;subst hv9;have HS4:=ah.mk (Fj.out.append K7 U7 Xq);have u9:w9.cell? ⟨p,6,none⟩=some (.slice A6 st.2.length c6):=ak BI 6;have f9:=ay BI 6;have l9:=bG BI;clear Xq K7 U7 BI u5 u6 f7 l5 _h))
      go_roundg ((q.f1 - q.f0).toNat - (j+1))
      case measure=>omega
      case rel=>
       have Wi:=HNA.out;have hcA:=HCA.out;have hstep:=YS.out;rw[if_pos YT.out] at hstep;have h4:=HS4.out;simp only[List.length_append] at h4;exact⟨j+1,a3,_,_,by omega,by push_cast;congr 1;omega,by rw[show y.f5.length - 512*(N+(j+1))=nA - 512 by omega,show lJ - 512*(N+(j+1))=cA - 512 by omega],HA3,⟨by rw[hstep];exact h4⟩⟩
     | some k=>
      rw[hla] at hlk;simp only[Option.map_some,Option.getD_some,Option.isSome_some] at hlk;have hkl:=DC hla;have HNW:=ah.mk (show newAt x y (N+j) (q.f0+(j:Int))=decide (iX x.f5 k≠iX y.f5 (N+j)) by unfold newAt;rw[hla])
      have hbl:512*(k+1)≤x.f5.length:=by have:=FX.out.n;omega
      have ajK:Kd.C (Kd.int .u8) w (X5.map (·.add (512*k))) 512 (iX x.f5 k):=GI GX5.out hbl;have heq:=PT.bytes_Equal.calls _ 512 (iX x.f5 k) a2 cA (iX y.f5 (N+j)) _ wr (by rw[gW hbl];exact Kd.aC ajK HS2.out.low) (by rw[gW hbl];exact Nat.le_refl _) (by rw[gW aj];exact Kd.aC af7.out HS2.out.low) (by rw[gW aj];omega) rfl;rw[gW hbl,gW aj,uM (a:=iX x.f5 k) (b:=iX y.f5 (N+j)) (fun n hn=>FX.out.b n (List.mem_of_mem_drop (List.mem_of_mem_take hn))) (fun n hn=>FY.out.b n (List.mem_of_mem_drop (List.mem_of_mem_take hn)))] at heq;have V7:=ah.mk heq;clear hla hkl hbl ajK heq;by_cases hsame:iX x.f5 k=iX y.f5 (N+j)
      ·have YT:ah (¬newAt x y (N+j) (q.f0+(j:Int))=true):=⟨by rw[HNW.out];simpa using hsame⟩
       have V7:=ah.mk (V7.out);rw[decide_eq_true hsame] at V7;clear hsame
       go_wp2_with (go_at_call 62;refine (V7.out).mono ?_;rintro e w4 ⟨rfl,⟨m,rfl⟩⟩)
       have OM:=ah.mk (HS2.out.below (av (Below.refl _ _) m))
       go_roundg ((q.f1 - q.f0).toNat - (j+1))
       case measure=>omega
       case rel=>
        have Wi:=HNA.out;have hcA:=HCA.out;have hstep:=YS.out;rw[if_neg YT.out] at hstep;have h4:=OM.out
        skip
        exact⟨j+1,a3,_,_,by omega,by push_cast;congr 1;omega,by rw[show y.f5.length - 512*(N+(j+1))=nA - 512 by omega,show lJ - 512*(N+(j+1))=cA - 512 by omega],HA3,⟨by rw[hstep];exact h4⟩⟩
      have YT:ah (newAt x y (N+j) (q.f0+(j:Int))=true):=⟨by rw[HNW.out];simpa using hsame⟩
      rw[decide_eq_false hsame] at V7;clear hsame
      go_wp2_with (first|(go_at_call 62;refine (V7.out).mono ?_;rintro e w4 ⟨rfl,⟨m,rfl⟩⟩;have OM:=ah.mk (HS2.out.below (av (Below.refl _ _) m));have u7:(wr.drewN m).cell? ⟨p,7,none⟩=some (.slice A7 st.1.length c7):=ak OM.out.box 7;clear V7)|(go_at_call 92;refine (PT.qg.calls (fun k=>(Value.slice A7 st.1.length c7).ownBlock=some k) _ st.1 (q.f0+(j:Int)) (qj st.1 (q.f0+(j:Int))) w _ OM.out.low (nI OM.out.set) (TJ st.1 _ aj aj aj)).mono ?_;rintro e w5 ⟨v8,rfl,Mk,Fe,EH⟩;have yU:=(EH.2 p (bG OM.out.box) (fun hp=>Kd.uW OM.out.set OM.out.box aH hp.symm)).trans OM.out.box;obtain⟨A8,c8,hv8⟩:=Kd.bP Mk;subst hv8;have Fj:=ah.mk (OM.out.join Fe EH Mk);have u5:w5.cell? ⟨p,7,none⟩=some (.slice A7 st.1.length c7):=ak yU 7;have u6:w5.cell? ⟨p,6,none⟩=some (.slice A6 st.2.length c6):=ak yU 6;have f7:=ay yU 7;have l5:=bG yU;clear Mk Fe EH yU u7)|((with_reducible refine bQ (b:=.append) (xs:=#[.tmp 70,.tmp 71]) rfl ?_);at_builtin;refine Kd.CF (w0:=w) (.int .u8) 0 w.heap.size rfl (.tmp 70) (.tmp 71) 27 5 (.int .u8 0) 1 rfl Tryz.underlying27 info5 rfl aH (.slice A6 st.2.length c6) st.2 (iX y.f5 (N+j)) a2 512 cA (fun _=>True) rfl rfl (fun _ _=>trivial) Fj.out.data (Kd.aC af7.out Fj.out.low) Fj.out.low Fj.out.low.size aj ?_;intro v9 w9 Xq K7 U7 _h;have BI:=kM Fj.out.box U7 (Kd.uW Fj.out.data Fj.out.box aH);obtain⟨A9,c9,hv9⟩:=Kd.bP Xq;subst hv9;have HS4:=ah.mk (Fj.out.append K7 U7 Xq);have u9:w9.cell? ⟨p,6,none⟩=some (.slice A6 st.2.length c6):=ak BI 6;have f9:=ay BI 6;have l9:=bG BI;clear Xq K7 U7 BI u5 u6 f7 l5 _h))
      go_roundg ((q.f1 - q.f0).toNat - (j+1))
      case measure=>omega
      case rel=>
       have Wi:=HNA.out;have hcA:=HCA.out;have hstep:=YS.out;rw[if_pos YT.out] at hstep;have h4:=HS4.out;simp only[List.length_append] at h4;exact⟨j+1,a3,_,_,by omega,by push_cast;congr 1;omega,by rw[show y.f5.length - 512*(N+(j+1))=nA - 512 by omega,show lJ - 512*(N+(j+1))=cA - 512 by omega],HA3,⟨by rw[hstep];exact h4⟩⟩
    have d1:decide (q.f0+(j:Int)<q.f1)=false:=decide_eq_false aj
    have hje:j=(q.f1 - q.f0).toNat:=by omega
    go_wp2_with fail
    go_roundg (go - 1)
    case measure=>omega
    case rel=>
     subst hje;refine⟨i+1,a2,v6,v7,by omega,by simp,?_,?_,?_⟩
     ·rw[EB.out]
     ·rw[EB.out];exact HA2
     rw[HIX.out];have:=HS2.out;rw[show (jI q).take (q.f1 - q.f0).toNat=jI q from List.take_of_length_le (by unfold jI;rw[List.length_map,List.length_range];omega)] at this;exact⟨this.back⟩
  obtain rfl:i=y.f4.length:=by omega
  have hs:=HS.out;rw[List.take_length] at hs;have su:=ah.mk hs;clear HS hs
  go_wp2_with (first
   | (refine eX (.load 31 (.tmp 6)) rfl ?_;refine wpList_load_row rfl _ _ rfl p rfl 31 _ (0,0) _ su.out.box Tryz.underlying31 rfl aD ?_)
   | (refine eX (.store 31 (.tmp 4) (.tmp 76)) rfl ?_;refine wpList_store_row rfl 31 (.tmp 4) (.tmp 76) rfl (w.heap.size+2) #[.int .i64 3,.int .i64 1,.string y.f1,.string ⟨#[]⟩,.int .i64 y.f3,v5,v6,v7] rfl rfl 31 _ su.out.res aD (by rfl) ?one ?_;(case one=>obtain⟨b5,d5,e5⟩:=Kd.bP su.out.runs;obtain⟨b6,d6,e6⟩:=Kd.bP su.out.data;obtain⟨b7,d7,e7⟩:=Kd.bP su.out.set;rw[e5,e6,e7];simp[Value.oneCell'])))
  refine bodyPost_ret (results_cell_row rfl _ _ (w.heap.size+2) 31 #[.int .i64 3,.int .i64 1,.string y.f1,.string ⟨#[]⟩,.int .i64 y.f3,v5,v6,v7] (0,0) _ rfl (setRow_heap _ _ _ _ _ _ su.out.res) Tryz.underlying31 rfl aD) rfl ⟨v5,v6,v7,rfl,?_,?_,?_,below_setRow su.out.low aj _⟩
  ·exact rC (Kd.nZ (nI su.out.runs) (fun k ho _=>setRow_other _ _ _ _ (fun e=>Kd.uW su.out.runs su.out.res aH (by rw[← e];exact ho.symm))))
  ·exact vD (Kd.nZ (yB su.out.data) (fun k ho _=>setRow_other _ _ _ _ (fun e=>Kd.uW su.out.data su.out.res aH (by rw[← e];exact ho.symm))))
  exact rC (Kd.nZ (nI su.out.set) (fun k ho _=>setRow_other _ _ _ _ (fun e=>Kd.uW su.out.set su.out.res aH (by rw[← e];exact ho.symm))))
end Go.Proofs.YtknihldkhedpkaaGreatDoor
end
section
namespace Go.Proofs.YtknihldkhedpkaaGreatDoor
open Go.RowKit
open Go.Proofs.YtknihldkhedpkaaGreatDoorW.PrintWords Go.Proofs.YtknihldkhedpkaaGreatDoorW.PrintLast Go.Proofs.YtknihldkhedpkaaGreatDoor.PT
def adK (rows:List Rn) (data:List Int) (i:Int):Option (List Int):=(iQ (idxs rows) 0 i).map (iX data)
def Io (old:VU) (c:Ch):List Int→Option (List Int)
 | []=>some []
 | i::l=>match adK c.f2 c.f1.f5 i with
  | some b=>(Io old c l).map (b ++ ·)
  | none=>match adK old.f4 old.f5 i with
   | some b=>(Io old c l).map (b ++ ·)
   | none=>none
def Zr (old:VU) (c:Ch):Option VU:=if old.f0≠1 then none else (Io old c (idxs c.f1.f4)).map fun d=>⟨1,c.f1.f1,⟨#[]⟩,c.f1.f3,c.f1.f4,d⟩
theorem NA (a b:List Rn):idxs (a++b)=idxs a++idxs b:=by unfold idxs;rw[List.flatMap_append]
theorem Ej:∀{l:List Int} {n:Nat} {i:Int},i∉l→iQ l n i=none
 | [],_,_,_=>rfl
 | x::l,n,i,h=>by
  rw[iQ,Ej (fun hm=>h (by simp[hm]))];dsimp only;rw[if_neg (fun e=>h (by simp[e]))]
theorem P9 (a b:List Int) (n:Nat) (i:Int):iQ (a++b) n i=match iQ b (n+a.length) i with
  | some k=>some k
  | none=>iQ a n i:=by
 induction a generalizing n with
 | nil=>
  rw[List.nil_append,List.length_nil,Nat.add_zero]
  cases iQ b n i <;> rfl
 | cons x a ih=>
  rw[List.cons_append,iQ,ih,List.length_cons,show n+1+a.length=n+(a.length+1) by omega]
  cases iQ b (n+(a.length+1)) i with
  | some k=>rfl
  | none=>rfl
end Go.Proofs.YtknihldkhedpkaaGreatDoor
end
section
namespace Go.Proofs.YtknihldkhedpkaaGreatDoor
open Go.RowKit Go.Lib
open Go.Proofs.YtknihldkhedpkaaGreatDoorW.PrintWords Go.Proofs.YtknihldkhedpkaaGreatDoorW.PrintLast Go.Proofs.YtknihldkhedpkaaGreatDoor.PT
def gu (x:It):ByteArray:=bY 47 0 x.f1
def jM (L:Nat→List It) (p:Nat→Nat):Nat→Option ByteArray
 | 0=>none
 | i+1=>match (L i)[p i]? with
  | none=>jM L p i
  | some x=>match jM L p i with
   | none=>some (gu x)
   | some k=>if Op.bytesLess (gu x).toList k.toList=true then some (gu x) else some k
def fO (L:Nat→List It) (p:Nat→Nat) (k:ByteArray) (j:Nat):Option It :=
 match (L j)[p j]? with
 | none=>none
 | some x=>if (gu x).toList == k.toList then some x else none
def gT (L:Nat→List It) (p:Nat→Nat) (k:ByteArray) (j:Nat):Nat:=if (fO L p k j).isSome=true then p j+1 else p j
abbrev Rd:=ByteArray × Option It × Option It × Option It
def eO (L:Nat→List It):Nat→(Nat→Nat)→List Rd
 | 0,_=>[]
 | n+1,p=>match jM L p 3 with
  | none=>[]
  | some k=>(k,fO L p k 0,fO L p k 1,fO L p k 2)::eO L n (gT L p k)
theorem pX {L:Nat→List It} {p:Nat→Nat}:∀{i:Nat} {k:ByteArray},jM L p i=some k→∃j x,j<i∧(L j)[p j]?=some x∧gu x=k
 | 0,k,h=>by cases h
 | i+1,k,h=>by
  rw[jM] at h
  cases hx:(L i)[p i]? with
  | none=>
   rw[hx] at h;obtain⟨j,x,hj,h1,h2⟩:=pX h;exact⟨j,x,by omega,h1,h2⟩
  | some x=>
   rw[hx] at h
   cases hk:jM L p i with
   | none=>
    rw[hk] at h;exact⟨i,x,by omega,hx,Option.some.inj h⟩
   | some k0=>
    rw[hk] at h;dsimp only at h;split at h
    ·exact⟨i,x,by omega,hx,Option.some.inj h⟩
    obtain⟨j,y,hj,h1,h2⟩:=pX hk;exact⟨j,y,by omega,h1,h2.trans (Option.some.inj h)⟩
def jL (L:Nat→List It) (p:Nat→Nat):Nat:=((L 0).length - p 0)+((L 1).length - p 1)+((L 2).length - p 2)
theorem rO {L:Nat→List It} {p:Nat→Nat} {k:ByteArray} (h:jM L p 3=some k):jL L (gT L p k)<jL L p:=by
 obtain⟨j,x,hj,h1,h2⟩:=pX h
 have hm:∀i,p i≤gT L p k i:=fun i=>by unfold gT;split <;> omega
 have hlt:p j<(L j).length:=by
  rcases Nat.lt_or_ge (p j) (L j).length with h|h
  ·exact h
  rw[List.getElem?_eq_none h] at h1;cases h1
 have hn:gT L p k j=p j+1:=by
  unfold gT fO;rw[h1];dsimp only;subst h2;simp
 have h0:=hm 0;have h1':=hm 1;have h2':=hm 2;unfold jL
 rcases (show j=0∨j=1∨j=2 by omega) with rfl|rfl|rfl <;> omega
structure oJ where
 key:ByteArray
 g:Nat
 a:Option It
 b:Option It
 c:Option It
def oJ.rd (x:oJ):Rd:=(x.key,x.a,x.b,x.c)
def encR (x:oJ):Array Value:=#[.string x.key,.slice (some ⟨x.g,0,none⟩) 3 3]
def Sn (rs:List Rd) (w0:World) (pre:List oJ) (x:oJ) (W:World):Prop :=
 (∃rest,rs=pre.map oJ.rd++x.rd::rest)∧∃p0 p1 p2,W.heap[x.g]?=some (.cells #[p0,p1,p2] 95 (0,0))∧OI w0 p0 x.a∧OI w0 p1 x.b∧OI w0 p2 x.c
structure ze (B:Nat) (A C:World):Prop where
 os:C.os=A.os
 tape:C.tape=A.tape
 output:C.output=A.output
 size:A.heap.size≤C.heap.size
 blocks:∀k,k<A.heap.size→C.heap[k]?=A.heap[k]?∨(B≤k∧∃cs cs' t,(t=3∨t=95)∧A.heap[k]?=some (.cells cs t (0,0))∧C.heap[k]?=some (.cells cs' t (0,0)))
theorem ze.below {B:Nat} {A C:World} (h:Below A.heap.size A C):ze B A C:=⟨h.os,h.tape,h.output,h.size,fun k hk=>.inl (h.block k hk)⟩
theorem ze.refl (B:Nat) (A:World):ze B A A:=ze.below (Below.refl _ _)
theorem ze.trans {B:Nat} {X Y Z:World} (h:ze B X Y) (k:ze B Y Z):ze B X Z:=⟨k.os.trans h.os,k.tape.trans h.tape,k.output.trans h.output,Nat.le_trans h.size k.size,fun i hi=>by
 rcases h.blocks i hi with e|⟨hB,cs,cs',t,ht,e,e'⟩
 ·rcases k.blocks i (Nat.lt_of_lt_of_le hi h.size) with f|⟨hB,cs,cs',t,ht,f,f'⟩
  ·exact .inl (f.trans e)
  exact .inr ⟨hB,cs,cs',t,ht,e▸f,f'⟩
 rcases k.blocks i (Nat.lt_of_lt_of_le hi h.size) with f|⟨_,ds,ds',t',ht',f,f'⟩
 ·exact .inr ⟨hB,cs,cs',t,ht,e,f.trans e'⟩
 rw[e'] at f
 injection f with f
 injection f with f1 f2
 subst f2
 exact .inr ⟨hB,cs,ds',t,ht,e,f'⟩⟩
theorem ze.set {B:Nat} {A:World} {g t:Nat} {cs:Array Value} (h:A.heap[g]?=some (.cells cs t (0,0))) (ht:t=3∨t=95) (hB:B≤g) (j:Nat) (u:Value):ze B A (A.setCell ⟨g,j,none⟩ u):=by
 have hb:=(Below.refl 0 A).setCell (p:=⟨g,j,none⟩) (Nat.zero_le _) u;refine⟨hb.os,hb.tape,hb.output,hb.size,fun k hk=>?_⟩;by_cases e:k=g
 ·subst e;exact .inr ⟨hB,cs,_,t,ht,h,gB h j u⟩
 exact .inl (Below.heap_setCell A ⟨g,j,none⟩ u k e)
theorem ze.low {B n:Nat} {A C w0:World} (h:ze B A C) (hn:n≤B) (hb:Below n w0 A) (hw:n≤w0.heap.size):Below n w0 C :=
 ⟨h.os.trans hb.os,h.tape.trans hb.tape,h.output.trans hb.output,Nat.le_trans hb.size h.size,fun k hk=>by
  rcases h.blocks k (by have:=hb.size;omega) with e|⟨hB,_⟩
  ·exact e.trans (hb.block k hk)
  omega⟩
theorem ze.keep {B:Nat} {A C:World} (h:ze B A C) {g t:Nat} {cs:Array Value} (hg:A.heap[g]?=some (.cells cs t (0,0))) (hB:g<B):C.heap[g]?=some (.cells cs t (0,0)):=by
 rcases h.blocks g (bG hg) with e|⟨hB',_⟩
 ·exact e.trans hg
 omega
structure KpR (n0:Nat) (S:Nat→Prop) (A C:World):Prop where
 low:Below n0 A C
 same:∀k,S k→C.heap[k]?=A.heap[k]?
 nums:∀(k:Nat) (cs:Array Value),A.heap[k]?=some (Obj.cells cs 3 (0,0))→C.heap[k]?=some (Obj.cells cs 3 (0,0))
structure Am (L:Nat→List It) (A:Nat→Option Addr) (c:Nat→Nat) (w0:World) (b1 b2 br:Nat) (wx:World):Prop where
 low:Below w0.heap.size w0 wx
 x1:wx.heap[b1]?=some (.cells #[.func (.func 51) #[] #[]] 93 (0,0))
 x2:wx.heap[b2]?=some (.cells #[.slice (some ⟨br,0,none⟩) 3 3] 75 (0,0))
 xr:wx.heap[br]?=some (.cells #[.slice (A 0) (L 0).length (c 0),.slice (A 1) (L 1).length (c 1),.slice (A 2) (L 2).length (c 2)] 25 (0,0))
section
variable {L : Nat → List It} {A : Nat → Option Addr} {c : Nat → Nat} {w0 : World} {b1 b2 br : Nat} {wx wy : World}
theorem Am.below (h:Am L A c w0 b1 b2 br wx) (hb:Below wx.heap.size wx wy):Am L A c w0 b1 b2 br wy :=
 ⟨h.low.trans (hb.mono h.low.size),aJ h.x1 hb,aJ h.x2 hb,aJ h.xr hb⟩
theorem Am.st (h:Am L A c w0 b1 b2 br wx) {B:Nat} (hs:ze B wx wy) (h0:w0.heap.size≤B) (h1:b1<B) (h2:b2<B) (h3:br<B):Am L A c w0 b1 b2 br wy :=
 ⟨hs.low h0 h.low (Nat.le_refl _),hs.keep h.x1 h1,hs.keep h.x2 h2,hs.keep h.xr h3⟩
end
end Go.Proofs.YtknihldkhedpkaaGreatDoor
end
