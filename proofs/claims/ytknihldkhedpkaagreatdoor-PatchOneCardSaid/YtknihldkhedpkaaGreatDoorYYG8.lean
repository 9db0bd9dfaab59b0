import Derived.Test.YtknihldkhedpkaaGreatDoorYYG2
import Derived.Test.YtknihldkhedpkaaGreatDoorYYG7
import Derived.Test.YtknihldkhedpkaaGreatDoorYYG6
import Derived.Laws.CopyOwn
import Derived.Laws.Tables
set_option linter.all false
set_option maxHeartbeats 16000000
set_option maxRecDepth 100000
section
namespace Go.Proofs.YtknihldkhedpkaaGreatDoor
open Go.RowKit Go.Maps Go.WideAt
open Go.Proofs.YtknihldkhedpkaaGreatDoorW.PrintWords Go.Proofs.YtknihldkhedpkaaGreatDoorW.PrintLast Go.Proofs.YtknihldkhedpkaaGreatDoor.PT
structure Fits (x:DF):Prop where
 b:∀n∈x.f5,0≤n∧n≤255
 n:x.f5.length=512*(idxs x.f4).length
 r:∀r∈x.f4,0≤r.f0∧r.f0≤r.f1∧r.f1≤16522
 l:x.f4.length≤16523
 i:(idxs x.f4).length≤16523
theorem um {a b:List Int} (ha:∀x∈a,0≤x∧x≤255) (hb:∀x∈b,0≤x∧x≤255):((strOfNums a).toList == (strOfNums b).toList)=decide (a=b):=by
 have hl:∀(a b:List Int),(∀x∈a,0≤x∧x≤255)→(∀x∈b,0≤x∧x≤255)→a.map (fun n=>UInt8.ofNat n.toNat)=b.map (fun n=>UInt8.ofNat n.toNat)→a=b:=by
  intro a
  induction a with
  | nil=>
   intro b _ _ h
   cases b with
   | nil=>rfl
   | cons=>cases h
  | cons x a ih=>
   intro b ha hb h
   cases b with
   | nil=>cases h
   | cons z b=>
    rw[List.map_cons,List.map_cons] at h
    injection h with h1 h2
    have h3:=congrArg UInt8.toNat h1;have hx:=ha x (by simp);have hz:=hb z (by simp);rw[UInt8.toNat_ofNat',UInt8.toNat_ofNat',Nat.mod_eq_of_lt (by omega),Nat.mod_eq_of_lt (by omega)] at h3;rw[show x=z by omega,ih b (fun w hw=>ha w (by simp[hw])) (fun w hw=>hb w (by simp[hw])) h2]
 by_cases e:a=b
 ·subst e;simp
 ·rw[decide_eq_false e];refine beq_eq_false_iff_ne.2 (fun h=>e (hl a b ha hb ?_));rw[ByteArray.toList_eq,ByteArray.toList_eq] at h;exact h
theorem tZ:∀{l:List Int} {n:Nat} {i:Int} {k:Nat},iZ l n i=some k→k<n+l.length
 | [],_,_,_,h=>by cases h
 | x::l,n,i,k,h=>by
  unfold iZ at h
  cases hc:iZ l (n+1) i with
  | some j=>
   rw[hc] at h;obtain rfl:=Option.some.inj h;have:=tZ hc;simp only[List.length_cons];omega
  | none=>
   rw[hc] at h;dsimp only at h;split at h
   ·obtain rfl:=Option.some.inj h;simp only[List.length_cons];omega
   ·cases h
theorem El {w:World} {A:Option Addr} {d:List Int} {k:Nat} (h:Kd.C (Kd.int .u8) w A d.length d) (hk:512*(k+1)≤d.length):Kd.C (Kd.int .u8) w (A.map (·.add (512*k))) 512 (dI d k):=by
 have h1:=Kd.aaW (lo:=512*k) (hi:=512*k+512) (c:=d.length) h (by omega) (by omega) (Nat.le_refl _);rw[if_neg (by omega),show (Kd.int .u8).sz=1 from rfl,Nat.mul_one] at h1
 have h2:(d.take (512*k+512)).drop (512*k)=dI d k:=by
  unfold dI;rw[List.drop_take]
  congr 1
  omega
 rw[h2,fK hk] at h1;exact h1
theorem BL {w:World} {base:Nat} {ok:Nat→Prop} {v:Value} {xs:List Int} (h:Kd.R (Kd.int .u8) 5 w base ok v xs):Kd.R (Kd.int .u8) 5 w base (fun k=>v.ownBlock=some k) v xs:=by
 obtain⟨h0,inner,ho,hr⟩:=h;exact⟨fun k hk=>hk,inner,ho,hr.qH (fun p c hp=>hp)⟩
theorem mV {w:World} {base:Nat} {ok:Nat→Prop} {v:Value} {xs:List Rn} (h:Kd.R cO 117 w base ok v xs):Kd.R cO 117 w base (fun k=>v.ownBlock=some k) v xs:=by
 obtain⟨h0,inner,ho,hr⟩:=h;exact⟨fun k hk=>hk,inner,ho,hr.qH (fun p c hp=>hp)⟩
theorem yU {w:World} {base:Nat} {ok:Nat→Prop} {v:Value} {xs:List Int} (h:Kd.R (Kd.int .u8) 5 w base ok v xs):Kd.R (Kd.int .u8) 5 w base (fun _=>True) v xs:=Kd.dJ h (fun _ _=>trivial)
theorem rA {w:World} {base:Nat} {ok:Nat→Prop} {v:Value} {xs:List Rn} (h:Kd.R cO 117 w base ok v xs):Kd.R cO 117 w base (fun _=>True) v xs:=Kd.dJ h (fun _ _=>trivial)
theorem j6.others {P:Program} {k:TypeId} {w w1:World} {b n:Nat} {F:Lit→Option Value} (h:j6 P k w b n F) (hs:∀(o:Obj),w.heap[b]?=some o→o.isCells=false→w1.heap[b]?=some o):j6 P k w1 b n F:=by
 obtain⟨D,⟨es,clock,h1,h2,h3,h4⟩,hat⟩:=h;exact j6.same ⟨D,⟨es,clock,h1,h2,h3,h4⟩,hat⟩ ((hs _ h1 rfl).trans h1.symm)
structure KZ (w:World) (mb p n:Nat) (F:Lit→Option Value) (path:ByteArray) (sz:Int) (v5:Value) (vO:List Rn) (rb:Nat) (rcs:Array Value) (rt:TypeId) (v6 v7:Value) (st:List Rn × List Int) (wx:World):Prop where
 low:Below w.heap.size w wx
 map:j6 Tryz.prog 3 wx mb n F
 box:wx.heap[p]?=some (.cells #[.int .i64 3,.int .i64 1,.string path,.string ⟨#[]⟩,.int .i64 sz,v5,v6,v7] 31 (0,0))
 res:wx.heap[w.heap.size+2]?=some (.cells #[.int .i64 0,.int .i64 0,.string ⟨#[]⟩,.string ⟨#[]⟩,.int .i64 0,.slice none 0 0,.slice none 0 0,.slice none 0 0] 31 (0,0))
 TN:wx.heap[rb]?=some (.cells rcs rt (0,0))
 runs:Kd.R cO 117 wx w.heap.size (fun _=>True) v5 vO
 data:Kd.R (Kd.int .u8) 5 wx w.heap.size (fun _=>True) v6 st.2
 set:Kd.R cO 117 wx w.heap.size (fun k=>some k≠v5.ownBlock∧k≠rb) v7 st.1
 hp:w.heap.size+2<p
 hr:rb≠p∧rt≠5
section
variable {w : World} {mb p n : Nat} {F : Lit → Option Value} {path : ByteArray} {sz : Int} {v5 : Value} {vO : List Rn} {rb : Nat} {rcs : Array Value} {rt : TypeId} {v6 v7 : Value} {st : List Rn × List Int} {wx : World}
theorem KZ.below {w1:World} (h:KZ w mb p n F path sz v5 vO rb rcs rt v6 v7 st wx) (hb:Below wx.heap.size wx w1):KZ w mb p n F path sz v5 vO rb rcs rt v6 v7 st w1 :=
 ⟨h.low.trans (hb.mono h.low.size),h.map.below hb,aD h.box hb,aD h.res hb,aD h.TN hb,Kd.dh h.runs hb,Kd.dh h.data hb,Kd.dh h.set hb,h.hp,h.hr⟩
theorem KZ.Ul (h:KZ w mb p n F path sz v5 vO rb rcs rt v6 v7 st wx) (cs:Array Value):KZ w mb p n F path sz v5 vO wx.heap.size cs 117 v6 v7 st (wx.alloc (.cells cs 117)):=by
 have hb:=(Below.refl wx.heap.size wx).alloc (Nat.le_refl _) (.cells cs 117);have h1:=h.below hb;have hlt:=bD h.box;exact⟨h1.low,h1.map,h1.box,h1.res,bK _ _,h1.runs,h1.data,Kd.dJ (Kd.dh (mV h.set) hb) (fun k hk=>⟨(h.set.1 k hk).1,by have:=Kd.Ih h.set k hk;omega⟩),h1.hp,by omega,by decide⟩
theorem KZ.back (h:KZ w mb p n F path sz v5 vO rb rcs rt v6 v7 st wx):KZ w mb p n F path sz v5 vO (w.heap.size+2) #[.int .i64 0,.int .i64 0,.string ⟨#[]⟩,.string ⟨#[]⟩,.int .i64 0,.slice none 0 0,.slice none 0 0,.slice none 0 0] 31 v6 v7 st wx :=
 ⟨h.low,h.map,h.box,h.res,h.res,h.runs,h.data,Kd.dJ (mV h.set) (fun k hk=>⟨(h.set.1 k hk).1,fun e=>Kd.pV h.set h.res (by decide) (by rw[← e];exact hk.symm)⟩),h.hp,by have:=h.hp;omega,by decide⟩
theorem KZ.join {w1:World} {v8:Value} {l:List Rn} (h:KZ w mb p n F path sz v5 vO rb rcs rt v6 v7 st wx) (hb:Below w.heap.size w w1) (hk:Kept wx w1 (fun k=>v7.ownBlock=some k)) (hr:Kd.R cO 117 w1 w.heap.size (fun k=>v7.ownBlock=some k∨wx.heap.size≤k) v8 l) :
  KZ w mb p n F path sz v5 vO rb rcs rt v6 v8 (l,st.2) (w1.setCell ⟨p,7,none⟩ v8):=by
 have hoth:∀k (o:Obj),wx.heap[k]?=some o→(∀cs,o≠.cells cs 117 (0,0))→w1.heap[k]?=some o:=fun k o ho hne=>
  (hk.2 k (bD ho) (fun hp=>by
   obtain⟨cs,hc⟩:=Kd.zK h.set k hp;rw[ho] at hc
   exact hne cs (Option.some.inj hc))).trans ho
 have dV:=hoth p _ h.box (fun cs e=>by injection e with _ e;exact absurd e (by decide));have hres:=hoth _ _ h.res (fun cs e=>by injection e with _ e;exact absurd e (by decide));have hrb:w1.heap[rb]?=_:=(hk.2 rb (bD h.TN) (fun hp=>(h.set.1 rb hp).2 rfl)).trans h.TN;have hp:=h.hp;refine⟨hb.setCell (by show w.heap.size≤p;omega) _,?_,?_,?_,?_,?_,?_,?_,h.hp,h.hr⟩
 ·refine h.map.others (fun o ho hc=>?_);have h5:=hoth mb _ ho (fun cs e=>by rw[e] at hc;cases hc)
  have hne:mb≠p:=fun e=>by
   rw[e,dV] at h5;obtain rfl:=Option.some.inj h5;cases hc
  exact (Below.heap_setCell w1 ⟨p,7,none⟩ v8 mb hne).trans h5
 ·exact gM dV 7 v8 (by rfl)
 ·exact gX hres (by show w.heap.size+2≠p;omega) _
 ·exact gX hrb h.hr.1 _
 ·exact rA (Kd.iq (Kd.nG (mV h.runs) (fun k ho hlt=>hk.2 k hlt (fun hp=>(h.set.1 k hp).1 ho.symm))) dV (by intro q hq;simp[cO,Kd.Lg,Kd.pair,Kd.int,Kd.scalar] at hq;subst hq;decide) 7 v8)
 ·refine yU (Kd.iq (Kd.nG (BL h.data) (fun k ho hlt=>?_)) dV (by intro q hq;simp[Kd.int,Kd.scalar] at hq;subst hq;decide) 7 v8);obtain⟨cs,hc⟩:=Kd.zK h.data k ho;exact (hoth k _ hc (fun cs e=>by injection e with _ e;exact absurd e (by decide))).trans hc.symm
 ·refine Kd.iq (Kd.dJ hr (fun k hk2=>?_)) dV (by intro q hq;simp[cO,Kd.Lg,Kd.pair,Kd.int,Kd.scalar] at hq;subst hq;decide) 7 v8
  rcases hk2 with h1|h1
  ·exact h.set.1 k h1
  ·have h2:=bD h.TN;refine⟨fun e=>?_,by omega⟩;have:=Kd.Ih h.runs k e.symm;omega
theorem KZ.append {w1:World} {v8:Value} {l:List Int} (h:KZ w mb p n F path sz v5 vO rb rcs rt v6 v7 st wx) (hb:Below w.heap.size w w1) (hg:wx.grownBy w1 v6.ownBlock) (hr:Kd.R (Kd.int .u8) 5 w1 w.heap.size (fun _=>True) v8 l) :
  KZ w mb p n F path sz v5 vO rb rcs rt v8 v7 (st.1,l) (w1.setCell ⟨p,6,none⟩ v8):=by
 have hoth:∀k (o:Obj),wx.heap[k]?=some o→(∀cs,o≠.cells cs 5 (0,0))→w1.heap[k]?=some o:=fun k o ho hne=>
  (hg.block k (bD ho) (fun e=>by
   obtain⟨cs,hc⟩:=Kd.zK h.data k e.symm;rw[ho] at hc
   exact hne cs (Option.some.inj hc))).trans ho
 have dV:=hoth p _ h.box (fun cs e=>by injection e with _ e;exact absurd e (by decide));have hres:=hoth _ _ h.res (fun cs e=>by injection e with _ e;exact absurd e (by decide));have hrb:=hoth _ _ h.TN (fun cs e=>by injection e with _ e;exact absurd e h.hr.2);have hp:=h.hp;refine⟨hb.setCell (by show w.heap.size≤p;omega) _,?_,?_,?_,?_,?_,?_,?_,h.hp,h.hr⟩
 ·refine h.map.others (fun o ho hc=>?_);have h5:=hoth mb _ ho (fun cs e=>by rw[e] at hc;cases hc)
  have hne:mb≠p:=fun e=>by
   rw[e,dV] at h5;obtain rfl:=Option.some.inj h5;cases hc
  exact (Below.heap_setCell w1 ⟨p,6,none⟩ v8 mb hne).trans h5
 ·exact gM dV 6 v8 (by rfl)
 ·exact gX hres (by show w.heap.size+2≠p;omega) _
 ·exact gX hrb h.hr.1 _
 ·exact Kd.iq (Kd.NZ h.runs h.data (by intro q hq;simp[cO,Kd.Lg,Kd.pair,Kd.int,Kd.scalar] at hq;subst hq;decide) hg) dV (by intro q hq;simp[cO,Kd.Lg,Kd.pair,Kd.int,Kd.scalar] at hq;subst hq;decide) 6 v8
 ·exact Kd.iq hr dV (by intro q hq;simp[Kd.int,Kd.scalar] at hq;subst hq;decide) 6 v8
 ·exact Kd.iq (Kd.NZ h.set h.data (by intro q hq;simp[cO,Kd.Lg,Kd.pair,Kd.int,Kd.scalar] at hq;subst hq;decide) hg) dV (by intro q hq;simp[cO,Kd.Lg,Kd.pair,Kd.int,Kd.scalar] at hq;subst hq;decide) 6 v8
end
theorem Vr (x y:DF) (X4:Option Addr) (Cw:Nat) (X5:Option Addr) (Cx:Nat) (Y4:Option Addr) (pO:Nat) (Y5:Option Addr) (oZ:Nat) (w:World)
  (fx:Fits x) (fy:Fits y)
  (lx4:x.f4.length≤Cw) (gx4:Kd.C cO w X4 x.f4.length x.f4) (lx5:x.f5.length≤Cx) (gx5:Kd.C (Kd.int .u8) w X5 x.f5.length x.f5)
  (ly4:y.f4.length≤pO) (gy4:Kd.C cO w Y4 y.f4.length y.f4) (ly5:y.f5.length≤oZ) (gy5:Kd.C (Kd.int .u8) w Y5 y.f5.length y.f5) :
  Calls Tryz.prog 53 #[.agg #[.int .i64 x.f0,.string x.f1,.string x.f2,.int .i64 x.f3,.slice X4 x.f4.length Cw,.slice X5 x.f5.length Cx],.agg #[.int .i64 y.f0,.string y.f1,.string y.f2,.int .i64 y.f3,.slice Y4 y.f4.length pO,.slice Y5 y.f5.length oZ]] w fun e w'=>
   ∃v5 v6 v7,e=.returned (.agg #[.int .i64 3,.int .i64 1,.string y.f1,.string ⟨#[]⟩,.int .i64 y.f3,v5,v6,v7]) ∧
    Kd.R cO 117 w' w.heap.size (fun _=>True) v5 y.f4∧Kd.R (Kd.int .u8) 5 w' w.heap.size (fun _=>True) v6 (qx x y).f1.f5∧Kd.R cO 117 w' w.heap.size (fun _=>True) v7 (qx x y).f2∧Below w.heap.size w w':=by
 have FX:=ah.mk fx;have FY:=ah.mk fy;have GX4:=ah.mk gx4;have GX5:=ah.mk gx5;have GY4:=ah.mk gy4;have GY5:=ah.mk gy5;clear fx fy gx4 gx5 gy4 gy5
 go_enter Tryz.func53,Tryz.ntmps53
 go_wp2_with fail
 obtain⟨W3,hW3⟩:∃W3,W3=((w.alloc (.cells #[.int .i64 x.f0,.string x.f1,.string x.f2,.int .i64 x.f3,.slice X4 x.f4.length Cw,.slice X5 x.f5.length Cx] 29)).alloc (.cells #[.int .i64 y.f0,.string y.f1,.string y.f2,.int .i64 y.f3,.slice Y4 y.f4.length pO,.slice Y5 y.f5.length oZ] 29)).alloc (.cells #[.int .i64 0,.int .i64 0,.string ⟨#[]⟩,.string ⟨#[]⟩,.int .i64 0,.slice none 0 0,.slice none 0 0,.slice none 0 0] 31):=⟨_,rfl⟩
 rw[← hW3]
 have hb3:Below w.heap.size w W3:=by rw[hW3];exact (((Below.refl _ _).alloc (Nat.le_refl _) _).alloc (by simp) _).alloc (by simp;omega) _
 have hs3:W3.heap.size=w.heap.size+3:=by rw[hW3];simp
 have hk0:=aJ (aJ (bK w (.cells #[.int .i64 x.f0,.string x.f1,.string x.f2,.int .i64 x.f3,.slice X4 x.f4.length Cw,.slice X5 x.f5.length Cx] 29)) (.cells #[.int .i64 y.f0,.string y.f1,.string y.f2,.int .i64 y.f3,.slice Y4 y.f4.length pO,.slice Y5 y.f5.length oZ] 29)) (.cells #[.int .i64 0,.int .i64 0,.string ⟨#[]⟩,.string ⟨#[]⟩,.int .i64 0,.slice none 0 0,.slice none 0 0,.slice none 0 0] 31);rw[← hW3] at hk0;have HB3:=ah.mk hb3;have HW3:=ah.mk hW3;have Ld:=ah.mk hk0;have hsp:=yQ X4 Cw x.f4 X5 x.f5.length Cx W3 (Kd.aC GX4.out hb3) lx4 (by have:=FX.out.l;omega) FX.out.n lx5 (fun r hr=>⟨(FX.out.r r hr).1,(FX.out.r r hr).2.1,by have:=(FX.out.r r hr).2.2;omega⟩) (by have:=FX.out.i;omega);rw[hs3] at hsp;have HSP:=ah.mk hsp;clear hb3 hW3 hk0 hsp
 go_wp2_with (go_at_call 90;refine (HSP.out).mono ?_;rintro e w4 ⟨rfl,hv4,hb4⟩)
 have hk1:W3.heap[w.heap.size+1]?=some (.cells #[.int .i64 y.f0,.string y.f1,.string y.f2,.int .i64 y.f3,.slice Y4 y.f4.length pO,.slice Y5 y.f5.length oZ] 29 (0,0)):=by
  rw[HW3.out];have hz:=bK (w.alloc (.cells #[.int .i64 x.f0,.string x.f1,.string x.f2,.int .i64 x.f3,.slice X4 x.f4.length Cw,.slice X5 x.f5.length Cx] 29)) (.cells #[.int .i64 y.f0,.string y.f1,.string y.f2,.int .i64 y.f3,.slice Y4 y.f4.length pO,.slice Y5 y.f5.length oZ] 29);rw[World.size_alloc] at hz;exact aJ hz _
 have ac0:Below W3.heap.size W3 w4:=by rw[hs3];exact hb4
 have VX:=aD hk1 ac0;have y1:w4.cell? ⟨w.heap.size+1,1,none⟩=some (.string y.f1):=ak VX 1;have y3:w4.cell? ⟨w.heap.size+1,3,none⟩=some (.int .i64 y.f3):=ak VX 3;have y4:w4.cell? ⟨w.heap.size+1,4,none⟩=some (.slice Y4 y.f4.length pO):=ak VX 4;have jC:=ah.mk VX;have mH:=ah.mk ac0;have Yr:=ah.mk hv4
 have hcl:∀W:World,Below W3.heap.size W3 W→Calls Tryz.prog 91 #[.slice Y4 y.f4.length pO] W fun e w'=>∃v,e=.returned v∧Kd.R cO 117 w' W.heap.size (fun _=>True) v y.f4∧Below W.heap.size W w':=fun W hW=>
  tJ Y4 pO y.f4 W (Kd.aC GY4.out (HB3.out.trans (hW.mono HB3.out.size))) (by have:=FY.out.l;omega)
 have QB:=ah.mk hcl;clear hk1 ac0 VX hv4 hb4 hcl HSP;have hdr:=bC (Below.refl w4.heap.size w4)
 have hS:w4.drew.cell? ⟨w.heap.size+1,1,none⟩=some (.string y.f1)∧w4.drew.cell? ⟨w.heap.size+1,3,none⟩=some (.int .i64 y.f3)∧w4.drew.cell? ⟨w.heap.size+1,4,none⟩=some (.slice Y4 y.f4.length pO)∧ah (Below W3.heap.size W3 w4.drew):=⟨aj hdr y1,aj hdr y3,aj hdr y4,⟨mH.out.trans (hdr.mono mH.out.size)⟩⟩
 obtain⟨W4,Qy⟩:∃W4,w4.drew=W4:=⟨_,rfl⟩
 have HD4:=ah.mk (show Below w4.heap.size w4 W4 from Qy▸hdr);clear y1 y3 y4 hdr;refine kW (n:=11) (S:=(fun w'=>w'.cell? ⟨w.heap.size+1,1,none⟩=some (.string y.f1)∧w'.cell? ⟨w.heap.size+1,3,none⟩=some (.int .i64 y.f3)∧w'.cell? ⟨w.heap.size+1,4,none⟩=some (.slice Y4 y.f4.length pO)∧ah (Below W3.heap.size W3 w'))) (ds:=[10]) #[false,false,false,false,false,false,false,false,false,false,false] (by kernel_rfl) rfl rfl hS (fun hHeld=>?_);clear hS;rw[Qy] at hHeld ⊢;clear Qy;refine bA (i:=0) (N:=some 19) (v:=?_) (a':=?_) #[true,false,false,false,false,false,false,false,false,false,false] rfl rfl (by kernel_rfl) (fun _ _ _ h=>h) (Or.inl ⟨by rfl,?_⟩) ?_ ?_;rotate_left
 ·intro w'
  go_simp
  with_reducible rfl
 rotate_left
 ·simp only[Act.put,aYa,aYb,aYc,aG,aH];rfl
 refine dM (i:=1) (N:=some 20) (v:=?_) (a':=?_) #[true,true,false,false,false,false,false,false,false,false,false] rfl rfl (by kernel_rfl) (fun _ _ _ h=>h) (Or.inl ⟨by rfl,?_⟩) hHeld ?_ ?_;rotate_left
 ·rintro w' ⟨s1,s3,s4,s5⟩
  go_simp
  with_reducible rfl
 rotate_left
 ·simp only[Act.put,aYa,aYb,aYc,aG,aH];rfl
 refine bA (i:=2) (N:=some 21) (v:=?_) (a':=?_) #[true,true,true,false,false,false,false,false,false,false,false] rfl rfl (by kernel_rfl) (fun _ _ _ h=>h) (Or.inl ⟨by rfl,?_⟩) ?_ ?_;rotate_left
 ·intro w'
  go_simp
  with_reducible rfl
 rotate_left
 ·simp only[Act.put,aYa,aYb,aYc,aG,aH];rfl
 refine dM (i:=3) (N:=some 22) (v:=?_) (a':=?_) #[true,true,true,true,false,false,false,false,false,false,false] rfl rfl (by kernel_rfl) (fun _ _ _ h=>h) (Or.inl ⟨by rfl,?_⟩) hHeld ?_ ?_;rotate_left
 ·rintro w' ⟨s1,s3,s4,s5⟩
  go_simp
  with_reducible rfl
 rotate_left
 ·simp only[Act.put,aYa,aYb,aYc,aG,aH];rfl
 refine bA (i:=4) (N:=some 23) (v:=?_) (a':=?_) #[true,true,true,true,true,false,false,false,false,false,false] rfl rfl (by kernel_rfl) (fun _ _ _ h=>h) (Or.inl ⟨by rfl,?_⟩) ?_ ?_;rotate_left
 ·intro w'
  go_simp
  with_reducible rfl
 rotate_left
 ·simp only[Act.put,aYa,aYb,aYc,aG,aH];rfl
 refine dM (i:=5) (N:=some 24) (v:=?_) (a':=?_) #[true,true,true,true,true,true,false,false,false,false,false] rfl rfl (by kernel_rfl) (fun _ _ _ h=>h) (Or.inl ⟨by rfl,?_⟩) hHeld ?_ ?_;rotate_left
 ·rintro w' ⟨s1,s3,s4,s5⟩
  go_simp
  with_reducible rfl
 rotate_left
 ·simp only[Act.put,aYa,aYb,aYc,aG,aH];rfl
 refine aac (σ:=Option Addr × Nat × Nat) 1 #[true,true,true,true,true,true,true,true,true,true,false] (fun s=>[(25,.slice s.1 y.f4.length s.2.1),(26,.agg #[.int .i64 1,.string y.f1,.string ⟨#[]⟩,.int .i64 y.f3,.slice s.1 y.f4.length s.2.1,.slice none 0 0]),(27,.agg #[.int .i64 3,.int .i64 1,.string y.f1,.string ⟨#[]⟩,.int .i64 y.f3,.slice s.1 y.f4.length s.2.1,.slice none 0 0,.slice none 0 0]),(6,.pointer (some ⟨s.2.2,0,none⟩))]) (fun s w'=>Kd.R cO 117 w' W4.heap.size (fun _=>True) (.slice s.1 y.f4.length s.2.1) y.f4∧w'.heap[s.2.2]?=some (.cells #[.int .i64 0,.int .i64 0,.string ⟨#[]⟩,.string ⟨#[]⟩,.int .i64 0,.slice none 0 0,.slice none 0 0,.slice none 0 0] 31 (0,0))∧W4.heap.size≤s.2.2∧Below W4.heap.size W4 w') ?hcont (fun HC=>?_);rotate_left;refine ad5 (i:=6) (j:=9) (Ni:=some 25) (Nj:=some 6) #[true,true,true,true,true,true,true,false,false,false,false] #[true,true,true,true,true,true,false,false,false,true,false] rfl rfl rfl rfl (by kernel_rfl) (by decide) (by decide) (fun K hK=>?_) (fun K hK=>?_)
 ·refine mq Tryz.func91 (by kernel_rfl) rfl #[.slice Y4 y.f4.length pO] (by rfl) rfl rfl (by (try simp only[List.map_toArray,List.map_cons,List.map_nil]);first|done|rfl) ?_;refine (QB.out _ hHeld.2.2.2.out).mono ?_;rintro e w5 ⟨v5,rfl,jR,hb5⟩;obtain⟨Av5,cv5,hv5⟩:=Kd.bH jR;subst hv5;refine⟨_,rfl,?_⟩;have kE:=ah.mk jR;have iV:=ah.mk hb5;refine hK.out _ _ ⟨aj hb5 hHeld.1,aj hb5 hHeld.2.1,aj hb5 hHeld.2.2.1,⟨hHeld.2.2.2.out.trans (hb5.mono hHeld.2.2.2.out.size)⟩⟩ ?_;clear jR hb5 hHeld hK K;intro hHeld;refine eB (a':=?_) ?_ ?_;rotate_left
  ·show Act.put _ (some 25) _=_
   simp only[Act.put,aYa,aYb,aYc,aG,aH];rfl
  refine bA (i:=7) (N:=some 26) (v:=?_) (a':=?_) #[true,true,true,true,true,true,true,true,false,false,false] rfl rfl (by kernel_rfl) (fun _ _ _ h=>h) (Or.inl ⟨by rfl,?_⟩) ?_ ?_;rotate_left
  ·intro w'
   go_simp
   with_reducible rfl
  rotate_left
  ·simp only[Act.put,aYa,aYb,aYc,aG,aH];rfl
  refine bA (i:=8) (N:=some 27) (v:=?_) (a':=?_) #[true,true,true,true,true,true,true,true,true,false,false] rfl rfl (by kernel_rfl) (fun _ _ _ h=>h) (Or.inl ⟨by rfl,?_⟩) ?_ ?_;rotate_left
  ·intro w'
   go_simp
   with_reducible rfl
  rotate_left
  ·simp only[Act.put,aYa,aYb,aYc,aG,aH];rfl
  refine kg (i:=9) (N:=some 6) #[true,true,true,true,true,true,true,true,true,true,false] rfl rfl (by kernel_rfl) (by decide) (fun K hK=>?_);refine nD (v:=.pointer (some ⟨w5.heap.size,0,none⟩)) (w1:=w5.alloc (.cells #[.int .i64 0,.int .i64 0,.string ⟨#[]⟩,.string ⟨#[]⟩,.int .i64 0,.slice none 0 0,.slice none 0 0,.slice none 0 0] 31)) (by rfl) rfl (by kernel_rfl) ?_;have hal:=(Below.refl w5.heap.size w5).alloc (Nat.le_refl _) (.cells #[.int .i64 0,.int .i64 0,.string ⟨#[]⟩,.string ⟨#[]⟩,.int .i64 0,.slice none 0 0,.slice none 0 0,.slice none 0 0] 31);refine hK.out _ _ ⟨aj hal hHeld.1,aj hal hHeld.2.1,aj hal hHeld.2.2.1,⟨hHeld.2.2.2.out.trans (hal.mono hHeld.2.2.2.out.size)⟩⟩ ?_;clear hal hHeld hK K;intro hHeld;refine HC ⟨Av5,cv5,w5.heap.size⟩ _ ⟨?_,?_,?_,?_⟩
  ·exact Kd.dh kE.out ((Below.refl _ _).alloc (Nat.le_refl _) _)
  ·exact bK _ _
  ·exact iV.out.size
  ·exact iV.out.alloc iV.out.size _
 ·refine nD (v:=.pointer (some ⟨W4.heap.size,0,none⟩)) (w1:=W4.alloc (.cells #[.int .i64 0,.int .i64 0,.string ⟨#[]⟩,.string ⟨#[]⟩,.int .i64 0,.slice none 0 0,.slice none 0 0,.slice none 0 0] 31)) (by rfl) rfl (by kernel_rfl) ?_;have hal:=(Below.refl W4.heap.size W4).alloc (Nat.le_refl _) (.cells #[.int .i64 0,.int .i64 0,.string ⟨#[]⟩,.string ⟨#[]⟩,.int .i64 0,.slice none 0 0,.slice none 0 0,.slice none 0 0] 31);refine hK.out _ _ ⟨aj hal hHeld.1,aj hal hHeld.2.1,aj hal hHeld.2.2.1,⟨hHeld.2.2.2.out.trans (hal.mono hHeld.2.2.2.out.size)⟩⟩ ?_;clear hal hHeld hK K;intro hHeld;refine eB (a':=?_) ?_ ?_;rotate_left
  ·show Act.put _ (some 6) _=_
   simp only[Act.put,aYa,aYb,aYc,aG,aH];rfl
  have Xb:=ah.mk ((Below.refl W4.heap.size W4).alloc (Nat.le_refl _) (.cells #[.int .i64 0,.int .i64 0,.string ⟨#[]⟩,.string ⟨#[]⟩,.int .i64 0,.slice none 0 0,.slice none 0 0,.slice none 0 0] 31));have HNB:=ah.mk (bK W4 (.cells #[.int .i64 0,.int .i64 0,.string ⟨#[]⟩,.string ⟨#[]⟩,.int .i64 0,.slice none 0 0,.slice none 0 0,.slice none 0 0] 31))
  obtain⟨W5,Sb⟩:∃W5,W4.alloc (.cells #[.int .i64 0,.int .i64 0,.string ⟨#[]⟩,.string ⟨#[]⟩,.int .i64 0,.slice none 0 0,.slice none 0 0,.slice none 0 0] 31)=W5:=⟨_,rfl⟩
  rw[Sb] at Xb HNB hHeld ⊢;clear Sb;refine kg (i:=6) (N:=some 25) #[true,true,true,true,true,true,true,false,false,true,false] rfl rfl (by kernel_rfl) (by decide) (fun K hK=>?_);refine mq Tryz.func91 (by kernel_rfl) rfl #[.slice Y4 y.f4.length pO] (by rfl) rfl rfl (by (try simp only[List.map_toArray,List.map_cons,List.map_nil]);first|done|rfl) ?_;refine (QB.out _ hHeld.2.2.2.out).mono ?_;rintro e w5 ⟨v5,rfl,jR,hb5⟩;obtain⟨Av5,cv5,hv5⟩:=Kd.bH jR;subst hv5;refine⟨_,rfl,?_⟩;have kE:=ah.mk jR;have iV:=ah.mk hb5;refine hK.out _ _ ⟨aj hb5 hHeld.1,aj hb5 hHeld.2.1,aj hb5 hHeld.2.2.1,⟨hHeld.2.2.2.out.trans (hb5.mono hHeld.2.2.2.out.size)⟩⟩ ?_;clear jR hb5 hHeld hK K;intro hHeld;refine eB (a':=?_) ?_ ?_;rotate_left
  ·show Act.put _ (some 25) _=_
   simp only[Act.put,aYa,aYb,aYc,aG,aH];rfl
  refine bA (i:=7) (N:=some 26) (v:=?_) (a':=?_) #[true,true,true,true,true,true,true,true,false,true,false] rfl rfl (by kernel_rfl) (fun _ _ _ h=>h) (Or.inl ⟨by rfl,?_⟩) ?_ ?_;rotate_left
  ·intro w'
   go_simp
   with_reducible rfl
  rotate_left
  ·simp only[Act.put,aYa,aYb,aYc,aG,aH];rfl
  refine bA (i:=8) (N:=some 27) (v:=?_) (a':=?_) #[true,true,true,true,true,true,true,true,true,true,false] rfl rfl (by kernel_rfl) (fun _ _ _ h=>h) (Or.inl ⟨by rfl,?_⟩) ?_ ?_;rotate_left
  ·intro w'
   go_simp
   with_reducible rfl
  rotate_left
  ·simp only[Act.put,aYa,aYb,aYc,aG,aH];rfl
  refine HC ⟨Av5,cv5,W4.heap.size⟩ _ ⟨?_,?_,Nat.le_refl _,?_⟩
  ·exact Kd.fC kE.out Xb.out.size
  ·exact aD HNB.out iV.out
  ·exact Xb.out.trans (iV.out.mono Xb.out.size)
 rintro⟨A5,c5,p⟩ W5 ⟨jR,hk5,Un,hb5⟩;dsimp only at jR hk5 Un;have kE:=ah.mk jR;have oV:=ah.mk hk5;have iV:=ah.mk hb5;have G9:=ah.mk Un;clear jR hk5 hb5 Un;refine eB (a':=?_) ?_ ?_;rotate_left
 ·show yT _ [_,_,_,_]=_
  simp only[yT,Act.put,aYa,aYb,aYc];rfl
 refine kC (i:=10) (N:=none) #[true,true,true,true,true,true,true,true,true,true,true] rfl rfl (by kernel_rfl) (by decide) (fun K hK=>?_);rw[if_pos (by rfl)];refine wp_store_row 31 (.tmp 6) (.tmp 27) rfl p #[.int .i64 3,.int .i64 1,.string y.f1,.string ⟨#[]⟩,.int .i64 y.f3,.slice A5 y.f4.length c5,.slice none 0 0,.slice none 0 0] rfl rfl 31 _ oV.out (by kernel_rfl) (by rfl) (by simp[Value.oneCell']) ?_;refine hK.out _ _ ?_;clear hK K;refine eB (a':=?_) ?_ ?_;rotate_left
 ·show Act.put _ none _=_
  simp only[Act.put];rfl
 refine ku (by kernel_rfl) ?_;have h34:W3.heap.size≤w4.heap.size:=mH.out.size;have h44:w4.heap.size≤W4.heap.size:=HD4.out.size;have Un:=G9.out
 have hp6:w.heap.size+3<p:=by
  have:=Yr.out.lt;omega
 have h46:Below w4.heap.size w4 W5:=HD4.out.trans (iV.out.mono h44);have h36:Below W3.heap.size W3 W5:=mH.out.trans (h46.mono h34);have h06:Below w.heap.size w W5:=HB3.out.trans (h36.mono (by omega));have jR:=kE.out
 have N8:KZ w (w.heap.size+3) p (idxs x.f4).length (rG X5 (idxs x.f4)) y.f1 y.f3 (.slice A5 y.f4.length c5) y.f4 (w.heap.size+2) #[.int .i64 0,.int .i64 0,.string ⟨#[]⟩,.string ⟨#[]⟩,.int .i64 0,.slice none 0 0,.slice none 0 0,.slice none 0 0] 31 (.slice none 0 0) (.slice none 0 0) ([],[]) (W5.setRow p #[.int .i64 3,.int .i64 1,.string y.f1,.string ⟨#[]⟩,.int .i64 y.f3,.slice A5 y.f4.length c5,.slice none 0 0,.slice none 0 0]):=by
  have hres:(W5.setRow p #[.int .i64 3,.int .i64 1,.string y.f1,.string ⟨#[]⟩,.int .i64 y.f3,.slice A5 y.f4.length c5,.slice none 0 0,.slice none 0 0]).heap[w.heap.size+2]?=some (.cells #[.int .i64 0,.int .i64 0,.string ⟨#[]⟩,.string ⟨#[]⟩,.int .i64 0,.slice none 0 0,.slice none 0 0,.slice none 0 0] 31 (0,0)):=by
   rw[setRow_other _ _ _ _ (by omega)];refine aD ?_ h36;rw[HW3.out];have hz:=bK ((w.alloc (.cells #[.int .i64 x.f0,.string x.f1,.string x.f2,.int .i64 x.f3,.slice X4 x.f4.length Cw,.slice X5 x.f5.length Cx] 29)).alloc (.cells #[.int .i64 y.f0,.string y.f1,.string y.f2,.int .i64 y.f3,.slice Y4 y.f4.length pO,.slice Y5 y.f5.length oZ] 29)) (.cells #[.int .i64 0,.int .i64 0,.string ⟨#[]⟩,.string ⟨#[]⟩,.int .i64 0,.slice none 0 0,.slice none 0 0,.slice none 0 0] 31);rw[World.size_alloc,World.size_alloc] at hz;exact hz
  refine⟨below_setRow h06 (by omega) _,?_,setRow_heap _ _ _ _ _ _ oV.out,hres,hres,?_,Kd.fA _ _ _ _ _,Kd.fA _ _ _ _ _,by omega,by omega,by decide⟩
  ·refine (Yr.out.below h46).same ?_;exact setRow_other _ _ _ _ (by omega)
  ·refine rA (Kd.nG (Kd.fC (mV jR) (by omega)) (fun k ho hlt=>setRow_other _ _ _ _ (fun e=>?_)));exact Kd.pV jR oV.out (by decide) (by rw[← e];exact ho.symm)
 have q5:(W5.setRow p #[.int .i64 3,.int .i64 1,.string y.f1,.string ⟨#[]⟩,.int .i64 y.f3,.slice A5 y.f4.length c5,.slice none 0 0,.slice none 0 0]).cell? ⟨w.heap.size+1,5,none⟩=some (.slice Y5 y.f5.length oZ) :=
  (cell_setRow_other _ _ _ _ (by show w.heap.size+1≠p;omega)).trans (ak (aD jC.out h46) 5)
 have q4:(W5.setRow p #[.int .i64 3,.int .i64 1,.string y.f1,.string ⟨#[]⟩,.int .i64 y.f3,.slice A5 y.f4.length c5,.slice none 0 0,.slice none 0 0]).cell? ⟨w.heap.size+1,4,none⟩=some (.slice Y4 y.f4.length pO) :=
  (cell_setRow_other _ _ _ _ (by show w.heap.size+1≠p;omega)).trans (ak (aD jC.out h46) 4)
 obtain⟨W6,Xa⟩:∃W6,W5.setRow p #[.int .i64 3,.int .i64 1,.string y.f1,.string ⟨#[]⟩,.int .i64 y.f3,.slice A5 y.f4.length c5,.slice none 0 0,.slice none 0 0]=W6:=⟨_,rfl⟩
 rw[Xa] at N8 q5 q4 ⊢;have HE:=ah.mk N8
 obtain⟨v5,hv5⟩:∃v5,Value.slice A5 y.f4.length c5=v5:=⟨_,rfl⟩
 rw[hv5] at HE ⊢;clear N8 Xa h34 h44 Un h46 h36 h06 jR Ld mH HW3 jC Yr QB HD4 kE oV iV G9;clear hs3 hv5
 go_wp2_with fail
 have HN:=ah.mk FY.out.n;have LA:=FY.out.l;obtain⟨i0,hi0,_,hz1,_⟩:=info_parts info5;have hlc:=ly5
 go_loopg [7,33] y.f4.length (fun g s7 s33 wx=>∃(i:Nat) (a:Option Addr) (v6 v7:Value),i+g=y.f4.length∧s33=.int .i64 i∧s7=.slice a (y.f5.length - 512*(idxs (y.f4.take i)).length) (oZ - 512*(idxs (y.f4.take i)).length)∧ah (512*(idxs (y.f4.take i)).length<oZ→a=Y5.map (·.add (512*(idxs (y.f4.take i)).length)))∧ah (KZ w (w.heap.size+3) p (idxs x.f4).length (rG X5 (idxs x.f4)) y.f1 y.f3 v5 y.f4 (w.heap.size+2) #[.int .i64 0,.int .i64 0,.string ⟨#[]⟩,.string ⟨#[]⟩,.int .i64 0,.slice none 0 0,.slice none 0 0,.slice none 0 0] 31 v6 v7 (fP x y (idxs (y.f4.take i)) 0 ([],[])) wx))
 case atStart=>exact⟨0,Y5,_,_,by omega,rfl,rfl,⟨fun _=>by cases Y5 <;> rfl⟩,HE⟩
 case round=>
  obtain⟨i,a,v6,v7,hig,rfl,rfl,HA,HS⟩:=hrel;clear HE q4 q5;by_cases hi:i<y.f4.length
  ·obtain⟨ad,hA,r0,r1⟩:=dK (Kd.aC GY4.out HS.out.low) (i:Int) (by omega) (by omega)
   have hrd:aK y.f4 (i:Int)=y.f4[i]:=by simp[aK,hi]
   rw[hrd] at r0 r1;rw[Int.toNat_natCast] at r0 r1;subst hA
   go_wp2_with fail
   obtain⟨wo,rfl⟩:∃wo,wo=wr:=⟨_,rfl⟩
   obtain⟨go,rfl⟩:∃go,go=gk:=⟨_,rfl⟩
   obtain⟨q,hq⟩:∃q,y.f4[i]=q:=⟨_,rfl⟩
   have WM:=FY.out.r _ (List.getElem_mem hi);have hidx:=xw hi;rw[hq] at WM hidx r0 r1 ⊢
   obtain⟨N,hN⟩:∃N,(idxs (y.f4.take i)).length=N:=⟨_,rfl⟩
   have hN1:(idxs (y.f4.take (i+1))).length=N+(q.f1 - q.f0).toNat:=by rw[hidx,List.length_append,hN];simp[iJ]
   have hN2:(idxs (y.f4.take (i+1))).length≤(idxs y.f4).length:=by
    have h:=congrArg List.length (show idxs (y.f4.take (i+1))++idxs (y.f4.drop (i+1))=idxs y.f4 by unfold idxs;rw[← List.flatMap_append,List.take_append_drop]);rw[List.length_append] at h;omega
   rw[hN] at HA ⊢
   have zC:ah (KZ w (w.heap.size+3) p (idxs x.f4).length (rG X5 (idxs x.f4)) y.f1 y.f3 v5 y.f4 wo.heap.size #[.int .i64 q.f0,.int .i64 q.f1] 117 v6 v7 (fP x y (idxs (y.f4.take i)++(iJ q).take 0) 0 ([],[])) (wo.alloc (.cells #[.int .i64 q.f0,.int .i64 q.f1] 117))):=⟨by rw[List.take_zero,List.append_nil];exact HS.out.Ul _⟩
   have Dl:=ah.mk hN1;have HIX:=ah.mk hidx;have HNN:=ah.mk hN
   have hmm:512*(N+(q.f1 - q.f0).toNat)≤y.f5.length:=by have:=HN.out;omega
   have hsm:N+(q.f1 - q.f0).toNat≤16523:=by have:=FY.out.i;omega
   clear hrd r0 r1 HS hq hidx hN1 hN2 hN
   go_loopg [7,10] (q.f1 - q.f0).toNat (fun g s7 s10 wx=>∃(j:Nat) (a2:Option Addr) (v6 v7:Value),j+g=(q.f1 - q.f0).toNat∧s10=.int .i64 (q.f0+j)∧s7=.slice a2 (y.f5.length - 512*(N+j)) (oZ - 512*(N+j))∧ah (512*(N+j)<oZ→a2=Y5.map (·.add (512*(N+j))))∧ah (KZ w (w.heap.size+3) p (idxs x.f4).length (rG X5 (idxs x.f4)) y.f1 y.f3 v5 y.f4 wo.heap.size #[.int .i64 q.f0,.int .i64 q.f1] 117 v6 v7 (fP x y (idxs (y.f4.take i)++(iJ q).take j) 0 ([],[])) wx))
   case atStart=>exact⟨0,a,v6,v7,by omega,by simp,by simp,HA,zC⟩
   case round=>
    obtain⟨j,a2,v6,v7,hjg,rfl,rfl,HA2,HS2⟩:=hrel;clear zC HA;have z1:wr.cell? ⟨wo.heap.size,0,none⟩=some (.int .i64 q.f0):=ak HS2.out.TN 0;have z2:wr.cell? ⟨wo.heap.size,1,none⟩=some (.int .i64 q.f1):=ak HS2.out.TN 1;by_cases hj:j<(q.f1 - q.f0).toNat
    ·have d1:decide (q.f0+(j:Int)<q.f1)=true:=decide_eq_true (by omega)
     have hcap:512*(N+j)+512≤y.f5.length:=by omega
     obtain⟨nA,TY⟩:∃nA,y.f5.length - 512*(N+j)=nA:=⟨_,rfl⟩
     obtain⟨cA,hcA⟩:∃cA,oZ - 512*(N+j)=cA:=⟨_,rfl⟩
     have e1:(512:Int)≤(nA:Int):=by omega
     have e2:(512:Int)≤(cA:Int):=by omega
     rw[TY,hcA];have HNA:=ah.mk TY;have HCA:=ah.mk hcA;have hkey:keyOf Tryz.prog 3 (.int .i64 (q.f0+(j:Int)))=some (.int .i64 (q.f0+(j:Int))):=keyOf_int_mk Tryz.underlying3 (WalkArith.wf_i64 ⟨by omega,by omega⟩);have hlk:=HS2.out.map.look WL Tryz.underlying133 (Qw wr) hkey;rw[show rG X5 (idxs x.f4) (.int .i64 (q.f0+(j:Int)))=(iZ (idxs x.f4) 0 (q.f0+(j:Int))).map (fun k=>.slice (X5.map (·.add (512*k))) 512 512) from rfl] at hlk;have hn5:=GY5.out
     have LB:Kd.C (Kd.int .u8) w a2 512 (dI y.f5 (N+j)):=by
      have h1:=Kd.aaW (lo:=512*(N+j)) (hi:=512*(N+j)+512) (c:=oZ) hn5 (by omega) (by omega) ly5;rw[if_neg (by omega),show (Kd.int .u8).sz=1 from rfl,Nat.mul_one] at h1
      have h2:(y.f5.take (512*(N+j)+512)).drop (512*(N+j))=dI y.f5 (N+j):=by
       unfold dI;rw[List.drop_take]
       congr 1
       omega
      rw[h2,fK (by omega),← HA2.out (by omega)] at h1;exact h1
     have N9:=ah.mk LB;have hlen:=pK x y (idxs (y.f4.take i)++(iJ q).take j) 0 ([],[])
     have hln:(idxs (y.f4.take i)++(iJ q).take j).length=N+j:=by
      rw[List.length_append,HNN.out,List.length_take];unfold iJ;rw[List.length_map,List.length_range];omega
     have hjl:(iJ q).take (j+1)=(iJ q).take j++[q.f0+(j:Int)]:=by
      rw[List.take_add_one]
      congr 1
      unfold iJ;rw[List.getElem?_map,List.getElem?_range hj];rfl
     have hstep:=Li x y (idxs (y.f4.take i)++(iJ q).take j) (q.f0+(j:Int)) 0 ([],[]);rw[List.append_assoc,← hjl,hln,Nat.zero_add] at hstep;rw[hln] at hlen
     obtain⟨st,hst⟩:∃st,fP x y (idxs (y.f4.take i)++(iJ q).take j) 0 ([],[])=st:=⟨_,rfl⟩
     rw[hst] at hstep hlen HS2
     have hl1:st.1.length≤N+j:=by have:=hlen.1;simpa using this
     have hl2:st.2.length≤512*(N+j):=by have:=hlen.2;simpa using this
     have VY:=ah.mk hstep;have hsl:=@Em Tryz.prog 27 5 .i64 i0 Tryz.underlying27 hi0 1 hz1 a2 nA cA 512 (by decide) (by omega)
     obtain⟨a3,NI⟩:∃a3,(if cA=(512:Int).toNat then a2 else a2.map (·.add ((512:Int).toNat*1)))=a3:=⟨_,rfl⟩
     rw[NI,show (512:Int).toNat=512 from rfl] at hsl
     have HA3:ah (512*(N+(j+1))<oZ→a3=Y5.map (·.add (512*(N+(j+1))))):=⟨fun h=>by
      have hcA:=HCA.out;rw[← NI,if_neg (by show ¬cA=512;omega),HA2.out (by omega)]
      cases Y5 with
      | none=>rfl
      | some x=>
       show some (Addr.add (Addr.add x _) _)=some (Addr.add x _)
       rw[add_add]
       congr 2⟩
     clear TY hcA hkey LB hn5 NI hlen hln hjl hstep hst;obtain⟨A7,c7,hv7⟩:=Kd.bH HS2.out.set;obtain⟨A6,c6,hv6⟩:=Kd.bH HS2.out.data;subst hv7;subst hv6;have u7:wr.cell? ⟨p,7,none⟩=some (.slice A7 st.1.length c7):=ak HS2.out.box 7
     have hwp:IntKind.i64.wrap (q.f0+(j:Int)+1)=q.f0+(j:Int)+1:=by rw[IntKind.wrap_i64];omega
     cases hla:iZ (idxs x.f4) 0 (q.f0+(j:Int)) with
     | none=>
      rw[hla] at hlk;simp only[Option.map_none,Option.getD_none,Option.isSome_none] at hlk;have VZ:=ah.mk (show newAt x y (N+j) (q.f0+(j:Int))=true by unfold newAt;rw[hla]);clear hla
      go_wp2_with (first|(go_at_call 92;refine (PT.pG.calls (fun k=>(Value.slice A7 st.1.length c7).ownBlock=some k) _ st.1 (q.f0+(j:Int)) (mR st.1 (q.f0+(j:Int))) w _ HS2.out.low (mV HS2.out.set) (QZ st.1 _ (by omega) (by omega) (by omega))).mono ?_;rintro e w5 ⟨v8,rfl,Le,xK,hk8⟩;have GI:=(hk8.2 p (bD HS2.out.box) (fun hp=>Kd.pV HS2.out.set HS2.out.box (by decide) hp.symm)).trans HS2.out.box;obtain⟨A8,c8,Na⟩:=Kd.bH Le;subst Na;have Nv:=ah.mk (HS2.out.join xK hk8 Le);have u5:w5.cell? ⟨p,7,none⟩=some (.slice A7 st.1.length c7):=ak GI 7;have u6:w5.cell? ⟨p,6,none⟩=some (.slice A6 st.2.length c6):=ak GI 6;have f7:=av GI 7;have l5:=bD GI;clear Le xK hk8 GI u7)|((with_reducible refine dn (b:=.append) (xs:=#[.tmp 70,.tmp 71]) rfl ?_);at_builtin;refine Kd.qD (w0:=w) (.int .u8) 0 w.heap.size rfl (.tmp 70) (.tmp 71) 27 5 (.int .u8 0) 1 rfl Tryz.underlying27 info5 rfl (by decide) (.slice A6 st.2.length c6) st.2 (dI y.f5 (N+j)) a2 512 cA (fun _=>True) rfl rfl (fun _ _=>trivial) Nv.out.data (Kd.aC N9.out Nv.out.low) Nv.out.low Nv.out.low.size (by omega) ?_;intro v9 w9 JO Cy LC _h;have uV:=gB Nv.out.box LC (Kd.pV Nv.out.data Nv.out.box (by decide));obtain⟨A9,c9,IE⟩:=Kd.bH JO;subst IE;have HS4:=ah.mk (Nv.out.append Cy LC JO);have u9:w9.cell? ⟨p,6,none⟩=some (.slice A6 st.2.length c6):=ak uV 6;have f9:=av uV 6;have l9:=bD uV;clear JO Cy LC uV u5 u6 f7 l5 _h))
      go_roundg ((q.f1 - q.f0).toNat - (j+1))
      case measure=>omega
      case rel=>
       have TY:=HNA.out;have hcA:=HCA.out;have hstep:=VY.out;rw[if_pos VZ.out] at hstep;have h4:=HS4.out;simp only[List.length_append] at h4;exact⟨j+1,a3,_,_,by omega,by push_cast;congr 1;omega,by rw[show y.f5.length - 512*(N+(j+1))=nA - 512 by omega,show oZ - 512*(N+(j+1))=cA - 512 by omega],HA3,⟨by rw[hstep];exact h4⟩⟩
     | some k=>
      rw[hla] at hlk;simp only[Option.map_some,Option.getD_some,Option.isSome_some] at hlk;have hkl:=tZ hla;have HNW:=ah.mk (show newAt x y (N+j) (q.f0+(j:Int))=decide (dI x.f5 k≠dI y.f5 (N+j)) by unfold newAt;rw[hla])
      have hbl:512*(k+1)≤x.f5.length:=by have:=FX.out.n;omega
      have agq:Kd.C (Kd.int .u8) w (X5.map (·.add (512*k))) 512 (dI x.f5 k):=El GX5.out hbl;have heq:=PT.bytes_Equal.calls _ 512 (dI x.f5 k) a2 cA (dI y.f5 (N+j)) _ wr (by rw[fK hbl];exact Kd.aC agq HS2.out.low) (by rw[fK hbl];exact Nat.le_refl _) (by rw[fK (by omega)];exact Kd.aC N9.out HS2.out.low) (by rw[fK (by omega)];omega) rfl;rw[fK hbl,fK (by omega),um (a:=dI x.f5 k) (b:=dI y.f5 (N+j)) (fun n hn=>FX.out.b n (List.mem_of_mem_drop (List.mem_of_mem_take hn))) (fun n hn=>FY.out.b n (List.mem_of_mem_drop (List.mem_of_mem_take hn)))] at heq;have NP:=ah.mk heq;clear hla hkl hbl agq heq;by_cases hsame:dI x.f5 k=dI y.f5 (N+j)
      ·have VZ:ah (¬newAt x y (N+j) (q.f0+(j:Int))=true):=⟨by rw[HNW.out];simpa using hsame⟩
       have NP:=ah.mk (NP.out);rw[decide_eq_true hsame] at NP;clear hsame
       go_wp2_with (go_at_call 62;refine (NP.out).mono ?_;rintro e w4 ⟨rfl,⟨m,rfl⟩⟩)
       have WK:=ah.mk (HS2.out.below (au (Below.refl _ _) m))
       go_roundg ((q.f1 - q.f0).toNat - (j+1))
       case measure=>omega
       case rel=>
        have TY:=HNA.out;have hcA:=HCA.out;have hstep:=VY.out;rw[if_neg VZ.out] at hstep;have h4:=WK.out
        skip
        exact⟨j+1,a3,_,_,by omega,by push_cast;congr 1;omega,by rw[show y.f5.length - 512*(N+(j+1))=nA - 512 by omega,show oZ - 512*(N+(j+1))=cA - 512 by omega],HA3,⟨by rw[hstep];exact h4⟩⟩
      ·have VZ:ah (newAt x y (N+j) (q.f0+(j:Int))=true):=⟨by rw[HNW.out];simpa using hsame⟩
       rw[decide_eq_false hsame] at NP;clear hsame
       go_wp2_with (first|(go_at_call 62;refine (NP.out).mono ?_;rintro e w4 ⟨rfl,⟨m,rfl⟩⟩;have WK:=ah.mk (HS2.out.below (au (Below.refl _ _) m));have u7:(wr.drewN m).cell? ⟨p,7,none⟩=some (.slice A7 st.1.length c7):=ak WK.out.box 7;clear NP)|(go_at_call 92;refine (PT.pG.calls (fun k=>(Value.slice A7 st.1.length c7).ownBlock=some k) _ st.1 (q.f0+(j:Int)) (mR st.1 (q.f0+(j:Int))) w _ WK.out.low (mV WK.out.set) (QZ st.1 _ (by omega) (by omega) (by omega))).mono ?_;rintro e w5 ⟨v8,rfl,Le,xK,hk8⟩;have GI:=(hk8.2 p (bD WK.out.box) (fun hp=>Kd.pV WK.out.set WK.out.box (by decide) hp.symm)).trans WK.out.box;obtain⟨A8,c8,Na⟩:=Kd.bH Le;subst Na;have Nv:=ah.mk (WK.out.join xK hk8 Le);have u5:w5.cell? ⟨p,7,none⟩=some (.slice A7 st.1.length c7):=ak GI 7;have u6:w5.cell? ⟨p,6,none⟩=some (.slice A6 st.2.length c6):=ak GI 6;have f7:=av GI 7;have l5:=bD GI;clear Le xK hk8 GI u7)|((with_reducible refine dn (b:=.append) (xs:=#[.tmp 70,.tmp 71]) rfl ?_);at_builtin;refine Kd.qD (w0:=w) (.int .u8) 0 w.heap.size rfl (.tmp 70) (.tmp 71) 27 5 (.int .u8 0) 1 rfl Tryz.underlying27 info5 rfl (by decide) (.slice A6 st.2.length c6) st.2 (dI y.f5 (N+j)) a2 512 cA (fun _=>True) rfl rfl (fun _ _=>trivial) Nv.out.data (Kd.aC N9.out Nv.out.low) Nv.out.low Nv.out.low.size (by omega) ?_;intro v9 w9 JO Cy LC _h;have uV:=gB Nv.out.box LC (Kd.pV Nv.out.data Nv.out.box (by decide));obtain⟨A9,c9,IE⟩:=Kd.bH JO;subst IE;have HS4:=ah.mk (Nv.out.append Cy LC JO);have u9:w9.cell? ⟨p,6,none⟩=some (.slice A6 st.2.length c6):=ak uV 6;have f9:=av uV 6;have l9:=bD uV;clear JO Cy LC uV u5 u6 f7 l5 _h))
       go_roundg ((q.f1 - q.f0).toNat - (j+1))
       case measure=>omega
       case rel=>
        have TY:=HNA.out;have hcA:=HCA.out;have hstep:=VY.out;rw[if_pos VZ.out] at hstep;have h4:=HS4.out;simp only[List.length_append] at h4;exact⟨j+1,a3,_,_,by omega,by push_cast;congr 1;omega,by rw[show y.f5.length - 512*(N+(j+1))=nA - 512 by omega,show oZ - 512*(N+(j+1))=cA - 512 by omega],HA3,⟨by rw[hstep];exact h4⟩⟩
    ·have d1:decide (q.f0+(j:Int)<q.f1)=false:=decide_eq_false (by omega)
     have hje:j=(q.f1 - q.f0).toNat:=by omega
     go_wp2_with fail
     go_roundg (go - 1)
     case measure=>omega
     case rel=>
      subst hje;refine⟨i+1,a2,v6,v7,by omega,by simp,?_,?_,?_⟩
      ·rw[Dl.out]
      ·rw[Dl.out];exact HA2
      ·rw[HIX.out];have:=HS2.out;rw[show (iJ q).take (q.f1 - q.f0).toNat=iJ q from List.take_of_length_le (by unfold iJ;rw[List.length_map,List.length_range];omega)] at this;exact⟨this.back⟩
  ·obtain rfl:i=y.f4.length:=by omega
   have hs:=HS.out;rw[List.take_length] at hs;have zC:=ah.mk hs;clear HS hs
   go_wp2_with (first
    | (refine dR (.load 31 (.tmp 6)) rfl ?_;refine wpList_load_row rfl _ _ rfl p rfl 31 _ (0,0) _ zC.out.box Tryz.underlying31 rfl (by kernel_rfl) ?_)
    | (refine dR (.store 31 (.tmp 4) (.tmp 76)) rfl ?_;refine wpList_store_row rfl 31 (.tmp 4) (.tmp 76) rfl (w.heap.size+2) #[.int .i64 3,.int .i64 1,.string y.f1,.string ⟨#[]⟩,.int .i64 y.f3,v5,v6,v7] rfl rfl 31 _ zC.out.res (by kernel_rfl) (by rfl) ?one ?_;(case one=>obtain⟨b5,d5,e5⟩:=Kd.bH zC.out.runs;obtain⟨b6,d6,e6⟩:=Kd.bH zC.out.data;obtain⟨b7,d7,e7⟩:=Kd.bH zC.out.set;rw[e5,e6,e7];simp[Value.oneCell'])))
   refine bodyPost_ret (results_cell_row rfl _ _ (w.heap.size+2) 31 #[.int .i64 3,.int .i64 1,.string y.f1,.string ⟨#[]⟩,.int .i64 y.f3,v5,v6,v7] (0,0) _ rfl (setRow_heap _ _ _ _ _ _ zC.out.res) Tryz.underlying31 rfl (by kernel_rfl)) rfl ⟨v5,v6,v7,rfl,?_,?_,?_,below_setRow zC.out.low (by omega) _⟩
   ·exact rA (Kd.nG (mV zC.out.runs) (fun k ho _=>setRow_other _ _ _ _ (fun e=>Kd.pV zC.out.runs zC.out.res (by decide) (by rw[← e];exact ho.symm))))
   ·exact yU (Kd.nG (BL zC.out.data) (fun k ho _=>setRow_other _ _ _ _ (fun e=>Kd.pV zC.out.data zC.out.res (by decide) (by rw[← e];exact ho.symm))))
   ·exact rA (Kd.nG (mV zC.out.set) (fun k ho _=>setRow_other _ _ _ _ (fun e=>Kd.pV zC.out.set zC.out.res (by decide) (by rw[← e];exact ho.symm))))
end Go.Proofs.YtknihldkhedpkaaGreatDoor
end
section
namespace Go.Proofs.YtknihldkhedpkaaGreatDoor
open Go.RowKit
open Go.Proofs.YtknihldkhedpkaaGreatDoorW.PrintWords Go.Proofs.YtknihldkhedpkaaGreatDoorW.PrintLast Go.Proofs.YtknihldkhedpkaaGreatDoor.PT
def jY (rows:List Rn) (data:List Int) (i:Int):Option (List Int):=(iZ (idxs rows) 0 i).map (dI data)
def cZ (old:DF) (c:Ch):List Int→Option (List Int)
 | []=>some []
 | i::l=>match jY c.f2 c.f1.f5 i with
  | some b=>(cZ old c l).map (b ++ ·)
  | none=>match jY old.f4 old.f5 i with
   | some b=>(cZ old c l).map (b ++ ·)
   | none=>none
def qC (old:DF) (c:Ch):Option DF:=if old.f0≠1 then none else (cZ old c (idxs c.f1.f4)).map fun d=>⟨1,c.f1.f1,⟨#[]⟩,c.f1.f3,c.f1.f4,d⟩
theorem xu (a b:List Rn):idxs (a++b)=idxs a++idxs b:=by unfold idxs;rw[List.flatMap_append]
theorem Di:∀{l:List Int} {n:Nat} {i:Int},i∉l→iZ l n i=none
 | [],_,_,_=>rfl
 | x::l,n,i,h=>by
  rw[iZ,Di (fun hm=>h (by simp[hm]))];dsimp only;rw[if_neg (fun e=>h (by simp[e]))]
def GJ (ns d:List Int) (i:Int):Option (List Int):=(iZ ns 0 i).map (dI d)
theorem Qn {a b:List Int} {k:Nat} (h:512*(k+1)≤a.length):dI (a++b) k=dI a k:=by
 unfold dI;rw[List.drop_append_of_le_length (by omega),List.take_append_of_le_length (by rw[List.length_drop];omega)]
theorem Qo {a b:List Int} {k:Nat} (h:a.length=512*k) (hb:b.length=512):dI (a++b) k=b:=by
 unfold dI;rw[← h,List.drop_left,List.take_of_length_le (by omega)]
theorem Tv {ns d b:List Int} {i j:Int} (hd:d.length=512*ns.length) (hb:b.length=512):GJ (ns++[i]) (d++b) j=if i=j then some b else GJ ns d j:=by
 unfold GJ;rw[vY];split
 ·rw[Option.map_some,Nat.zero_add,Qo hd hb]
 ·cases hl:iZ ns 0 j with
  | none=>rfl
  | some k=>
   have:=tZ hl;rw[Option.map_some,Option.map_some,Qn (by omega)]
theorem Nk {l:List Rn} {i:Int} (h:∀r∈l,r.f0≤r.f1):idxs (mR l i)=idxs l++[i]∧∀r∈mR l i,r.f0≤r.f1:=by
 have h1:idxs [⟨i,i+1⟩]=[i]:=by
  unfold idxs iJ
  have:((i+1:Int) - i).toNat=1:=by omega
  simp[this]
 unfold mR
 cases hl:l.getLast? with
 | none=>
  have hn:l=[]:=List.getLast?_eq_none_iff.1 hl;subst hn;exact⟨by rw[h1];rfl,fun r hr=>by rw[List.mem_singleton.1 hr];show i≤i+1;omega⟩
 | some r=>
  dsimp only;obtain⟨ys,hys⟩:=List.getLast?_eq_some_iff.1 hl;subst hys;by_cases hr:r.f1=i
  ·rw[if_pos hr,List.dropLast_concat];have hle:=h r (by simp);refine⟨?_,fun q hq=>?_⟩
   ·rw[xu,xu,List.append_assoc]
    congr 1
    unfold idxs iJ
    have e:((r.f1+1) - r.f0).toNat=(r.f1 - r.f0).toNat+1:=by omega
    simp only[List.flatMap_cons,List.flatMap_nil,List.append_nil];rw[e,List.range_succ,List.map_append]
    congr 1
    simp;omega
   ·rcases List.mem_append.1 hq with hq|hq
    ·exact h q (by simp[hq])
    ·rw[List.mem_singleton.1 hq];show r.f0≤r.f1+1;omega
  ·rw[if_neg hr];refine⟨by rw[xu,h1],fun q hq=>?_⟩
   rcases List.mem_append.1 hq with hq|hq
   ·exact h q hq
   ·rw[List.mem_singleton.1 hq];show i≤i+1;omega
theorem GK (old goal:DF):∀(l pre:List Int) (s:List Rn × List Int),(pre++l).Nodup→(∀r∈s.1,r.f0≤r.f1)→s.2.length=512*(idxs s.1).length→512*(pre++l).length≤goal.f5.length→(∀j∈idxs s.1,j∈pre) →
  (∀r∈(fP old goal l pre.length s).1,r.f0≤r.f1)∧(∀j,j∉l→GJ (idxs (fP old goal l pre.length s).1) (fP old goal l pre.length s).2 j=GJ (idxs s.1) s.2 j) ∧
  ∀k (hk:k<l.length),GJ (idxs (fP old goal l pre.length s).1) (fP old goal l pre.length s).2 l[k]=if newAt old goal (pre.length+k) l[k]=true then some (dI goal.f5 (pre.length+k)) else none
 | [],pre,s,_,hu,_,_,_=>⟨hu,fun _ _=>rfl,fun k hk=>absurd hk (by simp)⟩
 | i::l,pre,s,hn,hu,hd,hg,hs=>by
  obtain⟨s2,hs2⟩:∃s2,(if newAt old goal pre.length i=true then (mR s.1 i,s.2++dI goal.f5 pre.length) else s)=s2:=⟨_,rfl⟩
  have hgo:fP old goal (i::l) pre.length s=fP old goal l (pre++[i]).length s2:=by
   rw[← hs2,List.length_append,List.length_singleton];rfl
  have hbl:(dI goal.f5 pre.length).length=512:=fK (by simp only[List.length_append,List.length_cons] at hg;omega)
  have ac2:i∉pre:=fun h=>by
   have:=(List.nodup_append.1 hn).2.2 i h i (by simp);exact this rfl
  have hil:i∉l:=(List.nodup_cons.1 (List.nodup_append.1 hn).2.1).1
  have H:(∀r∈s2.1,r.f0≤r.f1)∧s2.2.length=512*(idxs s2.1).length∧(∀j∈idxs s2.1,j∈pre++[i])∧∀j,GJ (idxs s2.1) s2.2 j=if newAt old goal pre.length i=true∧i=j then some (dI goal.f5 pre.length) else GJ (idxs s.1) s.2 j:=by
   by_cases hnew:newAt old goal pre.length i=true
   ·rw[if_pos hnew] at hs2;obtain⟨e1,e2⟩:=Nk (i:=i) hu;rw[← hs2];refine⟨e2,?_,fun j hj=>?_,fun j=>?_⟩
    ·show (s.2++_).length=512*(idxs (mR s.1 i)).length
     rw[e1,List.length_append,List.length_append,hd,hbl,List.length_singleton];omega
    ·have hj:j∈idxs (mR s.1 i):=hj;rw[e1] at hj
     rcases List.mem_append.1 hj with hj|hj
     ·exact List.mem_append_left _ (hs j hj)
     ·exact List.mem_append_right _ hj
    ·show GJ (idxs (mR s.1 i)) (s.2++_) j=_
     rw[e1,Tv hd hbl];by_cases hij:i=j
     ·rw[if_pos hij,if_pos ⟨hnew,hij⟩]
     ·rw[if_neg hij,if_neg (fun h=>hij h.2)]
   ·rw[if_neg hnew] at hs2;rw[← hs2];exact⟨hu,hd,fun j hj=>List.mem_append_left _ (hs j hj),fun j=>by rw[if_neg (fun h=>hnew h.1)]⟩
  obtain⟨u2,d2,m2,b2⟩:=H;obtain⟨r1,r2,r3⟩:=GK old goal l (pre++[i]) s2 (by rw[List.append_assoc];exact hn) u2 d2 (by rw[List.append_assoc];exact hg) m2;rw[hgo];refine⟨r1,fun j hj=>?_,fun k hk=>?_⟩
  ·rw[r2 j (fun h=>hj (by simp[h])),b2,if_neg (fun h=>hj (by simp[h.2]))]
  ·cases k with
   | zero=>
    show GJ _ _ i=_
    rw[r2 i hil,b2];by_cases hnew:newAt old goal pre.length i=true
    ·rw[if_pos ⟨hnew,rfl⟩]
     show _=if newAt old goal (pre.length+0) i=true then _ else none
     rw[Nat.add_zero,if_pos hnew]
    ·rw[if_neg (fun h=>hnew h.1)]
     show _=if newAt old goal (pre.length+0) i=true then _ else none
     rw[Nat.add_zero,if_neg hnew];unfold GJ;rw[Di (fun h=>ac2 (hs i h))];rfl
   | succ k=>
    have h3:=r3 k (by simpa using hk)
    have e:(pre++[i]).length+k=pre.length+(k+1):=by rw[List.length_append,List.length_singleton];omega
    rw[e] at h3;exact h3
theorem Tw {old goal:DF} {k:Nat} {i:Int} (h:¬newAt old goal k i=true):jY old.f4 old.f5 i=some (dI goal.f5 k):=by
 unfold newAt at h;unfold jY
 cases hl:iZ (idxs old.f4) 0 i with
 | none=>rw[hl] at h;exact absurd rfl h
 | some j=>
  rw[hl] at h;dsimp only at h;rw[Option.map_some]
  congr 1
  exact Classical.byContradiction fun hne=>h (decide_eq_true hne)
theorem yL (old goal:DF) (hn:(idxs goal.f4).Nodup) (hg:goal.f5.length=512*(idxs goal.f4).length):∀(d k:Nat),k+d=(idxs goal.f4).length→cZ old (qx old goal) ((idxs goal.f4).drop k)=some (goal.f5.drop (512*k))
 | 0,k,h=>by
  rw[List.drop_of_length_le (by omega),List.drop_of_length_le (by omega)];rfl
 | d+1,k,h=>by
  have hk:k<(idxs goal.f4).length:=by omega
  obtain⟨_,_,h3⟩:=GK old goal (idxs goal.f4) [] ([],[]) hn (fun r hr=>by cases hr) rfl (by rw[hg];simp) (fun j hj=>by cases hj);have hb:=h3 k hk;simp only[List.length_nil,Nat.zero_add] at hb;have ih:=yL old goal hn hg d (k+1) (by omega);rw[List.drop_eq_getElem_cons hk,cZ]
  have e:jY (qx old goal).f2 (qx old goal).f1.f5 (idxs goal.f4)[k]=if newAt old goal k (idxs goal.f4)[k]=true then some (dI goal.f5 k) else none:=hb
  have hdrop:goal.f5.drop (512*k)=dI goal.f5 k++goal.f5.drop (512*(k+1)):=by
   unfold dI;rw[show 512*(k+1)=512*k+512 by omega,← List.drop_drop,List.take_append_drop]
  rw[e];by_cases hnew:newAt old goal k (idxs goal.f4)[k]=true
  ·rw[if_pos hnew];dsimp only;rw[ih,hdrop];rfl
  ·rw[if_neg hnew];dsimp only;rw[Tw hnew];dsimp only;rw[ih,hdrop];rfl
theorem MB {old goal:DF} (h1:old.f0=1) (hn:(idxs goal.f4).Nodup) (hg:goal.f5.length=512*(idxs goal.f4).length):qC old (qx old goal)=some ⟨1,goal.f1,⟨#[]⟩,goal.f3,goal.f4,goal.f5⟩:=by
 have h:=yL old goal hn hg (idxs goal.f4).length 0 (by omega);rw[List.drop_zero,Nat.mul_zero,List.drop_zero] at h;unfold qC;rw[if_neg (fun h=>h h1)]
 show (cZ old (qx old goal) (idxs goal.f4)).map _=_
 rw[h];rfl
end Go.Proofs.YtknihldkhedpkaaGreatDoor
end
section
namespace Go.Proofs.YtknihldkhedpkaaGreatDoor
open Go.RowKit Go.Lib
open Go.Proofs.YtknihldkhedpkaaGreatDoorW.PrintWords Go.Proofs.YtknihldkhedpkaaGreatDoorW.PrintLast Go.Proofs.YtknihldkhedpkaaGreatDoor.PT
def ko (x:It):ByteArray:=jq 47 0 x.f1
def jL (L:Nat→List It) (p:Nat→Nat):Nat→Option ByteArray
 | 0=>none
 | i+1=>match (L i)[p i]? with
  | none=>jL L p i
  | some x=>match jL L p i with
   | none=>some (ko x)
   | some k=>if Op.bytesLess (ko x).toList k.toList=true then some (ko x) else some k
def eO (L:Nat→List It) (p:Nat→Nat) (k:ByteArray) (j:Nat):Option It :=
 match (L j)[p j]? with
 | none=>none
 | some x=>if (ko x).toList == k.toList then some x else none
def fB (L:Nat→List It) (p:Nat→Nat) (k:ByteArray) (j:Nat):Nat:=if (eO L p k j).isSome=true then p j+1 else p j
abbrev Rd:=ByteArray × Option It × Option It × Option It
def eY (L:Nat→List It):Nat→(Nat→Nat)→List Rd
 | 0,_=>[]
 | n+1,p=>match jL L p 3 with
  | none=>[]
  | some k=>(k,eO L p k 0,eO L p k 1,eO L p k 2)::eY L n (fB L p k)
theorem rz {L:Nat→List It} {p:Nat→Nat}:∀{i:Nat} {k:ByteArray},jL L p i=some k→∃j x,j<i∧(L j)[p j]?=some x∧ko x=k
 | 0,k,h=>by cases h
 | i+1,k,h=>by
  rw[jL] at h
  cases hx:(L i)[p i]? with
  | none=>
   rw[hx] at h;obtain⟨j,x,hj,h1,h2⟩:=rz h;exact⟨j,x,by omega,h1,h2⟩
  | some x=>
   rw[hx] at h
   cases hk:jL L p i with
   | none=>
    rw[hk] at h;exact⟨i,x,by omega,hx,Option.some.inj h⟩
   | some k0=>
    rw[hk] at h;dsimp only at h;split at h
    ·exact⟨i,x,by omega,hx,Option.some.inj h⟩
    ·obtain⟨j,y,hj,h1,h2⟩:=rz hk;exact⟨j,y,by omega,h1,h2.trans (Option.some.inj h)⟩
def jO (L:Nat→List It) (p:Nat→Nat):Nat:=((L 0).length - p 0)+((L 1).length - p 1)+((L 2).length - p 2)
theorem uR {L:Nat→List It} {p:Nat→Nat} {k:ByteArray} (h:jL L p 3=some k):jO L (fB L p k)<jO L p:=by
 obtain⟨j,x,hj,h1,h2⟩:=rz h
 have hm:∀i,p i≤fB L p k i:=fun i=>by unfold fB;split <;> omega
 have hlt:p j<(L j).length:=by
  rcases Nat.lt_or_ge (p j) (L j).length with h|h
  ·exact h
  ·rw[List.getElem?_eq_none h] at h1;cases h1
 have hn:fB L p k j=p j+1:=by
  unfold fB eO;rw[h1];dsimp only;subst h2;simp
 have h0:=hm 0;have h1':=hm 1;have h2':=hm 2;unfold jO
 rcases (show j=0∨j=1∨j=2 by omega) with rfl|rfl|rfl <;> omega
structure nL where
 key:ByteArray
 g:Nat
 a:Option It
 b:Option It
 c:Option It
def nL.rd (x:nL):Rd:=(x.key,x.a,x.b,x.c)
def encR (x:nL):Array Value:=#[.string x.key,.slice (some ⟨x.g,0,none⟩) 3 3]
def QA (rs:List Rd) (w0:World) (pre:List nL) (x:nL) (W:World):Prop :=
 (∃rest,rs=pre.map nL.rd++x.rd::rest)∧∃p0 p1 p2,W.heap[x.g]?=some (.cells #[p0,p1,p2] 95 (0,0))∧OI w0 p0 x.a∧OI w0 p1 x.b∧OI w0 p2 x.c
structure yj (B:Nat) (A C:World):Prop where
 os:C.os=A.os
 tape:C.tape=A.tape
 output:C.output=A.output
 size:A.heap.size≤C.heap.size
 blocks:∀k,k<A.heap.size→C.heap[k]?=A.heap[k]?∨(B≤k∧∃cs cs' t,(t=3∨t=95)∧A.heap[k]?=some (.cells cs t (0,0))∧C.heap[k]?=some (.cells cs' t (0,0)))
theorem yj.below {B:Nat} {A C:World} (h:Below A.heap.size A C):yj B A C:=⟨h.os,h.tape,h.output,h.size,fun k hk=>.inl (h.block k hk)⟩
theorem yj.refl (B:Nat) (A:World):yj B A A:=yj.below (Below.refl _ _)
theorem yj.trans {B:Nat} {X Y Z:World} (h:yj B X Y) (k:yj B Y Z):yj B X Z:=⟨k.os.trans h.os,k.tape.trans h.tape,k.output.trans h.output,Nat.le_trans h.size k.size,fun i hi=>by
 rcases h.blocks i hi with e|⟨hB,cs,cs',t,ht,e,e'⟩
 ·rcases k.blocks i (Nat.lt_of_lt_of_le hi h.size) with f|⟨hB,cs,cs',t,ht,f,f'⟩
  ·exact .inl (f.trans e)
  ·exact .inr ⟨hB,cs,cs',t,ht,e▸f,f'⟩
 ·rcases k.blocks i (Nat.lt_of_lt_of_le hi h.size) with f|⟨_,ds,ds',t',ht',f,f'⟩
  ·exact .inr ⟨hB,cs,cs',t,ht,e,f.trans e'⟩
  ·rw[e'] at f
   injection f with f
   injection f with f1 f2
   subst f2
   exact .inr ⟨hB,cs,ds',t,ht,e,f'⟩⟩
theorem yj.set {B:Nat} {A:World} {g t:Nat} {cs:Array Value} (h:A.heap[g]?=some (.cells cs t (0,0))) (ht:t=3∨t=95) (hB:B≤g) (j:Nat) (u:Value):yj B A (A.setCell ⟨g,j,none⟩ u):=by
 have hb:=(Below.refl 0 A).setCell (p:=⟨g,j,none⟩) (Nat.zero_le _) u;refine⟨hb.os,hb.tape,hb.output,hb.size,fun k hk=>?_⟩;by_cases e:k=g
 ·subst e;exact .inr ⟨hB,cs,_,t,ht,h,dD h j u⟩
 ·exact .inl (Below.heap_setCell A ⟨g,j,none⟩ u k e)
theorem yj.low {B n:Nat} {A C w0:World} (h:yj B A C) (hn:n≤B) (hb:Below n w0 A) (hw:n≤w0.heap.size):Below n w0 C :=
 ⟨h.os.trans hb.os,h.tape.trans hb.tape,h.output.trans hb.output,Nat.le_trans hb.size h.size,fun k hk=>by
  rcases h.blocks k (by have:=hb.size;omega) with e|⟨hB,_⟩
  ·exact e.trans (hb.block k hk)
  ·omega⟩
theorem yj.keep {B:Nat} {A C:World} (h:yj B A C) {g t:Nat} {cs:Array Value} (hg:A.heap[g]?=some (.cells cs t (0,0))) (hB:g<B):C.heap[g]?=some (.cells cs t (0,0)):=by
 rcases h.blocks g (bD hg) with e|⟨hB',_⟩
 ·exact e.trans hg
 ·omega
structure KpR (n0:Nat) (S:Nat→Prop) (A C:World):Prop where
 low:Below n0 A C
 same:∀k,S k→C.heap[k]?=A.heap[k]?
 nums:∀(k:Nat) (cs:Array Value),A.heap[k]?=some (Obj.cells cs 3 (0,0))→C.heap[k]?=some (Obj.cells cs 3 (0,0))
structure Am (L:Nat→List It) (A:Nat→Option Addr) (c:Nat→Nat) (w0:World) (b1 b2 br:Nat) (wx:World):Prop where
 low:Below w0.heap.size w0 wx
 x1:wx.heap[b1]?=some (.cells #[.func (.func 51) #[] #[]] 93 (0,0))
 x2:wx.heap[b2]?=some (.cells #[.slice (some ⟨br,0,none⟩) 3 3] 75 (0,0))
 xr:wx.heap[br]?=some (.cells #[.slice (A 0) (L 0).length (c 0),.slice (A 1) (L 1).length (c 1),.slice (A 2) (L 2).length (c 2)] 25 (0,0))
section
variable {L : Nat → List It} {A : Nat → Option Addr} {c : Nat → Nat} {w0 : World} {b1 b2 br : Nat} {wx wy : World}
theorem Am.below (h:Am L A c w0 b1 b2 br wx) (hb:Below wx.heap.size wx wy):Am L A c w0 b1 b2 br wy :=
 ⟨h.low.trans (hb.mono h.low.size),aD h.x1 hb,aD h.x2 hb,aD h.xr hb⟩
theorem Am.st (h:Am L A c w0 b1 b2 br wx) {B:Nat} (hs:yj B wx wy) (h0:w0.heap.size≤B) (h1:b1<B) (h2:b2<B) (h3:br<B):Am L A c w0 b1 b2 br wy :=
 ⟨hs.low h0 h.low (Nat.le_refl _),hs.keep h.x1 h1,hs.keep h.x2 h2,hs.keep h.xr h3⟩
theorem Am.kp (h:Am L A c w0 b1 b2 br wx) (hk:KpR w0.heap.size (fun k=>k=b1∨k=b2∨k=br) wx wy):Am L A c w0 b1 b2 br wy :=
 ⟨h.low.trans hk.low,(hk.same _ (.inl rfl)).trans h.x1,(hk.same _ (.inr (.inl rfl))).trans h.x2,(hk.same _ (.inr (.inr rfl))).trans h.xr⟩
end
end Go.Proofs.YtknihldkhedpkaaGreatDoor
end
