import Derived.Test.YtknihldkhedpkaaGreatDoorUUG2
import Derived.Test.YtknihldkhedpkaaGreatDoorUUG7
import Derived.Test.YtknihldkhedpkaaGreatDoorUUG6
import Derived.Laws.CopyOwn
import Derived.Laws.Tables
set_option linter.all false
set_option maxHeartbeats 16000000
set_option maxRecDepth 100000
section
namespace Go.Proofs.YtknihldkhedpkaaGreatDoor
open Go.RowKit Go.Maps Go.WideAt
open Go.Proofs.YtknihldkhedpkaaGreatDoorW.PrintWords Go.Proofs.YtknihldkhedpkaaGreatDoorW.PrintLast Go.Proofs.YtknihldkhedpkaaGreatDoor.PT
structure Fits (x:EG):Prop where
 b:∀n∈x.f5,0≤n∧n≤255
 n:x.f5.length=512*(idxs x.f4).length
 r:∀r∈x.f4,0≤r.f0∧r.f0≤r.f1∧r.f1≤16522
 l:x.f4.length≤16523
 i:(idxs x.f4).length≤16523
theorem uW {a b:List Int} (ha:∀x∈a,0≤x∧x≤255) (hb:∀x∈b,0≤x∧x≤255):((strOfNums a).toList == (strOfNums b).toList)=decide (a=b):=by
 have hl:∀(a b:List Int),(∀x∈a,0≤x∧x≤255)→(∀x∈b,0≤x∧x≤255)→a.map (fun n=>UInt8.ofNat n.toNat)=b.map (fun n=>UInt8.ofNat n.toNat)→a=b:=by
  intro a
  induction a with
  | nil=>
   intro b _ _ h
   cases b with
   | nil=>rfl
   | cons=>cases h
  | cons x a ih=>
   intro b ha hb h
   cases b with
   | nil=>cases h
   | cons z b=>
    rw[List.map_cons,List.map_cons] at h
    injection h with h1 h2
    have h3:=congrArg UInt8.toNat h1;have hx:=ha x bK;have hz:=hb z bK;rw[UInt8.toNat_ofNat',UInt8.toNat_ofNat',Nat.mod_eq_of_lt aj,Nat.mod_eq_of_lt aj] at h3;rw[show x=z by omega,ih b (fun w hw=>ha w (by simp[hw])) (fun w hw=>hb w (by simp[hw])) h2]
 by_cases e:a=b
 ·subst e;simp
 rw[decide_eq_false e];refine beq_eq_false_iff_ne.2 (fun h=>e (hl a b ha hb ?_));rw[ByteArray.toList_eq,ByteArray.toList_eq] at h;exact h
theorem uR:∀{l:List Int} {n:Nat} {i:Int} {k:Nat},jC l n i=some k→k<n+l.length
 | [],_,_,_,h=>by cases h
 | x::l,n,i,k,h=>by
  unfold jC at h
  cases hc:jC l (n+1) i with
  | some j=>
   rw[hc] at h;obtain rfl:=Option.some.inj h;have:=uR hc;simp only[List.length_cons];omega
  | none=>
   rw[hc] at h;dsimp only at h;split at h
   ·obtain rfl:=Option.some.inj h;simp only[List.length_cons];omega
   cases h
theorem Fw {w:World} {A:Option Addr} {d:List Int} {k:Nat} (h:Kd.C (Kd.int .u8) w A d.length d) (hk:512*(k+1)≤d.length):Kd.C (Kd.int .u8) w (A.map (·.add (512*k))) 512 (dS d k):=by
 have h1:=Kd.acE (lo:=512*k) (hi:=512*k+512) (c:=d.length) h aj aj (Nat.le_refl _);rw[if_neg aj,show (Kd.int .u8).sz=1 from rfl,Nat.mul_one] at h1
 have h2:(d.take (512*k+512)).drop (512*k)=dS d k:=by
  unfold dS;rw[List.drop_take]
  congr 1
  omega
 rw[h2,gD hk] at h1;exact h1
theorem C8 {w:World} {base:Nat} {ok:Nat→Prop} {v:Value} {xs:List Int} (h:Kd.R (Kd.int .u8) 5 w base ok v xs):Kd.R (Kd.int .u8) 5 w base (fun k=>v.ownBlock=some k) v xs:=by
 obtain⟨h0,inner,ho,hr⟩:=h;exact⟨fun k hk=>hk,inner,ho,hr.rJ (fun p c hp=>hp)⟩
theorem nQ {w:World} {base:Nat} {ok:Nat→Prop} {v:Value} {xs:List Rn} (h:Kd.R dB 117 w base ok v xs):Kd.R dB 117 w base (fun k=>v.ownBlock=some k) v xs:=by
 obtain⟨h0,inner,ho,hr⟩:=h;exact⟨fun k hk=>hk,inner,ho,hr.rJ (fun p c hp=>hp)⟩
theorem zW {w:World} {base:Nat} {ok:Nat→Prop} {v:Value} {xs:List Int} (h:Kd.R (Kd.int .u8) 5 w base ok v xs):Kd.R (Kd.int .u8) 5 w base (fun _=>True) v xs:=Kd.dU h (fun _ _=>trivial)
theorem sH {w:World} {base:Nat} {ok:Nat→Prop} {v:Value} {xs:List Rn} (h:Kd.R dB 117 w base ok v xs):Kd.R dB 117 w base (fun _=>True) v xs:=Kd.dU h (fun _ _=>trivial)
theorem kU.others {P:Program} {k:TypeId} {w w1:World} {b n:Nat} {F:Lit→Option Value} (h:kU P k w b n F) (hs:∀(o:Obj),w.heap[b]?=some o→o.isCells=false→w1.heap[b]?=some o):kU P k w1 b n F:=by
 obtain⟨D,⟨es,clock,h1,h2,h3,h4⟩,hat⟩:=h;exact kU.same ⟨D,⟨es,clock,h1,h2,h3,h4⟩,hat⟩ ((hs _ h1 rfl).trans h1.symm)
structure MC (w:World) (mb p n:Nat) (F:Lit→Option Value) (path:ByteArray) (sz:Int) (v5:Value) (wO:List Rn) (rb:Nat) (rcs:Array Value) (rt:TypeId) (v6 v7:Value) (st:List Rn × List Int) (wx:World):Prop where
 low:Below w.heap.size w wx
 map:kU Tryz.prog 3 wx mb n F
 box:wx.heap[p]?=some (.cells #[.int .i64 3,.int .i64 1,.string path,.string ⟨#[]⟩,.int .i64 sz,v5,v6,v7] 31 (0,0))
 res:wx.heap[w.heap.size+2]?=some (.cells #[.int .i64 0,.int .i64 0,.string ⟨#[]⟩,.string ⟨#[]⟩,.int .i64 0,.slice none 0 0,.slice none 0 0,.slice none 0 0] 31 (0,0))
 Vx:wx.heap[rb]?=some (.cells rcs rt (0,0))
 runs:Kd.R dB 117 wx w.heap.size (fun _=>True) v5 wO
 data:Kd.R (Kd.int .u8) 5 wx w.heap.size (fun _=>True) v6 st.2
 set:Kd.R dB 117 wx w.heap.size (fun k=>some k≠v5.ownBlock∧k≠rb) v7 st.1
 hp:w.heap.size+2<p
 hr:rb≠p∧rt≠5
section
variable {w : World} {mb p n : Nat} {F : Lit → Option Value} {path : ByteArray} {sz : Int} {v5 : Value} {wO : List Rn} {rb : Nat} {rcs : Array Value} {rt : TypeId} {v6 v7 : Value} {st : List Rn × List Int} {wx : World}
theorem MC.below {w1:World} (h:MC w mb p n F path sz v5 wO rb rcs rt v6 v7 st wx) (hb:Below wx.heap.size wx w1):MC w mb p n F path sz v5 wO rb rcs rt v6 v7 st w1 :=
 ⟨h.low.trans (hb.mono h.low.size),h.map.below hb,aG h.box hb,aG h.res hb,aG h.Vx hb,Kd.dF h.runs hb,Kd.dF h.data hb,Kd.dF h.set hb,h.hp,h.hr⟩
theorem MC.V3 (h:MC w mb p n F path sz v5 wO rb rcs rt v6 v7 st wx) (cs:Array Value):MC w mb p n F path sz v5 wO wx.heap.size cs 117 v6 v7 st (wx.alloc (.cells cs 117)):=by
 have hb:=(Below.refl wx.heap.size wx).alloc (Nat.le_refl _) (.cells cs 117);have h1:=h.below hb;have hlt:=bE h.box;exact⟨h1.low,h1.map,h1.box,h1.res,bJ _ _,h1.runs,h1.data,Kd.dU (Kd.dF (nQ h.set) hb) (fun k hk=>⟨(h.set.1 k hk).1,by have:=Kd.Jp h.set k hk;omega⟩),h1.hp,by omega,by decide⟩
theorem MC.back (h:MC w mb p n F path sz v5 wO rb rcs rt v6 v7 st wx):MC w mb p n F path sz v5 wO (w.heap.size+2) #[.int .i64 0,.int .i64 0,.string ⟨#[]⟩,.string ⟨#[]⟩,.int .i64 0,.slice none 0 0,.slice none 0 0,.slice none 0 0] 31 v6 v7 st wx :=
 ⟨h.low,h.map,h.box,h.res,h.res,h.runs,h.data,Kd.dU (nQ h.set) (fun k hk=>⟨(h.set.1 k hk).1,fun e=>Kd.uJ h.set h.res aD (by rw[← e];exact hk.symm)⟩),h.hp,by have:=h.hp;omega,by decide⟩
theorem MC.join {w1:World} {v8:Value} {l:List Rn} (h:MC w mb p n F path sz v5 wO rb rcs rt v6 v7 st wx) (hb:Below w.heap.size w w1) (hk:Kept wx w1 (fun k=>v7.ownBlock=some k)) (hr:Kd.R dB 117 w1 w.heap.size (fun k=>v7.ownBlock=some k∨wx.heap.size≤k) v8 l) :
  MC w mb p n F path sz v5 wO rb rcs rt v6 v8 (l,st.2) (w1.setCell ⟨p,7,none⟩ v8):=by
 have hoth:∀k (o:Obj),wx.heap[k]?=some o→(∀cs,o≠.cells cs 117 (0,0))→w1.heap[k]?=some o:=fun k o ho hne=>
  (hk.2 k (bE ho) (fun hp=>by
   obtain⟨cs,hc⟩:=Kd.Ba h.set k hp;rw[ho] at hc
   exact hne cs (Option.some.inj hc))).trans ho
 have eH:=hoth p _ h.box (fun cs e=>by injection e with _ e;exact absurd e aD);have hres:=hoth _ _ h.res (fun cs e=>by injection e with _ e;exact absurd e aD);have hrb:w1.heap[rb]?=_:=(hk.2 rb (bE h.Vx) (fun hp=>(h.set.1 rb hp).2 rfl)).trans h.Vx;have hp:=h.hp;refine⟨hb.setCell (by show w.heap.size≤p;omega) _,?_,?_,?_,?_,?_,?_,?_,h.hp,h.hr⟩
 ·refine h.map.others (fun o ho hc=>?_);have h5:=hoth mb _ ho (fun cs e=>by rw[e] at hc;cases hc)
  have hne:mb≠p:=fun e=>by
   rw[e,eH] at h5;obtain rfl:=Option.some.inj h5;cases hc
  exact (Below.heap_setCell w1 ⟨p,7,none⟩ v8 mb hne).trans h5
 ·exact iC eH 7 v8 (by rfl)
 ·exact iL hres (by show w.heap.size+2≠p;omega) _
 ·exact iL hrb h.hr.1 _
 ·exact sH (Kd.iP (Kd.ou (nQ h.runs) (fun k ho hlt=>hk.2 k hlt (fun hp=>(h.set.1 k hp).1 ho.symm))) eH (by intro q hq;simp[dB,Kd.Po,Kd.pair,Kd.int,Kd.scalar] at hq;subst hq;decide) 7 v8)
 ·refine zW (Kd.iP (Kd.ou (C8 h.data) (fun k ho hlt=>?_)) eH (by intro q hq;simp[Kd.int,Kd.scalar] at hq;subst hq;decide) 7 v8);obtain⟨cs,hc⟩:=Kd.Ba h.data k ho;exact (hoth k _ hc (fun cs e=>by injection e with _ e;exact absurd e aD)).trans hc.symm
 refine Kd.iP (Kd.dU hr (fun k hk2=>?_)) eH (by intro q hq;simp[dB,Kd.Po,Kd.pair,Kd.int,Kd.scalar] at hq;subst hq;decide) 7 v8
 rcases hk2 with h1|h1
 ·exact h.set.1 k h1
 have h2:=bE h.Vx;refine⟨fun e=>?_,by omega⟩;have:=Kd.Jp h.runs k e.symm;omega
theorem MC.append {w1:World} {v8:Value} {l:List Int} (h:MC w mb p n F path sz v5 wO rb rcs rt v6 v7 st wx) (hb:Below w.heap.size w w1) (hg:wx.grownBy w1 v6.ownBlock) (hr:Kd.R (Kd.int .u8) 5 w1 w.heap.size (fun _=>True) v8 l) :
  MC w mb p n F path sz v5 wO rb rcs rt v8 v7 (st.1,l) (w1.setCell ⟨p,6,none⟩ v8):=by
 have hoth:∀k (o:Obj),wx.heap[k]?=some o→(∀cs,o≠.cells cs 5 (0,0))→w1.heap[k]?=some o:=fun k o ho hne=>
  (hg.block k (bE ho) (fun e=>by
   obtain⟨cs,hc⟩:=Kd.Ba h.data k e.symm;rw[ho] at hc
   exact hne cs (Option.some.inj hc))).trans ho
 have eH:=hoth p _ h.box (fun cs e=>by injection e with _ e;exact absurd e aD);have hres:=hoth _ _ h.res (fun cs e=>by injection e with _ e;exact absurd e aD);have hrb:=hoth _ _ h.Vx (fun cs e=>by injection e with _ e;exact absurd e h.hr.2);have hp:=h.hp;refine⟨hb.setCell (by show w.heap.size≤p;omega) _,?_,?_,?_,?_,?_,?_,?_,h.hp,h.hr⟩
 ·refine h.map.others (fun o ho hc=>?_);have h5:=hoth mb _ ho (fun cs e=>by rw[e] at hc;cases hc)
  have hne:mb≠p:=fun e=>by
   rw[e,eH] at h5;obtain rfl:=Option.some.inj h5;cases hc
  exact (Below.heap_setCell w1 ⟨p,6,none⟩ v8 mb hne).trans h5
 ·exact iC eH 6 v8 (by rfl)
 ·exact iL hres (by show w.heap.size+2≠p;omega) _
 ·exact iL hrb h.hr.1 _
 ·exact Kd.iP (Kd.PO h.runs h.data (by intro q hq;simp[dB,Kd.Po,Kd.pair,Kd.int,Kd.scalar] at hq;subst hq;decide) hg) eH (by intro q hq;simp[dB,Kd.Po,Kd.pair,Kd.int,Kd.scalar] at hq;subst hq;decide) 6 v8
 ·exact Kd.iP hr eH (by intro q hq;simp[Kd.int,Kd.scalar] at hq;subst hq;decide) 6 v8
 exact Kd.iP (Kd.PO h.set h.data (by intro q hq;simp[dB,Kd.Po,Kd.pair,Kd.int,Kd.scalar] at hq;subst hq;decide) hg) eH (by intro q hq;simp[dB,Kd.Po,Kd.pair,Kd.int,Kd.scalar] at hq;subst hq;decide) 6 v8
end
theorem Xm (x y:EG) (X4:Option Addr) (DL:Nat) (X5:Option Addr) (DN:Nat) (Y4:Option Addr) (qE:Nat) (Y5:Option Addr) (qh:Nat) (w:World)
  (fx:Fits x) (fy:Fits y)
  (lx4:x.f4.length≤DL) (gx4:Kd.C dB w X4 x.f4.length x.f4) (lx5:x.f5.length≤DN) (gx5:Kd.C (Kd.int .u8) w X5 x.f5.length x.f5)
  (ly4:y.f4.length≤qE) (gy4:Kd.C dB w Y4 y.f4.length y.f4) (ly5:y.f5.length≤qh) (gy5:Kd.C (Kd.int .u8) w Y5 y.f5.length y.f5) :
  Calls Tryz.prog 53 #[.agg #[.int .i64 x.f0,.string x.f1,.string x.f2,.int .i64 x.f3,.slice X4 x.f4.length DL,.slice X5 x.f5.length DN],.agg #[.int .i64 y.f0,.string y.f1,.string y.f2,.int .i64 y.f3,.slice Y4 y.f4.length qE,.slice Y5 y.f5.length qh]] w fun e w'=>
   ∃v5 v6 v7,e=.returned (.agg #[.int .i64 3,.int .i64 1,.string y.f1,.string ⟨#[]⟩,.int .i64 y.f3,v5,v6,v7]) ∧
    Kd.R dB 117 w' w.heap.size (fun _=>True) v5 y.f4∧Kd.R (Kd.int .u8) 5 w' w.heap.size (fun _=>True) v6 (rz x y).f1.f5∧Kd.R dB 117 w' w.heap.size (fun _=>True) v7 (rz x y).f2∧Below w.heap.size w w':=by
 have FX:=ah.mk fx;have FY:=ah.mk fy;have GX4:=ah.mk gx4;have GX5:=ah.mk gx5;have GY4:=ah.mk gy4;have GY5:=ah.mk gy5;clear fx fy gx4 gx5 gy4 gy5
 go_enter Tryz.func53,Tryz.ntmps53
 go_wp2_with fail
 obtain⟨W3,hW3⟩:∃W3,W3=((w.alloc (.cells #[.int .i64 x.f0,.string x.f1,.string x.f2,.int .i64 x.f3,.slice X4 x.f4.length DL,.slice X5 x.f5.length DN] 29)).alloc (.cells #[.int .i64 y.f0,.string y.f1,.string y.f2,.int .i64 y.f3,.slice Y4 y.f4.length qE,.slice Y5 y.f5.length qh] 29)).alloc (.cells #[.int .i64 0,.int .i64 0,.string ⟨#[]⟩,.string ⟨#[]⟩,.int .i64 0,.slice none 0 0,.slice none 0 0,.slice none 0 0] 31):=⟨_,rfl⟩
 rw[← hW3]
 have hb3:Below w.heap.size w W3:=by rw[hW3];exact (((Below.refl _ _).alloc (Nat.le_refl _) _).alloc bK _).alloc (by simp;omega) _
 have hs3:W3.heap.size=w.heap.size+3:=by rw[hW3];simp
 have hk0:=aM (aM (bJ w (.cells #[.int .i64 x.f0,.string x.f1,.string x.f2,.int .i64 x.f3,.slice X4 x.f4.length DL,.slice X5 x.f5.length DN] 29)) (.cells #[.int .i64 y.f0,.string y.f1,.string y.f2,.int .i64 y.f3,.slice Y4 y.f4.length qE,.slice Y5 y.f5.length qh] 29)) (.cells #[.int .i64 0,.int .i64 0,.string ⟨#[]⟩,.string ⟨#[]⟩,.int .i64 0,.slice none 0 0,.slice none 0 0,.slice none 0 0] 31);rw[← hW3] at hk0;have HB3:=ah.mk hb3;have HW3:=ah.mk hW3;have PU:=ah.mk hk0;have hsp:=zS X4 DL x.f4 X5 x.f5.length DN W3 (Kd.aC GX4.out hb3) lx4 (by have:=FX.out.l;omega) FX.out.n lx5 (fun r hr=>⟨(FX.out.r r hr).1,(FX.out.r r hr).2.1,by have:=(FX.out.r r hr).2.2;omega⟩) (by have:=FX.out.i;omega);rw[hs3] at hsp;have HSP:=ah.mk hsp;clear hb3 hW3 hk0 hsp
 go_wp2_with (go_at_call 90;refine (HSP.out).mono ?_;rintro e w4 ⟨rfl,hv4,hb4⟩)
 have hk1:W3.heap[w.heap.size+1]?=some (.cells #[.int .i64 y.f0,.string y.f1,.string y.f2,.int .i64 y.f3,.slice Y4 y.f4.length qE,.slice Y5 y.f5.length qh] 29 (0,0)):=by
  rw[HW3.out];have hz:=bJ (w.alloc (.cells #[.int .i64 x.f0,.string x.f1,.string x.f2,.int .i64 x.f3,.slice X4 x.f4.length DL,.slice X5 x.f5.length DN] 29)) (.cells #[.int .i64 y.f0,.string y.f1,.string y.f2,.int .i64 y.f3,.slice Y4 y.f4.length qE,.slice Y5 y.f5.length qh] 29);rw[World.size_alloc] at hz;exact aM hz _
 have ae0:Below W3.heap.size W3 w4:=by rw[hs3];exact hb4
 have XY:=aG hk1 ae0;have y1:w4.cell? ⟨w.heap.size+1,1,none⟩=some (.string y.f1):=ak XY 1;have y3:w4.cell? ⟨w.heap.size+1,3,none⟩=some (.int .i64 y.f3):=ak XY 3;have y4:w4.cell? ⟨w.heap.size+1,4,none⟩=some (.slice Y4 y.f4.length qE):=ak XY 4;have jY:=ah.mk XY;have kJ:=ah.mk ae0;have HV4:=ah.mk hv4
 have hcl:∀W:World,Below W3.heap.size W3 W→Calls Tryz.prog 91 #[.slice Y4 y.f4.length qE] W fun e w'=>∃v,e=.returned v∧Kd.R dB 117 w' W.heap.size (fun _=>True) v y.f4∧Below W.heap.size W w':=fun W hW=>
  uI Y4 qE y.f4 W (Kd.aC GY4.out (HB3.out.trans (hW.mono HB3.out.size))) (by have:=FY.out.l;omega)
 have Na:=ah.mk hcl;clear hk1 ae0 XY hv4 hb4 hcl HSP;have hdr:=bA (Below.refl w4.heap.size w4)
 have hS:w4.drew.cell? ⟨w.heap.size+1,1,none⟩=some (.string y.f1)∧w4.drew.cell? ⟨w.heap.size+1,3,none⟩=some (.int .i64 y.f3)∧w4.drew.cell? ⟨w.heap.size+1,4,none⟩=some (.slice Y4 y.f4.length qE)∧ah (Below W3.heap.size W3 w4.drew):=⟨au hdr y1,au hdr y3,au hdr y4,⟨kJ.out.trans (hdr.mono kJ.out.size)⟩⟩
 obtain⟨W4,Yj⟩:∃W4,w4.drew=W4:=⟨_,rfl⟩
 have HD4:=ah.mk (show Below w4.heap.size w4 W4 from Yj▸hdr);clear y1 y3 y4 hdr;refine kY (n:=11) (S:=(fun w'=>w'.cell? ⟨w.heap.size+1,1,none⟩=some (.string y.f1)∧w'.cell? ⟨w.heap.size+1,3,none⟩=some (.int .i64 y.f3)∧w'.cell? ⟨w.heap.size+1,4,none⟩=some (.slice Y4 y.f4.length qE)∧ah (Below W3.heap.size W3 w'))) (ds:=[10]) (aQ 11 0) aA rfl rfl hS (fun hHeld=>?_);clear hS;rw[Yj] at hHeld ⊢;clear Yj;refine bR 0 19 (aQ 11 1) ?_;refine jv 1 20 (aQ 11 3) rfl hHeld (by rintro w' ⟨s1,s3,s4,s5⟩;go_simp;with_reducible rfl) ?_;refine bR 2 21 (aQ 11 7) ?_;refine jv 3 22 (aQ 11 15) rfl hHeld (by rintro w' ⟨s1,s3,s4,s5⟩;go_simp;with_reducible rfl) ?_;refine bR 4 23 (aQ 11 31) ?_;refine jv 5 24 (aQ 11 63) rfl hHeld (by rintro w' ⟨s1,s3,s4,s5⟩;go_simp;with_reducible rfl) ?_;refine abM (σ:=Option Addr × Nat × Nat) 1 (aQ 11 1023) (fun s=>[(25,.slice s.1 y.f4.length s.2.1),(26,.agg #[.int .i64 1,.string y.f1,.string ⟨#[]⟩,.int .i64 y.f3,.slice s.1 y.f4.length s.2.1,.slice none 0 0]),(27,.agg #[.int .i64 3,.int .i64 1,.string y.f1,.string ⟨#[]⟩,.int .i64 y.f3,.slice s.1 y.f4.length s.2.1,.slice none 0 0,.slice none 0 0]),(6,.pointer (some ⟨s.2.2,0,none⟩))]) (fun s w'=>Kd.R dB 117 w' W4.heap.size (fun _=>True) (.slice s.1 y.f4.length s.2.1) y.f4∧w'.heap[s.2.2]?=some (.cells #[.int .i64 0,.int .i64 0,.string ⟨#[]⟩,.string ⟨#[]⟩,.int .i64 0,.slice none 0 0,.slice none 0 0,.slice none 0 0] 31 (0,0))∧W4.heap.size≤s.2.2∧Below W4.heap.size W4 w') ?hcont (fun HC=>?_);rotate_left;refine afX (i:=6) (j:=9) (Ni:=some 25) (Nj:=some 6) (aQ 11 127) (aQ 11 575) rfl rfl rfl rfl aA aD aD (fun K hK=>?_) (fun K hK=>?_)
 ·refine qj Tryz.func91 #[.slice Y4 y.f4.length qE] ?_;refine (Na.out _ hHeld.2.2.2.out).mono ?_;rintro e w5 ⟨v5,rfl,oF,hb5⟩;obtain⟨Av5,cv5,hv5⟩:=Kd.bG oF;subst hv5;refine⟨_,rfl,?_⟩;have nD:=ah.mk oF;have kH:=ah.mk hb5;refine hK.out _ _ ⟨au hb5 hHeld.1,au hb5 hHeld.2.1,au hb5 hHeld.2.2.1,⟨hHeld.2.2.2.out.trans (hb5.mono hHeld.2.2.2.out.size)⟩⟩ ?_;clear oF hb5 hHeld hK K;intro hHeld;refine fU 25 ?_;refine bR 7 26 (aQ 11 255) ?_;refine bR 8 27 (aQ 11 511) ?_;refine mG 9 (some 6) (aQ 11 1023) (fun K hK=>?_);refine oN (v:=.pointer (some ⟨w5.heap.size,0,none⟩)) (w1:=w5.alloc (.cells #[.int .i64 0,.int .i64 0,.string ⟨#[]⟩,.string ⟨#[]⟩,.int .i64 0,.slice none 0 0,.slice none 0 0,.slice none 0 0] 31)) (by rfl) rfl aA ?_;have hal:=(Below.refl w5.heap.size w5).alloc (Nat.le_refl _) (.cells #[.int .i64 0,.int .i64 0,.string ⟨#[]⟩,.string ⟨#[]⟩,.int .i64 0,.slice none 0 0,.slice none 0 0,.slice none 0 0] 31);refine hK.out _ _ ⟨au hal hHeld.1,au hal hHeld.2.1,au hal hHeld.2.2.1,⟨hHeld.2.2.2.out.trans (hal.mono hHeld.2.2.2.out.size)⟩⟩ ?_;clear hal hHeld hK K;intro hHeld;refine HC ⟨Av5,cv5,w5.heap.size⟩ _ ⟨?_,?_,?_,?_⟩
  ·exact Kd.dF nD.out ((Below.refl _ _).alloc (Nat.le_refl _) _)
  ·exact bJ _ _
  ·exact kH.out.size
  exact kH.out.alloc kH.out.size _
 ·refine oN (v:=.pointer (some ⟨W4.heap.size,0,none⟩)) (w1:=W4.alloc (.cells #[.int .i64 0,.int .i64 0,.string ⟨#[]⟩,.string ⟨#[]⟩,.int .i64 0,.slice none 0 0,.slice none 0 0,.slice none 0 0] 31)) (by rfl) rfl aA ?_;have hal:=(Below.refl W4.heap.size W4).alloc (Nat.le_refl _) (.cells #[.int .i64 0,.int .i64 0,.string ⟨#[]⟩,.string ⟨#[]⟩,.int .i64 0,.slice none 0 0,.slice none 0 0,.slice none 0 0] 31);refine hK.out _ _ ⟨au hal hHeld.1,au hal hHeld.2.1,au hal hHeld.2.2.1,⟨hHeld.2.2.2.out.trans (hal.mono hHeld.2.2.2.out.size)⟩⟩ ?_;clear hal hHeld hK K;intro hHeld;refine fU 6 ?_;have YP:=ah.mk ((Below.refl W4.heap.size W4).alloc (Nat.le_refl _) (.cells #[.int .i64 0,.int .i64 0,.string ⟨#[]⟩,.string ⟨#[]⟩,.int .i64 0,.slice none 0 0,.slice none 0 0,.slice none 0 0] 31));have HNB:=ah.mk (bJ W4 (.cells #[.int .i64 0,.int .i64 0,.string ⟨#[]⟩,.string ⟨#[]⟩,.int .i64 0,.slice none 0 0,.slice none 0 0,.slice none 0 0] 31))
  obtain⟨W5,Ul⟩:∃W5,W4.alloc (.cells #[.int .i64 0,.int .i64 0,.string ⟨#[]⟩,.string ⟨#[]⟩,.int .i64 0,.slice none 0 0,.slice none 0 0,.slice none 0 0] 31)=W5:=⟨_,rfl⟩
  rw[Ul] at YP HNB hHeld ⊢;clear Ul;refine mG 6 (some 25) (aQ 11 639) (fun K hK=>?_);refine qj Tryz.func91 #[.slice Y4 y.f4.length qE] ?_;refine (Na.out _ hHeld.2.2.2.out).mono ?_;rintro e w5 ⟨v5,rfl,oF,hb5⟩;obtain⟨Av5,cv5,hv5⟩:=Kd.bG oF;subst hv5;refine⟨_,rfl,?_⟩;have nD:=ah.mk oF;have kH:=ah.mk hb5;refine hK.out _ _ ⟨au hb5 hHeld.1,au hb5 hHeld.2.1,au hb5 hHeld.2.2.1,⟨hHeld.2.2.2.out.trans (hb5.mono hHeld.2.2.2.out.size)⟩⟩ ?_;clear oF hb5 hHeld hK K;intro hHeld;refine fU 25 ?_;refine bR 7 26 (aQ 11 767) ?_;refine bR 8 27 (aQ 11 1023) ?_;refine HC ⟨Av5,cv5,W4.heap.size⟩ _ ⟨?_,?_,Nat.le_refl _,?_⟩
  ·exact Kd.fQ nD.out YP.out.size
  ·exact aG HNB.out kH.out
  exact YP.out.trans (kH.out.mono YP.out.size)
 rintro⟨A5,c5,p⟩ W5 ⟨oF,hk5,Vz,hb5⟩;dsimp only at oF hk5 Vz;have nD:=ah.mk oF;have sP:=ah.mk hk5;have kH:=ah.mk hb5;have IY:=ah.mk Vz;clear oF hk5 hb5 Vz;refine JH (a':=?_) ?_ ?_;rotate_left
 ·show zV _ [_,_,_,_]=_
  simp only[zV,Act.put,aYa,aYb,aYc];rfl
 refine lS (i:=10) (N:=none) (aQ 11 2047) rfl rfl aA aD (fun K hK=>?_);rw[if_pos (by rfl)];refine wp_store_row 31 (.tmp 6) (.tmp 27) rfl p #[.int .i64 3,.int .i64 1,.string y.f1,.string ⟨#[]⟩,.int .i64 y.f3,.slice A5 y.f4.length c5,.slice none 0 0,.slice none 0 0] rfl rfl 31 _ sP.out aA (by rfl) (by simp[Value.oneCell']) ?_;refine hK.out _ _ ?_;clear hK K;refine JH (a':=?_) ?_ ?_;rotate_left
 ·show Act.put _ none _=_
  simp only[Act.put];rfl
 refine kK aA ?_;have h34:W3.heap.size≤w4.heap.size:=kJ.out.size;have h44:w4.heap.size≤W4.heap.size:=HD4.out.size;have Vz:=IY.out
 have hp6:w.heap.size+3<p:=by
  have:=HV4.out.lt;omega
 have h46:Below w4.heap.size w4 W5:=HD4.out.trans (kH.out.mono h44);have h36:Below W3.heap.size W3 W5:=kJ.out.trans (h46.mono h34);have h06:Below w.heap.size w W5:=HB3.out.trans (h36.mono aj);have oF:=nD.out
 have PV:MC w (w.heap.size+3) p (idxs x.f4).length (sM X5 (idxs x.f4)) y.f1 y.f3 (.slice A5 y.f4.length c5) y.f4 (w.heap.size+2) #[.int .i64 0,.int .i64 0,.string ⟨#[]⟩,.string ⟨#[]⟩,.int .i64 0,.slice none 0 0,.slice none 0 0,.slice none 0 0] 31 (.slice none 0 0) (.slice none 0 0) ([],[]) (W5.setRow p #[.int .i64 3,.int .i64 1,.string y.f1,.string ⟨#[]⟩,.int .i64 y.f3,.slice A5 y.f4.length c5,.slice none 0 0,.slice none 0 0]):=by
  have hres:(W5.setRow p #[.int .i64 3,.int .i64 1,.string y.f1,.string ⟨#[]⟩,.int .i64 y.f3,.slice A5 y.f4.length c5,.slice none 0 0,.slice none 0 0]).heap[w.heap.size+2]?=some (.cells #[.int .i64 0,.int .i64 0,.string ⟨#[]⟩,.string ⟨#[]⟩,.int .i64 0,.slice none 0 0,.slice none 0 0,.slice none 0 0] 31 (0,0)):=by
   rw[setRow_other _ _ _ _ aj];refine aG ?_ h36;rw[HW3.out];have hz:=bJ ((w.alloc (.cells #[.int .i64 x.f0,.string x.f1,.string x.f2,.int .i64 x.f3,.slice X4 x.f4.length DL,.slice X5 x.f5.length DN] 29)).alloc (.cells #[.int .i64 y.f0,.string y.f1,.string y.f2,.int .i64 y.f3,.slice Y4 y.f4.length qE,.slice Y5 y.f5.length qh] 29)) (.cells #[.int .i64 0,.int .i64 0,.string ⟨#[]⟩,.string ⟨#[]⟩,.int .i64 0,.slice none 0 0,.slice none 0 0,.slice none 0 0] 31);rw[World.size_alloc,World.size_alloc] at hz;exact hz
  refine⟨below_setRow h06 aj _,?_,setRow_heap _ _ _ _ _ _ sP.out,hres,hres,?_,Kd.eY _ _ _ _ _,Kd.eY _ _ _ _ _,by omega,by omega,by decide⟩
  ·refine (HV4.out.below h46).same ?_;exact setRow_other _ _ _ _ aj
  refine sH (Kd.ou (Kd.fQ (nQ oF) aj) (fun k ho hlt=>setRow_other _ _ _ _ (fun e=>?_)));exact Kd.uJ oF sP.out aD (by rw[← e];exact ho.symm)
 have q5:(W5.setRow p #[.int .i64 3,.int .i64 1,.string y.f1,.string ⟨#[]⟩,.int .i64 y.f3,.slice A5 y.f4.length c5,.slice none 0 0,.slice none 0 0]).cell? ⟨w.heap.size+1,5,none⟩=some (.slice Y5 y.f5.length qh) :=
  (cell_setRow_other _ _ _ _ (by show w.heap.size+1≠p;omega)).trans (ak (aG jY.out h46) 5)
 have q4:(W5.setRow p #[.int .i64 3,.int .i64 1,.string y.f1,.string ⟨#[]⟩,.int .i64 y.f3,.slice A5 y.f4.length c5,.slice none 0 0,.slice none 0 0]).cell? ⟨w.heap.size+1,4,none⟩=some (.slice Y4 y.f4.length qE) :=
  (cell_setRow_other _ _ _ _ (by show w.heap.size+1≠p;omega)).trans (ak (aG jY.out h46) 4)
 obtain⟨W6,YO⟩:∃W6,W5.setRow p #[.int .i64 3,.int .i64 1,.string y.f1,.string ⟨#[]⟩,.int .i64 y.f3,.slice A5 y.f4.length c5,.slice none 0 0,.slice none 0 0]=W6:=⟨_,rfl⟩
 rw[YO] at PV q5 q4 ⊢;have HE:=ah.mk PV
 obtain⟨v5,hv5⟩:∃v5,Value.slice A5 y.f4.length c5=v5:=⟨_,rfl⟩
 rw[hv5] at HE ⊢;clear PV YO h34 h44 Vz h46 h36 h06 oF PU kJ HW3 jY HV4 Na HD4 nD sP kH IY;clear hs3 hv5
 go_wp2_with fail
 have HN:=ah.mk FY.out.n;have Nb:=FY.out.l;obtain⟨i0,hi0,_,hz1,_⟩:=info_parts info5;have hlc:=ly5
 go_loopg [7,33] y.f4.length (fun g s7 s33 wx=>∃(i:Nat) (a:Option Addr) (v6 v7:Value),i+g=y.f4.length∧s33=.int .i64 i∧s7=.slice a (y.f5.length - 512*(idxs (y.f4.take i)).length) (qh - 512*(idxs (y.f4.take i)).length)∧ah (512*(idxs (y.f4.take i)).length<qh→a=Y5.map (·.add (512*(idxs (y.f4.take i)).length)))∧ah (MC w (w.heap.size+3) p (idxs x.f4).length (sM X5 (idxs x.f4)) y.f1 y.f3 v5 y.f4 (w.heap.size+2) #[.int .i64 0,.int .i64 0,.string ⟨#[]⟩,.string ⟨#[]⟩,.int .i64 0,.slice none 0 0,.slice none 0 0,.slice none 0 0] 31 v6 v7 (gG x y (idxs (y.f4.take i)) 0 ([],[])) wx))
 case atStart=>exact⟨0,Y5,_,_,by omega,rfl,rfl,⟨fun _=>by cases Y5 <;> rfl⟩,HE⟩
 case round=>
  obtain⟨i,a,v6,v7,hig,rfl,rfl,HA,HS⟩:=hrel;clear HE q4 q5;by_cases hi:i<y.f4.length
  ·obtain⟨ad,hA,r0,r1⟩:=dP (Kd.aC GY4.out HS.out.low) (i:Int) aj aj
   have hrd:aK y.f4 (i:Int)=y.f4[i]:=by simp[aK,hi]
   rw[hrd] at r0 r1;rw[Int.toNat_natCast] at r0 r1;subst hA
   go_wp2_with fail
   obtain⟨wo,rfl⟩:∃wo,wo=wr:=⟨_,rfl⟩
   obtain⟨go,rfl⟩:∃go,go=gk:=⟨_,rfl⟩
   obtain⟨q,hq⟩:∃q,y.f4[i]=q:=⟨_,rfl⟩
   have YD:=FY.out.r _ (List.getElem_mem hi);have hidx:=yC hi;rw[hq] at YD hidx r0 r1 ⊢
   obtain⟨N,hN⟩:∃N,(idxs (y.f4.take i)).length=N:=⟨_,rfl⟩
   have hN1:(idxs (y.f4.take (i+1))).length=N+(q.f1 - q.f0).toNat:=by rw[hidx,List.length_append,hN];simp[jf]
   have hN2:(idxs (y.f4.take (i+1))).length≤(idxs y.f4).length:=by
    have h:=congrArg List.length (show idxs (y.f4.take (i+1))++idxs (y.f4.drop (i+1))=idxs y.f4 by unfold idxs;rw[← List.flatMap_append,List.take_append_drop]);rw[List.length_append] at h;omega
   rw[hN] at HA ⊢
   have AQ:ah (MC w (w.heap.size+3) p (idxs x.f4).length (sM X5 (idxs x.f4)) y.f1 y.f3 v5 y.f4 wo.heap.size #[.int .i64 q.f0,.int .i64 q.f1] 117 v6 v7 (gG x y (idxs (y.f4.take i)++(jf q).take 0) 0 ([],[])) (wo.alloc (.cells #[.int .i64 q.f0,.int .i64 q.f1] 117))):=⟨by rw[List.take_zero,List.append_nil];exact HS.out.V3 _⟩
   have Eo:=ah.mk hN1;have HIX:=ah.mk hidx;have HNN:=ah.mk hN
   have hmm:512*(N+(q.f1 - q.f0).toNat)≤y.f5.length:=by have:=HN.out;omega
   have hsm:N+(q.f1 - q.f0).toNat≤16523:=by have:=FY.out.i;omega
   clear hrd r0 r1 HS hq hidx hN1 hN2 hN
   go_loopg [7,10] (q.f1 - q.f0).toNat (fun g s7 s10 wx=>∃(j:Nat) (a2:Option Addr) (v6 v7:Value),j+g=(q.f1 - q.f0).toNat∧s10=.int .i64 (q.f0+j)∧s7=.slice a2 (y.f5.length - 512*(N+j)) (qh - 512*(N+j))∧ah (512*(N+j)<qh→a2=Y5.map (·.add (512*(N+j))))∧ah (MC w (w.heap.size+3) p (idxs x.f4).length (sM X5 (idxs x.f4)) y.f1 y.f3 v5 y.f4 wo.heap.size #[.int .i64 q.f0,.int .i64 q.f1] 117 v6 v7 (gG x y (idxs (y.f4.take i)++(jf q).take j) 0 ([],[])) wx))
   case atStart=>exact⟨0,a,v6,v7,by omega,by simp,by simp,HA,AQ⟩
   case round=>
    obtain⟨j,a2,v6,v7,hjg,rfl,rfl,HA2,HS2⟩:=hrel;clear AQ HA;have z1:wr.cell? ⟨wo.heap.size,0,none⟩=some (.int .i64 q.f0):=ak HS2.out.Vx 0;have z2:wr.cell? ⟨wo.heap.size,1,none⟩=some (.int .i64 q.f1):=ak HS2.out.Vx 1;by_cases hj:j<(q.f1 - q.f0).toNat
    ·have d1:decide (q.f0+(j:Int)<q.f1)=true:=decide_eq_true aj
     have hcap:512*(N+j)+512≤y.f5.length:=by omega
     obtain⟨nA,VL⟩:∃nA,y.f5.length - 512*(N+j)=nA:=⟨_,rfl⟩
     obtain⟨cA,hcA⟩:∃cA,qh - 512*(N+j)=cA:=⟨_,rfl⟩
     have e1:(512:Int)≤(nA:Int):=by omega
     have e2:(512:Int)≤(cA:Int):=by omega
     rw[VL,hcA];have HNA:=ah.mk VL;have HCA:=ah.mk hcA;have hkey:keyOf Tryz.prog 3 (.int .i64 (q.f0+(j:Int)))=some (.int .i64 (q.f0+(j:Int))):=keyOf_int_mk Tryz.underlying3 (WalkArith.wf_i64 ⟨by omega,by omega⟩);have hlk:=HS2.out.map.look YC Tryz.underlying133 (R8 wr) hkey;rw[show sM X5 (idxs x.f4) (.int .i64 (q.f0+(j:Int)))=(jC (idxs x.f4) 0 (q.f0+(j:Int))).map (fun k=>.slice (X5.map (·.add (512*k))) 512 512) from rfl] at hlk;have hn5:=GY5.out
     have Nc:Kd.C (Kd.int .u8) w a2 512 (dS y.f5 (N+j)):=by
      have h1:=Kd.acE (lo:=512*(N+j)) (hi:=512*(N+j)+512) (c:=qh) hn5 aj aj ly5;rw[if_neg aj,show (Kd.int .u8).sz=1 from rfl,Nat.mul_one] at h1
      have h2:(y.f5.take (512*(N+j)+512)).drop (512*(N+j))=dS y.f5 (N+j):=by
       unfold dS;rw[List.drop_take]
       congr 1
       omega
      rw[h2,gD aj,← HA2.out aj] at h1;exact h1
     have PW:=ah.mk Nc;have hlen:=qD x y (idxs (y.f4.take i)++(jf q).take j) 0 ([],[])
     have hln:(idxs (y.f4.take i)++(jf q).take j).length=N+j:=by
      rw[List.length_append,HNN.out,List.length_take];unfold jf;rw[List.length_map,List.length_range];omega
     have hjl:(jf q).take (j+1)=(jf q).take j++[q.f0+(j:Int)]:=by
      rw[List.take_add_one]
      congr 1
      unfold jf;rw[List.getElem?_map,List.getElem?_range hj];rfl
     have hstep:=MU x y (idxs (y.f4.take i)++(jf q).take j) (q.f0+(j:Int)) 0 ([],[]);rw[List.append_assoc,← hjl,hln,Nat.zero_add] at hstep;rw[hln] at hlen
     obtain⟨st,hst⟩:∃st,gG x y (idxs (y.f4.take i)++(jf q).take j) 0 ([],[])=st:=⟨_,rfl⟩
     rw[hst] at hstep hlen HS2
     have hl1:st.1.length≤N+j:=by have:=hlen.1;simpa using this
     have hl2:st.2.length≤512*(N+j):=by have:=hlen.2;simpa using this
     have XZ:=ah.mk hstep;have hsl:=@Fx Tryz.prog 27 5 .i64 i0 Tryz.underlying27 hi0 1 hz1 a2 nA cA 512 aD aj
     obtain⟨a3,Pp⟩:∃a3,(if cA=(512:Int).toNat then a2 else a2.map (·.add ((512:Int).toNat*1)))=a3:=⟨_,rfl⟩
     rw[Pp,show (512:Int).toNat=512 from rfl] at hsl
     have HA3:ah (512*(N+(j+1))<qh→a3=Y5.map (·.add (512*(N+(j+1))))):=⟨fun h=>by
      have hcA:=HCA.out;rw[← Pp,if_neg (by show ¬cA=512;omega),HA2.out aj]
      cases Y5 with
      | none=>rfl
      | some x=>
       show some (Addr.add (Addr.add x _) _)=some (Addr.add x _)
       rw[add_add]
       congr 2⟩
     clear VL hcA hkey Nc hn5 Pp hlen hln hjl hstep hst;obtain⟨A7,c7,hv7⟩:=Kd.bG HS2.out.set;obtain⟨A6,c6,hv6⟩:=Kd.bG HS2.out.data;subst hv7;subst hv6;have u7:wr.cell? ⟨p,7,none⟩=some (.slice A7 st.1.length c7):=ak HS2.out.box 7
     have hwp:IntKind.i64.wrap (q.f0+(j:Int)+1)=q.f0+(j:Int)+1:=by rw[IntKind.wrap_i64];omega
     cases hla:jC (idxs x.f4) 0 (q.f0+(j:Int)) with
     | none=>
      rw[hla] at hlk;simp only[Option.map_none,Option.getD_none,Option.isSome_none] at hlk;have X0:=ah.mk (show newAt x y (N+j) (q.f0+(j:Int))=true by unfold newAt;rw[hla]);clear hla
      go_wp2_with (first|(go_at_call 92;refine (PT.qA.calls (fun k=>(Value.slice A7 st.1.length c7).ownBlock=some k) _ st.1 (q.f0+(j:Int)) (nN st.1 (q.f0+(j:Int))) w _ HS2.out.low (nQ HS2.out.set) (Tv st.1 _ aj aj aj)).mono ?_;rintro e w5 ⟨v8,rfl,MN,MP,U4⟩;have IB:=(U4.2 p (bE HS2.out.box) (fun hp=>Kd.uJ HS2.out.set HS2.out.box aD hp.symm)).trans HS2.out.box;obtain⟨A8,c8,hv8⟩:=Kd.bG MN;subst hv8;have O7:=ah.mk (HS2.out.join MP U4 MN);have u5:w5.cell? ⟨p,7,none⟩=some (.slice A7 st.1.length c7):=ak IB 7;have u6:w5.cell? ⟨p,6,none⟩=some (.slice A6 st.2.length c6):=ak IB 6;have f7:=ay IB 7;have l5:=bE IB;clear MN MP U4 IB u7)|((with_reducible refine dx (b:=.append) (xs:=#[.tmp 70,.tmp 71]) rfl ?_);at_builtin;refine Kd.rG (w0:=w) (.int .u8) 0 w.heap.size rfl (.tmp 70) (.tmp 71) 27 5 (.int .u8 0) 1 rfl Tryz.underlying27 info5 rfl aD (.slice A6 st.2.length c6) st.2 (dS y.f5 (N+j)) a2 512 cA (fun _=>True) rfl rfl (fun _ _=>trivial) O7.out.data (Kd.aC PW.out O7.out.low) O7.out.low O7.out.low.size aj ?_;intro v9 w9 KX Un Nf _h;have vR:=jW O7.out.box Nf (Kd.uJ O7.out.data O7.out.box aD);obtain⟨A9,c9,hv9⟩:=Kd.bG KX;subst hv9;have YQ:=ah.mk (O7.out.append Un Nf KX);have u9:w9.cell? ⟨p,6,none⟩=some (.slice A6 st.2.length c6):=ak vR 6;have f9:=ay vR 6;have l9:=bE vR;clear KX Un Nf vR u5 u6 f7 l5 _h))
      go_roundg ((q.f1 - q.f0).toNat - (j+1))
      case measure=>omega
      case rel=>
       have VL:=HNA.out;have hcA:=HCA.out;have hstep:=XZ.out;rw[if_pos X0.out] at hstep;have h4:=YQ.out;simp only[List.length_append] at h4;exact⟨j+1,a3,_,_,by omega,by push_cast;congr 1;omega,by rw[show y.f5.length - 512*(N+(j+1))=nA - 512 by omega,show qh - 512*(N+(j+1))=cA - 512 by omega],HA3,⟨by rw[hstep];exact h4⟩⟩
     | some k=>
      rw[hla] at hlk;simp only[Option.map_some,Option.getD_some,Option.isSome_some] at hlk;have hkl:=uR hla;have HNW:=ah.mk (show newAt x y (N+j) (q.f0+(j:Int))=decide (dS x.f5 k≠dS y.f5 (N+j)) by unfold newAt;rw[hla])
      have hbl:512*(k+1)≤x.f5.length:=by have:=FX.out.n;omega
      have aiO:Kd.C (Kd.int .u8) w (X5.map (·.add (512*k))) 512 (dS x.f5 k):=Fw GX5.out hbl;have heq:=PT.bytes_Equal.calls _ 512 (dS x.f5 k) a2 cA (dS y.f5 (N+j)) _ wr (by rw[gD hbl];exact Kd.aC aiO HS2.out.low) (by rw[gD hbl];exact Nat.le_refl _) (by rw[gD aj];exact Kd.aC PW.out HS2.out.low) (by rw[gD aj];omega) rfl;rw[gD hbl,gD aj,uW (a:=dS x.f5 k) (b:=dS y.f5 (N+j)) (fun n hn=>FX.out.b n (List.mem_of_mem_drop (List.mem_of_mem_take hn))) (fun n hn=>FY.out.b n (List.mem_of_mem_drop (List.mem_of_mem_take hn)))] at heq;have Py:=ah.mk heq;clear hla hkl hbl aiO heq;by_cases hsame:dS x.f5 k=dS y.f5 (N+j)
      ·have X0:ah (¬newAt x y (N+j) (q.f0+(j:Int))=true):=⟨by rw[HNW.out];simpa using hsame⟩
       have Py:=ah.mk (Py.out);rw[decide_eq_true hsame] at Py;clear hsame
       go_wp2_with (go_at_call 62;refine (Py.out).mono ?_;rintro e w4 ⟨rfl,⟨m,rfl⟩⟩)
       have YB:=ah.mk (HS2.out.below (av (Below.refl _ _) m))
       go_roundg ((q.f1 - q.f0).toNat - (j+1))
       case measure=>omega
       case rel=>
        have VL:=HNA.out;have hcA:=HCA.out;have hstep:=XZ.out;rw[if_neg X0.out] at hstep;have h4:=YB.out
        skip
        exact⟨j+1,a3,_,_,by omega,by push_cast;congr 1;omega,by rw[show y.f5.length - 512*(N+(j+1))=nA - 512 by omega,show qh - 512*(N+(j+1))=cA - 512 by omega],HA3,⟨by rw[hstep];exact h4⟩⟩
      have X0:ah (newAt x y (N+j) (q.f0+(j:Int))=true):=⟨by rw[HNW.out];simpa using hsame⟩
      rw[decide_eq_false hsame] at Py;clear hsame
      go_wp2_with (first|(go_at_call 62;refine (Py.out).mono ?_;rintro e w4 ⟨rfl,⟨m,rfl⟩⟩;have YB:=ah.mk (HS2.out.below (av (Below.refl _ _) m));have u7:(wr.drewN m).cell? ⟨p,7,none⟩=some (.slice A7 st.1.length c7):=ak YB.out.box 7;clear Py)|(go_at_call 92;refine (PT.qA.calls (fun k=>(Value.slice A7 st.1.length c7).ownBlock=some k) _ st.1 (q.f0+(j:Int)) (nN st.1 (q.f0+(j:Int))) w _ YB.out.low (nQ YB.out.set) (Tv st.1 _ aj aj aj)).mono ?_;rintro e w5 ⟨v8,rfl,MN,MP,U4⟩;have IB:=(U4.2 p (bE YB.out.box) (fun hp=>Kd.uJ YB.out.set YB.out.box aD hp.symm)).trans YB.out.box;obtain⟨A8,c8,hv8⟩:=Kd.bG MN;subst hv8;have O7:=ah.mk (YB.out.join MP U4 MN);have u5:w5.cell? ⟨p,7,none⟩=some (.slice A7 st.1.length c7):=ak IB 7;have u6:w5.cell? ⟨p,6,none⟩=some (.slice A6 st.2.length c6):=ak IB 6;have f7:=ay IB 7;have l5:=bE IB;clear MN MP U4 IB u7)|((with_reducible refine dx (b:=.append) (xs:=#[.tmp 70,.tmp 71]) rfl ?_);at_builtin;refine Kd.rG (w0:=w) (.int .u8) 0 w.heap.size rfl (.tmp 70) (.tmp 71) 27 5 (.int .u8 0) 1 rfl Tryz.underlying27 info5 rfl aD (.slice A6 st.2.length c6) st.2 (dS y.f5 (N+j)) a2 512 cA (fun _=>True) rfl rfl (fun _ _=>trivial) O7.out.data (Kd.aC PW.out O7.out.low) O7.out.low O7.out.low.size aj ?_;intro v9 w9 KX Un Nf _h;have vR:=jW O7.out.box Nf (Kd.uJ O7.out.data O7.out.box aD);obtain⟨A9,c9,hv9⟩:=Kd.bG KX;subst hv9;have YQ:=ah.mk (O7.out.append Un Nf KX);have u9:w9.cell? ⟨p,6,none⟩=some (.slice A6 st.2.length c6):=ak vR 6;have f9:=ay vR 6;have l9:=bE vR;clear KX Un Nf vR u5 u6 f7 l5 _h))
      go_roundg ((q.f1 - q.f0).toNat - (j+1))
      case measure=>omega
      case rel=>
       have VL:=HNA.out;have hcA:=HCA.out;have hstep:=XZ.out;rw[if_pos X0.out] at hstep;have h4:=YQ.out;simp only[List.length_append] at h4;exact⟨j+1,a3,_,_,by omega,by push_cast;congr 1;omega,by rw[show y.f5.length - 512*(N+(j+1))=nA - 512 by omega,show qh - 512*(N+(j+1))=cA - 512 by omega],HA3,⟨by rw[hstep];exact h4⟩⟩
    have d1:decide (q.f0+(j:Int)<q.f1)=false:=decide_eq_false aj
    have hje:j=(q.f1 - q.f0).toNat:=by omega
    go_wp2_with fail
    go_roundg (go - 1)
    case measure=>omega
    case rel=>
     subst hje;refine⟨i+1,a2,v6,v7,by omega,by simp,?_,?_,?_⟩
     ·rw[Eo.out]
     ·rw[Eo.out];exact HA2
     rw[HIX.out];have:=HS2.out;rw[show (jf q).take (q.f1 - q.f0).toNat=jf q from List.take_of_length_le (by unfold jf;rw[List.length_map,List.length_range];omega)] at this;exact⟨this.back⟩
  obtain rfl:i=y.f4.length:=by omega
  have hs:=HS.out;rw[List.take_length] at hs;have AQ:=ah.mk hs;clear HS hs
  go_wp2_with (first
   | (refine dX (.load 31 (.tmp 6)) rfl ?_;refine wpList_load_row rfl _ _ rfl p rfl 31 _ (0,0) _ AQ.out.box Tryz.underlying31 rfl aA ?_)
   | (refine dX (.store 31 (.tmp 4) (.tmp 76)) rfl ?_;refine wpList_store_row rfl 31 (.tmp 4) (.tmp 76) rfl (w.heap.size+2) #[.int .i64 3,.int .i64 1,.string y.f1,.string ⟨#[]⟩,.int .i64 y.f3,v5,v6,v7] rfl rfl 31 _ AQ.out.res aA (by rfl) ?one ?_;(case one=>obtain⟨b5,d5,e5⟩:=Kd.bG AQ.out.runs;obtain⟨b6,d6,e6⟩:=Kd.bG AQ.out.data;obtain⟨b7,d7,e7⟩:=Kd.bG AQ.out.set;rw[e5,e6,e7];simp[Value.oneCell'])))
  refine bodyPost_ret (results_cell_row rfl _ _ (w.heap.size+2) 31 #[.int .i64 3,.int .i64 1,.string y.f1,.string ⟨#[]⟩,.int .i64 y.f3,v5,v6,v7] (0,0) _ rfl (setRow_heap _ _ _ _ _ _ AQ.out.res) Tryz.underlying31 rfl aA) rfl ⟨v5,v6,v7,rfl,?_,?_,?_,below_setRow AQ.out.low aj _⟩
  ·exact sH (Kd.ou (nQ AQ.out.runs) (fun k ho _=>setRow_other _ _ _ _ (fun e=>Kd.uJ AQ.out.runs AQ.out.res aD (by rw[← e];exact ho.symm))))
  ·exact zW (Kd.ou (C8 AQ.out.data) (fun k ho _=>setRow_other _ _ _ _ (fun e=>Kd.uJ AQ.out.data AQ.out.res aD (by rw[← e];exact ho.symm))))
  exact sH (Kd.ou (nQ AQ.out.set) (fun k ho _=>setRow_other _ _ _ _ (fun e=>Kd.uJ AQ.out.set AQ.out.res aD (by rw[← e];exact ho.symm))))
end Go.Proofs.YtknihldkhedpkaaGreatDoor
end
section
namespace Go.Proofs.YtknihldkhedpkaaGreatDoor
open Go.RowKit
open Go.Proofs.YtknihldkhedpkaaGreatDoorW.PrintWords Go.Proofs.YtknihldkhedpkaaGreatDoorW.PrintLast Go.Proofs.YtknihldkhedpkaaGreatDoor.PT
def kQ (rows:List Rn) (data:List Int) (i:Int):Option (List Int):=(jC (idxs rows) 0 i).map (dS data)
def dD (old:EG) (c:Ch):List Int→Option (List Int)
 | []=>some []
 | i::l=>match kQ c.f2 c.f1.f5 i with
  | some b=>(dD old c l).map (b ++ ·)
  | none=>match kQ old.f4 old.f5 i with
   | some b=>(dD old c l).map (b ++ ·)
   | none=>none
def rF (old:EG) (c:Ch):Option EG:=if old.f0≠1 then none else (dD old c (idxs c.f1.f4)).map fun d=>⟨1,c.f1.f1,⟨#[]⟩,c.f1.f3,c.f1.f4,d⟩
theorem yB (a b:List Rn):idxs (a++b)=idxs a++idxs b:=by unfold idxs;rw[List.flatMap_append]
theorem El:∀{l:List Int} {n:Nat} {i:Int},i∉l→jC l n i=none
 | [],_,_,_=>rfl
 | x::l,n,i,h=>by
  rw[jC,El (fun hm=>h (by simp[hm]))];dsimp only;rw[if_neg (fun e=>h (by simp[e]))]
def IC (ns d:List Int) (i:Int):Option (List Int):=(jC ns 0 i).map (dS d)
theorem RX {a b:List Int} {k:Nat} (h:512*(k+1)≤a.length):dS (a++b) k=dS a k:=by
 unfold dS;rw[List.drop_append_of_le_length aj,List.take_append_of_le_length (by rw[List.length_drop];omega)]
theorem RY {a b:List Int} {k:Nat} (h:a.length=512*k) (hb:b.length=512):dS (a++b) k=b:=by
 unfold dS;rw[← h,List.drop_left,List.take_of_length_le aj]
theorem Vf {ns d b:List Int} {i j:Int} (hd:d.length=512*ns.length) (hb:b.length=512):IC (ns++[i]) (d++b) j=if i=j then some b else IC ns d j:=by
 unfold IC;rw[xg];split
 ·rw[Option.map_some,Nat.zero_add,RY hd hb]
 cases hl:jC ns 0 j with
 | none=>rfl
 | some k=>
  have:=uR hl;rw[Option.map_some,Option.map_some,RX aj]
theorem OT {l:List Rn} {i:Int} (h:∀r∈l,r.f0≤r.f1):idxs (nN l i)=idxs l++[i]∧∀r∈nN l i,r.f0≤r.f1:=by
 have h1:idxs [⟨i,i+1⟩]=[i]:=by
  unfold idxs jf
  have:((i+1:Int) - i).toNat=1:=by omega
  simp[this]
 unfold nN
 cases hl:l.getLast? with
 | none=>
  have hn:l=[]:=List.getLast?_eq_none_iff.1 hl;subst hn;exact⟨by rw[h1];rfl,fun r hr=>by rw[List.mem_singleton.1 hr];show i≤i+1;omega⟩
 | some r=>
  dsimp only;obtain⟨ys,hys⟩:=List.getLast?_eq_some_iff.1 hl;subst hys;by_cases hr:r.f1=i
  ·rw[if_pos hr,List.dropLast_concat];have hle:=h r bK;refine⟨?_,fun q hq=>?_⟩
   ·rw[yB,yB,List.append_assoc]
    congr 1
    unfold idxs jf
    have e:((r.f1+1) - r.f0).toNat=(r.f1 - r.f0).toNat+1:=by omega
    simp only[List.flatMap_cons,List.flatMap_nil,List.append_nil];rw[e,List.range_succ,List.map_append]
    congr 1
    simp;omega
   rcases List.mem_append.1 hq with hq|hq
   ·exact h q (by simp[hq])
   rw[List.mem_singleton.1 hq];show r.f0≤r.f1+1;omega
  rw[if_neg hr];refine⟨by rw[yB,h1],fun q hq=>?_⟩
  rcases List.mem_append.1 hq with hq|hq
  ·exact h q hq
  rw[List.mem_singleton.1 hq];show i≤i+1;omega
theorem IE (old goal:EG):∀(l pre:List Int) (s:List Rn × List Int),(pre++l).Nodup→(∀r∈s.1,r.f0≤r.f1)→s.2.length=512*(idxs s.1).length→512*(pre++l).length≤goal.f5.length→(∀j∈idxs s.1,j∈pre) →
  (∀r∈(gG old goal l pre.length s).1,r.f0≤r.f1)∧(∀j,j∉l→IC (idxs (gG old goal l pre.length s).1) (gG old goal l pre.length s).2 j=IC (idxs s.1) s.2 j) ∧
  ∀k (hk:k<l.length),IC (idxs (gG old goal l pre.length s).1) (gG old goal l pre.length s).2 l[k]=if newAt old goal (pre.length+k) l[k]=true then some (dS goal.f5 (pre.length+k)) else none
 | [],pre,s,_,hu,_,_,_=>⟨hu,fun _ _=>rfl,fun k hk=>absurd hk bK⟩
 | i::l,pre,s,hn,hu,hd,hg,hs=>by
  obtain⟨s2,hs2⟩:∃s2,(if newAt old goal pre.length i=true then (nN s.1 i,s.2++dS goal.f5 pre.length) else s)=s2:=⟨_,rfl⟩
  have hgo:gG old goal (i::l) pre.length s=gG old goal l (pre++[i]).length s2:=by
   rw[← hs2,List.length_append,List.length_singleton];rfl
  have hbl:(dS goal.f5 pre.length).length=512:=gD (by simp only[List.length_append,List.length_cons] at hg;omega)
  have ae1:i∉pre:=fun h=>by
   have:=(List.nodup_append.1 hn).2.2 i h i bK;exact this rfl
  have hil:i∉l:=(List.nodup_cons.1 (List.nodup_append.1 hn).2.1).1
  have H:(∀r∈s2.1,r.f0≤r.f1)∧s2.2.length=512*(idxs s2.1).length∧(∀j∈idxs s2.1,j∈pre++[i])∧∀j,IC (idxs s2.1) s2.2 j=if newAt old goal pre.length i=true∧i=j then some (dS goal.f5 pre.length) else IC (idxs s.1) s.2 j:=by
   by_cases hnew:newAt old goal pre.length i=true
   ·rw[if_pos hnew] at hs2;obtain⟨e1,e2⟩:=OT (i:=i) hu;rw[← hs2];refine⟨e2,?_,fun j hj=>?_,fun j=>?_⟩
    ·show (s.2++_).length=512*(idxs (nN s.1 i)).length
     rw[e1,List.length_append,List.length_append,hd,hbl,List.length_singleton];omega
    ·have hj:j∈idxs (nN s.1 i):=hj;rw[e1] at hj
     rcases List.mem_append.1 hj with hj|hj
     ·exact List.mem_append_left _ (hs j hj)
     exact List.mem_append_right _ hj
    show IC (idxs (nN s.1 i)) (s.2++_) j=_
    rw[e1,Vf hd hbl];by_cases hij:i=j
    ·rw[if_pos hij,if_pos ⟨hnew,hij⟩]
    rw[if_neg hij,if_neg (fun h=>hij h.2)]
   rw[if_neg hnew] at hs2;rw[← hs2];exact⟨hu,hd,fun j hj=>List.mem_append_left _ (hs j hj),fun j=>by rw[if_neg (fun h=>hnew h.1)]⟩
  obtain⟨u2,d2,m2,b2⟩:=H;obtain⟨r1,r2,r3⟩:=IE old goal l (pre++[i]) s2 (by rw[List.append_assoc];exact hn) u2 d2 (by rw[List.append_assoc];exact hg) m2;rw[hgo];refine⟨r1,fun j hj=>?_,fun k hk=>?_⟩
  ·rw[r2 j (fun h=>hj (by simp[h])),b2,if_neg (fun h=>hj (by simp[h.2]))]
  cases k with
  | zero=>
   show IC _ _ i=_
   rw[r2 i hil,b2];by_cases hnew:newAt old goal pre.length i=true
   ·rw[if_pos ⟨hnew,rfl⟩]
    show _=if newAt old goal (pre.length+0) i=true then _ else none
    rw[Nat.add_zero,if_pos hnew]
   rw[if_neg (fun h=>hnew h.1)]
   show _=if newAt old goal (pre.length+0) i=true then _ else none
   rw[Nat.add_zero,if_neg hnew];unfold IC;rw[El (fun h=>ae1 (hs i h))];rfl
  | succ k=>
   have h3:=r3 k (by simpa using hk)
   have e:(pre++[i]).length+k=pre.length+(k+1):=by rw[List.length_append,List.length_singleton];omega
   rw[e] at h3;exact h3
theorem Vg {old goal:EG} {k:Nat} {i:Int} (h:¬newAt old goal k i=true):kQ old.f4 old.f5 i=some (dS goal.f5 k):=by
 unfold newAt at h;unfold kQ
 cases hl:jC (idxs old.f4) 0 i with
 | none=>rw[hl] at h;exact absurd rfl h
 | some j=>
  rw[hl] at h;dsimp only at h;rw[Option.map_some]
  congr 1
  exact Classical.byContradiction fun hne=>h (decide_eq_true hne)
theorem zN (old goal:EG) (hn:(idxs goal.f4).Nodup) (hg:goal.f5.length=512*(idxs goal.f4).length):∀(d k:Nat),k+d=(idxs goal.f4).length→dD old (rz old goal) ((idxs goal.f4).drop k)=some (goal.f5.drop (512*k))
 | 0,k,h=>by
  rw[List.drop_of_length_le aj,List.drop_of_length_le aj];rfl
 | d+1,k,h=>by
  have hk:k<(idxs goal.f4).length:=by omega
  obtain⟨_,_,h3⟩:=IE old goal (idxs goal.f4) [] ([],[]) hn (fun r hr=>by cases hr) rfl (by rw[hg];simp) (fun j hj=>by cases hj);have hb:=h3 k hk;simp only[List.length_nil,Nat.zero_add] at hb;have ih:=zN old goal hn hg d (k+1) aj;rw[List.drop_eq_getElem_cons hk,dD]
  have e:kQ (rz old goal).f2 (rz old goal).f1.f5 (idxs goal.f4)[k]=if newAt old goal k (idxs goal.f4)[k]=true then some (dS goal.f5 k) else none:=hb
  have hdrop:goal.f5.drop (512*k)=dS goal.f5 k++goal.f5.drop (512*(k+1)):=by
   unfold dS;rw[show 512*(k+1)=512*k+512 by omega,← List.drop_drop,List.take_append_drop]
  rw[e];by_cases hnew:newAt old goal k (idxs goal.f4)[k]=true
  ·rw[if_pos hnew];dsimp only;rw[ih,hdrop];rfl
  rw[if_neg hnew];dsimp only;rw[Vg hnew];dsimp only;rw[ih,hdrop];rfl
theorem Oa {old goal:EG} (h1:old.f0=1) (hn:(idxs goal.f4).Nodup) (hg:goal.f5.length=512*(idxs goal.f4).length):rF old (rz old goal)=some ⟨1,goal.f1,⟨#[]⟩,goal.f3,goal.f4,goal.f5⟩:=by
 have h:=zN old goal hn hg (idxs goal.f4).length 0 aj;rw[List.drop_zero,Nat.mul_zero,List.drop_zero] at h;unfold rF;rw[if_neg (fun h=>h h1)]
 show (dD old (rz old goal) (idxs goal.f4)).map _=_
 rw[h];rfl
end Go.Proofs.YtknihldkhedpkaaGreatDoor
end
section
namespace Go.Proofs.YtknihldkhedpkaaGreatDoor
open Go.RowKit Go.Lib
open Go.Proofs.YtknihldkhedpkaaGreatDoorW.PrintWords Go.Proofs.YtknihldkhedpkaaGreatDoorW.PrintLast Go.Proofs.YtknihldkhedpkaaGreatDoor.PT
def kV (x:It):ByteArray:=fV 47 0 x.f1
def ko (L:Nat→List It) (p:Nat→Nat):Nat→Option ByteArray
 | 0=>none
 | i+1=>match (L i)[p i]? with
  | none=>ko L p i
  | some x=>match ko L p i with
   | none=>some (kV x)
   | some k=>if Op.bytesLess (kV x).toList k.toList=true then some (kV x) else some k
def fG (L:Nat→List It) (p:Nat→Nat) (k:ByteArray) (j:Nat):Option It :=
 match (L j)[p j]? with
 | none=>none
 | some x=>if (kV x).toList == k.toList then some x else none
def fO (L:Nat→List It) (p:Nat→Nat) (k:ByteArray) (j:Nat):Nat:=if (fG L p k j).isSome=true then p j+1 else p j
abbrev Rd:=ByteArray × Option It × Option It × Option It
def fI (L:Nat→List It):Nat→(Nat→Nat)→List Rd
 | 0,_=>[]
 | n+1,p=>match ko L p 3 with
  | none=>[]
  | some k=>(k,fG L p k 0,fG L p k 1,fG L p k 2)::fI L n (fO L p k)
theorem sG {L:Nat→List It} {p:Nat→Nat}:∀{i:Nat} {k:ByteArray},ko L p i=some k→∃j x,j<i∧(L j)[p j]?=some x∧kV x=k
 | 0,k,h=>by cases h
 | i+1,k,h=>by
  rw[ko] at h
  cases hx:(L i)[p i]? with
  | none=>
   rw[hx] at h;obtain⟨j,x,hj,h1,h2⟩:=sG h;exact⟨j,x,by omega,h1,h2⟩
  | some x=>
   rw[hx] at h
   cases hk:ko L p i with
   | none=>
    rw[hk] at h;exact⟨i,x,by omega,hx,Option.some.inj h⟩
   | some k0=>
    rw[hk] at h;dsimp only at h;split at h
    ·exact⟨i,x,by omega,hx,Option.some.inj h⟩
    obtain⟨j,y,hj,h1,h2⟩:=sG hk;exact⟨j,y,by omega,h1,h2.trans (Option.some.inj h)⟩
def kE (L:Nat→List It) (p:Nat→Nat):Nat:=((L 0).length - p 0)+((L 1).length - p 1)+((L 2).length - p 2)
theorem vN {L:Nat→List It} {p:Nat→Nat} {k:ByteArray} (h:ko L p 3=some k):kE L (fO L p k)<kE L p:=by
 obtain⟨j,x,hj,h1,h2⟩:=sG h
 have hm:∀i,p i≤fO L p k i:=fun i=>by unfold fO;split <;> omega
 have hlt:p j<(L j).length:=by
  rcases Nat.lt_or_ge (p j) (L j).length with h|h
  ·exact h
  rw[List.getElem?_eq_none h] at h1;cases h1
 have hn:fO L p k j=p j+1:=by
  unfold fO fG;rw[h1];dsimp only;subst h2;simp
 have h0:=hm 0;have h1':=hm 1;have h2':=hm 2;unfold kE
 rcases (show j=0∨j=1∨j=2 by omega) with rfl|rfl|rfl <;> omega
structure oG where
 key:ByteArray
 g:Nat
 a:Option It
 b:Option It
 c:Option It
def oG.rd (x:oG):Rd:=(x.key,x.a,x.b,x.c)
def encR (x:oG):Array Value:=#[.string x.key,.slice (some ⟨x.g,0,none⟩) 3 3]
def Sd (rs:List Rd) (w0:World) (pre:List oG) (x:oG) (W:World):Prop :=
 (∃rest,rs=pre.map oG.rd++x.rd::rest)∧∃p0 p1 p2,W.heap[x.g]?=some (.cells #[p0,p1,p2] 95 (0,0))∧OI w0 p0 x.a∧OI w0 p1 x.b∧OI w0 p2 x.c
structure zl (B:Nat) (A C:World):Prop where
 os:C.os=A.os
 tape:C.tape=A.tape
 output:C.output=A.output
 size:A.heap.size≤C.heap.size
 blocks:∀k,k<A.heap.size→C.heap[k]?=A.heap[k]?∨(B≤k∧∃cs cs' t,(t=3∨t=95)∧A.heap[k]?=some (.cells cs t (0,0))∧C.heap[k]?=some (.cells cs' t (0,0)))
theorem zl.below {B:Nat} {A C:World} (h:Below A.heap.size A C):zl B A C:=⟨h.os,h.tape,h.output,h.size,fun k hk=>.inl (h.block k hk)⟩
theorem zl.refl (B:Nat) (A:World):zl B A A:=zl.below (Below.refl _ _)
theorem zl.trans {B:Nat} {X Y Z:World} (h:zl B X Y) (k:zl B Y Z):zl B X Z:=⟨k.os.trans h.os,k.tape.trans h.tape,k.output.trans h.output,Nat.le_trans h.size k.size,fun i hi=>by
 rcases h.blocks i hi with e|⟨hB,cs,cs',t,ht,e,e'⟩
 ·rcases k.blocks i (Nat.lt_of_lt_of_le hi h.size) with f|⟨hB,cs,cs',t,ht,f,f'⟩
  ·exact .inl (f.trans e)
  exact .inr ⟨hB,cs,cs',t,ht,e▸f,f'⟩
 rcases k.blocks i (Nat.lt_of_lt_of_le hi h.size) with f|⟨_,ds,ds',t',ht',f,f'⟩
 ·exact .inr ⟨hB,cs,cs',t,ht,e,f.trans e'⟩
 rw[e'] at f
 injection f with f
 injection f with f1 f2
 subst f2
 exact .inr ⟨hB,cs,ds',t,ht,e,f'⟩⟩
theorem zl.set {B:Nat} {A:World} {g t:Nat} {cs:Array Value} (h:A.heap[g]?=some (.cells cs t (0,0))) (ht:t=3∨t=95) (hB:B≤g) (j:Nat) (u:Value):zl B A (A.setCell ⟨g,j,none⟩ u):=by
 have hb:=(Below.refl 0 A).setCell (p:=⟨g,j,none⟩) (Nat.zero_le _) u;refine⟨hb.os,hb.tape,hb.output,hb.size,fun k hk=>?_⟩;by_cases e:k=g
 ·subst e;exact .inr ⟨hB,cs,_,t,ht,h,dM h j u⟩
 exact .inl (Below.heap_setCell A ⟨g,j,none⟩ u k e)
theorem zl.low {B n:Nat} {A C w0:World} (h:zl B A C) (hn:n≤B) (hb:Below n w0 A) (hw:n≤w0.heap.size):Below n w0 C :=
 ⟨h.os.trans hb.os,h.tape.trans hb.tape,h.output.trans hb.output,Nat.le_trans hb.size h.size,fun k hk=>by
  rcases h.blocks k (by have:=hb.size;omega) with e|⟨hB,_⟩
  ·exact e.trans (hb.block k hk)
  omega⟩
theorem zl.keep {B:Nat} {A C:World} (h:zl B A C) {g t:Nat} {cs:Array Value} (hg:A.heap[g]?=some (.cells cs t (0,0))) (hB:g<B):C.heap[g]?=some (.cells cs t (0,0)):=by
 rcases h.blocks g (bE hg) with e|⟨hB',_⟩
 ·exact e.trans hg
 omega
structure KpR (n0:Nat) (S:Nat→Prop) (A C:World):Prop where
 low:Below n0 A C
 same:∀k,S k→C.heap[k]?=A.heap[k]?
 nums:∀(k:Nat) (cs:Array Value),A.heap[k]?=some (Obj.cells cs 3 (0,0))→C.heap[k]?=some (Obj.cells cs 3 (0,0))
structure Am (L:Nat→List It) (A:Nat→Option Addr) (c:Nat→Nat) (w0:World) (b1 b2 br:Nat) (wx:World):Prop where
 low:Below w0.heap.size w0 wx
 x1:wx.heap[b1]?=some (.cells #[.func (.func 51) #[] #[]] 93 (0,0))
 x2:wx.heap[b2]?=some (.cells #[.slice (some ⟨br,0,none⟩) 3 3] 75 (0,0))
 xr:wx.heap[br]?=some (.cells #[.slice (A 0) (L 0).length (c 0),.slice (A 1) (L 1).length (c 1),.slice (A 2) (L 2).length (c 2)] 25 (0,0))
section
variable {L : Nat → List It} {A : Nat → Option Addr} {c : Nat → Nat} {w0 : World} {b1 b2 br : Nat} {wx wy : World}
theorem Am.below (h:Am L A c w0 b1 b2 br wx) (hb:Below wx.heap.size wx wy):Am L A c w0 b1 b2 br wy :=
 ⟨h.low.trans (hb.mono h.low.size),aG h.x1 hb,aG h.x2 hb,aG h.xr hb⟩
theorem Am.st (h:Am L A c w0 b1 b2 br wx) {B:Nat} (hs:zl B wx wy) (h0:w0.heap.size≤B) (h1:b1<B) (h2:b2<B) (h3:br<B):Am L A c w0 b1 b2 br wy :=
 ⟨hs.low h0 h.low (Nat.le_refl _),hs.keep h.x1 h1,hs.keep h.x2 h2,hs.keep h.xr h3⟩
theorem Am.kp (h:Am L A c w0 b1 b2 br wx) (hk:KpR w0.heap.size (fun k=>k=b1∨k=b2∨k=br) wx wy):Am L A c w0 b1 b2 br wy :=
 ⟨h.low.trans hk.low,(hk.same _ (.inl rfl)).trans h.x1,(hk.same _ (.inr (.inl rfl))).trans h.x2,(hk.same _ (.inr (.inr rfl))).trans h.xr⟩
end
end Go.Proofs.YtknihldkhedpkaaGreatDoor
end
