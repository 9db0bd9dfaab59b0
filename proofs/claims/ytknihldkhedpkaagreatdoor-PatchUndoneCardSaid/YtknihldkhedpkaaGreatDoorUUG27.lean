import Derived.Test.YtknihldkhedpkaaGreatDoorUUG26
import Derived.Test.YtknihldkhedpkaaGreatDoorUUG10
import Derived.Test.YtknihldkhedpkaaGreatDoorUUG7
import Derived.Test.YtknihldkhedpkaaGreatDoorUUG19
set_option linter.all false
set_option maxHeartbeats 16000000
set_option maxRecDepth 100000
section
namespace Go.Proofs.YtknihldkhedpkaaGreatDoor
open Go.RowKit Go.Lib
open Go.Proofs.YtknihldkhedpkaaGreatDoorW.PrintWords Go.Proofs.YtknihldkhedpkaaGreatDoorW.PrintLast Go.Proofs.YtknihldkhedpkaaGreatDoor.PT
def qY (K:List (ByteArray × Int)) (b:Option (List ByteArray)) (x:It):Bool:=(jV x.f1).2 && (b.all fun b=>mh b (jV x.f1).1) && decide (mI K (Ci x.f1)=2) && d9 K x
theorem Mj (K:List (ByteArray × Int)) (b:Option (List ByteArray)) (x:It) (l:List It):gY K b (x::l)=(qY K b x && gY ((x.f1,x.f0)::K) (some (jV x.f1).1) l):=rfl
structure uy (l:List It) (i:Nat) (K:List (ByteArray × Int)) (b:Option (List ByteArray)):Prop where
 rise:kI (l.take i)
 mI:∀s:ByteArray,mI K s=if s.size=0 then 2 else qN (l.take i) s
 fst:i=0→b=none
 lst:∀(h:0<i) (h2:i≤l.length),b=some (jV (l[i - 1]'aj).f1).1
theorem uy.zero (l:List It):uy l 0 [(⟨#[]⟩,2)] none:=by
 refine⟨by rw[List.take_zero];exact kI.nil,fun s=>?_,fun _=>rfl,fun h=>absurd h (Nat.lt_irrefl 0)⟩;rw[Go.Proofs.YtknihldkhedpkaaGreatDoor.mI];by_cases h:s.size=0
 ·have:(⟨#[]⟩:ByteArray)=s:=mg (by
   have h2:=dG s;rw[h] at h2;rw[List.length_eq_zero_iff.1 h2]
   rfl)
  rw[if_pos this,if_pos h]
 rw[if_neg (fun e=>h (by rw[← e];rfl)),if_neg h];rfl
theorem Vp.pos {p:ByteArray} (h:Vp p):0<p.size:=lD h.parts.2.1
theorem Rm {l:List It} {x:It} {s:ByteArray} (hr:kI (l++[x])):qN (l++[x]) s=if x.f1=s then x.f0 else qN l s:=by
 by_cases e:x.f1=s
 ·rw[if_pos e,← e];exact Dy hr bK
 rw[if_neg e];unfold qN;rw[List.find?_append]
 cases hf:l.find? (fun y=>decide (y.f1=s)) with
 | some y=>rfl
 | none=>simp[e]
theorem uy.next {l:List It} {i:Nat} {K:List (ByteArray × Int)} {b:Option (List ByteArray)} (h:uy l i K b) (hi:i<l.length) (hs:qY K b l[i]=true):uy l (i+1) ((l[i].f1,l[i].f0)::K) (some (jV l[i].f1).1):=by
 unfold qY at hs;simp only[Bool.and_eq_true] at hs;obtain⟨⟨⟨h1,h2⟩,_⟩,_⟩:=hs;have hv:Vp l[i].f1:=h1;have e:l.take (i+1)=l.take i++[l[i]]:=List.take_succ_eq_append_getElem hi
 have hless:∀y∈l.take i,Less (kl y) (kl l[i]):=fun y hy=>by
  obtain⟨j,hj,rfl⟩:=List.mem_iff_getElem.1 hy
  have hj2:j<i:=by rw[List.length_take] at hj;omega
  have hi0:0<i:=by omega
  have hb:=h.lst hi0 aj;rw[hb] at h2
  have hvp:Vp (l[i - 1]'aj).f1:=by
   have:=h.rise.path ((l.take i)[i - 1]'(by rw[List.length_take];omega)) (List.getElem_mem _);rw[List.getElem_take] at this;exact this
  have hl:Less (kl (l[i - 1]'aj)) (kl l[i]):=by
   have h3:mh (jV (l[i - 1]'aj).f1).1 (jV l[i].f1).1=true:=h2;rw[Dh hvp hv] at h3;exact h3
  rcases Nat.lt_or_ge j (i - 1) with h'|h'
  ·have:=h.rise.get h' (by rw[List.length_take];omega);rw[List.getElem_take,List.getElem_take] at this;rw[List.getElem_take];exact this.trans hl
  obtain rfl:j=i - 1:=by omega
  rw[List.getElem_take];exact hl
 have hr:kI (l.take (i+1)):=by
  rw[e];refine⟨fun y hy=>?_,List.pairwise_append.2 ⟨h.rise.keys,List.pairwise_singleton _ _,fun y hy z hz=>by rw[List.mem_singleton.1 hz];exact hless y hy⟩⟩
  rcases List.mem_append.1 hy with hy|hy
  ·exact h.rise.path y hy
  rw[List.mem_singleton.1 hy];exact hv
 refine⟨hr,fun s=>?_,fun h=>by omega,fun _ _=>by simp⟩;rw[Go.Proofs.YtknihldkhedpkaaGreatDoor.mI,h.mI s,e,Rm (e▸hr)];by_cases hx:l[i].f1=s
 ·rw[if_pos hx,if_pos hx,if_neg (by rw[← hx];have:=hv.pos;omega)]
 rw[if_neg hx,if_neg hx]
theorem Z4 (p:ByteArray) (j:Nat) (h:j<p.size):p.data[j]! = (bs p)[j]'(by rw[dG];exact h):=by
 have h2:j<p.data.size:=h;rw[getElem!_pos p.data j h2];simp[bs]
theorem Ro {p q:ByteArray} {D:List ByteArray} (h:Vp p) (hp:dQ p=D++[q]):Ci p=p.extract 0 (p.size - q.size - 1)∧q.size+1≤p.size∧(D=[]→p.size=q.size+1):=by
 have hj:bs p=joinL (D.map bs)++47::bs q:=by rw[ow h.parts.2.1,hp,List.map_append,List.map_singleton,wC]
 have hq:∀c∈bs q,c≠47:=fun c hc=>Ar (p:=p) (bs q) (by rw[hp,List.map_append];exact List.mem_append_right _ (List.mem_singleton.2 rfl)) c hc
 have hlen:p.size=(joinL (D.map bs)).length+(q.size+1):=by rw[← dG,hj,List.length_append,List.length_cons,dG]
 refine⟨?_,by omega,fun hD=>by rw[hlen,hD];simp[joinL]⟩;unfold Ci
 have hk:(joinL (D.map bs)).length=p.size - q.size - 1:=by omega
 have ahK:∀(j:Nat) (hj2:j<p.size),((p.data[j]!).toNat:Int)=47↔(bs p)[j]'(by rw[dG];exact hj2)=47:=fun j hj2=>by
  rw[Z4 p j hj2];exact⟨fun e=>UInt8.toNat.inj (by show _=47;omega),fun e=>by rw[e];rfl⟩
 have h47:((p.data[p.size - q.size - 1]!).toNat:Int)=47:=by
  rw[ahK _ aj]
  have e:(bs p)[p.size - q.size - 1]?=some 47:=by rw[hj,← hk,List.getElem?_append_right (Nat.le_refl _),Nat.sub_self];rfl
  rw[List.getElem?_eq_getElem (by rw[dG];omega)] at e;exact Option.some.inj e
 have hno:∀j,p.size - q.size - 1<j→j<p.size→((p.data[j]!).toNat:Int)≠47:=fun j h1 h2=>by
  rw[Ne,ahK j h2]
  have e:(bs p)[j]?=(bs q)[j - (p.size - q.size - 1) - 1]?:=by
   rw[hj,List.getElem?_append_right aj,show j - (joinL (D.map bs)).length=(j - (p.size - q.size - 1) - 1)+1 by omega,List.getElem?_cons_succ]
  rw[List.getElem?_eq_getElem (by rw[dG];omega),List.getElem?_eq_getElem (by rw[dG];omega)] at e;rw[Option.some.inj e];exact hq _ (List.getElem_mem _)
 rcases Lib.lastIndexByte_spec p 47 with⟨_,hn⟩|⟨i,hi,e,h1,h2⟩
 ·exact absurd h47 (hn _ aj)
 rw[e]
 have:i=p.size - q.size - 1:=by
  rcases Nat.lt_trichotomy i (p.size - q.size - 1) with h'|h'|h'
  ·exact absurd h47 (h2 _ h' aj)
  ·exact h'
  exact absurd h1 (hno i h' hi)
 rw[this];rfl
theorem ahL (s:ByteArray):decide (s.size=0)=(s.toList == ([]:List UInt8)):=by
 rw[Lib.toList_data]
 cases hb:s.data.toList with
 | nil=>rw[decide_eq_true (by rw[← gT,hb];rfl)];rfl
 | cons a l=>rw[decide_eq_false (by rw[← gT,hb];simp)];rfl
def TJ (w w':World) (cs:Array Value):Prop:=Below w.heap.size w w'∧w'.heap[w.heap.size]?=some (.cells cs 29 (0,0))
theorem TJ.step {w w1 w2:World} {cs:Array Value} (h:TJ w w1 cs) (hb:Below w1.heap.size w1 w2):TJ w w2 cs:=⟨h.1.trans (hb.mono h.1.size),aG h.2 hb⟩
theorem OO (A0:Option Addr) (c0:Nat) (l:List It) (i:Nat) (K:List (ByteArray × Int)) (b:Option (List ByteArray)) (w:World) (hr:Kd.C om w A0 l.length l) (hc:l.length≤c0) (hi:i<l.length) (hll:l.length≤4096) (hx:∀x∈l,Fit x) (hA:uy l i K b) :
  Calls Tryz.prog 94 #[.slice A0 l.length c0,.int .i64 i] w fun e w'=>e=.returned (.bool (qY K b l[i]))∧Below w.heap.size w w':=by
 obtain⟨x,hxi⟩:∃x,l[i]=x:=⟨_,rfl⟩
 rw[hxi]
 obtain⟨V,hV⟩:∃V,qY K b x=V:=⟨_,rfl⟩
 rw[hV];have hfx:Fit x:=hxi▸hx _ (List.getElem_mem hi);have HFX:=ah.mk hfx;have hp1:=hfx.p;have hp2:=hfx.t;have hp4:=hfx.r;have Vz:=hfx.d;have HA:=ah.mk hA;have HR:=ah.mk hr;have HV:=ah.mk hV;have HXI:=ah.mk hxi;obtain⟨ad,A4,c4,A5,c5,hAd,r0,r1,r2,r3,r4,r5,hc4,hC4,hc5,hC5⟩:=oo hr (i:Int) aj aj
 have hrd:aJ l (i:Int)=l[i]:=by simp[aJ,hi]
 rw[hrd,hxi,Int.toNat_natCast] at r0 r1 r2 r3 r4 r5;rw[hrd,hxi] at hc4 hC4 hc5 hC5;subst hAd;have HC4:=ah.mk hC4;have HC5:=ah.mk hC5;have hbx:=bJ w (.cells #[.int .i64 x.f0,.string x.f1,.string x.f2,.int .i64 x.f3,.slice A4 x.f4.length c4,.slice A5 x.f5.length c5] 29);have HB1:=ah.mk (show TJ w (w.alloc (.cells #[.int .i64 x.f0,.string x.f1,.string x.f2,.int .i64 x.f3,.slice A4 x.f4.length c4,.slice A5 x.f5.length c5] 29)) #[.int .i64 x.f0,.string x.f1,.string x.f2,.int .i64 x.f3,.slice A4 x.f4.length c4,.slice A5 x.f5.length c5] from⟨(Below.refl w.heap.size w).alloc (Nat.le_refl _) _,hbx⟩)
 obtain⟨W1,hW1⟩:∃W1,w.alloc (.cells #[.int .i64 x.f0,.string x.f1,.string x.f2,.int .i64 x.f3,.slice A4 x.f4.length c4,.slice A5 x.f5.length c5] 29)=W1:=⟨_,rfl⟩
 rw[hW1] at HB1;have k1:W1.cell? ⟨w.heap.size,1,none⟩=some (.string x.f1):=ak HB1.out.2 1;have hpt:=U1 x.f1 hp1 W1;have HPT:=ah.mk hpt;clear hbx hpt hfx hA hr hV hxi hrd hC4 hC5 hx
 go_enter Tryz.func94,Tryz.ntmps94
 go_upto_region 3 with (first|(go_at_call 109;refine HPT.out.mono ?_;rintro e w2 ⟨hb2,v,rfl,hv⟩;have HB2:=ah.mk (HB1.out.step hb2);have Ew:=ah.mk hv;clear hb2 hv))
 clear hW1 k1 HPT HB1 r0 r1 r2 r3 r4 r5
 cases hok:(jV x.f1).2 with
 | false=>
  have HW:ah (V=false):=⟨by rw[← HV.out];unfold qY;rw[hok];rfl⟩
  clear hok
  go_wp2_with fail
  go_ret
  exact⟨by rw[HW.out] <;> rfl,HB2.out.1⟩
 | true=>
  have hvp:Vp x.f1:=hok;have HVP:=ah.mk hvp;have hpe:=hvp.parts.1;rw[hpe] at Ew;obtain⟨Av,cv,hvs⟩:=Kd.bG Ew.out;subst hvs
  obtain⟨Ap,hAp⟩:∃a,(b.all fun b=>mh b (jV x.f1).1)=a:=⟨_,rfl⟩
  have TB:ah (V=(Ap && (decide (mI K (Ci x.f1)=2) && d9 K x))):=⟨by
   rw[← HV.out,← hAp];unfold qY
   rw[hok,Bool.true_and,Bool.and_assoc]⟩
  have HAP:=ah.mk hAp;clear hok hvp HV hAp
  go_upto_region 5 with (fail)
  go_cut [36] (fun v36 wc=>v36=.bool (!Ap)∧ah (Below w2.heap.size w2 wc))
  case first=>
   by_cases h0:i=0
   ·have e0:decide ((0:Int)<(i:Int))=false:=decide_eq_false aj;have e1:decide (0<i)=false:=decide_eq_false aj
    have hap:Ap=true:=by rw[← HAP.out,HA.out.fst h0];rfl
    have HDR:=ah.mk (bA (Below.refl w2.heap.size w2));clear h0;refine kY (n:=15) (S:=(fun _=>True)) (ds:=[]) (aQ 15 0) aA rfl rfl trivial (fun hHeld=>?_);refine bR 0 22 (aQ 15 1) ?_;refine bR 1 23 (aQ 15 3) ?_;refine bR 2 24 (aQ 15 7) ?_;refine qg 3 25 (aQ 15 15) ?_;refine qg 4 26 (aQ 15 31) ?_;refine qg 5 27 (aQ 15 63) ?_;refine qg 6 28 (aQ 15 127) ?_;refine qg 7 29 (aQ 15 255) ?_;refine qg 8 30 (aQ 15 511) ?_;refine qg 9 31 (aQ 15 1023) ?_;refine qg 10 32 (aQ 15 2047) ?_;refine qg 11 33 (aQ 15 4095) ?_;refine qg 12 34 (aQ 15 8191) ?_;refine qg 13 35 (aQ 15 16383) ?_;refine bR 14 36 (aQ 15 32767) ?_;refine kK aA ?_
    go_wp2_with fail
    go_meet
    case rel=>exact⟨by rw[hap] <;> rfl,HDR⟩
   obtain⟨m,hm⟩:∃m:Nat,m+1=i:=⟨i - 1,by omega⟩
   have hw:wrap64 ((i:Int) - 1)=(i:Int) - 1:=jF aj aj;have q0:(1≤(i:Int))=True:=eq_true aj;have q1:((i:Int) - 1<(l.length:Int))=True:=eq_true aj
   have hml:m<l.length:=by omega
   have e0:decide ((0:Int)<(i:Int))=true:=decide_eq_true aj;have e1:decide (0<i)=true:=decide_eq_true aj
   obtain⟨y,hy⟩:∃y,l[m]=y:=⟨_,rfl⟩
   have hvy:Vp y.f1:=by
    have:=HA.out.rise.path ((l.take i)[m]'(by rw[List.length_take];omega)) (List.getElem_mem _);rw[List.getElem_take,hy] at this;exact this
   have hap:Ap=Op.bytesLess (fV 47 0 y.f1).toList (fV 47 0 x.f1).toList:=by
    rw[← HAP.out,HA.out.lst aj aj]
    show mh (jV (l[i - 1]'aj).f1).1 (jV x.f1).1=_
    have e:l[i - 1]'aj=y:=by rw[← hy];congr 1;omega
    rw[e,Dh hvy HVP.out,Lib.toList_data,Lib.toList_data];rfl
   obtain⟨EH,A6,c6,A7,c7,hAd,_,y1,_⟩:=oo HR.out (m:Int) aj aj
   have hrd:aJ l (m:Int)=l[m]:=by simp[aJ,hml]
   rw[hrd,hy,Int.toNat_natCast] at y1;obtain rfl:ad=EH:=Option.some.inj hAd;have y1:=(HB2.out.1.cell (World.block_lt_of_cell? w _ y1)).trans y1;have k1:w2.cell? ⟨w.heap.size,1,none⟩=some (.string x.f1):=ak HB2.out.2 1;have HKY:=ah.mk (fun W=>EY y.f1 (by have:=hvy.size;omega) W);have HKX:=ah.mk (fun W=>EY x.f1 hp1 W);have HP:=ah.mk hap;rw[show m=i - 1 by omega] at y1;clear hm hml hy hvy hrd hap
   obtain⟨kx,hkx⟩:∃k,fV 47 0 x.f1=k:=⟨_,rfl⟩
   obtain⟨ky,hky⟩:∃k,fV 47 0 y.f1=k:=⟨_,rfl⟩
   rw[hkx] at HKX HP;rw[hky] at HKY HP;clear hkx hky;have hdr:=bA (Below.refl w2.heap.size w2)
   have hS:(fun w'=>w'.cell? ⟨(ad.add ((i - 1)*6)).block,(ad.add ((i - 1)*6)).off+1,none⟩=some (.string y.f1)∧w'.cell? ⟨w.heap.size,1,none⟩=some (.string x.f1)∧ah (Below w2.heap.size w2 w')) w2.drew:=⟨au hdr y1,au hdr k1,⟨hdr⟩⟩
   clear hdr y1 k1;refine kY (n:=15) (S:=(fun w'=>w'.cell? ⟨(ad.add ((i - 1)*6)).block,(ad.add ((i - 1)*6)).off+1,none⟩=some (.string y.f1)∧w'.cell? ⟨w.heap.size,1,none⟩=some (.string x.f1)∧ah (Below w2.heap.size w2 w'))) (ds:=[]) (aQ 15 0) aA rfl rfl hS (fun hHeld=>?_);clear hS;refine bR 0 22 (aQ 15 1) ?_;refine bR 1 23 (aQ 15 3) ?_;refine bR 2 24 (aQ 15 7) ?_;refine bR 3 25 (aQ 15 15) ?_;refine bR 4 26 (aQ 15 31) ?_;refine bR 5 27 (aQ 15 63) ?_;refine bR 6 28 (aQ 15 127) ?_;refine bR 7 29 (aQ 15 255) ?_;refine jv 8 30 (aQ 15 511) rfl hHeld (by rintro w' ⟨s1,s2,s3⟩;go_simp;with_reducible rfl) ?_;refine bR 10 32 (aQ 15 1535) ?_;refine jv 11 33 (aQ 15 3583) rfl hHeld (by rintro w' ⟨s1,s2,s3⟩;go_simp;with_reducible rfl) ?_;refine mG 9 (some 31) (aQ 15 4095) (fun K hK=>?_);refine qj Tryz.func107 #[.string y.f1] ?_;refine (HKY.out _).mono ?_;rintro e w3 ⟨rfl,hb2⟩;refine⟨_,rfl,?_⟩;refine hK.out _ _ ⟨au hb2 hHeld.1,au hb2 hHeld.2.1,⟨hHeld.2.2.out.trans (hb2.mono hHeld.2.2.out.size)⟩⟩ ?_;clear hb2 hHeld hK K;intro hHeld;refine fU 31 ?_;refine mG 12 (some 34) (aQ 15 8191) (fun K hK=>?_);refine qj Tryz.func107 #[.string x.f1] ?_;refine (HKX.out _).mono ?_;rintro e w3 ⟨rfl,hb2⟩;refine⟨_,rfl,?_⟩;refine hK.out _ _ ⟨au hb2 hHeld.1,au hb2 hHeld.2.1,⟨hHeld.2.2.out.trans (hb2.mono hHeld.2.2.out.size)⟩⟩ ?_;clear hb2 hHeld hK K;intro hHeld;refine fU 34 ?_;refine bR 13 35 (aQ 15 16383) ?_;refine bR 14 36 (aQ 15 32767) ?_;refine kK aA ?_;have HE:=hHeld.2.2
   go_wp2_with fail
   go_meet
   case rel=>exact⟨by rw[HP.out] <;> rfl,HE⟩
  case rest=>
   obtain⟨rfl,HBc⟩:=hcut
   obtain⟨wb,rfl⟩:∃wb,wb=wc:=⟨_,rfl⟩
   have HB3:=ah.mk (HB2.out.step HBc.out);have HV4:=ah.mk (Kd.dF Ew.out HBc.out);clear HB2 Ew HBc HAP
   cases Ap with
   | false=>
    have HW:ah (V=false):=⟨TB.out.trans (Bool.false_and _)⟩
    go_wp2_with fail
    go_ret
    exact⟨by rw[HW.out] <;> rfl,HB3.out.1⟩
   | true=>
    have HV5:ah (V=(decide (mI K (Ci x.f1)=2) && d9 K x)):=⟨TB.out.trans (Bool.true_and _)⟩
    clear TB
    obtain⟨D,q,hD⟩:∃D q,dQ x.f1=D++[q]:=by
     rcases List.eq_nil_or_concat (dQ x.f1) with h|⟨D,q,h⟩
     ·have:=(wD x.f1).2;rw[h] at this;cases this
     exact⟨D,q,by rw[h,List.concat_eq_append]⟩
    obtain⟨hd1,hd2,hd3⟩:=Ro HVP.out hD
    have hlen:(dQ x.f1).length=D.length+1:=by rw[hD];simp
    have HD1:=ah.mk hd1;have HD:=ah.mk hD;have HD3:=ah.mk hd3;have Q5:=ah.mk hlen;have hps:=(wD x.f1).1;have hvs:=HVP.out.size
    obtain⟨u,hu⟩:∃u,Ci x.f1=u:=⟨_,rfl⟩
    have HU:=ah.mk hu;rw[hu] at HD1 HV5;clear hd1 hD hd3 hlen hu
    go_upto_if 39 with (fail)
    go_cut [8] (fun v8 wd=>ah (mI K u=2)∧ah (Below wb.heap.size wb wd))
    case first=>
     by_cases hd0:D=[]
     ·have e0:decide ((1:Int)<((dQ x.f1).length:Int))=false:=decide_eq_false (by rw[Q5.out,hd0];decide);have e1:decide (1<(dQ x.f1).length)=false:=decide_eq_false (by rw[Q5.out,hd0];decide)
      have jG:ah (mI K u=2):=⟨by
       rw[HA.out.mI,if_pos];rw[HD1.out,ByteArray.size_extract];have:=HD3.out hd0
       omega⟩
      clear hd0;rw[e0]
      go_wp2_with fail
      go_meet
      case rel=>exact⟨jG,⟨Below.refl _ _⟩⟩
     have hlen:=Q5.out;have hdp:0<D.length:=List.length_pos_iff.2 hd0;have e0:decide ((1:Int)<((dQ x.f1).length:Int))=true:=decide_eq_true aj;have e1:decide (1<(dQ x.f1).length)=true:=decide_eq_true aj;rw[e0];obtain⟨ad3,hA3,y3⟩:=Kd.ny (Kd.bT HV4.out).2.2 (((dQ x.f1).length:Int) - 1) aj aj
     have hrd:p9 ByteArray.empty (dQ x.f1) (((dQ x.f1).length:Int) - 1)=q:=by
      unfold p9;rw[show ((((dQ x.f1).length:Int)) - 1).toNat=D.length by omega,HD.out];simp
     rw[hrd,show ((((dQ x.f1).length:Int)) - 1).toNat=(dQ x.f1).length - 1 by omega] at y3;have k1:wb.cell? ⟨w.heap.size,1,none⟩=some (.string x.f1):=ak HB3.out.2 1;have f1:wb.frozen? ⟨w.heap.size,1,none⟩=false:=ay HB3.out.2 1;subst hA3
     have hup:0<u.size:=by
      rw[HD1.out,ByteArray.size_extract]
      have h3:1≤(joinL (D.map bs)).length:=by
       cases D with
       | nil=>cases hdp
       | cons d D=>simp[joinL]
      have h4:x.f1.size=(joinL (D.map bs)).length+(q.size+1):=by
       rw[← dG,ow HVP.out.parts.2.1,HD.out,List.map_append,List.map_singleton,wC,List.length_append,List.length_cons,dG]
      omega
     have hfd:=fun nq=>OM (some ad) c0 l i u (wb.drewN nq) (Kd.aC (Kd.aC HR.out HB3.out.1) (av (Below.refl _ _) nq)) hc aj HA.out.rise (by rw[HD1.out,ByteArray.size_extract];omega) hll
     have Yq:=ah.mk hfd
     have HKF:ah (mI K u=qN (l.take i) u):=⟨by rw[HA.out.mI,if_neg aj]⟩
     clear hfd hrd hdp hlen hd0 hup
     obtain⟨fv,hfv⟩:∃f,qN (l.take i) u=f:=⟨_,rfl⟩
     rw[hfv] at Yq HKF;clear hfv;have hw1:wrap64 (((dQ x.f1).length:Int) - 1)=((dQ x.f1).length:Int) - 1:=jF aj aj;have hw2:wrap64 ((x.f1.size:Int) - (q.size:Int))=(x.f1.size:Int) - (q.size:Int):=jF aj aj;have hw3:wrap64 ((x.f1.size:Int) - (q.size:Int) - 1)=(x.f1.size:Int) - (q.size:Int) - 1:=jF aj aj;have g0:(1≤((dQ x.f1).length:Int))=True:=eq_true (by have:=Q5.out;omega);have g1:(((dQ x.f1).length:Int) - 1<((dQ x.f1).length:Int))=True:=eq_true aj;have hex:x.f1.extract 0 (x.f1.size - q.size - 1)=u:=HD1.out.symm;by_cases h2:fv=2
     ·have e2:(fv != 2)=false:=bne_eq_false_iff_eq.2 h2
      have jG:ah (mI K u=2):=⟨by rw[HKF.out,h2]⟩
      clear h2
      go_wp2_with fail
      go_quiet (fail)
      go_wp2_with (go_at_call 124;refine (Yq.out _).mono ?_;rintro e w3 ⟨rfl,hb3⟩;have kJ:=ah.mk (Below.trans (av (Below.refl wb.heap.size wb) _) (hb3.mono (av (Below.refl wb.heap.size wb) _).size));clear hb3)
      go_meet
      case rel=>exact⟨jG,kJ⟩
     have e2:(fv != 2)=true:=bne_iff_ne.2 h2
     have HW:ah (V=false):=⟨by rw[HV5.out,HKF.out,decide_eq_false h2];rfl⟩
     clear h2
     go_wp2_with fail
     go_quiet (fail)
     go_wp2_with (go_at_call 124;refine (Yq.out _).mono ?_;rintro e w3 ⟨rfl,hb3⟩;have kJ:=ah.mk (Below.trans (av (Below.refl wb.heap.size wb) _) (hb3.mono (av (Below.refl wb.heap.size wb) _).size));clear hb3)
     go_ret
     exact⟨by rw[HW.out] <;> rfl,(HB3.out.step kJ.out).1⟩
    case rest=>
     obtain⟨jG,VB⟩:=hcut;have kJ:=ah.mk (HB3.out.step VB.out)
     have Vy:ah (V=d9 K x):=⟨by rw[HV5.out,jG.out];rfl⟩
     clear HB3 HV4 VB HV5 HD HD1 HD3 Q5 hps;have j0:wc.cell? ⟨w.heap.size,0,none⟩=some (.int .i64 x.f0):=ak kJ.out.2 0;have j2:wc.cell? ⟨w.heap.size,2,none⟩=some (.string x.f2):=ak kJ.out.2 2;have j3:wc.cell? ⟨w.heap.size,3,none⟩=some (.int .i64 x.f3):=ak kJ.out.2 3;have j4:wc.cell? ⟨w.heap.size,4,none⟩=some (.slice A4 x.f4.length c4):=ak kJ.out.2 4;have j5:wc.cell? ⟨w.heap.size,5,none⟩=some (.slice A5 x.f5.length c5):=ak kJ.out.2 5;by_cases h1:x.f0=1
     ·have e1:(x.f0 == 1)=true:=beq_iff_eq.2 h1
      have U2:ah (V=(decide (x.f2.size=0) && iK x.f3 x.f4 x.f5)):=⟨by rw[Vy.out];unfold d9;rw[if_pos h1]⟩
      have hfl:=XA x A4 c4 A5 c5 wc (Kd.aC HC4.out kJ.out.1) hc4 (Kd.aC HC5.out kJ.out.1) hc5 HFX.out
      obtain⟨fb,hfb⟩:∃f,(decide (x.f2.size=0) && iK x.f3 x.f4 x.f5)=f:=⟨_,rfl⟩
      rw[hfb] at hfl U2;have HFL:=ah.mk hfl;clear hfl h1 hfb
      go_wp2_with (first
       | (refine dX (.load 29 (.tmp 5)) rfl ?_;refine wpList_load_row rfl _ _ rfl w.heap.size rfl 29 _ (0,0) _ kJ.out.2 Tryz.underlying29 rfl aA ?_)
       | (go_at_call 125;refine HFL.out.mono ?_;rintro e w3 ⟨rfl,hb3⟩;have kH:=ah.mk (kJ.out.step hb3);clear hb3))
      go_ret
      exact⟨by rw[U2.out] <;> rfl,kH.out.1⟩
     have e1:(x.f0 == 1)=false:=beq_eq_false_iff_ne.2 h1;by_cases hb:x.f3=0∧x.f4.length=0∧x.f5.length=0
     ·obtain⟨b3,b4,b5⟩:=hb
      have HBP:ah (iQ x=true):=⟨by unfold iQ;rw[decide_eq_true b3,decide_eq_true b4,decide_eq_true b5];rfl⟩
      have g3:(x.f3 != 0)=false:=bne_eq_false_iff_eq.2 b3;have g4:decide ((0:Int)<(x.f4.length:Int))=false:=decide_eq_false aj;have g5:decide ((0:Int)<(x.f5.length:Int))=false:=decide_eq_false aj;have g6:decide (0<x.f4.length)=false:=decide_eq_false aj;have g7:decide (0<x.f5.length)=false:=decide_eq_false aj;clear b3 b4 b5;by_cases h2:x.f0=2
      ·have e2:(x.f0 == 2)=true:=beq_iff_eq.2 h2
       have U2:ah (V=(x.f2.toList == ([]:List UInt8))):=⟨by rw[Vy.out,io2 h1 h2,HBP.out,ahL];rfl⟩
       clear h1 h2
       cases hz:(x.f2.toList == ([]:List UInt8)) with
       | true=>
        rw[hz] at U2
        go_wp2_with fail
        go_ret
        exact⟨by rw[U2.out] <;> rfl,kJ.out.1⟩
       | false=>
        rw[hz] at U2
        go_wp2_with fail
        go_ret
        exact⟨by rw[U2.out] <;> rfl,kJ.out.1⟩
      have e2:(x.f0 == 2)=false:=beq_eq_false_iff_ne.2 h2;by_cases h3:x.f0=3
      ·have e3:(x.f0 == 3)=true:=beq_iff_eq.2 h3
       have U2:ah (V=(decide (x.f2.size≠0) && (decide (x.f2.size≤255) && decide (Lib.indexByte (bs x.f2) 0<0)))):=⟨by rw[Vy.out,io3 h1 h2 h3,HBP.out];rfl⟩
       clear h1 h2 h3
       go_wp2_with fail
       clear e1 e2 e3 g3 g4 g5 g6 g7 j0 j2 j3 j4 j5
       go_loopg [9] x.f2.size (fun g s9 wx=>∃j:Nat,j+g=x.f2.size∧s9=.int .i64 j∧ah (∀c∈(bs x.f2).take j,c≠0)∧wx=wc)
       case atStart=>exact⟨0,by omega,rfl,⟨fun c hc=>(by cases hc)⟩,rfl⟩
       case round=>
        obtain⟨j,hjg,rfl,HN,rfl⟩:=hrel;have j2:wr.cell? ⟨w.heap.size,2,none⟩=some (.string x.f2):=ak kJ.out.2 2;by_cases hj:j<x.f2.size
        ·have d1:decide ((j:Int)<(x.f2.size:Int))=true:=decide_eq_true aj;have d2:decide (j<x.f2.size)=true:=decide_eq_true hj;by_cases h0:((x.f2[j]'hj).toNat:Int)=0
         ·have e0:(((x.f2[j]'hj).toNat:Int) == 0)=true:=beq_iff_eq.2 h0
          have HW:ah (V=false):=⟨by
           rw[U2.out,decide_eq_false (p:=Lib.indexByte (bs x.f2) 0<0) (fun hlt=>Lib.indexByte_none (by have:=Lib.indexByte_ge (bs x.f2) 0;omega:Lib.indexByte (bs x.f2) 0 = -1) j (by
            rw[List.getElem?_eq_getElem (by rw[dG];exact hj),wB x.f2 j hj]
            congr 1
            exact UInt8.toNat.inj (by show _=0;omega))),Bool.and_false,Bool.and_false]⟩
          clear h0
          go_wp2_with fail
          go_ret
          exact⟨by rw[HW.out] <;> rfl,kJ.out.1⟩
         have e0:(((x.f2[j]'hj).toNat:Int) == 0)=false:=beq_eq_false_iff_ne.2 h0
         have Fy:ah (∀c∈(bs x.f2).take (j+1),c≠0):=⟨fun c hc=>by
          rw[List.take_succ_eq_append_getElem (by rw[dG];exact hj)] at hc
          rcases List.mem_append.1 hc with hc|hc
          ·exact HN.out c hc
          rw[List.mem_singleton.1 hc,wB x.f2 j hj]
          exact fun h=>h0 (by rw[h];rfl)⟩
         clear h0
         go_wp2_with fail
         go_roundg (x.f2.size - (j+1))
         case measure=>omega
         case rel=>exact⟨j+1,by omega,by first|rfl|(push_cast;rfl)|simp,Fy,rfl⟩
        have d1:decide ((j:Int)<(x.f2.size:Int))=false:=decide_eq_false aj;have d2:decide (j<x.f2.size)=false:=decide_eq_false hj
        have hix:Lib.indexByte (bs x.f2) 0<0:=by
         have hge:=Lib.indexByte_ge (bs x.f2) 0
         rcases Int.lt_or_le (Lib.indexByte (bs x.f2) 0) 0 with h|h
         ·exact h
         obtain⟨o,ho⟩:∃o:Nat,Lib.indexByte (bs x.f2) 0=o:=⟨(Lib.indexByte (bs x.f2) 0).toNat,by omega⟩
         have h5:=(Lib.indexByte_some ho).1;refine absurd rfl (HN.out 0 ?_);rw[List.take_of_length_le (by rw[dG];omega)];exact List.mem_of_getElem? h5
        obtain⟨tl,htl⟩:∃n,x.f2.size=n:=⟨_,rfl⟩
        have HV8:ah (V=(decide (x.f2.size≠0) && decide (x.f2.size≤255))):=⟨by rw[U2.out,decide_eq_true hix,Bool.and_true]⟩
        clear hix htl;by_cases t1:1≤x.f2.size
        ·have m1:decide ((1:Int)≤(x.f2.size:Int))=true:=decide_eq_true aj;have m2:decide (1≤x.f2.size)=true:=decide_eq_true t1;by_cases t2:x.f2.size≤255
         ·have m3:decide ((x.f2.size:Int)≤255)=true:=decide_eq_true aj;have m4:decide (x.f2.size≤255)=true:=decide_eq_true t2
          have HW:ah (V=true):=⟨by rw[HV8.out,decide_eq_true (by omega:x.f2.size≠0),m4];rfl⟩
          clear t1 t2
          go_wp2_with fail
          go_ret
          exact⟨by rw[HW.out] <;> rfl,kJ.out.1⟩
         have m3:decide ((x.f2.size:Int)≤255)=false:=decide_eq_false aj;have m4:decide (x.f2.size≤255)=false:=decide_eq_false t2
         have HW:ah (V=false):=⟨by rw[HV8.out,m4,Bool.and_false]⟩
         clear t1 t2
         go_wp2_with fail
         go_ret
         exact⟨by rw[HW.out] <;> rfl,kJ.out.1⟩
        have m1:decide ((1:Int)≤(x.f2.size:Int))=false:=decide_eq_false aj;have m2:decide (1≤x.f2.size)=false:=decide_eq_false t1
        have HW:ah (V=false):=⟨by rw[HV8.out,decide_eq_false (by omega:¬x.f2.size≠0)];rfl⟩
        clear t1
        go_wp2_with fail
        go_ret
        exact⟨by rw[HW.out] <;> rfl,kJ.out.1⟩
      have e3:(x.f0 == 3)=false:=beq_eq_false_iff_ne.2 h3;by_cases h4:x.f0=4
      ·have e4:(x.f0 == 4)=true:=beq_iff_eq.2 h4
       have hkt:mI K x.f2=if x.f2.size=0 then 2 else qN (l.take i) x.f2:=HA.out.mI x.f2
       have hft:(qN (l.take i) x.f2 == 1)=decide (mI K x.f2=1):=by
        rw[hkt];split
        ·rename_i hz;rw[GU (fun y hy e=>by have:=(HA.out.rise.path y hy).pos;rw[e] at this;omega)];rfl
        exact Bool.eq_iff_iff.2 ⟨fun h=>decide_eq_true (beq_iff_eq.1 h),fun h=>beq_iff_eq.2 (of_decide_eq_true h)⟩
       have hfd:=OM (some ad) c0 l i x.f2 wc (Kd.aC HR.out kJ.out.1) hc aj HA.out.rise hp2 hll;have Yq:=ah.mk hfd
       have U2:ah (V=(qN (l.take i) x.f2 == 1)):=⟨by rw[Vy.out,io4 h1 h2 h3 h4,HBP.out,hft];rfl⟩
       obtain⟨fv,hfv⟩:∃f,qN (l.take i) x.f2=f:=⟨_,rfl⟩
       rw[hfv] at Yq U2;clear hfd hft hkt hfv h1 h2 h3 h4
       go_wp2_with (go_at_call 124;refine Yq.out.mono ?_;rintro e w3 ⟨rfl,hb3⟩;have kH:=ah.mk (kJ.out.step hb3);clear hb3)
       go_ret
       exact⟨by rw[U2.out] <;> rfl,kH.out.1⟩
      have e4:(x.f0 == 4)=false:=beq_eq_false_iff_ne.2 h4
      have HW:ah (V=false):=⟨by rw[Vy.out,io5 h1 h2 h3 h4]⟩
      clear h1 h2 h3 h4
      go_wp2_with fail
      go_ret
      exact⟨by rw[HW.out] <;> rfl,kJ.out.1⟩
     have HBP:iQ x=false:=by
      unfold iQ;by_cases b3:x.f3=0
      ·by_cases b4:x.f4.length=0
       ·have b5:¬x.f5.length=0:=fun h=>hb ⟨b3,b4,h⟩
        rw[decide_eq_false b5,Bool.and_false]
       rw[decide_eq_false b4,Bool.and_false,Bool.false_and]
      rw[decide_eq_false b3];rfl
     have HW:ah (V=false):=⟨by
      rw[Vy.out];unfold d9;rw[if_neg h1,HBP]
      simp⟩
     clear HBP h1;by_cases b3:x.f3=0
     ·have g3:(x.f3 != 0)=false:=bne_eq_false_iff_eq.2 b3;by_cases b4:x.f4.length=0
      ·have b5:¬x.f5.length=0:=fun h=>hb ⟨b3,b4,h⟩
       have g4:decide ((0:Int)<(x.f4.length:Int))=false:=decide_eq_false aj;have g5:decide ((0:Int)<(x.f5.length:Int))=true:=decide_eq_true aj;have g6:decide (0<x.f4.length)=false:=decide_eq_false aj;have g7:decide (0<x.f5.length)=true:=decide_eq_true aj;clear hb b3 b4 b5
       go_wp2_with fail
       go_ret
       exact⟨by rw[HW.out] <;> rfl,kJ.out.1⟩
      have g4:decide ((0:Int)<(x.f4.length:Int))=true:=decide_eq_true aj;have g6:decide (0<x.f4.length)=true:=decide_eq_true aj;clear hb b3 b4
      go_wp2_with fail
      go_ret
      exact⟨by rw[HW.out] <;> rfl,kJ.out.1⟩
     have g3:(x.f3 != 0)=true:=bne_iff_ne.2 b3;clear hb b3
     go_wp2_with fail
     go_ret
     exact⟨by rw[HW.out] <;> rfl,kJ.out.1⟩
end Go.Proofs.YtknihldkhedpkaaGreatDoor
end
section
namespace Go.Proofs.YtknihldkhedpkaaGreatDoor
open Go.RowKit
open Go.Lib hiding bytesOf bytesOf_length bytesOf_take
open Go.Proofs.YtknihldkhedpkaaGreatDoorW.PrintWords Go.Proofs.YtknihldkhedpkaaGreatDoorW.PrintLast Go.Proofs.YtknihldkhedpkaaGreatDoor.PT
structure zu (B:Nat) (w0 w':World) (v:Value) (out:List Int):Prop where
 r:Kd.R (Kd.int .u8) 5 w' B (fun _=>True) v out
 s:Below B w0 w'
 le:B≤w'.heap.size
def vI (w w':World):Prop:=∀(g:Nat) (cs:Array Value) (t:TypeId),t≠5→w.heap[g]?=some (.cells cs t (0,0))→w'.heap[g]?=some (.cells cs t (0,0))
theorem vI.trans {a b c:World} (h:vI a b) (k:vI b c):vI a c:=fun g cs t ht hb=>k g cs t ht (h g cs t ht hb)
theorem vI.refl (a:World):vI a a:=fun _ _ _ _ h=>h
theorem vI.of_below {a b:World} (h:Below a.heap.size a b):vI a b:=fun _ _ _ _ hb=>aG hb h
theorem zu.below {B:Nat} {w0 w w':World} {v:Value} {out:List Int} (h:zu B w0 w v out) (hb:Below w.heap.size w w'):zu B w0 w' v out:=⟨Kd.dF h.r hb,h.s.trans (hb.mono h.le),Nat.le_trans h.le hb.size⟩
theorem wE {P:Program} {ops:Array Oper} {rest:List Oper} {o:Oper} {a:Act} {Q:Exit→Act→World→Prop} {B:Nat} {w0 W:World} {v:Value} {out:List Int} {b:Int} (h:zu B w0 W v out) (hgd:o.guard=none) (s x:Operand) (t:TypeId)
  (ho:o.op=.call { callee:=.builtin .append,args:=#[s,x],argTypes:=#[t,t] }) (ht:P.underlying t=some (.slice 5)) (hinfo:(P.info? 5).map (fun i=>(i.zero,i.size,i.bytes))=some (some (.int .u8 0),1,1))
  (hs:a.eval s=v) (hx:a.eval x=.slice (some ⟨W.heap.size,0,none⟩) 1 1) (hl:out.length<140737488355327)
  (k:∀v1 w1,zu B w0 w1 v1 (out++[b])→vI W w1→wpList P ops Q rest (a.put o.dst v1) w1):wpList P ops Q (o::rest) a (W.alloc (.cells #[.int .u8 b] 5)):=by
 refine Kd.mP (Kd.int .u8) (w0:=w0) B hgd s x t 5 (.int .u8 0) 1 ho ht hinfo rfl aD aj v out b [.int .u8 b] (fun _=>True) (fun _=>False) hs hx rfl (fun _ hk=>hk.elim) (fun _ _=>trivial) h.r h.s h.le aj ?_;intro v1 w1 hr hb hg _;refine k v1 w1 ⟨hr,hb,Nat.le_trans h.le hg.size⟩ (fun g cs t ht hb=>jW hb hg (Kd.uJ h.r hb (Ne.symm ht)))
theorem Z5 (n:Nat) (x:Int):leB (n+1) x=[x % 256]++leB n (x / 256):=rfl
theorem lH (B:Nat) (w0:World) (v0:Value) (out:List Int) (a:Int) (n:Nat) (w:World) (h:zu B w0 w v0 out) (ha:0≤a∧a≤9223372036854775807) (hl:out.length+n<140737488355327) (hn:n≤8) :
  Calls Tryz.prog 80 #[v0,.int .i64 a,.int .i64 n] w fun e w'=>∃v,e=.returned v∧zu B w0 w' v (out++leB n a)∧vI w w':=by
 have HO:=ah.mk h;have HA:=ah.mk ha;clear h ha
 go_enter Tryz.func80,Tryz.ntmps80
 go_wp2_with fail
 go_loopg [0,1,7] n (fun g s0 s1 s7 wx=>∃(i:Nat) (x:Int) (o:List Int),i+g=n∧s1=.int .i64 x∧s7=.int .i64 i∧o.length=out.length+i∧ah (out++leB n a=o++leB g x)∧ah (0≤x∧x≤9223372036854775807)∧ah (zu B w0 wx s0 o)∧ah (vI w wx))
 case atStart=>exact⟨0,a,out,by omega,rfl,rfl,rfl,⟨rfl⟩,HA,HO,⟨vI.refl _⟩⟩
 case round=>
  obtain⟨i,x,o,hig,rfl,rfl,hol,HE,HX,HOx,HK⟩:=hrel;by_cases hi:i<n
  ·have d1:decide ((i:Int)<(n:Int))=true:=decide_eq_true aj;have d2:decide (i<n)=true:=decide_eq_true hi;have hx0:=HX.out
   have HE2:ah (out++leB n a=(o++[Int.tmod x 256 % 256])++leB (n - (i+1)) (wrap64 (Int.tdiv x 256))):=⟨by
    obtain⟨g,rfl⟩:∃g,gk=g+1:=⟨gk - 1,by omega⟩
    rw[HE.out,Z5,← List.append_assoc,show n - (i+1)=g by omega]
    rw[Int.tmod_eq_emod_of_nonneg hx0.1,Int.tdiv_eq_ediv_of_nonneg hx0.1,jF aj aj,show x % 256 % 256=x % 256 by omega]⟩
   have Yp:ah (0≤wrap64 (Int.tdiv x 256)∧wrap64 (Int.tdiv x 256)≤9223372036854775807):=⟨by rw[Int.tdiv_eq_ediv_of_nonneg hx0.1,jF aj aj];omega⟩
   clear hx0
   go_wp2_with (((with_reducible refine dx (b:=.append) (xs:=#[.tmp 13,.tmp 17]) rfl ?_);at_builtin;refine wE HOx.out rfl (.tmp 13) (.tmp 17) 27 rfl Tryz.underlying27 info5 rfl rfl aj ?_;intro v2 w2 ho2 hk2;have wU:=ah.mk ho2;have jG:=ah.mk (HK.out.trans hk2);clear ho2 hk2))
   go_roundg (n - (i+1))
   case measure=>omega
   case rel=>exact⟨i+1,_,_,by omega,rfl,by first|rfl|(push_cast;rfl)|simp,by rw[List.length_append,hol];simp;omega,HE2,Yp,wU,jG⟩
  have d1:decide ((i:Int)<(n:Int))=false:=decide_eq_false aj;have d2:decide (i<n)=false:=decide_eq_false hi
  obtain rfl:gk=0:=by omega
  go_wp2_with fail
  go_ret
  exact⟨_,rfl,by rw[HE.out,leB,List.append_nil];exact HOx.out,HK.out⟩
theorem bytesOf_take (s:ByteArray) (i:Nat) (h:i<s.size):(bytesOf s).take (i+1)=(bytesOf s).take i++[((s[i]'h).toNat:Int)]:=by
 have hl:i<(Go.Proofs.YtknihldkhedpkaaGreatDoorW.PrintWords.bytesOf s).length:=by rw[Go.Proofs.YtknihldkhedpkaaGreatDoorW.PrintWords.bytesOf_length];exact h
 have e:(bytesOf s)[i]?=some ((s[i]'h).toNat:Int):=by
  unfold bytesOf;rw[List.getElem?_map,List.getElem?_eq_getElem (by rw[gT];exact h),show s.data.toList[i]'(by rw[gT];exact h)=s[i]'h from wB s i h];rfl
 rw[List.getElem?_eq_getElem hl] at e;rw[List.take_succ_eq_append_getElem hl,Option.some.inj e]
structure zw (B:Nat) (w0:World) (g:Nat) (cs:Array Value) (w':World) (v:Value) (out:List Int):Prop where
 o:zu B w0 w' v out
 b:w'.heap[g]?=some (.cells cs 29 (0,0))
theorem zw.next {B g:Nat} {w0 w w':World} {cs:Array Value} {v v':Value} {out out':List Int} (h:zw B w0 g cs w v out) (o:zu B w0 w' v' out') (k:vI w w'):zw B w0 g cs w' v' out':=⟨o,k _ _ _ aD h.b⟩
theorem Rp (w0:World) (v0:Value) (out:List Int) (x:It) (A4:Option Addr) (c4:Nat) (A5:Option Addr) (c5:Nat) (w:World) (h:zu w0.heap.size w0 w v0 out) (h4:Kd.C dB w0 A4 x.f4.length x.f4) (hc4:x.f4.length≤c4) (h5:Kd.C (Kd.int .u8) w0 A5 x.f5.length x.f5) (hc5:x.f5.length≤c5)
  (hs:0≤x.f3∧x.f3≤9223372036854775807) (YG:∀r∈x.f4,(0≤r.f0∧r.f0≤9223372036854775807)∧(0≤r.f1∧r.f1≤9223372036854775807)) (hl:out.length+x.f1.size+x.f2.size+8*x.f4.length+x.f5.length+64≤140737488355327) :
  Calls Tryz.prog 81 #[v0,.agg #[.int .i64 x.f0,.string x.f1,.string x.f2,.int .i64 x.f3,.slice A4 x.f4.length c4,.slice A5 x.f5.length c5]] w fun e w'=>∃v,e=.returned v∧zu w0.heap.size w0 w' v (out++eF x):=by
 obtain⟨W1,hW1⟩:∃W1,w.alloc (.cells #[.int .i64 x.f0,.string x.f1,.string x.f2,.int .i64 x.f3,.slice A4 x.f4.length c4,.slice A5 x.f5.length c5] 29)=W1:=⟨_,rfl⟩
 have hbx:=bJ w (.cells #[.int .i64 x.f0,.string x.f1,.string x.f2,.int .i64 x.f3,.slice A4 x.f4.length c4,.slice A5 x.f5.length c5] 29);have hb1:=aH (Below.refl w.heap.size w) (.cells #[.int .i64 x.f0,.string x.f1,.string x.f2,.int .i64 x.f3,.slice A4 x.f4.length c4,.slice A5 x.f5.length c5] 29);rw[hW1] at hbx hb1;have HX:=ah.mk (show zw w0.heap.size w0 w.heap.size #[.int .i64 x.f0,.string x.f1,.string x.f2,.int .i64 x.f3,.slice A4 x.f4.length c4,.slice A5 x.f5.length c5] W1 v0 out from⟨h.below hb1,hbx⟩);have H4:=ah.mk h4;have H5:=ah.mk h5;have HRU:=ah.mk YG;have HS:=ah.mk hs;have k0:W1.cell? ⟨w.heap.size,0,none⟩=some (.int .i64 x.f0):=ak hbx 0;clear h hbx hb1 h4 h5 YG hs
 go_enter Tryz.func81,Tryz.ntmps81
 go_upto_region 2 with (((with_reducible refine dx (b:=.append) (xs:=#[.tmp 9,.tmp 13]) rfl ?_);at_builtin;refine wE HX.out.o rfl (.tmp 9) (.tmp 13) 27 rfl Tryz.underlying27 info5 rfl rfl aj ?_;intro v2 w2 ho2 hk2;have wU:=ah.mk ho2;have HY2:=ah.mk (HX.out.next ho2 hk2);clear ho2 hk2))
 clear k0 HX wU hW1
 obtain⟨o1,ho1⟩:∃o,out++leB 1 x.f0=o:=⟨_,rfl⟩
 have hn1:o1.length=out.length+1:=by rw[← ho1,List.length_append,aT]
 have HY2:ah (zw w0.heap.size w0 w.heap.size #[.int .i64 x.f0,.string x.f1,.string x.f2,.int .i64 x.f3,.slice A4 x.f4.length c4,.slice A5 x.f5.length c5] w2 v2 o1):=⟨ho1▸HY2.out⟩
 have R9:=ah.mk ho1;clear ho1;have k1:w2.cell? ⟨w.heap.size,1,none⟩=some (.string x.f1):=ak HY2.out.b 1
 go_upto_region 3 with (go_at_call 80;refine (lH w0.heap.size w0 _ o1 x.f1.size 2 _ HY2.out.o aj aj aD).mono ?_;rintro e w3 ⟨v3,rfl,ho3,hk3⟩;have HY3:=ah.mk (HY2.out.next ho3 hk3);clear ho3 hk3)
 clear k1
 obtain⟨o2,ho2⟩:∃o,o1++leB 2 x.f1.size=o:=⟨_,rfl⟩
 have hn2:o2.length=out.length+3:=by rw[← ho2,List.length_append,aT,hn1]
 rw[ho2] at HY3;have HE2:=ah.mk ho2;clear ho2 HY2 hn1
 go_wp2_with fail
 go_loopg [0,5] x.f1.size (fun g s0 s5 wx=>∃i:Nat,i+g=x.f1.size∧s5=.int .i64 i∧ah (zw w0.heap.size w0 w.heap.size #[.int .i64 x.f0,.string x.f1,.string x.f2,.int .i64 x.f3,.slice A4 x.f4.length c4,.slice A5 x.f5.length c5] wx s0 (o2++(bytesOf x.f1).take i)))
 case atStart=>exact⟨0,by omega,rfl,⟨by rw[List.take_zero,List.append_nil];exact HY3.out⟩⟩
 case round=>
  obtain⟨i,hig,rfl,HL⟩:=hrel;clear HY3;have k1:wr.cell? ⟨w.heap.size,1,none⟩=some (.string x.f1):=ak HL.out.b 1;by_cases hi:i<x.f1.size
  ·have d1:decide ((i:Int)<(x.f1.size:Int))=true:=decide_eq_true aj;have d2:decide (i<x.f1.size)=true:=decide_eq_true hi
   have hlen:(o2++(bytesOf x.f1).take i).length=out.length+3+i:=by rw[List.length_append,List.length_take,Go.Proofs.YtknihldkhedpkaaGreatDoorW.PrintWords.bytesOf_length];omega
   go_wp2_with (((with_reducible refine dx (b:=.append) (xs:=#[.tmp 27,.tmp 32]) rfl ?_);at_builtin;refine wE HL.out.o rfl (.tmp 27) (.tmp 32) 27 rfl Tryz.underlying27 info5 rfl rfl aj ?_;intro v4 w4 wM hk4;have Ue:=ah.mk wM;have HY4:=ah.mk (HL.out.next wM hk4);clear wM hk4))
   have HY5:ah (zw w0.heap.size w0 w.heap.size #[.int .i64 x.f0,.string x.f1,.string x.f2,.int .i64 x.f3,.slice A4 x.f4.length c4,.slice A5 x.f5.length c5] w4 v4 (o2++(bytesOf x.f1).take (i+1))):=⟨by rw[bytesOf_take x.f1 i hi,← List.append_assoc];exact HY4.out⟩
   go_roundg (x.f1.size - (i+1))
   case measure=>omega
   case rel=>exact⟨i+1,by omega,by first|rfl|(push_cast;rfl)|simp,HY5⟩
  have d1:decide ((i:Int)<(x.f1.size:Int))=false:=decide_eq_false aj;have d2:decide (i<x.f1.size)=false:=decide_eq_false hi
  obtain⟨o3,ho3⟩:∃o,o2++bytesOf x.f1=o:=⟨_,rfl⟩
  have hn3:o3.length=out.length+3+x.f1.size:=by rw[← ho3,List.length_append,Go.Proofs.YtknihldkhedpkaaGreatDoorW.PrintWords.bytesOf_length];omega
  have Yz:ah (zw w0.heap.size w0 w.heap.size #[.int .i64 x.f0,.string x.f1,.string x.f2,.int .i64 x.f3,.slice A4 x.f4.length c4,.slice A5 x.f5.length c5] wr (_:Value) o3):=⟨by rw[← ho3];have:=HL.out;rwa [List.take_of_length_le (by rw[Go.Proofs.YtknihldkhedpkaaGreatDoorW.PrintWords.bytesOf_length];omega)] at this⟩
  have HE3:=ah.mk ho3;have k0:wr.cell? ⟨w.heap.size,0,none⟩=some (.int .i64 x.f0):=ak HL.out.b 0;have k2:wr.cell? ⟨w.heap.size,2,none⟩=some (.string x.f2):=ak HL.out.b 2;clear ho3 hn2;by_cases h1:x.f0=1
  ·have e1:(x.f0 == 1)=true:=beq_iff_eq.2 h1
   have e3:(x.f0 == 3)=false:=by rw[h1];rfl
   have e4:(x.f0 == 4)=false:=by rw[h1];rfl
   have HI:ah (out++eF x=o3++leB 8 x.f3++leB 4 x.f4.length++iy x.f4++x.f5):=⟨by
    unfold eF;rw[if_pos h1,← HE3.out,← HE2.out,← R9.out]
    simp only[List.append_assoc]⟩
   have k3:wr.cell? ⟨w.heap.size,3,none⟩=some (.int .i64 x.f3):=ak HL.out.b 3;have hs3:=HS.out;clear h1 R9 HE2 HE3 k2
   go_upto_region 9 with (go_at_call 80;refine (lH w0.heap.size w0 _ o3 x.f3 8 _ Yz.out.o hs3 aj aD).mono ?_;rintro e w7 ⟨v7,rfl,Mk,U3⟩;have Ml:=ah.mk (Yz.out.next Mk U3);clear Mk U3)
   obtain⟨o4,wM⟩:∃o,o3++leB 8 x.f3=o:=⟨_,rfl⟩
   have Y6:o4.length=o3.length+8:=by rw[← wM,List.length_append,aT]
   rw[wM] at Ml HI;clear wM Yz HL k0 k1 k3 hs3;have k4:w7.cell? ⟨w.heap.size,4,none⟩=some (.slice A4 x.f4.length c4):=ak Ml.out.b 4
   go_upto_region 10 with (go_at_call 80;refine (lH w0.heap.size w0 _ o4 x.f4.length 4 _ Ml.out.o aj aj aD).mono ?_;rintro e w8 ⟨v8,rfl,ho8,U4⟩;have HY8:=ah.mk (Ml.out.next ho8 U4);clear ho8 U4)
   obtain⟨o5,IZ⟩:∃o,o4++leB 4 x.f4.length=o:=⟨_,rfl⟩
   have hn5:o5.length=o3.length+12:=by rw[← IZ,List.length_append,aT,Y6]
   rw[IZ] at HY8 HI;clear IZ Ml k4 Y6
   go_wp2_with fail
   go_loopg [0,6] x.f4.length (fun g s0 s6 wx=>∃i:Nat,i+g=x.f4.length∧s6=.int .i64 i∧ah (zw w0.heap.size w0 w.heap.size #[.int .i64 x.f0,.string x.f1,.string x.f2,.int .i64 x.f3,.slice A4 x.f4.length c4,.slice A5 x.f5.length c5] wx s0 (o5++iy (x.f4.take i))))
   case atStart=>exact⟨0,by omega,rfl,⟨by rw[List.take_zero];simpa [iy] using HY8.out⟩⟩
   case round=>
    obtain⟨i,hig,rfl,HL⟩:=hrel;clear HY8;by_cases hi:i<x.f4.length
    ·have d1:decide ((i:Int)<(x.f4.length:Int))=true:=decide_eq_true aj;have d2:decide (i<x.f4.length)=true:=decide_eq_true hi;obtain⟨ad,hA,r0,r1⟩:=dP (Kd.aC H4.out HL.out.o.s) (i:Int) aj aj
     have hrd:aK x.f4 (i:Int)=x.f4[i]:=by simp[aK,hi]
     rw[hrd,Int.toNat_natCast] at r0 r1;have HAd:=ah.mk hA
     obtain⟨q,hq⟩:∃q,x.f4[i]=q:=⟨_,rfl⟩
     have hqr:=HRU.out _ (List.getElem_mem hi)
     have htk:iy (x.f4.take (i+1))=iy (x.f4.take i)++(leB 4 q.f0++leB 4 q.f1):=by
      rw[List.take_succ_eq_append_getElem hi,hq];unfold iy;rw[List.flatMap_append];simp
     rw[hq] at r0 r1 hqr
     have hlen:(o5++iy (x.f4.take i)).length=o3.length+12+8*i:=by rw[List.length_append,yF,List.length_take,hn5];omega
     have k4:wr.cell? ⟨w.heap.size,4,none⟩=some (.slice (some ad) x.f4.length c4):=HAd.out▸ak HL.out.b 4;have HTK:=ah.mk htk
     obtain⟨o6,Qj⟩:∃o,o5++iy (x.f4.take i)=o:=⟨_,rfl⟩
     rw[Qj] at hlen HL;have VD:=ah.mk Qj;have yE:=ah.mk (hrd.trans hq);clear hrd hq htk Qj hA
     go_upto_region 14 with (go_at_call 80;refine (lH w0.heap.size w0 _ o6 q.f0 4 _ HL.out.o hqr.1 aj aD).mono ?_;rintro e w7 ⟨v7,rfl,Mk,U3⟩;have Ml:=ah.mk (HL.out.next Mk U3);clear Mk U3)
     obtain⟨o7,Mk⟩:∃o,o6++leB 4 q.f0=o:=⟨_,rfl⟩
     have hn7:o7.length=o6.length+4:=by rw[← Mk,List.length_append,aT]
     rw[Mk] at Ml;have PG:=ah.mk Mk
     have r1':w7.cell? ⟨(ad.add (i*2)).block,(ad.add (i*2)).off+1,none⟩=some (.int .i64 q.f1):=by
      obtain⟨EH,hA2,_,q1⟩:=dP (Kd.aC H4.out Ml.out.o.s) (i:Int) aj aj;rw[yE.out,Int.toNat_natCast,← Option.some.inj (HAd.out.symm.trans hA2)] at q1;exact q1
     have k4:w7.cell? ⟨w.heap.size,4,none⟩=some (.slice (some ad) x.f4.length c4):=HAd.out▸ak Ml.out.b 4;clear Mk HL r0 r1
     go_wp2_with (go_at_call 80;refine (lH w0.heap.size w0 _ o7 q.f1 4 _ Ml.out.o hqr.2 aj aD).mono ?_;rintro e w8 ⟨v8,rfl,ho8,U4⟩;have HY8:=ah.mk (Ml.out.next ho8 U4);clear ho8 U4)
     have HY9:ah (zw w0.heap.size w0 w.heap.size #[.int .i64 x.f0,.string x.f1,.string x.f2,.int .i64 x.f3,.slice A4 x.f4.length c4,.slice A5 x.f5.length c5] w8 v8 (o5++iy (x.f4.take (i+1)))):=⟨by rw[HTK.out,← List.append_assoc,← List.append_assoc,VD.out,PG.out];exact HY8.out⟩
     go_roundg (x.f4.length - (i+1))
     case measure=>omega
     case rel=>exact⟨i+1,by omega,by first|rfl|(push_cast;rfl)|simp,HY9⟩
    have d1:decide ((i:Int)<(x.f4.length:Int))=false:=decide_eq_false aj;have d2:decide (i<x.f4.length)=false:=decide_eq_false hi;have hL0:=HL.out;rw[List.take_of_length_le aj] at hL0
    obtain⟨o6,Qj⟩:∃o,o5++iy x.f4=o:=⟨_,rfl⟩
    have hn6:o6.length=o3.length+12+8*x.f4.length:=by rw[← Qj,List.length_append,yF,hn5]
    rw[Qj] at hL0 HI;have HY9:=ah.mk hL0;have k4:wr.cell? ⟨w.heap.size,4,none⟩=some (.slice A4 x.f4.length c4):=ak HY9.out.b 4;clear Qj HL hL0 hn5
    go_wp2_with fail
    clear d1 d2 k4
    go_loopg [0,7] x.f5.length (fun g s0 s7 wx=>∃i:Nat,i+g=x.f5.length∧s7=.int .i64 i∧ah (zw w0.heap.size w0 w.heap.size #[.int .i64 x.f0,.string x.f1,.string x.f2,.int .i64 x.f3,.slice A4 x.f4.length c4,.slice A5 x.f5.length c5] wx s0 (o6++x.f5.take i)))
    case atStart=>exact⟨0,by omega,rfl,⟨by rw[List.take_zero,List.append_nil];exact HY9.out⟩⟩
    case round=>
     obtain⟨i,hig,rfl,HL⟩:=hrel;clear HY9;by_cases hi:i<x.f5.length
     ·have d1:decide ((i:Int)<(x.f5.length:Int))=true:=decide_eq_true aj;have d2:decide (i<x.f5.length)=true:=decide_eq_true hi;obtain⟨ad,hA,r0⟩:=Kd.qx (Kd.aC H5.out HL.out.o.s) (i:Int) aj aj
      have hrd:rd x.f5 (i:Int)=x.f5[i]:=by simp[rd,hi]
      rw[hrd,Int.toNat_natCast] at r0;have k5:wr.cell? ⟨w.heap.size,5,none⟩=some (.slice (some ad) x.f5.length c5):=hA▸ak HL.out.b 5
      have hlen:(o6++x.f5.take i).length=o6.length+i:=by rw[List.length_append,List.length_take];omega
      clear hrd hA
      go_wp2_with (((with_reducible refine dx (b:=.append) (xs:=#[.tmp 76,.tmp 82]) rfl ?_);at_builtin;refine wE HL.out.o rfl (.tmp 76) (.tmp 82) 27 rfl Tryz.underlying27 info5 rfl rfl aj ?_;intro v4 w4 wM hk4;have Ue:=ah.mk wM;have HY4:=ah.mk (HL.out.next wM hk4);clear wM hk4))
      have HY5:ah (zw w0.heap.size w0 w.heap.size #[.int .i64 x.f0,.string x.f1,.string x.f2,.int .i64 x.f3,.slice A4 x.f4.length c4,.slice A5 x.f5.length c5] w4 v4 (o6++x.f5.take (i+1))):=⟨by rw[List.take_succ_eq_append_getElem hi,← List.append_assoc];exact HY4.out⟩
      go_roundg (x.f5.length - (i+1))
      case measure=>omega
      case rel=>exact⟨i+1,by omega,by first|rfl|(push_cast;rfl)|simp,HY5⟩
     have d1:decide ((i:Int)<(x.f5.length:Int))=false:=decide_eq_false aj;have d2:decide (i<x.f5.length)=false:=decide_eq_false hi;have k5:wr.cell? ⟨w.heap.size,5,none⟩=some (.slice A5 x.f5.length c5):=ak HL.out.b 5;have k0:wr.cell? ⟨w.heap.size,0,none⟩=some (.int .i64 x.f0):=ak HL.out.b 0
     go_wp2_with fail
     go_ret
     have:=HL.out.o;rw[List.take_of_length_le aj] at this;exact⟨_,rfl,by rw[HI.out];exact this⟩
  have e1:(x.f0 == 1)=false:=beq_eq_false_iff_ne.2 h1;clear HL k2;by_cases h3:x.f0=3
  ·have e3:(x.f0 == 3)=true:=beq_iff_eq.2 h3
   obtain⟨q1,hq1⟩:∃o,o3++leB 2 x.f2.size=o:=⟨_,rfl⟩
   have hm1:q1.length=o3.length+2:=by rw[← hq1,List.length_append,aT]
   have k2:wr.cell? ⟨w.heap.size,2,none⟩=some (.string x.f2):=ak Yz.out.b 2
   go_upto_region 21 with (go_at_call 80;refine (lH w0.heap.size w0 _ o3 x.f2.size 2 _ Yz.out.o aj aj aD).mono ?_;rintro e w7 ⟨v7,rfl,Mk,U3⟩;have Ml:=ah.mk (Yz.out.next Mk U3);clear Mk U3)
   rw[hq1] at Ml;have HQ1:=ah.mk hq1;clear hq1 k2 k0 k1
   go_wp2_with fail
   go_loopg [0,8] x.f2.size (fun g s0 s8 wx=>∃i:Nat,i+g=x.f2.size∧s8=.int .i64 i∧ah (zw w0.heap.size w0 w.heap.size #[.int .i64 x.f0,.string x.f1,.string x.f2,.int .i64 x.f3,.slice A4 x.f4.length c4,.slice A5 x.f5.length c5] wx s0 (q1++(bytesOf x.f2).take i)))
   case atStart=>exact⟨0,by omega,rfl,⟨by rw[List.take_zero,List.append_nil];exact Ml.out⟩⟩
   case round=>
    obtain⟨i,hig,rfl,HL⟩:=hrel;clear Ml;have k2:wr.cell? ⟨w.heap.size,2,none⟩=some (.string x.f2):=ak HL.out.b 2;by_cases hi:i<x.f2.size
    ·have d1:decide ((i:Int)<(x.f2.size:Int))=true:=decide_eq_true aj;have d2:decide (i<x.f2.size)=true:=decide_eq_true hi
     have hlen:(q1++(bytesOf x.f2).take i).length=q1.length+i:=by rw[List.length_append,List.length_take,Go.Proofs.YtknihldkhedpkaaGreatDoorW.PrintWords.bytesOf_length];omega
     go_wp2_with (((with_reducible refine dx (b:=.append) (xs:=#[.tmp 104,.tmp 109]) rfl ?_);at_builtin;refine wE HL.out.o rfl (.tmp 104) (.tmp 109) 27 rfl Tryz.underlying27 info5 rfl rfl aj ?_;intro v4 w4 wM hk4;have Ue:=ah.mk wM;have HY4:=ah.mk (HL.out.next wM hk4);clear wM hk4))
     have HY5:ah (zw w0.heap.size w0 w.heap.size #[.int .i64 x.f0,.string x.f1,.string x.f2,.int .i64 x.f3,.slice A4 x.f4.length c4,.slice A5 x.f5.length c5] w4 v4 (q1++(bytesOf x.f2).take (i+1))):=⟨by rw[bytesOf_take x.f2 i hi,← List.append_assoc];exact HY4.out⟩
     go_roundg (x.f2.size - (i+1))
     case measure=>omega
     case rel=>exact⟨i+1,by omega,by first|rfl|(push_cast;rfl)|simp,HY5⟩
    have d1:decide ((i:Int)<(x.f2.size:Int))=false:=decide_eq_false aj;have d2:decide (i<x.f2.size)=false:=decide_eq_false hi
    go_wp2_with fail
    go_ret
    have:=HL.out.o;rw[List.take_of_length_le (by rw[Go.Proofs.YtknihldkhedpkaaGreatDoorW.PrintWords.bytesOf_length];omega)] at this;exact⟨_,rfl,by rw[show out++eF x=q1++bytesOf x.f2 by unfold eF;rw[if_neg aj,if_pos aj,← HQ1.out,← HE3.out,← HE2.out,← R9.out];simp only[List.append_assoc]];exact this⟩
  have e3:(x.f0 == 3)=false:=beq_eq_false_iff_ne.2 h3;by_cases h4:x.f0=4
  ·have e4:(x.f0 == 4)=true:=beq_iff_eq.2 h4
   obtain⟨q1,hq1⟩:∃o,o3++leB 2 x.f2.size=o:=⟨_,rfl⟩
   have hm1:q1.length=o3.length+2:=by rw[← hq1,List.length_append,aT]
   have k2:wr.cell? ⟨w.heap.size,2,none⟩=some (.string x.f2):=ak Yz.out.b 2
   go_upto_region 21 with (go_at_call 80;refine (lH w0.heap.size w0 _ o3 x.f2.size 2 _ Yz.out.o aj aj aD).mono ?_;rintro e w7 ⟨v7,rfl,Mk,U3⟩;have Ml:=ah.mk (Yz.out.next Mk U3);clear Mk U3)
   rw[hq1] at Ml;have HQ1:=ah.mk hq1;clear hq1 k2 k0 k1
   go_wp2_with fail
   go_loopg [0,8] x.f2.size (fun g s0 s8 wx=>∃i:Nat,i+g=x.f2.size∧s8=.int .i64 i∧ah (zw w0.heap.size w0 w.heap.size #[.int .i64 x.f0,.string x.f1,.string x.f2,.int .i64 x.f3,.slice A4 x.f4.length c4,.slice A5 x.f5.length c5] wx s0 (q1++(bytesOf x.f2).take i)))
   case atStart=>exact⟨0,by omega,rfl,⟨by rw[List.take_zero,List.append_nil];exact Ml.out⟩⟩
   case round=>
    obtain⟨i,hig,rfl,HL⟩:=hrel;clear Ml;have k2:wr.cell? ⟨w.heap.size,2,none⟩=some (.string x.f2):=ak HL.out.b 2;by_cases hi:i<x.f2.size
    ·have d1:decide ((i:Int)<(x.f2.size:Int))=true:=decide_eq_true aj;have d2:decide (i<x.f2.size)=true:=decide_eq_true hi
     have hlen:(q1++(bytesOf x.f2).take i).length=q1.length+i:=by rw[List.length_append,List.length_take,Go.Proofs.YtknihldkhedpkaaGreatDoorW.PrintWords.bytesOf_length];omega
     go_wp2_with (((with_reducible refine dx (b:=.append) (xs:=#[.tmp 104,.tmp 109]) rfl ?_);at_builtin;refine wE HL.out.o rfl (.tmp 104) (.tmp 109) 27 rfl Tryz.underlying27 info5 rfl rfl aj ?_;intro v4 w4 wM hk4;have Ue:=ah.mk wM;have HY4:=ah.mk (HL.out.next wM hk4);clear wM hk4))
     have HY5:ah (zw w0.heap.size w0 w.heap.size #[.int .i64 x.f0,.string x.f1,.string x.f2,.int .i64 x.f3,.slice A4 x.f4.length c4,.slice A5 x.f5.length c5] w4 v4 (q1++(bytesOf x.f2).take (i+1))):=⟨by rw[bytesOf_take x.f2 i hi,← List.append_assoc];exact HY4.out⟩
     go_roundg (x.f2.size - (i+1))
     case measure=>omega
     case rel=>exact⟨i+1,by omega,by first|rfl|(push_cast;rfl)|simp,HY5⟩
    have d1:decide ((i:Int)<(x.f2.size:Int))=false:=decide_eq_false aj;have d2:decide (i<x.f2.size)=false:=decide_eq_false hi
    go_wp2_with fail
    go_ret
    have:=HL.out.o;rw[List.take_of_length_le (by rw[Go.Proofs.YtknihldkhedpkaaGreatDoorW.PrintWords.bytesOf_length];omega)] at this;exact⟨_,rfl,by rw[show out++eF x=q1++bytesOf x.f2 by unfold eF;rw[if_neg aj,if_pos aj,← HQ1.out,← HE3.out,← HE2.out,← R9.out];simp only[List.append_assoc]];exact this⟩
  have e4:(x.f0 == 4)=false:=beq_eq_false_iff_ne.2 h4
  have HI:ah (out++eF x=o3):=⟨by
   unfold eF;rw[if_neg h1,if_neg aj,← HE3.out,← HE2.out,← R9.out]
   simp only[List.append_assoc,List.append_nil]⟩
  clear h1 h3 h4
  go_wp2_with fail
  go_ret
  exact⟨_,rfl,by rw[HI.out];exact Yz.out.o⟩
end Go.Proofs.YtknihldkhedpkaaGreatDoor
end
section
namespace Go.Proofs.YtknihldkhedpkaaGreatDoor
open Go.RowKit Go.Lib
open Go.Proofs.YtknihldkhedpkaaGreatDoorW.PrintWords Go.Proofs.YtknihldkhedpkaaGreatDoorW.PrintLast Go.Proofs.YtknihldkhedpkaaGreatDoor.PT
def zx (v:Nat):Nat:=if v % 2=1 then (v / 2) ^^^ 2197175160 else v / 2
def Mq (x c:Nat):Nat:=if (x+c) % 2=1 then (c / 2) ^^^ 2197175160 else c / 2
theorem Cj (x c:Nat):zx (x ^^^ c)=(x / 2) ^^^ Mq x c:=by
 unfold zx Mq;have h:=@Nat.xor_mod_two_eq_one x c
 by_cases hx:x % 2=1 <;> by_cases hc:c % 2=1
 ·rw[if_neg (fun e=>h.1 e ⟨fun _=>hc,fun _=>hx⟩),if_neg aj,Nat.xor_div_two]
 ·rw[if_pos (h.2 (fun e=>hc (e.1 hx))),if_pos aj,Nat.xor_div_two,Nat.xor_assoc]
 ·rw[if_pos (h.2 (fun e=>hx (e.2 hc))),if_pos aj,Nat.xor_div_two,Nat.xor_assoc]
 rw[if_neg (fun e=>h.1 e ⟨fun a=>absurd a hx,fun a=>absurd a hc⟩),if_neg aj,Nat.xor_div_two]
def XB (n:Nat):Nat:=Mq (n / 8) (Mq (n / 4) (Mq (n / 2) (Mq n 0)))
theorem Ck (x y c:Nat) (h:x % 2=y % 2):Mq x c=Mq y c:=by
 unfold Mq;by_cases hx:(x+c) % 2=1
 ·rw[if_pos hx,if_pos aj]
 rw[if_neg hx,if_neg aj]
theorem anX (v:Nat):zx (zx (zx (zx v)))=(v / 16) ^^^ XB (v % 16):=by
 have e:v=v ^^^ 0:=(Nat.xor_zero v).symm
 conv=>lhs;rw[e]
 rw[Cj,Cj,Cj,Cj];unfold XB;rw[Ck v (v % 16) 0 aj,Ck (v / 2) (v % 16 / 2) _ aj,Ck (v / 2 / 2) (v % 16 / 4) _ aj,Ck (v / 2 / 2 / 2) (v % 16 / 8) _ aj,show v / 2 / 2 / 2 / 2=v / 16 by omega]
theorem XC:∀n,n<16→((XB n:Nat):Int)=rd zM (n:Int):=by decide +kernel
theorem TK (k:IntKind) (hk:∀n:Int,0≤n→n<2 ^ 32→k.wrap n=n) (hj:32≤k.bits) (a b:Nat) (ha:a<2 ^ 32) (hb:b<2 ^ 32):Go.bits .xor k a b=((a ^^^ b:Nat):Int):=by
 have hp:2 ^ 32≤2 ^ k.bits:=Nat.pow_le_pow_right aD hj;have ha':a % 2 ^ k.bits=a:=Nat.mod_eq_of_lt (Nat.lt_of_lt_of_le ha hp);have hb':b % 2 ^ k.bits=b:=Nat.mod_eq_of_lt (Nat.lt_of_lt_of_le hb hp);have hx:a ^^^ b<2 ^ 32:=Nat.xor_lt_two_pow ha hb;simp only[Go.bits,BitVec.ofInt_natCast,BitVec.toNat_xor,BitVec.toNat_ofNat,ha',hb'];exact hk _ (Int.natCast_nonneg _) (by exact_mod_cast hx)
theorem Mr (a b:Nat) (ha:a<2 ^ 32) (hb:b<2 ^ 32):Go.bits .xor .i64 a b=((a ^^^ b:Nat):Int):=TK .i64 (fun n h0 h1=>by rw[IntKind.wrap_i64];omega) aD a b ha hb
theorem Ms (a b:Nat) (ha:a<2 ^ 32) (hb:b<2 ^ 32):Go.bits .xor .u32 a b=((a ^^^ b:Nat):Int):=TK .u32 (fun n h0 h1=>by rw[IntKind.wrap_u32];omega) aD a b ha hb
theorem yX {v:Nat} (h:v<2 ^ 32):zx v<2 ^ 32:=by
 unfold zx;split
 ·exact Nat.xor_lt_two_pow aj aD
 omega
theorem Eb (v:Nat) (h:v<2 ^ 32):wF v=((zx (zx (zx (zx v))):Nat):Int):=by
 have hg:XB (v % 16)<2 ^ 32:=by
  have:∀n,n<16→XB n<2 ^ 32:=by decide +kernel
  exact this _ aj
 unfold wF;rw[XD _ aj aj,show (v:Int) % 16=((v % 16:Nat):Int) by omega,← XC _ aj,show (v:Int) / 16=((v / 16:Nat):Int) by omega,Ms _ _ aj hg,anX]
def XE:Nat→Nat→Nat
 | 0,v=>v
 | n+1,v=>XE n (zx v)
theorem TL:∀(n:Nat) {v:Nat},v<2 ^ 32→XE n v<2 ^ 32
 | 0,_,h=>h
 | n+1,_,h=>TL n (yX h)
theorem KA (l:List Int) (i:Int) (r:Int):∀(d:Nat) (x:Nat) (j:Int),j+d=8→0≤j→x<2 ^ 32→Ev (fun k=>bf.l0 k l (XE d x:Nat) (wrap64 (i+1))) r→Ev (fun k=>bf.l1 k l x i j) r
 | 0,x,j,h,h0,hx,hr=>by
  refine Ev.step (fun k=>?_) hr;rw[bf.l1,if_neg aj];rfl
 | d+1,x,j,h,h0,hx,hr=>by
  have hw:wrap64 (j+1)=j+1:=by unfold wrap64;omega
  have hd:wrap64 (Int.tdiv (x:Int) 2)=((x / 2:Nat):Int):=by rw[Int.tdiv_eq_ediv_of_nonneg aj,jF aj aj];omega
  have ht:Int.tmod (x:Int) 2=((x % 2:Nat):Int):=by rw[Int.tmod_eq_emod_of_nonneg aj];omega
  have e:((zx x:Nat):Int)=if x % 2=1 then Go.bits .xor .i64 ((x / 2:Nat):Int) 2197175160 else ((x / 2:Nat):Int):=by
   unfold zx;split
   ·exact (Mr (x / 2) 2197175160 aj aD).symm
   rfl
  have ih:=KA l i r d (zx x) (j+1) aj aj (yX hx) hr;refine Ev.step (fun k=>?_) ih;rw[bf.l1,if_pos aj,hw,hd,ht,e];by_cases h1:x % 2=1
  ·rw[if_pos (by rw[h1];rfl),if_pos h1]
  rw[if_neg aj,if_neg h1]
theorem OP (v:Nat) (h:v<2 ^ 32) (b:Nat) (hb:b<256):nZ v b=((XE 8 (v ^^^ b):Nat):Int):=by
 have hx:v ^^^ b<2 ^ 32:=Nat.xor_lt_two_pow h aj;unfold nZ;rw[Ms v b h aj,Eb _ hx,Eb _ (yX (yX (yX (yX hx))))];rfl
theorem KC (l:List Int) (hl:l.length<9223372036854775807) (hb:∀x∈l,0≤x∧x≤255):∀(d i x:Nat),i+d=l.length→x<2 ^ 32→Ev (fun k=>bf.l0 k l x i) (Go.bits .xor .i64 ((l.drop i).foldl nZ x) 4294967295)
 | 0,i,x,h,hx=>by
  rw[List.drop_of_length_le aj];refine Ev.step (fun k=>?_) (Ev.now _);rw[bf.l0,if_neg aj];rfl
 | d+1,i,x,h,hx=>by
  have hi:i<l.length:=by omega
  have hbi:=hb _ (List.getElem_mem hi)
  obtain⟨b,hbn⟩:∃b:Nat,l[i]=(b:Int):=⟨l[i].toNat,by omega⟩
  have hxb:x ^^^ b<2 ^ 32:=Nat.xor_lt_two_pow hx aj;have hcb:=OP x hx b aj;have ih:=KC l hl hb d (i+1) (XE 8 (x ^^^ b)) aj (TL 8 hxb);rw[List.drop_eq_getElem_cons hi,List.foldl_cons,hbn,hcb];rw[← sD aj] at ih;refine Ev.step (fun k=>?_) (KA l i _ 8 (x ^^^ b) 0 aj aj hxb ih);rw[bf.l0,if_pos aj,if_pos aj];rw[show wrap64 (rd l (i:Int))=(b:Int) by rw[show rd l (i:Int)=l[i] by simp[rd,hi],hbn];unfold wrap64;omega,Mr x b hx aj]
theorem U5 (a b:Nat) (ha:a<2 ^ 32) (hb:b<2 ^ 32):Go.bits .xor .i64 a b=Go.bits .xor .u32 b a:=by
 rw[Mr a b ha hb,Ms b a hb ha,Nat.xor_comm]
theorem XF (A0:Option Addr) (c0:Nat) (l:List Int) (w:World) (hr:Kd.C (Kd.int .u8) w A0 l.length l) (hc:l.length≤c0) (hb:∀x∈l,0≤x∧x≤255) (hl:l.length<9223372036854775807) :
  Calls Tryz.prog 82 #[.slice A0 l.length c0] w fun e w'=>e=.returned (.int .i64 (oq l))∧Below w.heap.size w w':=by
 have h:=KC l hl hb l.length 0 4294967295 aj aD;have as9:=wG l
 obtain⟨q,hq⟩:∃q:Nat,qb l=(q:Int):=⟨(qb l).toNat,by omega⟩
 have e:Go.bits .xor .i64 ((l.drop 0).foldl nZ ((4294967295:Nat):Int)) 4294967295=oq l:=by
  unfold oq;rw[List.drop_zero,show l.foldl nZ ((4294967295:Nat):Int)=qb l from rfl,hq];exact U5 q 4294967295 aj aD
 rw[e] at h;obtain⟨k,hk⟩:=Ev.rounds h
 refine (bf.calls k A0 c0 l (oq l) w hr hc hk).mono fun e w' ⟨h1,n,hn⟩=>⟨h1,hn▸av (Below.refl _ _) n⟩
end Go.Proofs.YtknihldkhedpkaaGreatDoor
end
