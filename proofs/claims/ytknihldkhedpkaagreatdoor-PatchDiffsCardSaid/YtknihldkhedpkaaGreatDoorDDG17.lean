import Derived.Test.YtknihldkhedpkaaGreatDoorDDG16
import Derived.Test.YtknihldkhedpkaaGreatDoorDDG7
import Derived.Test.YtknihldkhedpkaaGreatDoorDDG9
import Derived.Test.YtknihldkhedpkaaGreatDoorDDG1
set_option linter.all false
set_option maxHeartbeats 16000000
set_option maxRecDepth 100000
section
namespace Go.Proofs.YtknihldkhedpkaaGreatDoor
open Go.RowKit Go.Lib
open Go.Proofs.YtknihldkhedpkaaGreatDoorW.PrintWords Go.Proofs.YtknihldkhedpkaaGreatDoorW.PrintLast Go.Proofs.YtknihldkhedpkaaGreatDoor.PT
def qE (K:List (ByteArray × Int)) (b:Option (List ByteArray)) (x:It):Bool:=(iW x.f1).2 && (b.all fun b=>lY b (iW x.f1).1) && decide (om K (zu x.f1)=2) && eT K x
theorem KX (K:List (ByteArray × Int)) (b:Option (List ByteArray)) (x:It) (l:List It):gL K b (x::l)=(qE K b x && gL ((x.f1,x.f0)::K) (some (iW x.f1).1) l):=rfl
structure sS (l:List It) (i:Nat) (K:List (ByteArray × Int)) (b:Option (List ByteArray)):Prop where
 rise:kH (l.take i)
 om:∀s:ByteArray,om K s=if s.size=0 then 2 else qy (l.take i) s
 fst:i=0→b=none
 lst:∀(h:0<i) (h2:i≤l.length),b=some (iW (l[i - 1]'aj).f1).1
theorem sS.zero (l:List It):sS l 0 [(⟨#[]⟩,2)] none:=by
 refine⟨by rw[List.take_zero];exact kH.nil,fun s=>?_,fun _=>rfl,fun h=>absurd h (Nat.lt_irrefl 0)⟩;rw[Go.Proofs.YtknihldkhedpkaaGreatDoor.om];by_cases h:s.size=0
 ·have:(⟨#[]⟩:ByteArray)=s:=nY (by
   have h2:=cZ s;rw[h] at h2;rw[List.length_eq_zero_iff.1 h2]
   rfl)
  rw[if_pos this,if_pos h]
 rw[if_neg (fun e=>h (by rw[← e];rfl)),if_neg h];rfl
theorem Vp.pos {p:ByteArray} (h:Vp p):0<p.size:=lg h.parts.2.1
theorem P6 {l:List It} {x:It} {s:ByteArray} (hr:kH (l++[x])):qy (l++[x]) s=if x.f1=s then x.f0 else qy l s:=by
 by_cases e:x.f1=s
 ·rw[if_pos e,← e];exact Dz hr bB
 rw[if_neg e];unfold qy;rw[List.find?_append]
 cases hf:l.find? (fun y=>decide (y.f1=s)) with
 | some y=>rfl
 | none=>simp[e]
theorem sS.next {l:List It} {i:Nat} {K:List (ByteArray × Int)} {b:Option (List ByteArray)} (h:sS l i K b) (hi:i<l.length) (hs:qE K b l[i]=true):sS l (i+1) ((l[i].f1,l[i].f0)::K) (some (iW l[i].f1).1):=by
 unfold qE at hs;simp only[Bool.and_eq_true] at hs;obtain⟨⟨⟨h1,h2⟩,_⟩,_⟩:=hs;have hv:Vp l[i].f1:=h1;have e:l.take (i+1)=l.take i++[l[i]]:=List.take_succ_eq_append_getElem hi
 have hless:∀y∈l.take i,Less (kl y) (kl l[i]):=fun y hy=>by
  obtain⟨j,hj,rfl⟩:=List.mem_iff_getElem.1 hy
  have hj2:j<i:=by rw[List.length_take] at hj;omega
  have hi0:0<i:=by omega
  have hb:=h.lst hi0 aj;rw[hb] at h2
  have hvp:Vp (l[i - 1]'aj).f1:=by
   have:=h.rise.path ((l.take i)[i - 1]'(by rw[List.length_take];omega)) (List.getElem_mem _);rw[List.getElem_take] at this;exact this
  have hl:Less (kl (l[i - 1]'aj)) (kl l[i]):=by
   have h3:lY (iW (l[i - 1]'aj).f1).1 (iW l[i].f1).1=true:=h2;rw[Dm hvp hv] at h3;exact h3
  rcases Nat.lt_or_ge j (i - 1) with h'|h'
  ·have:=h.rise.get h' (by rw[List.length_take];omega);rw[List.getElem_take,List.getElem_take] at this;rw[List.getElem_take];exact this.trans hl
  obtain rfl:j=i - 1:=by omega
  rw[List.getElem_take];exact hl
 have hr:kH (l.take (i+1)):=by
  rw[e];refine⟨fun y hy=>?_,List.pairwise_append.2 ⟨h.rise.keys,List.pairwise_singleton _ _,fun y hy z hz=>by rw[List.mem_singleton.1 hz];exact hless y hy⟩⟩
  rcases List.mem_append.1 hy with hy|hy
  ·exact h.rise.path y hy
  rw[List.mem_singleton.1 hy];exact hv
 refine⟨hr,fun s=>?_,fun h=>by omega,fun _ _=>by simp⟩;rw[Go.Proofs.YtknihldkhedpkaaGreatDoor.om,h.om s,e,P6 (e▸hr)];by_cases hx:l[i].f1=s
 ·rw[if_pos hx,if_pos hx,if_neg (by rw[← hx];have:=hv.pos;omega)]
 rw[if_neg hx,if_neg hx]
theorem aae (p:ByteArray) (j:Nat) (h:j<p.size):p.data[j]! = (bs p)[j]'(by rw[cZ];exact h):=by
 have h2:j<p.data.size:=h;rw[getElem!_pos p.data j h2];simp[bs]
theorem P7 {p q:ByteArray} {D:List ByteArray} (h:Vp p) (hp:dP p=D++[q]):zu p=p.extract 0 (p.size - q.size - 1)∧q.size+1≤p.size∧(D=[]→p.size=q.size+1):=by
 have hj:bs p=joinL (D.map bs)++47::bs q:=by rw[qb h.parts.2.1,hp,List.map_append,List.map_singleton,vv]
 have hq:∀c∈bs q,c≠47:=fun c hc=>zV (p:=p) (bs q) (by rw[hp,List.map_append];exact List.mem_append_right _ (List.mem_singleton.2 rfl)) c hc
 have hlen:p.size=(joinL (D.map bs)).length+(q.size+1):=by rw[← cZ,hj,List.length_append,List.length_cons,cZ]
 refine⟨?_,by omega,fun hD=>by rw[hlen,hD];simp[joinL]⟩;unfold zu
 have hk:(joinL (D.map bs)).length=p.size - q.size - 1:=by omega
 have ahC:∀(j:Nat) (hj2:j<p.size),((p.data[j]!).toNat:Int)=47↔(bs p)[j]'(by rw[cZ];exact hj2)=47:=fun j hj2=>by
  rw[aae p j hj2];exact⟨fun e=>UInt8.toNat.inj (by show _=47;omega),fun e=>by rw[e];rfl⟩
 have h47:((p.data[p.size - q.size - 1]!).toNat:Int)=47:=by
  rw[ahC _ aj]
  have e:(bs p)[p.size - q.size - 1]?=some 47:=by rw[hj,← hk,List.getElem?_append_right (Nat.le_refl _),Nat.sub_self];rfl
  rw[List.getElem?_eq_getElem (by rw[cZ];omega)] at e;exact Option.some.inj e
 have hno:∀j,p.size - q.size - 1<j→j<p.size→((p.data[j]!).toNat:Int)≠47:=fun j h1 h2=>by
  rw[Ne,ahC j h2]
  have e:(bs p)[j]?=(bs q)[j - (p.size - q.size - 1) - 1]?:=by
   rw[hj,List.getElem?_append_right aj,show j - (joinL (D.map bs)).length=(j - (p.size - q.size - 1) - 1)+1 by omega,List.getElem?_cons_succ]
  rw[List.getElem?_eq_getElem (by rw[cZ];omega),List.getElem?_eq_getElem (by rw[cZ];omega)] at e;rw[Option.some.inj e];exact hq _ (List.getElem_mem _)
 rcases Lib.lastIndexByte_spec p 47 with⟨_,hn⟩|⟨i,hi,e,h1,h2⟩
 ·exact absurd h47 (hn _ aj)
 rw[e]
 have:i=p.size - q.size - 1:=by
  rcases Nat.lt_trichotomy i (p.size - q.size - 1) with h'|h'|h'
  ·exact absurd h47 (h2 _ h' aj)
  ·exact h'
  exact absurd h1 (hno i h' hi)
 rw[this];rfl
theorem acY (s:ByteArray):decide (s.size=0)=(s.toList == ([]:List UInt8)):=by
 rw[Lib.toList_data]
 cases hb:s.data.toList with
 | nil=>rw[decide_eq_true (by rw[← gI,hb];rfl)];rfl
 | cons a l=>rw[decide_eq_false (by rw[← gI,hb];simp)];rfl
def JO (w w':World) (cs:Array Value):Prop:=Below w.heap.size w w'∧w'.heap[w.heap.size]?=some (.cells cs 29 (0,0))
theorem JO.step {w w1 w2:World} {cs:Array Value} (h:JO w w1 cs) (hb:Below w1.heap.size w1 w2):JO w w2 cs:=⟨h.1.trans (hb.mono h.1.size),aJ h.2 hb⟩
theorem Np (A0:Option Addr) (c0:Nat) (l:List It) (i:Nat) (K:List (ByteArray × Int)) (b:Option (List ByteArray)) (w:World) (hr:Kd.C mV w A0 l.length l) (hc:l.length≤c0) (hi:i<l.length) (hll:l.length≤4096) (hx:∀x∈l,Fit x) (hA:sS l i K b) :
  Calls Tryz.prog 94 #[.slice A0 l.length c0,.int .i64 i] w fun e w'=>e=.returned (.bool (qE K b l[i]))∧Below w.heap.size w w':=by
 obtain⟨x,hxi⟩:∃x,l[i]=x:=⟨_,rfl⟩
 rw[hxi]
 obtain⟨V,hV⟩:∃V,qE K b x=V:=⟨_,rfl⟩
 rw[hV];have hfx:Fit x:=hxi▸hx _ (List.getElem_mem hi);have P8:=ah.mk hfx;have hp1:=hfx.p;have hp2:=hfx.t;have hp4:=hfx.r;have Xf:=hfx.d;have HA:=ah.mk hA;have HR:=ah.mk hr;have HV:=ah.mk hV;have HXI:=ah.mk hxi;obtain⟨ad,A4,c4,A5,c5,VZ,r0,r1,r2,r3,r4,r5,hc4,Xg,IU,Xh⟩:=jh hr (i:Int) aj aj
 have hrd:aI l (i:Int)=l[i]:=by simp[aI,hi]
 rw[hrd,hxi,Int.toNat_natCast] at r0 r1 r2 r3 r4 r5;rw[hrd,hxi] at hc4 Xg IU Xh;subst VZ;have HC4:=ah.mk Xg;have HC5:=ah.mk Xh;have hbx:=bF w (.cells #[.int .i64 x.f0,.string x.f1,.string x.f2,.int .i64 x.f3,.slice A4 x.f4.length c4,.slice A5 x.f5.length c5] 29);have HB1:=ah.mk (show JO w (w.alloc (.cells #[.int .i64 x.f0,.string x.f1,.string x.f2,.int .i64 x.f3,.slice A4 x.f4.length c4,.slice A5 x.f5.length c5] 29)) #[.int .i64 x.f0,.string x.f1,.string x.f2,.int .i64 x.f3,.slice A4 x.f4.length c4,.slice A5 x.f5.length c5] from⟨(Below.refl w.heap.size w).alloc (Nat.le_refl _) _,hbx⟩)
 obtain⟨W1,hW1⟩:∃W1,w.alloc (.cells #[.int .i64 x.f0,.string x.f1,.string x.f2,.int .i64 x.f3,.slice A4 x.f4.length c4,.slice A5 x.f5.length c5] 29)=W1:=⟨_,rfl⟩
 rw[hW1] at HB1;have k1:W1.cell? ⟨w.heap.size,1,none⟩=some (.string x.f1):=ak HB1.out.2 1;have hpt:=JK x.f1 hp1 W1;have HPT:=ah.mk hpt;clear hbx hpt hfx hA hr hV hxi hrd Xg Xh hx
 go_enter Tryz.func94,Tryz.ntmps94
 go_upto_region 3 with (first|(go_at_call 109;refine HPT.out.mono ?_;rintro e w2 ⟨hb2,v,rfl,hv⟩;have HB2:=ah.mk (HB1.out.step hb2);have wU:=ah.mk hv;clear hb2 hv))
 clear hW1 k1 HPT HB1 r0 r1 r2 r3 r4 r5
 cases hok:(iW x.f1).2 with
 | false=>
  have HW:ah (V=false):=⟨by rw[← HV.out];unfold qE;rw[hok];rfl⟩
  clear hok
  go_wp2_with fail
  go_ret
  exact⟨by rw[HW.out] <;> rfl,HB2.out.1⟩
 | true=>
  have hvp:Vp x.f1:=hok;have HVP:=ah.mk hvp;have hpe:=hvp.parts.1;rw[hpe] at wU;obtain⟨Av,cv,hvs⟩:=Kd.bP wU.out;subst hvs
  obtain⟨Ap,hAp⟩:∃a,(b.all fun b=>lY b (iW x.f1).1)=a:=⟨_,rfl⟩
  have JM:ah (V=(Ap && (decide (om K (zu x.f1)=2) && eT K x))):=⟨by
   rw[← HV.out,← hAp];unfold qE
   rw[hok,Bool.true_and,Bool.and_assoc]⟩
  have HAP:=ah.mk hAp;clear hok hvp HV hAp
  go_upto_region 5 with (fail)
  go_cut [36] (fun v36 wc=>v36=.bool (!Ap)∧ah (Below w2.heap.size w2 wc))
  case first=>
   by_cases h0:i=0
   ·have e0:decide ((0:Int)<(i:Int))=false:=decide_eq_false aj;have e1:decide (0<i)=false:=decide_eq_false aj
    have hap:Ap=true:=by rw[← HAP.out,HA.out.fst h0];rfl
    have HDR:=ah.mk (bf (Below.refl w2.heap.size w2));clear h0;refine jJ (n:=15) (S:=(fun _=>True)) (ds:=[]) (aM 15 0) aD rfl rfl trivial (fun hHeld=>?_);refine bA 0 22 (aM 15 1) ?_;refine bA 1 23 (aM 15 3) ?_;refine bA 2 24 (aM 15 7) ?_;refine fD 3 25 (aM 15 15) ?_;refine fD 4 26 (aM 15 31) ?_;refine fD 5 27 (aM 15 63) ?_;refine fD 6 28 (aM 15 127) ?_;refine fD 7 29 (aM 15 255) ?_;refine fD 8 30 (aM 15 511) ?_;refine fD 9 31 (aM 15 1023) ?_;refine fD 10 32 (aM 15 2047) ?_;refine fD 11 33 (aM 15 4095) ?_;refine fD 12 34 (aM 15 8191) ?_;refine fD 13 35 (aM 15 16383) ?_;refine bA 14 36 (aM 15 32767) ?_;refine jK aD ?_
    go_wp2_with fail
    go_meet
    case rel=>exact⟨by rw[hap] <;> rfl,HDR⟩
   obtain⟨m,hm⟩:∃m:Nat,m+1=i:=⟨i - 1,by omega⟩
   have hw:wrap64 ((i:Int) - 1)=(i:Int) - 1:=fq aj aj;have q0:(1≤(i:Int))=True:=eq_true aj;have q1:((i:Int) - 1<(l.length:Int))=True:=eq_true aj
   have hml:m<l.length:=by omega
   have e0:decide ((0:Int)<(i:Int))=true:=decide_eq_true aj;have e1:decide (0<i)=true:=decide_eq_true aj
   obtain⟨y,hy⟩:∃y,l[m]=y:=⟨_,rfl⟩
   have hvy:Vp y.f1:=by
    have:=HA.out.rise.path ((l.take i)[m]'(by rw[List.length_take];omega)) (List.getElem_mem _);rw[List.getElem_take,hy] at this;exact this
   have hap:Ap=Op.bytesLess (bY 47 0 y.f1).toList (bY 47 0 x.f1).toList:=by
    rw[← HAP.out,HA.out.lst aj aj]
    show lY (iW (l[i - 1]'aj).f1).1 (iW x.f1).1=_
    have e:l[i - 1]'aj=y:=by rw[← hy];congr 1;omega
    rw[e,Dm hvy HVP.out,Lib.toList_data,Lib.toList_data];rfl
   obtain⟨EC,A6,c6,A7,c7,VZ,_,y1,_⟩:=jh HR.out (m:Int) aj aj
   have hrd:aI l (m:Int)=l[m]:=by simp[aI,hml]
   rw[hrd,hy,Int.toNat_natCast] at y1;obtain rfl:ad=EC:=Option.some.inj VZ;have y1:=(HB2.out.1.cell (World.block_lt_of_cell? w _ y1)).trans y1;have k1:w2.cell? ⟨w.heap.size,1,none⟩=some (.string x.f1):=ak HB2.out.2 1;have HKY:=ah.mk (fun W=>yu y.f1 (by have:=hvy.size;omega) W);have HKX:=ah.mk (fun W=>yu x.f1 hp1 W);have HP:=ah.mk hap;rw[show m=i - 1 by omega] at y1;clear hm hml hy hvy hrd hap
   obtain⟨kx,hkx⟩:∃k,bY 47 0 x.f1=k:=⟨_,rfl⟩
   obtain⟨ky,hky⟩:∃k,bY 47 0 y.f1=k:=⟨_,rfl⟩
   rw[hkx] at HKX HP;rw[hky] at HKY HP;clear hkx hky;have hdr:=bf (Below.refl w2.heap.size w2)
   have hS:(fun w'=>w'.cell? ⟨(ad.add ((i - 1)*6)).block,(ad.add ((i - 1)*6)).off+1,none⟩=some (.string y.f1)∧w'.cell? ⟨w.heap.size,1,none⟩=some (.string x.f1)∧ah (Below w2.heap.size w2 w')) w2.drew:=⟨au hdr y1,au hdr k1,⟨hdr⟩⟩
   clear hdr y1 k1;refine jJ (n:=15) (S:=(fun w'=>w'.cell? ⟨(ad.add ((i - 1)*6)).block,(ad.add ((i - 1)*6)).off+1,none⟩=some (.string y.f1)∧w'.cell? ⟨w.heap.size,1,none⟩=some (.string x.f1)∧ah (Below w2.heap.size w2 w'))) (ds:=[]) (aM 15 0) aD rfl rfl hS (fun hHeld=>?_);clear hS;refine bA 0 22 (aM 15 1) ?_;refine bA 1 23 (aM 15 3) ?_;refine bA 2 24 (aM 15 7) ?_;refine bA 3 25 (aM 15 15) ?_;refine bA 4 26 (aM 15 31) ?_;refine bA 5 27 (aM 15 63) ?_;refine bA 6 28 (aM 15 127) ?_;refine bA 7 29 (aM 15 255) ?_;refine gG 8 30 (aM 15 511) rfl hHeld (by rintro w' ⟨s1,s2,s3⟩;go_simp;with_reducible rfl) ?_;refine bA 10 32 (aM 15 1535) ?_;refine gG 11 33 (aM 15 3583) rfl hHeld (by rintro w' ⟨s1,s2,s3⟩;go_simp;with_reducible rfl) ?_;refine mD 9 (some 31) (aM 15 4095) (fun K hK=>?_);refine mW Tryz.func107 #[.string y.f1] ?_;refine (HKY.out _).mono ?_;rintro e w3 ⟨rfl,hb2⟩;refine⟨_,rfl,?_⟩;refine hK.out _ _ ⟨au hb2 hHeld.1,au hb2 hHeld.2.1,⟨hHeld.2.2.out.trans (hb2.mono hHeld.2.2.out.size)⟩⟩ ?_;clear hb2 hHeld hK K;intro hHeld;refine fH 31 ?_;refine mD 12 (some 34) (aM 15 8191) (fun K hK=>?_);refine mW Tryz.func107 #[.string x.f1] ?_;refine (HKX.out _).mono ?_;rintro e w3 ⟨rfl,hb2⟩;refine⟨_,rfl,?_⟩;refine hK.out _ _ ⟨au hb2 hHeld.1,au hb2 hHeld.2.1,⟨hHeld.2.2.out.trans (hb2.mono hHeld.2.2.out.size)⟩⟩ ?_;clear hb2 hHeld hK K;intro hHeld;refine fH 34 ?_;refine bA 13 35 (aM 15 16383) ?_;refine bA 14 36 (aM 15 32767) ?_;refine jK aD ?_;have HE:=hHeld.2.2
   go_wp2_with fail
   go_meet
   case rel=>exact⟨by rw[HP.out] <;> rfl,HE⟩
  case rest=>
   obtain⟨rfl,OL⟩:=hcut
   obtain⟨wb,rfl⟩:∃wb,wb=wc:=⟨_,rfl⟩
   have HB3:=ah.mk (HB2.out.step OL.out);have Tp:=ah.mk (Kd.bO wU.out OL.out);clear HB2 wU OL HAP
   cases Ap with
   | false=>
    have HW:ah (V=false):=⟨JM.out.trans (Bool.false_and _)⟩
    go_wp2_with fail
    go_ret
    exact⟨by rw[HW.out] <;> rfl,HB3.out.1⟩
   | true=>
    have HV5:ah (V=(decide (om K (zu x.f1)=2) && eT K x)):=⟨JM.out.trans (Bool.true_and _)⟩
    clear JM
    obtain⟨D,q,hD⟩:∃D q,dP x.f1=D++[q]:=by
     rcases List.eq_nil_or_concat (dP x.f1) with h|⟨D,q,h⟩
     ·have:=(vw x.f1).2;rw[h] at this;cases this
     exact⟨D,q,by rw[h,List.concat_eq_append]⟩
    obtain⟨hd1,hd2,hd3⟩:=P7 HVP.out hD
    have hlen:(dP x.f1).length=D.length+1:=by rw[hD];simp
    have HD1:=ah.mk hd1;have HD:=ah.mk hD;have HD3:=ah.mk hd3;have Nq:=ah.mk hlen;have hps:=(vw x.f1).1;have hvs:=HVP.out.size
    obtain⟨u,hu⟩:∃u,zu x.f1=u:=⟨_,rfl⟩
    have HU:=ah.mk hu;rw[hu] at HD1 HV5;clear hd1 hD hd3 hlen hu
    go_upto_if 39 with (fail)
    go_cut [8] (fun v8 wd=>ah (om K u=2)∧ah (Below wb.heap.size wb wd))
    case first=>
     by_cases hd0:D=[]
     ·have e0:decide ((1:Int)<((dP x.f1).length:Int))=false:=decide_eq_false (by rw[Nq.out,hd0];decide);have e1:decide (1<(dP x.f1).length)=false:=decide_eq_false (by rw[Nq.out,hd0];decide)
      have jG:ah (om K u=2):=⟨by
       rw[HA.out.om,if_pos];rw[HD1.out,ByteArray.size_extract];have:=HD3.out hd0
       omega⟩
      clear hd0;rw[e0]
      go_wp2_with fail
      go_meet
      case rel=>exact⟨jG,⟨Below.refl _ _⟩⟩
     have hlen:=Nq.out;have hdp:0<D.length:=List.length_pos_iff.2 hd0;have e0:decide ((1:Int)<((dP x.f1).length:Int))=true:=decide_eq_true aj;have e1:decide (1<(dP x.f1).length)=true:=decide_eq_true aj;rw[e0];obtain⟨ad3,hA3,y3⟩:=Kd.lX (Kd.bU Tp.out).2.2 (((dP x.f1).length:Int) - 1) aj aj
     have hrd:mP ByteArray.empty (dP x.f1) (((dP x.f1).length:Int) - 1)=q:=by
      unfold mP;rw[show ((((dP x.f1).length:Int)) - 1).toNat=D.length by omega,HD.out];simp
     rw[hrd,show ((((dP x.f1).length:Int)) - 1).toNat=(dP x.f1).length - 1 by omega] at y3;have k1:wb.cell? ⟨w.heap.size,1,none⟩=some (.string x.f1):=ak HB3.out.2 1;have f1:wb.frozen? ⟨w.heap.size,1,none⟩=false:=ay HB3.out.2 1;subst hA3
     have hup:0<u.size:=by
      rw[HD1.out,ByteArray.size_extract]
      have h3:1≤(joinL (D.map bs)).length:=by
       cases D with
       | nil=>cases hdp
       | cons d D=>simp[joinL]
      have h4:x.f1.size=(joinL (D.map bs)).length+(q.size+1):=by
       rw[← cZ,qb HVP.out.parts.2.1,HD.out,List.map_append,List.map_singleton,vv,List.length_append,List.length_cons,cZ]
      omega
     have hfd:=fun nq=>Nn (some ad) c0 l i u (wb.drewN nq) (Kd.aC (Kd.aC HR.out HB3.out.1) (av (Below.refl _ _) nq)) hc aj HA.out.rise (by rw[HD1.out,ByteArray.size_extract];omega) hll
     have Ze:=ah.mk hfd
     have HKF:ah (om K u=qy (l.take i) u):=⟨by rw[HA.out.om,if_neg aj]⟩
     clear hfd hrd hdp hlen hd0 hup
     obtain⟨fv,hfv⟩:∃f,qy (l.take i) u=f:=⟨_,rfl⟩
     rw[hfv] at Ze HKF;clear hfv;have hw1:wrap64 (((dP x.f1).length:Int) - 1)=((dP x.f1).length:Int) - 1:=fq aj aj;have hw2:wrap64 ((x.f1.size:Int) - (q.size:Int))=(x.f1.size:Int) - (q.size:Int):=fq aj aj;have hw3:wrap64 ((x.f1.size:Int) - (q.size:Int) - 1)=(x.f1.size:Int) - (q.size:Int) - 1:=fq aj aj;have g0:(1≤((dP x.f1).length:Int))=True:=eq_true (by have:=Nq.out;omega);have g1:(((dP x.f1).length:Int) - 1<((dP x.f1).length:Int))=True:=eq_true aj;have hex:x.f1.extract 0 (x.f1.size - q.size - 1)=u:=HD1.out.symm;by_cases h2:fv=2
     ·have e2:(fv != 2)=false:=bne_eq_false_iff_eq.2 h2
      have jG:ah (om K u=2):=⟨by rw[HKF.out,h2]⟩
      clear h2
      go_wp2_with fail
      go_quiet (fail)
      go_wp2_with (go_at_call 124;refine (Ze.out _).mono ?_;rintro e w3 ⟨rfl,hb3⟩;have iM:=ah.mk (Below.trans (av (Below.refl wb.heap.size wb) _) (hb3.mono (av (Below.refl wb.heap.size wb) _).size));clear hb3)
      go_meet
      case rel=>exact⟨jG,iM⟩
     have e2:(fv != 2)=true:=bne_iff_ne.2 h2
     have HW:ah (V=false):=⟨by rw[HV5.out,HKF.out,decide_eq_false h2];rfl⟩
     clear h2
     go_wp2_with fail
     go_quiet (fail)
     go_wp2_with (go_at_call 124;refine (Ze.out _).mono ?_;rintro e w3 ⟨rfl,hb3⟩;have iM:=ah.mk (Below.trans (av (Below.refl wb.heap.size wb) _) (hb3.mono (av (Below.refl wb.heap.size wb) _).size));clear hb3)
     go_ret
     exact⟨by rw[HW.out] <;> rfl,(HB3.out.step iM.out).1⟩
    case rest=>
     obtain⟨jG,HBd⟩:=hcut;have iM:=ah.mk (HB3.out.step HBd.out)
     have HV6:ah (V=eT K x):=⟨by rw[HV5.out,jG.out];rfl⟩
     clear HB3 Tp HBd HV5 HD HD1 HD3 Nq hps;have j0:wc.cell? ⟨w.heap.size,0,none⟩=some (.int .i64 x.f0):=ak iM.out.2 0;have j2:wc.cell? ⟨w.heap.size,2,none⟩=some (.string x.f2):=ak iM.out.2 2;have j3:wc.cell? ⟨w.heap.size,3,none⟩=some (.int .i64 x.f3):=ak iM.out.2 3;have j4:wc.cell? ⟨w.heap.size,4,none⟩=some (.slice A4 x.f4.length c4):=ak iM.out.2 4;have j5:wc.cell? ⟨w.heap.size,5,none⟩=some (.slice A5 x.f5.length c5):=ak iM.out.2 5;by_cases h1:x.f0=1
     ·have e1:(x.f0 == 1)=true:=beq_iff_eq.2 h1
      have U3:ah (V=(decide (x.f2.size=0) && dW x.f3 x.f4 x.f5)):=⟨by rw[HV6.out];unfold eT;rw[if_pos h1]⟩
      have hfl:=Nl x A4 c4 A5 c5 wc (Kd.aC HC4.out iM.out.1) hc4 (Kd.aC HC5.out iM.out.1) IU P8.out
      obtain⟨fb,hfb⟩:∃f,(decide (x.f2.size=0) && dW x.f3 x.f4 x.f5)=f:=⟨_,rfl⟩
      rw[hfb] at hfl U3;have HFL:=ah.mk hfl;clear hfl h1 hfb
      go_wp2_with (first
       | (refine eX (.load 29 (.tmp 5)) rfl ?_;refine wpList_load_row rfl _ _ rfl w.heap.size rfl 29 _ (0,0) _ iM.out.2 Tryz.underlying29 rfl aD ?_)
       | (go_at_call 125;refine HFL.out.mono ?_;rintro e w3 ⟨rfl,hb3⟩;have kW:=ah.mk (iM.out.step hb3);clear hb3))
      go_ret
      exact⟨by rw[U3.out] <;> rfl,kW.out.1⟩
     have e1:(x.f0 == 1)=false:=beq_eq_false_iff_ne.2 h1;by_cases hb:x.f3=0∧x.f4.length=0∧x.f5.length=0
     ·obtain⟨b3,b4,b5⟩:=hb
      have HBP:ah (iy x=true):=⟨by unfold iy;rw[decide_eq_true b3,decide_eq_true b4,decide_eq_true b5];rfl⟩
      have g3:(x.f3 != 0)=false:=bne_eq_false_iff_eq.2 b3;have g4:decide ((0:Int)<(x.f4.length:Int))=false:=decide_eq_false aj;have g5:decide ((0:Int)<(x.f5.length:Int))=false:=decide_eq_false aj;have g6:decide (0<x.f4.length)=false:=decide_eq_false aj;have g7:decide (0<x.f5.length)=false:=decide_eq_false aj;clear b3 b4 b5;by_cases h2:x.f0=2
      ·have e2:(x.f0 == 2)=true:=beq_iff_eq.2 h2
       have U3:ah (V=(x.f2.toList == ([]:List UInt8))):=⟨by rw[HV6.out,io2 h1 h2,HBP.out,acY];rfl⟩
       clear h1 h2
       cases hz:(x.f2.toList == ([]:List UInt8)) with
       | true=>
        rw[hz] at U3
        go_wp2_with fail
        go_ret
        exact⟨by rw[U3.out] <;> rfl,iM.out.1⟩
       | false=>
        rw[hz] at U3
        go_wp2_with fail
        go_ret
        exact⟨by rw[U3.out] <;> rfl,iM.out.1⟩
      have e2:(x.f0 == 2)=false:=beq_eq_false_iff_ne.2 h2;by_cases h3:x.f0=3
      ·have e3:(x.f0 == 3)=true:=beq_iff_eq.2 h3
       have U3:ah (V=(decide (x.f2.size≠0) && (decide (x.f2.size≤255) && decide (Lib.indexByte (bs x.f2) 0<0)))):=⟨by rw[HV6.out,io3 h1 h2 h3,HBP.out];rfl⟩
       clear h1 h2 h3
       go_wp2_with fail
       clear e1 e2 e3 g3 g4 g5 g6 g7 j0 j2 j3 j4 j5
       go_loopg [9] x.f2.size (fun g s9 wx=>∃j:Nat,j+g=x.f2.size∧s9=.int .i64 j∧ah (∀c∈(bs x.f2).take j,c≠0)∧wx=wc)
       case atStart=>exact⟨0,by omega,rfl,⟨fun c hc=>(by cases hc)⟩,rfl⟩
       case round=>
        obtain⟨j,hjg,rfl,HN,rfl⟩:=hrel;have j2:wr.cell? ⟨w.heap.size,2,none⟩=some (.string x.f2):=ak iM.out.2 2;by_cases hj:j<x.f2.size
        ·have d1:decide ((j:Int)<(x.f2.size:Int))=true:=decide_eq_true aj;have d2:decide (j<x.f2.size)=true:=decide_eq_true hj;by_cases h0:((x.f2[j]'hj).toNat:Int)=0
         ·have e0:(((x.f2[j]'hj).toNat:Int) == 0)=true:=beq_iff_eq.2 h0
          have HW:ah (V=false):=⟨by
           rw[U3.out,decide_eq_false (p:=Lib.indexByte (bs x.f2) 0<0) (fun hlt=>Lib.indexByte_none (by have:=Lib.indexByte_ge (bs x.f2) 0;omega:Lib.indexByte (bs x.f2) 0 = -1) j (by
            rw[List.getElem?_eq_getElem (by rw[cZ];exact hj),vo x.f2 j hj]
            congr 1
            exact UInt8.toNat.inj (by show _=0;omega))),Bool.and_false,Bool.and_false]⟩
          clear h0
          go_wp2_with fail
          go_ret
          exact⟨by rw[HW.out] <;> rfl,iM.out.1⟩
         have e0:(((x.f2[j]'hj).toNat:Int) == 0)=false:=beq_eq_false_iff_ne.2 h0
         have FT:ah (∀c∈(bs x.f2).take (j+1),c≠0):=⟨fun c hc=>by
          rw[List.take_succ_eq_append_getElem (by rw[cZ];exact hj)] at hc
          rcases List.mem_append.1 hc with hc|hc
          ·exact HN.out c hc
          rw[List.mem_singleton.1 hc,vo x.f2 j hj]
          exact fun h=>h0 (by rw[h];rfl)⟩
         clear h0
         go_wp2_with fail
         go_roundg (x.f2.size - (j+1))
         case measure=>omega
         case rel=>exact⟨j+1,by omega,by first|rfl|(push_cast;rfl)|simp,FT,rfl⟩
        have d1:decide ((j:Int)<(x.f2.size:Int))=false:=decide_eq_false aj;have d2:decide (j<x.f2.size)=false:=decide_eq_false hj
        have hix:Lib.indexByte (bs x.f2) 0<0:=by
         have hge:=Lib.indexByte_ge (bs x.f2) 0
         rcases Int.lt_or_le (Lib.indexByte (bs x.f2) 0) 0 with h|h
         ·exact h
         obtain⟨o,ho⟩:∃o:Nat,Lib.indexByte (bs x.f2) 0=o:=⟨(Lib.indexByte (bs x.f2) 0).toNat,by omega⟩
         have h5:=(Lib.indexByte_some ho).1;refine absurd rfl (HN.out 0 ?_);rw[List.take_of_length_le (by rw[cZ];omega)];exact List.mem_of_getElem? h5
        obtain⟨tl,htl⟩:∃n,x.f2.size=n:=⟨_,rfl⟩
        have HV8:ah (V=(decide (x.f2.size≠0) && decide (x.f2.size≤255))):=⟨by rw[U3.out,decide_eq_true hix,Bool.and_true]⟩
        clear hix htl;by_cases t1:1≤x.f2.size
        ·have m1:decide ((1:Int)≤(x.f2.size:Int))=true:=decide_eq_true aj;have m2:decide (1≤x.f2.size)=true:=decide_eq_true t1;by_cases t2:x.f2.size≤255
         ·have m3:decide ((x.f2.size:Int)≤255)=true:=decide_eq_true aj;have m4:decide (x.f2.size≤255)=true:=decide_eq_true t2
          have HW:ah (V=true):=⟨by rw[HV8.out,decide_eq_true (by omega:x.f2.size≠0),m4];rfl⟩
          clear t1 t2
          go_wp2_with fail
          go_ret
          exact⟨by rw[HW.out] <;> rfl,iM.out.1⟩
         have m3:decide ((x.f2.size:Int)≤255)=false:=decide_eq_false aj;have m4:decide (x.f2.size≤255)=false:=decide_eq_false t2
         have HW:ah (V=false):=⟨by rw[HV8.out,m4,Bool.and_false]⟩
         clear t1 t2
         go_wp2_with fail
         go_ret
         exact⟨by rw[HW.out] <;> rfl,iM.out.1⟩
        have m1:decide ((1:Int)≤(x.f2.size:Int))=false:=decide_eq_false aj;have m2:decide (1≤x.f2.size)=false:=decide_eq_false t1
        have HW:ah (V=false):=⟨by rw[HV8.out,decide_eq_false (by omega:¬x.f2.size≠0)];rfl⟩
        clear t1
        go_wp2_with fail
        go_ret
        exact⟨by rw[HW.out] <;> rfl,iM.out.1⟩
      have e3:(x.f0 == 3)=false:=beq_eq_false_iff_ne.2 h3;by_cases h4:x.f0=4
      ·have e4:(x.f0 == 4)=true:=beq_iff_eq.2 h4
       have hkt:om K x.f2=if x.f2.size=0 then 2 else qy (l.take i) x.f2:=HA.out.om x.f2
       have hft:(qy (l.take i) x.f2 == 1)=decide (om K x.f2=1):=by
        rw[hkt];split
        ·rename_i hz;rw[GH (fun y hy e=>by have:=(HA.out.rise.path y hy).pos;rw[e] at this;omega)];rfl
        exact Bool.eq_iff_iff.2 ⟨fun h=>decide_eq_true (beq_iff_eq.1 h),fun h=>beq_iff_eq.2 (of_decide_eq_true h)⟩
       have hfd:=Nn (some ad) c0 l i x.f2 wc (Kd.aC HR.out iM.out.1) hc aj HA.out.rise hp2 hll;have Ze:=ah.mk hfd
       have U3:ah (V=(qy (l.take i) x.f2 == 1)):=⟨by rw[HV6.out,io4 h1 h2 h3 h4,HBP.out,hft];rfl⟩
       obtain⟨fv,hfv⟩:∃f,qy (l.take i) x.f2=f:=⟨_,rfl⟩
       rw[hfv] at Ze U3;clear hfd hft hkt hfv h1 h2 h3 h4
       go_wp2_with (go_at_call 124;refine Ze.out.mono ?_;rintro e w3 ⟨rfl,hb3⟩;have kW:=ah.mk (iM.out.step hb3);clear hb3)
       go_ret
       exact⟨by rw[U3.out] <;> rfl,kW.out.1⟩
      have e4:(x.f0 == 4)=false:=beq_eq_false_iff_ne.2 h4
      have HW:ah (V=false):=⟨by rw[HV6.out,io5 h1 h2 h3 h4]⟩
      clear h1 h2 h3 h4
      go_wp2_with fail
      go_ret
      exact⟨by rw[HW.out] <;> rfl,iM.out.1⟩
     have HBP:iy x=false:=by
      unfold iy;by_cases b3:x.f3=0
      ·by_cases b4:x.f4.length=0
       ·have b5:¬x.f5.length=0:=fun h=>hb ⟨b3,b4,h⟩
        rw[decide_eq_false b5,Bool.and_false]
       rw[decide_eq_false b4,Bool.and_false,Bool.false_and]
      rw[decide_eq_false b3];rfl
     have HW:ah (V=false):=⟨by
      rw[HV6.out];unfold eT;rw[if_neg h1,HBP]
      simp⟩
     clear HBP h1;by_cases b3:x.f3=0
     ·have g3:(x.f3 != 0)=false:=bne_eq_false_iff_eq.2 b3;by_cases b4:x.f4.length=0
      ·have b5:¬x.f5.length=0:=fun h=>hb ⟨b3,b4,h⟩
       have g4:decide ((0:Int)<(x.f4.length:Int))=false:=decide_eq_false aj;have g5:decide ((0:Int)<(x.f5.length:Int))=true:=decide_eq_true aj;have g6:decide (0<x.f4.length)=false:=decide_eq_false aj;have g7:decide (0<x.f5.length)=true:=decide_eq_true aj;clear hb b3 b4 b5
       go_wp2_with fail
       go_ret
       exact⟨by rw[HW.out] <;> rfl,iM.out.1⟩
      have g4:decide ((0:Int)<(x.f4.length:Int))=true:=decide_eq_true aj;have g6:decide (0<x.f4.length)=true:=decide_eq_true aj;clear hb b3 b4
      go_wp2_with fail
      go_ret
      exact⟨by rw[HW.out] <;> rfl,iM.out.1⟩
     have g3:(x.f3 != 0)=true:=bne_iff_ne.2 b3;clear hb b3
     go_wp2_with fail
     go_ret
     exact⟨by rw[HW.out] <;> rfl,iM.out.1⟩
end Go.Proofs.YtknihldkhedpkaaGreatDoor
end
section
namespace Go.Proofs.YtknihldkhedpkaaGreatDoor
open Go.RowKit
open Go.Lib hiding bytesOf bytesOf_length bytesOf_take
open Go.Proofs.YtknihldkhedpkaaGreatDoorW.PrintWords Go.Proofs.YtknihldkhedpkaaGreatDoorW.PrintLast Go.Proofs.YtknihldkhedpkaaGreatDoor.PT
def rX (i:Int):Nat→List Ru→Option Nat
 | _,[]=>none
 | n,r::l=>if r.f0≤i∧i<r.f1 then some (n+(i - r.f0).toNat) else rX i (n+(r.f1 - r.f0).toNat) l
def vB (l:List Ru) (d:List Int) (i:Int):List Int:=match rX i 0 l with
 | none=>[]
 | some k=>if d.length<512*(k+1) then [] else iX d k
def SlE (w0:World) (o:List Int) (e:Ending):Prop:=∃A c,e=.returned (.slice A o.length c)∧o.length≤c∧Kd.C (Kd.int .u8) w0 A o.length o
theorem Tq (w0:World):SlE w0 [] (.returned (.slice none 0 0)):=⟨none,0,rfl,Nat.le_refl _,Kd.JQ _ _⟩
theorem Nr (x:It) (i:Int) (A4:Option Addr) (c4:Nat) (A5:Option Addr) (c5:Nat) (w:World) (hr:Kd.C dw w A4 x.f4.length x.f4) (hc4:x.f4.length≤c4) (hd:Kd.C (Kd.int .u8) w A5 x.f5.length x.f5) (IU:x.f5.length≤c5)
  (Mh:∀r∈x.f4,0≤r.f0∧r.f0≤r.f1∧r.f1≤16522) (hl:x.f4.length≤16523) (hdl:x.f5.length≤140737488351232) (hi0:0≤i) (hi1:i≤16522) :
  Calls Tryz.prog 71 #[.agg #[.int .i64 x.f0,.string x.f1,.string x.f2,.int .i64 x.f3,.slice A4 x.f4.length c4,.slice A5 x.f5.length c5],.int .i64 i] w fun e w'=>SlE w (vB x.f4 x.f5 i) e∧Below w.heap.size w w':=by
 obtain⟨V,hV⟩:∃V,vB x.f4 x.f5 i=V:=⟨_,rfl⟩
 rw[hV];have HV:=ah.mk hV;have HR:=ah.mk hr;have HD:=ah.mk hd;have HRU:=ah.mk Mh;have HB1:=ah.mk (show JO w (w.alloc (.cells #[.int .i64 x.f0,.string x.f1,.string x.f2,.int .i64 x.f3,.slice A4 x.f4.length c4,.slice A5 x.f5.length c5] 29)) #[.int .i64 x.f0,.string x.f1,.string x.f2,.int .i64 x.f3,.slice A4 x.f4.length c4,.slice A5 x.f5.length c5] from⟨(Below.refl w.heap.size w).alloc (Nat.le_refl _) _,bF w (.cells #[.int .i64 x.f0,.string x.f1,.string x.f2,.int .i64 x.f3,.slice A4 x.f4.length c4,.slice A5 x.f5.length c5] 29)⟩);clear hV hr hd Mh
 go_enter Tryz.func71,Tryz.ntmps71
 go_wp2_with fail
 go_loopg [5,6] x.f4.length (fun g s5 s6 wx=>∃(j n:Nat),j+g=x.f4.length∧s5=.int .i64 ((512*n:Nat):Int)∧s6=.int .i64 j∧n≤16522*j∧ah (rX i n (x.f4.drop j)=rX i 0 x.f4)∧ah (JO w wx #[.int .i64 x.f0,.string x.f1,.string x.f2,.int .i64 x.f3,.slice A4 x.f4.length c4,.slice A5 x.f5.length c5]))
 case atStart=>exact⟨0,0,by omega,rfl,rfl,by omega,⟨by rw[List.drop_zero]⟩,HB1⟩
 case round=>
  clear HB1;obtain⟨j,n,hjg,rfl,rfl,hn,HK,HB⟩:=hrel;have k4:wr.cell? ⟨w.heap.size,4,none⟩=some (.slice A4 x.f4.length c4):=ak HB.out.2 4;by_cases hj:j<x.f4.length
  ·have d1:decide ((j:Int)<(x.f4.length:Int))=true:=decide_eq_true aj;have d2:decide (j<x.f4.length)=true:=decide_eq_true hj;obtain⟨ad,hA,r0,r1⟩:=dQ (Kd.aC HR.out HB.out.1) (j:Int) aj aj
   have hrd:aQ x.f4 (j:Int)=x.f4[j]:=by simp[aQ,hj]
   have hqr:=HRU.out x.f4[j] (List.getElem_mem hj);have hk:=HK.out;rw[List.drop_eq_getElem_cons hj,rX] at hk
   obtain⟨q,hq⟩:∃q,x.f4[j]=q:=⟨_,rfl⟩
   rw[hrd,hq,Int.toNat_natCast] at r0 r1;rw[hq] at hk hqr;obtain⟨q0,q1,q2⟩:=hqr;subst hA;have p0:(0≤(j:Int))=True:=eq_true aj;have p1:((j:Int)<(x.f4.length:Int))=True:=eq_true aj;have hbx:=bF wr (.cells #[.int .i64 q.f0,.int .i64 q.f1] 117);have hba:=(Below.refl wr.heap.size wr).alloc (Nat.le_refl _) (.cells #[.int .i64 q.f0,.int .i64 q.f1] 117)
   obtain⟨W1,hW1⟩:∃W1,wr.alloc (.cells #[.int .i64 q.f0,.int .i64 q.f1] 117)=W1:=⟨_,rfl⟩
   rw[hW1] at hbx hba;have z0:W1.cell? ⟨wr.heap.size,0,none⟩=some (.int .i64 q.f0):=ak hbx 0;have z1:W1.cell? ⟨wr.heap.size,1,none⟩=some (.int .i64 q.f1):=ak hbx 1;have HB2:=ah.mk (HB.out.step hba);have k5:W1.cell? ⟨w.heap.size,5,none⟩=some (.slice A5 x.f5.length c5):=ak HB2.out.2 5;clear hrd hq hbx hba HK;by_cases hin:q.f0≤i∧i<q.f1
   ·rw[if_pos hin] at hk;have e1:decide (q.f0≤i)=true:=decide_eq_true hin.1;have e2:decide (i<q.f1)=true:=decide_eq_true hin.2
    obtain⟨kk,hkk⟩:∃kk,n+(i - q.f0).toNat=kk:=⟨_,rfl⟩
    rw[hkk] at hk
    obtain⟨m,hm⟩:∃m:Nat,512*kk=m:=⟨_,rfl⟩
    have hki:512*(n:Int)+512*(i - q.f0)=(m:Int):=by omega
    have hkl:kk≤16522*16523+16522:=by
     have:16522*j≤16522*16523:=Nat.mul_le_mul_left _ aj;omega
    have HKI:=ah.mk hki;have jG:=ah.mk hk.symm;clear hki
    go_upto_region 8 with (fail)
    rw[HKI.out]
    by_cases hov:x.f5.length<512*(kk+1)
    ·have e3:decide ((x.f5.length:Int)<(m:Int)+512)=true:=decide_eq_true aj
     have HW:ah (V=[]):=⟨by rw[← HV.out];unfold vB;rw[jG.out];dsimp only;rw[if_pos hov]⟩
     clear hov
     go_wp2_with fail
     go_ret
     exact⟨by rw[HW.out];exact Tq w,HB2.out.1⟩
    have e3:decide ((x.f5.length:Int)<(m:Int)+512)=false:=decide_eq_false aj
    have hV:V=iX x.f5 kk:=by rw[← HV.out];unfold vB;rw[jG.out];dsimp only;rw[if_neg hov]
    have hsz:512*(kk+1)≤x.f5.length:=by omega
    have hbr:=GI HD.out hsz;have hbl:=gW hsz;rw[← hV] at hbr hbl;have HBR:=ah.mk hbr;have HBL:=ah.mk hbl;clear hov hV hbr hbl
    go_wp2_with fail
    go_ret
    have hl2:=HBL.out
    have hsv:(Value.slice (A5.map (·.add m)) (m+512 - m) (c5 - m))=.slice (A5.map (·.add m)) V.length (c5 - m):=by rw[hl2,Nat.add_sub_cancel_left]
    exact⟨⟨A5.map (·.add m),c5 - m,congrArg Ending.returned hsv,by omega,by rw[hl2,← hm];exact HBR.out⟩,HB2.out.1⟩
   rw[if_neg hin] at hk
   have jG:ah (rX i (n+(q.f1 - q.f0).toNat) (x.f4.drop (j+1))=rX i 0 x.f4):=⟨hk⟩
   have hm:((512*n:Nat):Int)+512*(q.f1 - q.f0)=((512*(n+(q.f1 - q.f0).toNat):Nat):Int):=by omega
   have hm2:n+(q.f1 - q.f0).toNat≤16522*(j+1):=by omega
   by_cases h1:q.f0≤i
   ·have e1:decide (q.f0≤i)=true:=decide_eq_true h1;have e2:decide (i<q.f1)=false:=decide_eq_false (fun h=>hin ⟨h1,h⟩)
    go_wp2_with fail
    go_roundg (x.f4.length - (j+1))
    case measure=>omega
    case rel=>exact⟨j+1,n+(q.f1 - q.f0).toNat,by omega,by first|rfl|(congr 1;done)|(congr 1;omega),by first|rfl|(push_cast;rfl)|simp,hm2,jG,HB2⟩
   have e1:decide (q.f0≤i)=false:=decide_eq_false h1
   go_wp2_with fail
   go_roundg (x.f4.length - (j+1))
   case measure=>omega
   case rel=>exact⟨j+1,n+(q.f1 - q.f0).toNat,by omega,by first|rfl|(congr 1;done)|(congr 1;omega),by first|rfl|(push_cast;rfl)|simp,hm2,jG,HB2⟩
  have d1:decide ((j:Int)<(x.f4.length:Int))=false:=decide_eq_false aj;have d2:decide (j<x.f4.length)=false:=decide_eq_false hj;have hk:=HK.out;rw[List.drop_of_length_le aj,rX] at hk
  have HW:ah (V=[]):=⟨by rw[← HV.out];unfold vB;rw[← hk]⟩
  clear hk
  go_wp2_with fail
  go_ret
  exact⟨by rw[HW.out];exact Tq w,HB.out.1⟩
end Go.Proofs.YtknihldkhedpkaaGreatDoor
end
section
namespace Go.Proofs.YtknihldkhedpkaaGreatDoor
open Go.RowKit Go.Lib
open Go.Proofs.YtknihldkhedpkaaGreatDoorW.PrintWords Go.Proofs.YtknihldkhedpkaaGreatDoorW.PrintLast Go.Proofs.YtknihldkhedpkaaGreatDoor.PT
theorem BH (f:Int) (n:Nat) (i:Int):∀m:Nat,iQ ((List.range m).map fun k:Nat=>f+(k:Int)) n i=if f≤i∧i<f+m then some (n+(i - f).toNat) else none
 | 0=>by
  rw[if_neg aj];rfl
 | m+1=>by
  rw[List.range_succ,List.map_append,List.map_singleton,wW,BH f n i m,List.length_map,List.length_range];by_cases e:f+(m:Int)=i
  ·rw[if_pos e,if_pos aj,show (i - f).toNat=m by omega]
  rw[if_neg e]
  by_cases h:f≤i∧i<f+(m:Int)
  ·rw[if_pos h,if_pos aj]
  rw[if_neg h,if_neg aj]
theorem Ns (r:Ru) (n:Nat) (i:Int):iQ (jI r) n i=if r.f0≤i∧i<r.f1 then some (n+(i - r.f0).toNat) else none:=by
 unfold jI;rw[BH];by_cases h:r.f0≤i∧i<r.f1
 ·rw[if_pos h,if_pos aj]
 rw[if_neg h,if_neg aj]
theorem Nt (r:Ru):(jI r).length=(r.f1 - r.f0).toNat:=by
 unfold jI;simp
theorem U4 {l:List Ru} {x:Int} (h:x∈idxs l):∃r∈l,r.f0≤x∧x<r.f1:=by
 unfold idxs jI at h;obtain⟨r,hr,hx⟩:=List.mem_flatMap.1 h;obtain⟨k,hk,rfl⟩:=List.mem_map.1 hx;rw[List.mem_range] at hk;exact⟨r,hr,by omega⟩
theorem JR {most:Int}:∀{l:List Ru} {last all a:Int},dL most last all l=some a→∀r∈l,last<r.f0
 | q::l,last,all,a,h,r,hr=>by
  rw[dL] at h;split at h
  ·cases h
  rcases List.mem_cons.1 hr with rfl|hr
  ·omega
  have:=JR h r hr;omega
theorem JU {most:Int} (i:Int):∀{l:List Ru} {last all a:Int} (n:Nat),dL most last all l=some a→iQ (idxs l) n i=rX i n l
 | [],_,_,_,_,_=>rfl
 | r::l,last,all,a,n,h=>by
  rw[dL] at h;split at h
  ·cases h
  have ih:=JU i (n+(r.f1 - r.f0).toNat) h;have hlow:=JR h;rw[show idxs (r::l)=jI r++idxs l from rfl,P9,Nt,Ns,rX];by_cases hin:r.f0≤i∧i<r.f1
  ·rw[if_pos hin,if_pos hin,Ej (fun hm=>by
    obtain⟨q,hq,hq1,hq2⟩:=U4 hm;have:=hlow q hq
    omega)]
  rw[if_neg hin,if_neg hin,ih]
  cases rX i (n+(r.f1 - r.f0).toNat) l <;> rfl
theorem Xi {old goal:VU} {k:Nat} {i most a:Int} (ho:dL most (-1) 0 old.f4=some a) (hf:∀j,iQ (idxs old.f4) 0 i=some j→512*(j+1)≤old.f5.length) (hg:512*(k+1)≤goal.f5.length):newAt old goal k i=decide (vB old.f4 old.f5 i≠iX goal.f5 k):=by
 unfold newAt vB;rw[← JU i 0 ho]
 cases hl:iQ (idxs old.f4) 0 i with
 | none=>
  exact (decide_eq_true (show ([]:List Int)≠iX goal.f5 k from fun e=>by
   have h1:=congrArg List.length e;rw[gW hg] at h1
   cases h1)).symm
 | some j=>
  have hj:=hf j hl;dsimp only;exact decide_eq_decide.2 (by rw[if_neg (show ¬old.f5.length<512*(j+1) by omega)])
end Go.Proofs.YtknihldkhedpkaaGreatDoor
end
section
namespace Go.Proofs.YtknihldkhedpkaaGreatDoor.PT
open Go.RowKit Go.Proofs.YtknihldkhedpkaaGreatDoorW.PrintWords Go.Proofs.YtknihldkhedpkaaGreatDoorW.PrintLast Go.Proofs.YtknihldkhedpkaaGreatDoorW.PrintMore
attribute [local go_sem] kI kJ mI mJ jE jF kK kL
def jO.f (l0:List (dh)) (a1:Int):Option ((List (dh))):=if (l0.length:Int) > 0 then (if 0≤(wrap64 ((l0.length:Int) - 1)) then (if (wrap64 ((l0.length:Int) - 1))<(l0.length:Int) then (if ((aQ l0 (wrap64 ((l0.length:Int) - 1))).f1)=a1 then (some (l0.set ((wrap64 ((l0.length:Int) - 1)):Int).toNat (⟨(aQ l0 (wrap64 ((l0.length:Int) - 1))).f0,wrap64 (a1+1)⟩:dh))) else (if l0.length<8796093022208 then (some (l0++[(⟨a1,wrap64 (a1+1)⟩:dh)])) else (none))) else (none)) else (none)) else (if l0.length<8796093022208 then (some (l0++[(⟨a1,wrap64 (a1+1)⟩:dh)])) else (none))
theorem jO.calls (zX:Nat→Prop) (zY:Value) (l0:List (dh)) (a1:Int) (r:List (dh)) (w0 w:World) (hB:Below w0.heap.size w0 w) (ho0:Kd.R dw 117 w w0.heap.size zX zY l0) (h:jO.f l0 a1=some r) :
  Calls Tryz.prog 72 #[zY,.int .i64 a1] w fun e w'=>∃wI:Value,e=.returned (wI)∧Kd.R dw 117 w' w0.heap.size (fun k_=>(zX k_∨w.heap.size≤k_)) wI r∧Below w0.heap.size w0 w'∧Kept w w' (fun k_=>zX k_):=by
 have WL:=Tryz.underlying117;have sU:=ah.mk (show Kd.R dw 117 w w0.heap.size (fun k_=>(zX k_∨w.heap.size≤k_)) zY l0 from Kd.dX ho0 (fun k_ hk=>(.inl hk)));have HK:=ah.mk (Kept.refl w (fun k_=>zX k_));have HW0:=ah.mk hB.size;have HB:=ah.mk hB;clear hB;have H:(if (l0.length:Int) > 0 then (if 0≤(wrap64 ((l0.length:Int) - 1)) then (if (wrap64 ((l0.length:Int) - 1))<(l0.length:Int) then (if ((aQ l0 (wrap64 ((l0.length:Int) - 1))).f1)=a1 then (some (l0.set ((wrap64 ((l0.length:Int) - 1)):Int).toNat (⟨(aQ l0 (wrap64 ((l0.length:Int) - 1))).f0,wrap64 (a1+1)⟩:dh))) else (if l0.length<8796093022208 then (some (l0++[(⟨a1,wrap64 (a1+1)⟩:dh)])) else (none))) else (none)) else (none)) else (if l0.length<8796093022208 then (some (l0++[(⟨a1,wrap64 (a1+1)⟩:dh)])) else (none)))=some r:=h;clear h;by_cases c3:(l0.length:Int) > 0
 ·rw[if_pos c3] at H;have qo:decide (0<(l0.length:Int))=true:=decide_eq_true c3;have xG:decide (0<l0.length)=true:=decide_eq_true aj;clear c3
  obtain⟨jY,GJ⟩:∃j_:Int,(wrap64 ((l0.length:Int) - 1))=j_:=⟨_,rfl⟩
  replace H:(if 0≤(jY) then (if (jY)<(l0.length:Int) then (if ((aQ l0 (jY)).f1)=a1 then (some (l0.set ((jY):Int).toNat (⟨(aQ l0 (jY)).f0,wrap64 (a1+1)⟩:dh))) else (if l0.length<8796093022208 then (some (l0++[(⟨a1,wrap64 (a1+1)⟩:dh)])) else (none))) else (none)) else (none))=some r:=by first|(rw[GJ] at H;exact H)|(simp only[GJ] at H ⊢;exact H)
  have ahI:(IntKind.i64.wrap ((l0.length:Int) - 1))=jY:=(eG _).trans GJ
  by_cases c5:0≤(jY)
  ·rw[if_pos c5] at H;have Bg:decide (0≤(jY))=true:=decide_eq_true c5;clear c5
   by_cases c6:(jY)<(l0.length:Int)
   ·rw[if_pos c6] at H;have Nc:decide ((jY)<(l0.length:Int))=true:=decide_eq_true c6;clear c6;by_cases c7:((aQ l0 (jY)).f1)=a1
    ·rw[if_pos c7] at H;have KY:(((aQ l0 (jY)).f1) == a1)=true:=beq_iff_eq.mpr c7;have Xj:(((aQ l0 (jY)).f1) != a1)=false:=bne_eq_false_iff_eq.mpr c7;clear c7
     obtain⟨ahJ,Nu⟩:∃y_:List (dh),y_=(l0.set ((jY):Int).toNat (⟨(aQ l0 (jY)).f0,wrap64 (a1+1)⟩:dh)):=⟨_,rfl⟩
     replace H:(some ahJ)=some r:=by first|(rw[Nu];with_reducible exact H)|(have qc:=(Option.bind_some _ _).symm.trans H;rw[Nu];with_reducible exact qc)|(have qc:=(Option.bind_some _ _).symm.trans H;with_reducible exact qc)|with_reducible exact H|(rw[Nu];exact H)|exact H
     have ahK:=ah.mk Nu;clear Nu;obtain rfl:=Option.some.inj H;obtain⟨IK,Ei,VY⟩:=Kd.bP sU.out;subst VY;have Qa:0≤((jY):Int):=of_decide_eq_true bg;have Qb:(jY)<(l0.length:Int):=of_decide_eq_true bg;obtain⟨acZ,aey,Tt,Tv⟩:=dQ (Kd.bU sU.out).2.2 (jY) Qa Qb;cases aey;replace Qa:=eq_true Qa;replace Qb:=eq_true Qb;have p8:0≤((jY):Int):=of_decide_eq_true bg;have q8:((jY):Int)<((l0.length:Int):Int):=of_decide_eq_true bg;obtain⟨IV,co8,eo8,gb8,gl8,cl8,HG8⟩:=Kd.Qc sU.out aj
     (first|cases eo8|(injection eo8 with yw Qd Qe;(first|subst yw|(injection yw with yw;subst yw));subst Qe;clear Qd))
     have GB8:=ah.mk gb8;have GG8:=ah.mk HG8;clear gb8 gl8 HG8;have ahN:=ah.mk (show (zX IV∨w.heap.size≤IV) from (sU.out.1 _ rfl))
     (first|simp only[add_plain] at Tt|skip)
     (first|simp only[add_plain] at Tv|skip)
     obtain⟨ce8,aez,hM8,Qf,Qg⟩:=Kd.GK sU.out z117 ((jY):Int) p8 q8;obtain rfl:=uT hM8;have ahP:w.cell? ⟨IV,((jY):Int).toNat*2,none⟩=some (.int .i64 ((aQ l0 (jY)).f0)):=Qf 0 _ rfl;have ahQ:w.cell? ⟨IV,((jY):Int).toNat*2+1,none⟩=some (.int .i64 ((aQ l0 (jY)).f1)):=Qf 1 _ rfl;have ahR:w.frozen? ⟨IV,((jY):Int).toNat*2,none⟩=false:=Qg 0;have ahS:w.frozen? ⟨IV,((jY):Int).toNat*2+1,none⟩=false:=Qg 1;clear aez Qf Qg hM8;replace p8:=eq_true p8;replace q8:=eq_true q8;have Xk:=ah.mk (show Kd.R dw 117 w w0.heap.size (fun k_=>(zX k_∨w.heap.size≤k_)) (.slice (some ⟨IV,0,none⟩) l0.length Ei) l0 from (by (with_reducible repeat (first|apply Kd.aW|apply Kd.aT|apply Kd.bE));exact sU.out));obtain⟨anp,Nv,Xl,GL,Nw⟩:=Kd.GK Xk.out z117 ((jY):Int) (of_decide_eq_true bg) (by have h_:((jY):Int)<((l0.length:Int):Int):=of_decide_eq_true bg;first|exact h_|(have e_:=(Kd.bU sU.out).1;omega)|simpa using h_);obtain rfl:=uT Xl;have Qh:=Kd.ac0 Xk.out ((jY):Int) (of_decide_eq_true bg) (by have h_:((jY):Int)<((l0.length:Int):Int):=of_decide_eq_true bg;first|exact h_|(have e_:=(Kd.bU sU.out).1;omega)|simpa using h_) (seg:=[.int .i64 (wrap64 (a1+1))]) (j:=1) Nv GL (show 2≤2 from by decide) (x':=(⟨(aQ l0 (jY)).f0,wrap64 (a1+1)⟩:dh)) (rF _ _ _ (⟨(aQ l0 (jY)).f0,wrap64 (a1+1)⟩:dh) ) (fun _ hk=>hk);have Qi:=GL 1 _ rfl
     (try simp only[show (dw).sz=2 from rfl,Nat.mul_one,Nat.add_zero] at Qi)
     have Qj:=Nw 1
     (try simp only[show (dw).sz=2 from rfl,Nat.mul_one,Nat.add_zero] at Qj)
     clear Nv GL Nw Xl
     go_enter Tryz.func72,Tryz.ntmps72
     go_wp2_with (first|((with_reducible refine rY (t:=3) (p:=26) rfl ?_);refine qz (t:=3) (p:=26) (v:=?aeA) (w1:=(w.setCell ⟨IV,((jY):Int).toNat*2+1,none⟩ (.int .i64 (wrap64 (a1+1))))) ?hg ?ho ?hn ?hr ?_;(case ho=>rfl);(case hg=>rfl);(case hn=>rfl);(case hr=>first|(go_simp;done)|(go_simp;rfl));intro Dq hw;have hg:w.grownBy Dq (some IV):=(by rw[hw];exact Qh.2);have Tw:Kd.R dw 117 Dq w0.heap.size (fun k_=>(zX k_∨w.heap.size≤k_)) (.slice (some ⟨IV,0,none⟩) l0.length Ei) ahJ:=(by rw[hw,ahK.out];exact Qh.1);clear Qh;have dM:=ah.mk (Tw);have dU:=ah.mk ((by rw[hw];exact aV (HB.out) GB8.out:Below w0.heap.size w0 Dq));have eF:=ah.mk (Kept.uK (S:=(fun k_=>zX k_)) hg (by repeat (first|(with_reducible first|exact HK.out|apply Kept.alloc|apply Kept.drewN|apply Kept.drew)|exact HK.out)) (fun k_ e_=>(sU.out.1 k_ e_)));clear sU;clear HB;clear HK;have sU:=dM;have HB:=dU;have HK:=eF;clear dM dU eF;clear hg hw Tw))
     go_ret
     exact⟨_,by first|rfl|(simp[aY,aZ] <;> rfl)|(simp only[← GJ];first|rfl|(simp[aY,aZ] <;> rfl))|(simp[*,aY,aZ] <;> rfl),by (with_reducible repeat (first|apply Kd.aW|apply Kd.aT|apply Kd.bE));exact sU.out,by repeat (first|(with_reducible first|exact HB.out|apply aG|apply av|apply aK)|exact HB.out),by repeat (first|(with_reducible first|exact HK.out|apply Kept.alloc|apply Kept.drewN|apply Kept.drew)|exact HK.out)⟩
    rw[if_neg c7] at H;have KY:(((aQ l0 (jY)).f1) == a1)=false:=beq_eq_false_iff_ne.mpr c7;have Xj:(((aQ l0 (jY)).f1) != a1)=true:=bne_iff_ne.mpr c7;by_cases c12:l0.length<8796093022208
    ·rw[if_pos c12] at H;have Xm:=ah.mk c12;clear c12
     obtain⟨anq,Ny⟩:∃y_:List (dh),y_=(l0++[(⟨a1,wrap64 (a1+1)⟩:dh)]):=⟨_,rfl⟩
     replace H:(some anq)=some r:=by first|(rw[Ny];with_reducible exact H)|(have qc:=(Option.bind_some _ _).symm.trans H;rw[Ny];with_reducible exact qc)|(have qc:=(Option.bind_some _ _).symm.trans H;with_reducible exact qc)|with_reducible exact H|(rw[Ny];exact H)|exact H
     have ahT:=ah.mk Ny;clear Ny;obtain rfl:=Option.some.inj H;obtain⟨anr,aeB,aeC⟩:=Kd.bP sU.out;subst aeC;have Qa:0≤((jY):Int):=of_decide_eq_true bg;have Qb:(jY)<(l0.length:Int):=of_decide_eq_true bg;obtain⟨acZ,aey,Tt,Tv⟩:=dQ (Kd.bU sU.out).2.2 (jY) Qa Qb;cases aey;replace Qa:=eq_true Qa;replace Qb:=eq_true Qb
     go_enter Tryz.func72,Tryz.ntmps72
     go_wp2_with (first|((with_reducible refine bQ (b:=.append) (xs:=#[.tmp 28,.tmp 33]) rfl ?_);(try (refine vC (by rfl) ?_;dsimp only));at_builtin;refine Kd.gJ dw (w0:=w0) w0.heap.size rfl (.tmp 28) (.tmp 33) 26 117 (.agg #[(.int .i64 0),(.int .i64 0)]) 16 rfl Tryz.underlying26 Ay rfl aH aj (.slice (some acZ) l0.length aeB) l0 (⟨a1,wrap64 (a1+1)⟩:dh) [.int .i64 a1,.int .i64 (wrap64 (a1+1))] (fun k_=>(zX k_∨w.heap.size≤k_)) (fun _=>False) rfl rfl ?aP (fun _ hk=>hk.elim) ?aF ?aO ?aB ?aS ?aL ?_;(case aP=>exact rF _ _ _ (⟨a1,wrap64 (a1+1)⟩:dh));(case aB=>exact dG);(case aF=>exact (fun k_ hk=>(.inr (Nat.le_trans (by first|exact HK.out.1|exact (show Kept w _ (fun k_=>zX k_) from by repeat (first|(with_reducible first|exact HK.out|apply Kept.alloc|apply Kept.drewN|apply Kept.drew)|exact HK.out)).1) hk))));(case aO=>exact (by (with_reducible repeat (first|apply Kd.aW|apply Kd.aT|apply Kd.bE));exact sU.out));(case aS=>exact (bH dG));(case aL=>have:=Xm.out;omega);intro aso w14 ho hb hg hat;rw[← ahT.out] at ho;have dM:=ah.mk (hb);have dU:=ah.mk (Kept.uK (S:=(fun k_=>zX k_)) hg (by repeat (first|(with_reducible first|exact HK.out|apply Kept.alloc|apply Kept.drewN|apply Kept.drew)|exact HK.out)) (fun k_ e_=>(sU.out.1 k_ e_)));have eF:=ah.mk (ho);clear HB;clear HK;clear sU;have HB:=dM;have HK:=dU;have ahU:=eF;clear dM dU eF;clear ho hb hg hat))
     go_ret
     exact⟨_,by first|rfl|(simp[aY,aZ] <;> rfl)|(simp only[← GJ];first|rfl|(simp[aY,aZ] <;> rfl))|(simp[*,aY,aZ] <;> rfl),by (with_reducible repeat (first|apply Kd.aW|apply Kd.aT|apply Kd.bE));exact ahU.out,by repeat (first|(with_reducible first|exact HB.out|apply aG|apply av|apply aK)|exact HB.out),by repeat (first|(with_reducible first|exact HK.out|apply Kept.alloc|apply Kept.drewN|apply Kept.drew)|exact HK.out)⟩
    rw[if_neg c12] at H;exact absurd H bB
   rw[if_neg c6] at H;exact absurd H bB
  rw[if_neg c5] at H;exact absurd H bB
 rw[if_neg c3] at H;have qo:decide (0<(l0.length:Int))=false:=decide_eq_false c3;have xG:decide (0<l0.length)=false:=decide_eq_false aj;clear c3;by_cases c15:l0.length<8796093022208
 ·rw[if_pos c15] at H;have Xn:=ah.mk c15;clear c15
  obtain⟨ant,Nz⟩:∃y_:List (dh),y_=(l0++[(⟨a1,wrap64 (a1+1)⟩:dh)]):=⟨_,rfl⟩
  replace H:(some ant)=some r:=by first|(rw[Nz];with_reducible exact H)|(have qc:=(Option.bind_some _ _).symm.trans H;rw[Nz];with_reducible exact qc)|(have qc:=(Option.bind_some _ _).symm.trans H;with_reducible exact qc)|with_reducible exact H|(rw[Nz];exact H)|exact H
  have ahV:=ah.mk Nz;clear Nz;obtain rfl:=Option.some.inj H;obtain⟨aeD,aeE,aeF⟩:=Kd.bP sU.out;subst aeF
  go_enter Tryz.func72,Tryz.ntmps72
  go_wp2_with (first|((with_reducible refine bQ (b:=.append) (xs:=#[.tmp 28,.tmp 33]) rfl ?_);(try (refine vC (by rfl) ?_;dsimp only));at_builtin;refine Kd.gJ dw (w0:=w0) w0.heap.size rfl (.tmp 28) (.tmp 33) 26 117 (.agg #[(.int .i64 0),(.int .i64 0)]) 16 rfl Tryz.underlying26 Ay rfl aH aj (.slice aeD l0.length aeE) l0 (⟨a1,wrap64 (a1+1)⟩:dh) [.int .i64 a1,.int .i64 (wrap64 (a1+1))] (fun k_=>(zX k_∨w.heap.size≤k_)) (fun _=>False) rfl rfl ?aP (fun _ hk=>hk.elim) ?aF ?aO ?aB ?aS ?aL ?_;(case aP=>exact rF _ _ _ (⟨a1,wrap64 (a1+1)⟩:dh));(case aB=>exact dG);(case aF=>exact (fun k_ hk=>(.inr (Nat.le_trans (by first|exact HK.out.1|exact (show Kept w _ (fun k_=>zX k_) from by repeat (first|(with_reducible first|exact HK.out|apply Kept.alloc|apply Kept.drewN|apply Kept.drew)|exact HK.out)).1) hk))));(case aO=>exact (by (with_reducible repeat (first|apply Kd.aW|apply Kd.aT|apply Kd.bE));exact sU.out));(case aS=>exact (bH dG));(case aL=>have:=Xn.out;omega);intro asr w17 ho hb hg hat;rw[← ahV.out] at ho;have dM:=ah.mk (hb);have dU:=ah.mk (Kept.uK (S:=(fun k_=>zX k_)) hg (by repeat (first|(with_reducible first|exact HK.out|apply Kept.alloc|apply Kept.drewN|apply Kept.drew)|exact HK.out)) (fun k_ e_=>(sU.out.1 k_ e_)));have eF:=ah.mk (ho);clear HB;clear HK;clear sU;have HB:=dM;have HK:=dU;have ahW:=eF;clear dM dU eF;clear ho hb hg hat))
  go_ret
  exact⟨_,by first|rfl|(simp[aY,aZ] <;> rfl)|(simp[*,aY,aZ] <;> rfl),by (with_reducible repeat (first|apply Kd.aW|apply Kd.aT|apply Kd.bE));exact ahW.out,by repeat (first|(with_reducible first|exact HB.out|apply aG|apply av|apply aK)|exact HB.out),by repeat (first|(with_reducible first|exact HK.out|apply Kept.alloc|apply Kept.drewN|apply Kept.drew)|exact HK.out)⟩
 rw[if_neg c15] at H;exact absurd H bB
end Go.Proofs.YtknihldkhedpkaaGreatDoor.PT
end
section
namespace Go.Proofs.YtknihldkhedpkaaGreatDoor
open Go.RowKit
open Go.Proofs.YtknihldkhedpkaaGreatDoorW.PrintWords Go.Proofs.YtknihldkhedpkaaGreatDoorW.PrintLast Go.Proofs.YtknihldkhedpkaaGreatDoor.PT
theorem U5 (l:List Rn) (i:Int) (hl:l.length<8796093022208) (h0:0≤i) (h1:i≤140737488351232):jO.f l i=some (qj l i):=by
 unfold jO.f qj
 have hw:wrap64 (i+1)=i+1:=by unfold wrap64;omega
 rcases List.eq_nil_or_concat l with rfl|⟨l',r,rfl⟩
 ·rw[if_neg bB,if_pos bB,hw];rfl
 rw[List.concat_eq_append] at hl ⊢
 have hlen:(l'++[r]).length=l'.length+1:=by simp
 have hw2:wrap64 (((l'++[r]).length:Int) - 1)=(l'.length:Int):=by rw[hlen] at hl ⊢;unfold wrap64;omega
 have hrd:aQ (l'++[r]) (l'.length:Int)=r:=by simp[aQ]
 rw[hw2,hrd,if_pos (by rw[hlen];omega),if_pos (Int.natCast_nonneg _),if_pos (by rw[hlen];push_cast;omega),hw];rw[show (l'++[r]).getLast?=some r by simp];dsimp only;by_cases e:r.f1=i
 ·rw[if_pos e,if_pos e];simp;exact e.symm
 rw[if_neg e,if_neg e,if_pos hl]
end Go.Proofs.YtknihldkhedpkaaGreatDoor
end
