import Derived.Test.YtknihldkhedpkaaGreatDoorUUG27
import Derived.Test.YtknihldkhedpkaaGreatDoorUUG11
import Derived.Test.YtknihldkhedpkaaGreatDoorUUG18
import Derived.Test.YtknihldkhedpkaaGreatDoorUUG25
set_option linter.all false
set_option maxHeartbeats 16000000
set_option maxRecDepth 100000
section
namespace Go.Proofs.YtknihldkhedpkaaGreatDoor
open Go.RowKit
open Go.Lib hiding bytesOf bytesOf_length bytesOf_take
open Go.Proofs.YtknihldkhedpkaaGreatDoorW.PrintWords Go.Proofs.YtknihldkhedpkaaGreatDoorW.PrintLast Go.Proofs.YtknihldkhedpkaaGreatDoor.PT
def tN (x:It):Nat:=(eF x).length
theorem TM (x:It):tN x=3+x.f1.size+(if x.f0=1 then 12+8*x.f4.length+x.f5.length else if x.f0=3∨x.f0=4 then 2+x.f2.size else 0):=by
 unfold tN eF;simp only[List.length_append,aT,Go.Proofs.YtknihldkhedpkaaGreatDoorW.PrintWords.bytesOf_length];by_cases h1:x.f0=1
 ·rw[if_pos h1,if_pos h1];simp only[List.length_append,aT,yF]
  all_goals omega
 rw[if_neg h1,if_neg h1];by_cases h2:x.f0=3∨x.f0=4
 ·rw[if_pos h2,if_pos h2];simp only[List.length_append,aT,Go.Proofs.YtknihldkhedpkaaGreatDoorW.PrintWords.bytesOf_length]
  all_goals omega
 rw[if_neg h2,if_neg h2]
 all_goals simp
theorem KD:∀(l:List It) (out:List Int) (n:Nat),out.length+9≤4194304→lY out n l=if out.length+(l.map tN).sum+9 > 4194304 then ([],7) else (jM (out++l.flatMap eF) ((n+l.length:Nat):Int),0)
 | [],out,n,h=>by
  rw[lY,if_neg (by simp;omega)];simp
 | x::l,out,n,h=>by
  rw[lY,List.map_cons,List.sum_cons];by_cases h1:(out++eF x).length+9 > 4194304
  ·rw[if_pos h1,if_pos (by rw[List.length_append] at h1;show out.length+(tN x+_)+9 > _;unfold tN;omega)]
  rw[if_neg h1,KD l _ _ aj]
  have e:(out++eF x).length+(l.map tN).sum+9=out.length+(tN x+(l.map tN).sum)+9:=by rw[List.length_append];unfold tN;omega
  rw[e,List.flatMap_cons,List.append_assoc,List.length_cons,show n+1+l.length=n+(l.length+1) by omega]
theorem Cm {K:List (ByteArray × Int)} {b:Option (List ByteArray)} {x:It} (h:qY K b x=true) (hf:Fit x):x.f1.size≤1023∧x.f4.length≤16523∧x.f5.length≤8459776∧x.f2.size≤140737488351232∧1≤x.f0∧x.f0≤4∧(0≤x.f3∧x.f3≤9223372036854775807)∧(∀r∈x.f4,(0≤r.f0∧r.f0≤9223372036854775807)∧(0≤r.f1∧r.f1≤9223372036854775807))∧tN x≤140737500000000:=by
 unfold qY at h;simp only[Bool.and_eq_true] at h;obtain⟨⟨⟨h1,_⟩,_⟩,h2⟩:=h;have hp:=Vp.size h1;have hk:=Ec h2;have ht:=hf.t
 suffices hh:x.f4.length≤16523∧x.f5.length≤8459776∧(0≤x.f3∧x.f3≤9223372036854775807)∧(∀r∈x.f4,(0≤r.f0∧r.f0≤9223372036854775807)∧(0≤r.f1∧r.f1≤9223372036854775807)) by
  refine⟨hp,hh.1,hh.2.1,ht,hk.1,hk.2,hh.2.2.1,hh.2.2.2,?_⟩;rw[TM];split
  ·omega
  split <;> omega
 by_cases k1:x.f0=1
 ·unfold d9 at h2;rw[if_pos k1,Bool.and_eq_true] at h2;have hs:=AU h2.2
  have hs3:0≤x.f3∧x.f3≤8459264:=by
   have:=h2.2;unfold iK at this;split at this
   ·cases this
   omega
  refine⟨hs.1,hs.2,by omega,?_⟩
  have hro:∀(l:List Ru) (last all:Int) (o:Int × Int),iJ x.f3 last all l=some o→∀r∈l,(0≤r.f0∧r.f0≤9223372036854775807)∧(0≤r.f1∧r.f1≤9223372036854775807):=by
   intro l
   induction l with
   | nil=>intro _ _ _ _ r hr;cases hr
   | cons q l ih=>
    intro last all o ho r hr;rw[iJ] at ho;split at ho
    ·cases ho
    rcases List.mem_cons.1 hr with rfl|hr
    ·omega
    exact ih _ _ _ ho r hr
  have h3:=h2.2;unfold iK at h3;rw[if_neg aj] at h3
  cases hrk:iJ x.f3 (-1) 0 x.f4 with
  | none=>rw[hrk] at h3;cases h3
  | some o=>exact hro _ _ _ _ hrk
 have hb:iQ x=true:=by
  by_cases k2:x.f0=2
  ·rw[io2 k1 k2,Bool.and_eq_true] at h2;exact h2.1
  by_cases k3:x.f0=3
  ·rw[io3 k1 k2 k3,Bool.and_eq_true] at h2;exact h2.1
  have k4:x.f0=4:=by omega
  rw[io4 k1 k2 k3 k4,Bool.and_eq_true] at h2;exact h2.1
 unfold iQ at hb;simp only[Bool.and_eq_true,decide_eq_true_eq] at hb;have h4:x.f4=[]:=List.length_eq_zero_iff.1 hb.1.2;refine⟨by omega,by omega,by omega,fun r hr=>?_⟩;rw[h4] at hr;cases hr
theorem Z6 {B:Nat} {w0 W:World} (l:List Int) (hB:Below B w0 W) (hle:B≤W.heap.size) (hm:l.length≤9223372036854775807):zu B w0 (W.alloc (.cells (l.map (Value.int .u8)).toArray 5)) (.slice (some ⟨W.heap.size,0,none⟩) l.length l.length) l:=by
 refine⟨⟨fun _ _=>trivial,l.map (Value.int .u8),?_,?_⟩,hB.alloc hle _,?_⟩
 ·have h2:=World.ownsRow_lit (base:=B) (e:=5) (size:=1) W (l.map (Value.int .u8)).toArray l.length hle (by simpa [maxLen] using hm) bK;exact h2
 ·have:∀l:List Int,dO ((Kd.int .u8).M (W.alloc (.cells (l.map (Value.int .u8)).toArray 5)) B (fun k=>True∧some k≠(Value.slice (some ⟨W.heap.size,0,none⟩) l.length l.length).ownBlock)) (Kd.int .u8).sz l (l.map (Value.int .u8)):=fun l=>by
   have h:∀(m:List Int) (R:Int→List Value→Prop),(∀x,R x [Value.int .u8 x])→dO R 1 m (m.map (Value.int .u8)):=by
    intro m R hR
    induction m with
    | nil=>exact dO.none _ _
    | cons x m ih=>exact dO.one (hR x) ih
   exact h l _ (fun x=>rfl)
  exact this l
 rw[World.size_alloc];omega
theorem Dz:∀(l:List It),(l.flatMap eF).length=(l.map tN).sum
 | []=>rfl
 | x::l=>by rw[List.flatMap_cons,List.length_append,Dz l,List.map_cons,List.sum_cons];rfl
theorem XG (l:List It) (j:Nat):((l.take j).map tN).sum≤(l.map tN).sum:=by
 have h:=congrArg (fun q=>(q.map tN).sum) (List.take_append_drop j l);simp only[List.map_append,List.sum_append] at h;omega
theorem XH {w w1:World} {ad:Addr} {k:Nat} {v0 v1 v2 v3 v4 v5:Value} (hb:Below w.heap.size w w1) (h:w.cell? (ad.add k)=some v0∧w.cell? ⟨(ad.add k).block,(ad.add k).off+1,none⟩=some v1∧w.cell? ⟨(ad.add k).block,(ad.add k).off+2,none⟩=some v2∧w.cell? ⟨(ad.add k).block,(ad.add k).off+3,none⟩=some v3∧w.cell? ⟨(ad.add k).block,(ad.add k).off+4,none⟩=some v4∧w.cell? ⟨(ad.add k).block,(ad.add k).off+5,none⟩=some v5):w1.cell? (ad.add k)=some v0∧w1.cell? ⟨(ad.add k).block,(ad.add k).off+1,none⟩=some v1∧w1.cell? ⟨(ad.add k).block,(ad.add k).off+2,none⟩=some v2∧w1.cell? ⟨(ad.add k).block,(ad.add k).off+3,none⟩=some v3∧w1.cell? ⟨(ad.add k).block,(ad.add k).off+4,none⟩=some v4∧w1.cell? ⟨(ad.add k).block,(ad.add k).off+5,none⟩=some v5 :=
 ⟨au hb h.1,au hb h.2.1,au hb h.2.2.1,au hb h.2.2.2.1,au hb h.2.2.2.2.1,au hb h.2.2.2.2.2⟩
def RpE (l:List It) (w:World) (e:Ending) (w':World):Prop:=Below w.heap.size w w'∧∃v,e=.returned (.tuple #[v,.int .i64 (bY l).2])∧Kd.R (Kd.int .u8) 5 w' w.heap.size (fun _=>True) v (bY l).1
theorem Rq {l:List It} {w w':World} {n:Int} (h:bY l=([],n)) (hb:Below w.heap.size w w'):RpE l w (.returned (.tuple #[.slice none 0 0,.int .i64 n])) w':=⟨hb,.slice none 0 0,by rw[h],by rw[h];exact Kd.eY _ _ _ _ _⟩
theorem Rs (A0:Option Addr) (c0:Nat) (l:List It) (w:World) (hr:Kd.C om w A0 l.length l) (hc:l.length≤c0) (hf:∀x∈l,Fit x) (hn:l.length≤140737488351232) :
  Calls Tryz.prog 59 #[.slice A0 l.length c0] w fun e w'=>RpE l w e w':=by
 by_cases h4:4096<l.length
 ·have hP:=ah.mk (show bY l=([],7) by unfold bY;rw[if_pos h4]);have d1:decide ((4096:Int)<(l.length:Int))=true:=decide_eq_true aj;have d2:decide (4096<l.length)=true:=decide_eq_true h4
  go_enter Tryz.func59,Tryz.ntmps59
  go_wp2_with fail
  go_ret2
  exact Rq hP.out (Below.refl _ _)
 have d1:decide ((4096:Int)<(l.length:Int))=false:=decide_eq_false aj;have d2:decide (4096<l.length)=false:=decide_eq_false h4;have hP:=ah.mk (show bY l=if jN l=true then lY jU 0 l else ([],150) by unfold bY;rw[if_neg h4]);have HR:=ah.mk hr;have HF:=ah.mk hf
 have hll:l.length≤4096:=by omega
 clear hr hf h4
 go_enter Tryz.func59,Tryz.ntmps59
 go_wp2_with fail
 clear d1 d2
 go_loopg [4,5] l.length (fun g s4 s5 wx=>∃(i L:Nat) (K:List (ByteArray × Int)) (b:Option (List ByteArray)),i+g=l.length∧s4=.int .i64 L∧s5=.int .i64 i∧L≤17+i*140737500000000∧ah (L=17+((l.take i).map tN).sum)∧ah (uy l i K b)∧ah (jN l=gY K b (l.drop i))∧ah (∀j (hj:j<l.length),j<i→∃K b,qY K b l[j]=true)∧ah (Below w.heap.size w wx))
 case atStart=>exact⟨0,17,_,_,by omega,rfl,rfl,by omega,⟨by simp⟩,⟨uy.zero l⟩,⟨rfl⟩,⟨fun j _ h=>absurd h (Nat.not_lt_zero j)⟩,⟨Below.refl _ _⟩⟩
 case round=>
  obtain⟨i,L,K,b,hig,rfl,rfl,hL,HL,HA,HG,HS,HB⟩:=hrel;by_cases hi:i<l.length
  ·have d1:decide ((i:Int)<(l.length:Int))=true:=decide_eq_true aj;have d2:decide (i<l.length)=true:=decide_eq_true hi;have hrc:=OO A0 c0 l i K b wr (Kd.aC HR.out HB.out) hc hi hll HF.out HA.out
   obtain⟨x,hx⟩:∃x,l[i]=x:=⟨_,rfl⟩
   have hg:=HG.out;rw[List.drop_eq_getElem_cons hi,Mj,hx] at hg;rw[hx] at hrc;have HXI:=ah.mk hx;have hfx:Fit x:=hx▸HF.out _ (List.getElem_mem hi)
   cases hs:qY K b x with
   | false=>
    rw[hs,Bool.false_and] at hg;have hP2:=ah.mk (hP.out.trans (by rw[if_neg (by rw[hg];decide)]));rw[hs] at hrc;have HRC:=ah.mk hrc;clear hs hg hrc hx hfx HG HXI
    go_wp2_with (go_at_call 94;refine HRC.out.mono ?_;rintro e w1 ⟨rfl,hb1⟩)
    go_ret2
    exact Rq hP2.out (HB.out.trans (hb1.mono HB.out.size))
   | true=>
    have hsz:=Cm hs hfx;have HA2:=ah.mk (HA.out.next hi (by rw[hx];exact hs))
    have HS2:ah (∀j (hj:j<l.length),j<i+1→∃K b,qY K b l[j]=true):=⟨fun j hj hji=>by
     by_cases e:j=i
     ·subst e;exact⟨K,b,by rw[hx];exact hs⟩
     exact HS.out j hj aj⟩
    rw[hs,Bool.true_and] at hg;have HG2:=ah.mk hg;rw[hs] at hrc;have HRC:=ah.mk hrc;have hil:=TM x;have HIL:=ah.mk (show L+tN x=17+((l.take (i+1)).map tN).sum by rw[List.take_succ_eq_append_getElem hi,hx,List.map_append,List.sum_append,List.map_cons,List.map_nil,List.sum_cons,List.sum_nil];have:=HL.out;omega);rw[hx] at HA2;obtain⟨s1,s2,s3,s4,_,_,_,_,s9⟩:=hsz;clear hs hg hrc hfx HG HA HS HL;obtain⟨ad,A4,c4,A5,c5,hAd,r0,r1,r2,r3,r4,r5,_⟩:=oo (Kd.aC HR.out HB.out) (i:Int) aj aj
    have hrd:aJ l (i:Int)=l[i]:=by simp[aJ,hi]
    rw[hrd,hx,Int.toNat_natCast] at r0 r1 r2 r3 r4 r5;subst hAd;have HC:=ah.mk (⟨r0,r1,r2,r3,r4,r5⟩:_∧_∧_∧_∧_∧_);clear hrd hx r0 r1 r2 r3 r4 r5
    go_upto_region 9 with (go_at_call 94;refine HRC.out.mono ?_;rintro e w1 ⟨rfl,hb1⟩;have HB1:=ah.mk (HB.out.trans (hb1.mono HB.out.size));have I8:=ah.mk (XH hb1 HC.out);clear hb1)
    obtain⟨r0,r1,r2,r3,r4,r5⟩:=I8.out;have hz:=(Below.refl w1.heap.size w1).alloc (Nat.le_refl _) (.cells #[.int .i64 x.f0,.string x.f1,.string x.f2,.int .i64 x.f3,.slice A4 x.f4.length c4,.slice A5 x.f5.length c5] 29);have HB2:=ah.mk (HB1.out.trans (hz.mono HB1.out.size))
    have hL2:L+tN x≤17+(i+1)*140737500000000:=by omega
    clear HRC HC I8 HB hz;by_cases k1:x.f0=1
    ·have e1:(x.f0 == 1)=true:=beq_iff_eq.2 k1
     have e3:(x.f0 == 3)=false:=by rw[k1];rfl
     have e4:(x.f0 == 4)=false:=by rw[k1];rfl
     rw[if_pos k1] at hil;clear k1
     go_wp2_with fail
     go_roundg (l.length - (i+1))
     case measure=>omega
     case rel=>exact⟨i+1,L+tN x,_,_,by omega,by first|rfl|(congr 1;omega),by first|rfl|(push_cast;rfl)|simp,hL2,HIL,HA2,HG2,HS2,HB2⟩
    have e1:(x.f0 == 1)=false:=beq_eq_false_iff_ne.2 k1;rw[if_neg k1] at hil;by_cases k3:x.f0=3
    ·have e3:(x.f0 == 3)=true:=beq_iff_eq.2 k3;rw[if_pos (.inl k3)] at hil;clear k1 k3
     go_wp2_with fail
     go_roundg (l.length - (i+1))
     case measure=>omega
     case rel=>exact⟨i+1,L+tN x,_,_,by omega,by first|rfl|(congr 1;omega),by first|rfl|(push_cast;rfl)|simp,hL2,HIL,HA2,HG2,HS2,HB2⟩
    have e3:(x.f0 == 3)=false:=beq_eq_false_iff_ne.2 k3;by_cases k4:x.f0=4
    ·have e4:(x.f0 == 4)=true:=beq_iff_eq.2 k4;rw[if_pos (.inr k4)] at hil;clear k1 k3 k4
     go_wp2_with fail
     go_roundg (l.length - (i+1))
     case measure=>omega
     case rel=>exact⟨i+1,L+tN x,_,_,by omega,by first|rfl|(congr 1;omega),by first|rfl|(push_cast;rfl)|simp,hL2,HIL,HA2,HG2,HS2,HB2⟩
    have e4:(x.f0 == 4)=false:=beq_eq_false_iff_ne.2 k4;rw[if_neg aj] at hil;clear k1 k3 k4
    go_wp2_with fail
    go_roundg (l.length - (i+1))
    case measure=>omega
    case rel=>exact⟨i+1,L+tN x,_,_,by omega,by first|rfl|(congr 1;omega),by first|rfl|(push_cast;rfl)|simp,hL2,HIL,HA2,HG2,HS2,HB2⟩
  obtain rfl:i=l.length:=by omega
  have d1:decide ((l.length:Int)<(l.length:Int))=false:=decide_eq_false aj;have d2:decide (l.length<l.length)=false:=decide_eq_false hi;have hg:=HG.out;rw[List.drop_of_length_le (Nat.le_refl _)] at hg;have hl0:=HL.out;rw[List.take_length] at hl0;have hgo:=KD l jU 0 aD;have hmg:jU.length=8:=rfl;have hP2:=hP.out.trans (by rw[if_pos (by rw[hg];rfl),hgo]);have HSm:=ah.mk (fun x hx=>M6 (l:=l) (by rw[hg];rfl) x hx);clear hg hgo HG HA HL hP;by_cases hbig:4194304<L
  ·have e1:decide ((4194304:Int)<(L:Int))=true:=decide_eq_true aj;have e2:decide (4194304<L)=true:=decide_eq_true hbig;rw[if_pos aj] at hP2;have HP:=ah.mk hP2;clear hP2 hbig hl0
   go_wp2_with fail
   go_ret2
   exact Rq HP.out HB.out
  have e1:decide ((4194304:Int)<(L:Int))=false:=decide_eq_false aj;have e2:decide (4194304<L)=false:=decide_eq_false hbig;rw[if_neg aj] at hP2;have HP:=ah.mk hP2
  have hsum:(l.map tN).sum≤4194304:=by omega
  have Yt:=ah.mk hsum;have HM:=ah.mk (Z6 (B:=w.heap.size) (w0:=w) (W:=wr) jU HB.out HB.out.size aD);clear hP2 hbig hl0 hL hsum
  go_wp2_with fail
  clear e1 e2 d1 d2
  go_loopg [7,8] l.length (fun g s7 s8 wx=>∃j:Nat,j+g=l.length∧s8=.int .i64 j∧ah (zu w.heap.size w wx s7 (jU++(l.take j).flatMap eF)))
  case atStart=>exact⟨0,by omega,rfl,⟨by rw[List.take_zero];exact HM.out⟩⟩
  case round=>
   obtain⟨j,hjg,rfl,HO⟩:=hrel;clear HM;by_cases hj:j<l.length
   ·have d1:decide ((j:Int)<(l.length:Int))=true:=decide_eq_true aj;have d2:decide (j<l.length)=true:=decide_eq_true hj
    obtain⟨x,hx⟩:∃x,l[j]=x:=⟨_,rfl⟩
    obtain⟨K1,b1,hst⟩:=HS.out j hj hj;rw[hx] at hst;have hmem:x∈l:=hx▸List.getElem_mem hj;obtain⟨s1,s2,s3,s4,_,_,s7,s8,s9⟩:=Cm hst (HF.out x hmem);have hsm:=HSm.out x hmem
    obtain⟨o,ho⟩:∃o,jU++(l.take j).flatMap eF=o:=⟨_,rfl⟩
    have hol:o.length≤8+4194304:=by
     rw[← ho,List.length_append,Dz];have h1:=XG l j;have h2:=Yt.out;have h3:jU.length=8:=rfl;omega
    have HE:=ah.mk (show jU++(l.take (j+1)).flatMap eF=o++eF x by rw[List.take_succ_eq_append_getElem hj,hx,List.flatMap_append,← List.append_assoc,ho];simp);rw[ho] at HO;obtain⟨ad,A4,c4,A5,c5,hAd,r0,r1,r2,r3,r4,r5,hc4,hC4,hc5,hC5⟩:=oo HR.out (j:Int) aj aj
    have hrd:aJ l (j:Int)=l[j]:=by simp[aJ,hj]
    rw[hrd,hx,Int.toNat_natCast] at r0 r1 r2 r3 r4 r5;rw[hrd,hx] at hc4 hC4 hc5 hC5;subst hAd;obtain⟨r0,r1,r2,r3,r4,r5⟩:=XH HO.out.s ⟨r0,r1,r2,r3,r4,r5⟩;have HPK:=ah.mk (fun v (hv:zu w.heap.size w wr v o)=>Rp w v o x A4 c4 A5 c5 wr hv hC4 hc4 hC5 hc5 s7 s8 (by have:=hsm.t;omega));clear hrd hx hst hmem hsm ho hC4 hC5 s1 s2 s3 s4 s7 s8 s9 hol
    go_wp2_with (go_at_call 81;refine (HPK.out _ HO.out).mono ?_;rintro e w3 ⟨v3,rfl,ho3⟩;have Yi:=ah.mk (HE.out▸ho3);clear ho3)
    go_roundg (l.length - (j+1))
    case measure=>omega
    case rel=>exact⟨j+1,by omega,by first|rfl|(push_cast;rfl)|simp,Yi⟩
   obtain rfl:j=l.length:=by omega
   have d1:decide ((l.length:Int)<(l.length:Int))=false:=decide_eq_false aj;have d2:decide (l.length<l.length)=false:=decide_eq_false hj;have hO:=HO.out;rw[List.take_length] at hO
   obtain⟨o,ho⟩:∃o,jU++l.flatMap eF=o:=⟨_,rfl⟩
   have hol:o.length≤8+4194304:=by
    rw[← ho,List.length_append,Dz];have h2:=Yt.out;have h3:jU.length=8:=rfl;omega
   have VE:∀y∈o,0≤y∧y≤255:=fun y hy=>by
    rw[← ho] at hy
    rcases List.mem_append.1 hy with hy|hy
    ·exact (show ∀y∈jU,0≤y∧y≤255 by decide) y hy
    obtain⟨x,hx,hy⟩:=List.mem_flatMap.1 hy;exact Fh (HF.out x hx) y hy
   rw[ho] at hO HP
   have wT:ah ((bY l).1=jM o ((0+l.length:Nat):Int)):=⟨by rw[HP.out]⟩
   have zA:ah ((bY l).2=0):=⟨by rw[HP.out]⟩
   clear HP;have HO:=ah.mk hO;have HOB:=ah.mk VE;clear ho hO VE
   go_upto_region 23 with ((with_reducible refine dx (b:=.append) (xs:=#[.tmp 75,.tmp 76]) rfl ?_);at_builtin;refine wE HO.out rfl (.tmp 75) (.tmp 76) 27 rfl Tryz.underlying27 info5 rfl rfl aj ?_;intro v4 w4 wM hk4;have Ue:=ah.mk wM;clear wM hk4)
   obtain⟨o1,ho1⟩:∃q,o++leB 1 0=q:=⟨_,rfl⟩
   have hn1:o1.length≤o.length+1:=by rw[← ho1,List.length_append,aT];omega
   have Ue:ah (zu w.heap.size w w4 v4 o1):=⟨ho1▸Ue.out⟩
   have HB1:ah (∀y∈o1,0≤y∧y≤255):=⟨fun y hy=>by rw[← ho1] at hy;rcases List.mem_append.1 hy with hy|hy;exact HOB.out y hy;exact fM 1 0 y hy⟩
   have R9:=ah.mk ho1;clear ho1
   go_upto_region 24 with (go_at_call 80;refine (lH w.heap.size w _ o1 (l.length:Int) 4 _ Ue.out aj aj aD).mono ?_;rintro e w5 ⟨v5,rfl,IZ,hk5⟩;have Vv:=ah.mk IZ;clear IZ hk5)
   obtain⟨o2,ho2⟩:∃q,o1++leB 4 (l.length:Int)=q:=⟨_,rfl⟩
   have hn2:o2.length≤o.length+5:=by rw[← ho2,List.length_append,aT];omega
   rw[ho2] at Vv
   have HB2:ah (∀y∈o2,0≤y∧y≤255):=⟨fun y hy=>by rw[← ho2] at hy;rcases List.mem_append.1 hy with hy|hy;exact HB1.out y hy;exact fM 4 _ y hy⟩
   have HE2:=ah.mk ho2;obtain⟨A5,c5,hv5⟩:=Kd.bG Vv.out.r;subst hv5;have hrd:=Kd.bT Vv.out.r;have HSU:=ah.mk (XF A5 c5 o2 w5 hrd.2.2 hrd.2.1 HB2.out aj)
   have hcr:0≤oq o2∧oq o2≤9223372036854775807:=by have:=qO IntKind.u32.max (qb o2);unfold oq;omega
   have Na:ah (jM o ((0+l.length:Nat):Int)=o2++leB 4 (oq o2)):=⟨by unfold jM;rw[Nat.zero_add,R9.out,HE2.out]⟩
   obtain⟨sm,hsm⟩:∃q,oq o2=q:=⟨_,rfl⟩
   rw[hsm] at HSU hcr Na;clear ho2 hrd hsm
   go_upto_region 25 with (first
    | (go_at_call 82;refine HSU.out.mono ?_;rintro e w6 ⟨rfl,hb6⟩;have VD:=ah.mk (Vv.out.below hb6);clear hb6)
    | (go_at_call 80;refine (lH w.heap.size w _ o2 sm 4 _ VD.out hcr aj aD).mono ?_;rintro e w7 ⟨v7,rfl,Mk,U3⟩;have PG:=ah.mk Mk;clear Mk U3))
   go_wp2_with fail
   go_ret2
   exact⟨PG.out.s,v7,by rw[zA.out] <;> rfl,by rw[wT.out,Na.out];exact PG.out.r⟩
def wS (l:List Int):Nat→Int
 | 0=>0
 | k+1=>256*wS l k+rd l ((l.length:Int) - ((k:Int)+1))
theorem ael (l:List Int):wS l 4=gV l:=by
 unfold gV;simp only[wS];rw[show ((0:Nat):Int)+1=1 from rfl,show ((1:Nat):Int)+1=2 from rfl,show ((2:Nat):Int)+1=3 from rfl,show ((3:Nat):Int)+1=4 from rfl];omega
theorem TN {l:List Int} (h:∀x∈l,0≤x∧x≤255) (i:Int):0≤rd l i∧rd l i≤255:=by
 unfold rd;rw[List.getD_eq_getElem?_getD]
 cases hg:l[i.toNat]? with
 | none=>exact⟨Int.le_refl 0,by decide⟩
 | some x=>exact h x (List.mem_of_getElem? hg)
theorem GV {l:List Int} (h:∀x∈l,0≤x∧x≤255):∀k,k≤4→0≤wS l k∧wS l k≤4294967295:=by
 have hb:=TN h
 have key:0≤wS l 1∧wS l 1≤255∧0≤wS l 2∧wS l 2≤65535∧0≤wS l 3∧wS l 3≤16777215∧0≤wS l 4∧wS l 4≤4294967295:=by
  simp only[wS];have h0:=hb ((l.length:Int) - (((0:Nat):Int)+1));have h1:=hb ((l.length:Int) - (((1:Nat):Int)+1));have h2:=hb ((l.length:Int) - (((2:Nat):Int)+1));have h3:=hb ((l.length:Int) - (((3:Nat):Int)+1));omega
 intro k hk
 rcases (show k=0∨k=1∨k=2∨k=3∨k=4 by omega) with rfl|rfl|rfl|rfl|rfl
 ·exact⟨Int.le_refl 0,(show (0:Int)≤4294967295 by decide)⟩
 all_goals omega
theorem U6 (A0:Option Addr) (c0:Nat) (l:List It) (w:World) (hr:Kd.C om w A0 l.length l) (hc:l.length≤c0) (hf:∀x∈l,Fit x) (ha:l.all nO=true) (hn:l.length≤140737488351232) :
  Calls Tryz.prog 28 #[.slice A0 l.length c0] w fun e w'=>e=.returned (.tuple #[.int .i64 (if (bY l).2=0 then gV (bY l).1 else 0),.int .i64 (bY l).2])∧Below w.heap.size w w':=by
 have HPC:=ah.mk (Rs A0 c0 l w hr hc hf hn)
 obtain⟨⟨o,e0⟩,hp⟩:∃q,bY l=q:=⟨_,rfl⟩
 have hpb:e0=0→4≤o.length∧o.length≤4194304∧∀b∈o,0≤b∧b≤255:=fun h=>by
  have:=mJ (l:=l) (by rw[hp];exact h) ha;rw[hp] at this;exact this
 unfold RpE at HPC;rw[hp] at HPC ⊢;dsimp only at HPC ⊢
 obtain⟨S,hS⟩:∃S,(if e0=0 then gV o else 0)=S:=⟨_,rfl⟩
 rw[hS];have HS:=ah.mk hS;clear hr hf ha hp hS
 go_enter Tryz.func28,Tryz.ntmps28
 go_upto_region 2 with (go_at_call 59;refine HPC.out.mono ?_;rintro e w1 ⟨hb1,v1,rfl,hr1⟩;have HB1:=ah.mk hb1;have HR1:=ah.mk hr1;clear hb1 hr1)
 by_cases h0:e0=0
 ·have hb:=hpb h0;have e1:(e0 != 0)=false:=bne_eq_false_iff_eq.2 h0;obtain⟨A1,c1,hv1⟩:=Kd.bG HR1.out;subst hv1;have hrd:=Kd.bT HR1.out;have HC:=ah.mk hrd.2.2;have HBY:=ah.mk hb.2.2;obtain⟨h4,h9,_⟩:=hb
  have HSV:ah (S=gV o):=⟨by rw[← HS.out,if_pos h0]⟩
  clear HS;subst h0;clear hrd hpb HPC HR1
  go_wp2_with fail
  go_loopg [6,7] 4 (fun g s6 s7 wx=>∃k:Nat,k+g=4∧s6=.int .i64 (wS o k)∧s7=.int .i64 ((k:Int)+1)∧wx=w1)
  case atStart=>exact⟨0,by omega,rfl,rfl,rfl⟩
  case round=>
   obtain⟨k,hkg,rfl,rfl,rfl⟩:=hrel;by_cases hk:k<4
   ·have d1:decide ((k:Int)+1≤4)=true:=decide_eq_true aj;have hs:=GV HBY.out k aj;have hs2:=GV HBY.out (k+1) aj;have hbx:=TN HBY.out ((o.length:Int) - ((k:Int)+1));obtain⟨ad,hA,hx⟩:=Kd.qx HC.out ((o.length:Int) - ((k:Int)+1)) aj aj;rw[show ((o.length:Int) - ((k:Int)+1)).toNat=o.length - (k+1) by omega] at hx;subst hA;have HSS:=ah.mk (show wS o (k+1)=256*wS o k+rd o ((o.length:Int) - ((k:Int)+1)) from rfl)
    obtain⟨b,hbb⟩:∃b,rd o ((o.length:Int) - ((k:Int)+1))=b:=⟨_,rfl⟩
    rw[hbb] at hx hbx HSS
    obtain⟨s,hss⟩:∃s,wS o k=s:=⟨_,rfl⟩
    rw[hss] at hs HSS ⊢
    have hsum:256*s+b≤4294967295:=by rw[← HSS.out];exact hs2.2
    clear hbb hss hs2
    go_wp2_with fail
    go_roundg (4 - (k+1))
    case measure=>omega
    case rel=>exact⟨k+1,by omega,by rw[HSS.out],by first|rfl|(push_cast;rfl)|simp,rfl⟩
   obtain rfl:k=4:=by omega
   have d1:decide (((4:Nat):Int)+1≤4)=false:=by decide
   have YQ:=ah.mk (ael o);clear hk
   go_wp2_with fail
   go_ret2
   exact⟨by rw[HSV.out,← YQ.out] <;> rfl,HB1.out⟩
 have e1:(e0 != 0)=true:=bne_iff_ne.2 h0
 have HSV:ah (S=0):=⟨by rw[← HS.out,if_neg h0]⟩
 clear h0 hpb HS
 go_wp2_with fail
 go_ret2
 exact⟨by rw[HSV.out] <;> rfl,HB1.out⟩
end Go.Proofs.YtknihldkhedpkaaGreatDoor
end
section
namespace Go.Proofs.YtknihldkhedpkaaGreatDoor
open Go.RowKit Go.Lib
open Go.Proofs.YtknihldkhedpkaaGreatDoorW.PrintWords Go.Proofs.YtknihldkhedpkaaGreatDoorW.PrintLast Go.Proofs.YtknihldkhedpkaaGreatDoor.PT
def Ap (l:List Rn):Prop:=l.Pairwise (fun a b=>a.f1<b.f0)∧∀r∈l,0≤r.f0∧r.f0<r.f1
theorem GX {most:Int}:∀(l:List Rn) (last all:Int),l.Pairwise (fun a b=>a.f1<b.f0)→(∀r∈l,r.f0<r.f1∧r.f1≤most∧last<r.f0)→gZ most last all l=some (all+(idxs l).length)
 | [],last,all,_,_=>by simp[gZ,idxs]
 | r::l,last,all,hp,h=>by
  have hp2:=List.pairwise_cons.1 hp;have hr:=h r List.mem_cons_self;rw[gZ,if_neg aj,GX l r.f1 _ hp2.2 (fun q hq=>⟨(h q (List.mem_cons_of_mem _ hq)).1,(h q (List.mem_cons_of_mem _ hq)).2.1,hp2.1 q hq⟩),vv,List.length_append]
  congr 1
  simp[jf];omega
theorem Cn (size:Int):∀(l:List Ru) (last all l2 a2:Int),-1≤last→iJ size last all l=some (l2,a2)→l.Pairwise (fun a b=>a.f1<b.f0)∧(∀r∈l,last<r.f0∧0≤r.f0∧r.f0<r.f1∧r.f1≤(size+511) / 512)∧l2=(match l.getLast? with|none=>last|some r=>r.f1)∧a2=all+(idxs l).length
 | [],last,all,l2,a2,_,h=>by
  simp[iJ] at h;obtain⟨rfl,rfl⟩:=h;exact⟨List.Pairwise.nil,fun r h=>(by cases h),rfl,by simp[idxs]⟩
 | r::l,last,all,l2,a2,h0,h=>by
  rw[iJ] at h;split at h
  ·cases h
  rename_i hc;obtain⟨h1,h2,h3,h4⟩:=Cn size l r.f1 _ l2 a2 aj h;refine⟨List.pairwise_cons.2 ⟨fun q hq=>(h2 q hq).1,h1⟩,fun q hq=>?_,?_,?_⟩
  ·rcases List.mem_cons.1 hq with rfl|hq
   ·omega
   have:=h2 q hq;omega
  ·rw[h3]
   cases l with
   | nil=>rfl
   | cons z l=>rw[List.getLast?_cons_cons];cases hz:(z::l).getLast? with
    | none=>simp at hz
    | some y=>rfl
  rw[h4,vv,List.length_append];simp[jf];omega
structure Full (x:It):Prop where
 s:0≤x.f3∧x.f3≤8459264
 ap:x.f4.Pairwise (fun a b=>a.f1<b.f0)
 r:∀r∈x.f4,0≤r.f0∧r.f0<r.f1∧r.f1≤(x.f3+511) / 512
 n:x.f5.length=512*(idxs x.f4).length
 q:lZ x.f4 x.f5 x.f3=true
theorem yx {x:It} (h:iK x.f3 x.f4 x.f5=true):Full x:=by
 unfold iK at h;split at h
 ·cases h
 rename_i hs
 cases hr:iJ x.f3 (-1) 0 x.f4 with
 | none=>rw[hr] at h;cases h
 | some p=>
  obtain⟨l2,a2⟩:=p;obtain⟨h1,h2,h3,h4⟩:=Cn x.f3 x.f4 (-1) 0 l2 a2 aj hr;rw[hr,uh] at h;split at h
  ·rename_i hd;refine⟨by omega,h1,fun r hr=>(h2 r hr).2,by omega,?_⟩;unfold lZ zB
   cases hl:x.f4.getLast? with
   | none=>rfl
   | some r=>
    rw[hl] at h3;dsimp only at h3 ⊢;have hrm:=h2 r (List.mem_of_getLast? hl)
    have hne:a2≠0:=by
     intro e
     have:(idxs x.f4).length=0:=by omega
     have hm:r.f0∈idxs x.f4:=by
      unfold idxs;exact List.mem_flatMap.2 ⟨r,List.mem_of_getLast? hl,xU.2 ⟨Int.le_refl _,by omega⟩⟩
     rw[List.eq_nil_of_length_eq_zero this] at hm;cases hm
    rw[if_neg hne,h3] at h;split
    ·rfl
    exact h
  cases h
theorem Full.sized {x:It} (h:Full x):gJ x=some ((idxs x.f4).length:Int):=by
 have:=h.s;unfold gJ;rw[if_neg aj];unfold jm;rw[GX x.f4 (-1) 0 h.ap (fun r hr=>⟨(h.r r hr).2.1,(h.r r hr).2.2,by have:=(h.r r hr).1;omega⟩)];simp
theorem OQ {α:Type} {R:α→α→Prop}:∀{l:List α},l.Pairwise R→∀a∈l,∀b∈l,a=b∨R a b∨R b a
 | [],_,a,ha,_,_=>by cases ha
 | x::l,h,a,ha,b,hb=>by
  have h2:=List.pairwise_cons.1 h
  rcases List.mem_cons.1 ha with ha1|ha1
  ·rcases List.mem_cons.1 hb with hb1|hb1
   ·exact .inl (ha1.trans hb1.symm)
   exact .inr (.inl (ha1▸h2.1 b hb1))
  rcases List.mem_cons.1 hb with hb1|hb1
  ·exact .inr (.inr (hb1▸h2.1 a ha1))
  exact OQ h2.2 a ha1 b hb1
theorem KE:∀(rows others:List Rn),rows.Pairwise (fun a b=>a.f1<b.f0)→others.Pairwise (fun a b=>a.f1<b.f0)→(∀r∈rows,r.f0<r.f1)→(∀q∈others,q.f0<q.f1)→(∀r∈rows,∃q∈others,q.f0≤r.f0∧r.f1≤q.f1)→gU rows others=true
 | [],_,_,_,_,_,_=>rfl
 | r::l,o,h1,h2,h3,h4,h5=>by
  have p1:=List.pairwise_cons.1 h1;obtain⟨q,hq,hq0,hq1⟩:=h5 r List.mem_cons_self;have hr:=h3 r List.mem_cons_self;rw[gU]
  have hdw:∀(o:List Rn),o.Pairwise (fun a b=>a.f1<b.f0)→(∀q∈o,q.f0<q.f1)→q∈o→∃o',o.dropWhile (fun q=>decide (q.f1<r.f1))=q::o'∧(q::o').Pairwise (fun a b=>a.f1<b.f0)∧(∀z∈o,r.f1≤z.f1→z∈q::o')∧∀z∈q::o',z∈o:=by
   intro o
   induction o with
   | nil=>intro _ _ h;cases h
   | cons z o ih=>
    intro hp hz hm;have hp2:=List.pairwise_cons.1 hp;rw[List.dropWhile_cons];by_cases hlt:z.f1<r.f1
    ·rw[if_pos (by simpa using hlt)]
     have hm2:q∈o:=by
      rcases List.mem_cons.1 hm with rfl|hm
      ·omega
      exact hm
     obtain⟨o',e1,e2,e3,e4⟩:=ih hp2.2 (fun y hy=>hz y (List.mem_cons_of_mem _ hy)) hm2;refine⟨o',e1,e2,fun y hy hle=>?_,fun y hy=>List.mem_cons_of_mem _ (e4 y hy)⟩
     rcases List.mem_cons.1 hy with rfl|hy
     ·omega
     exact e3 y hy hle
    rw[if_neg (by simpa using hlt)]
    have hzq:q=z:=by
     rcases List.mem_cons.1 hm with rfl|hm
     ·rfl
     have:=hp2.1 q hm;have:=hz z List.mem_cons_self;omega
    subst hzq;exact⟨o,rfl,hp,fun y hy _=>hy,fun y hy=>hy⟩
  obtain⟨o',e1,e2,e3,e4⟩:=hdw o h2 h4 hq;rw[e1];dsimp only;rw[if_neg aj];refine KE l (q::o') p1.2 e2 (fun z hz=>h3 z (List.mem_cons_of_mem _ hz)) (fun z hz=>h4 z (e4 z hz)) (fun z hz=>?_);obtain⟨y,hy,y0,y1⟩:=h5 z (List.mem_cons_of_mem _ hz);have:=p1.1 z hz;have:=h3 z (List.mem_cons_of_mem _ hz);exact⟨y,e3 y hy aj,y0,y1⟩
theorem GY {l:List Rn} {i:Int}:i∈idxs l↔∃q∈l,q.f0≤i∧i<q.f1:=by
 unfold idxs;simp only[List.mem_flatMap,xU]
structure EI (y:EG) (l:List Int) (s:List Rn × List Int):Prop where
 up:s.1.Pairwise (fun a b=>a.f1<b.f0)
 ok:∀r∈s.1,0≤r.f0∧r.f0<r.f1∧∃q∈y.f4,q.f0≤r.f0∧r.f1≤q.f1
 nx:∀r∈s.1,∀i∈l,r.f1≤i
 ln:s.2.length=512*(idxs s.1).length
 lb:∀r,s.1.getLast?=some r→∃j d0,(idxs y.f4)[j]?=some (r.f1 - 1)∧s.2=d0++dS y.f5 j
theorem EI.step {y:EG} (hy:Full y) {i:Int} {l:List Int} {s:List Rn × List Int} {k:Nat} (h:EI y (i::l) s) (hi:∀j∈l,i<j) (hk:(idxs y.f4)[k]?=some i):EI y l (nN s.1 i,s.2++dS y.f5 k):=by
 have him:i∈idxs y.f4:=List.mem_of_getElem? hk;obtain⟨q',hq',q0,q1⟩:=GY.1 him;have hkl:k<(idxs y.f4).length:=(List.getElem?_eq_some_iff.1 hk).1;have hbl:(dS y.f5 k).length=512:=gD (by have:=hy.n;omega)
 have hln:(s.2++dS y.f5 k).length=512*(idxs (nN s.1 i)).length:=by
  rw[(OT (fun r hr=>by have:=(h.ok r hr).2.1;omega)).1,List.length_append,List.length_append,h.ln,hbl,List.length_singleton];omega
 unfold nN at hln ⊢
 have hfresh:∀(hlt:∀a∈s.1,a.f1<i) (hj:(s.2++dS y.f5 k).length=512*(idxs (s.1++[⟨i,i+1⟩])).length),EI y l (s.1++[⟨i,i+1⟩],s.2++dS y.f5 k):=fun hlt hj=>by
  refine⟨List.pairwise_append.2 ⟨h.up,List.pairwise_singleton _ _,fun a ha b hb=>?_⟩,fun r hr=>?_,fun r hr j hj=>?_,hj,fun r hr=>?_⟩
  ·rw[List.mem_singleton.1 hb];exact hlt a ha
  ·rcases List.mem_append.1 hr with hr|hr
   ·exact h.ok r hr
   rw[List.mem_singleton.1 hr];have:=(hy.r q' hq').1;exact⟨by show 0≤i;omega,by show i<i+1;omega,q',hq',q0,by show i+1≤q'.f1;omega⟩
  ·rcases List.mem_append.1 hr with hr|hr
   ·exact h.nx r hr j (List.mem_cons_of_mem _ hj)
   rw[List.mem_singleton.1 hr];have:=hi j hj
   show i+1≤j
   omega
  have hr:(s.1++[(⟨i,i+1⟩:Rn)]).getLast?=some r:=hr;rw[List.getLast?_concat] at hr;obtain rfl:=Option.some.inj hr;exact⟨k,s.2,by rw[hk];congr 1;show i=i+1 - 1;omega,rfl⟩
 cases hl:s.1.getLast? with
 | none=>
  have hn:s.1=[]:=List.getLast?_eq_none_iff.1 hl;rw[hl] at hln;have:=hfresh (fun a ha=>by rw[hn] at ha;cases ha) (by rw[hn];exact hln);rw[hn] at this;exact this
 | some r=>
  rw[hl] at hln;dsimp only at hln ⊢;obtain⟨ys,hys⟩:=List.getLast?_eq_some_iff.1 hl
  have hrm:r∈s.1:=by rw[hys];simp
  by_cases hr:r.f1=i
  ·rw[if_pos hr] at hln ⊢
   have hdl:s.1.dropLast=ys:=by rw[hys,List.dropLast_concat]
   rw[hdl] at hln ⊢;have hup:=h.up;rw[hys] at hup;obtain⟨u1,u2,u3⟩:=List.pairwise_append.1 hup;obtain⟨o0,o1,q,hq,oq0,oq1⟩:=h.ok r hrm
   have hqq:q'=q:=by
    rcases OQ hy.ap q' hq' q hq with e|e|e
    ·exact e
    ·omega
    omega
   refine⟨List.pairwise_append.2 ⟨u1,List.pairwise_singleton _ _,fun a ha b hb=>?_⟩,fun z hz=>?_,fun z hz j hj=>?_,hln,fun z hz=>?_⟩
   ·rw[List.mem_singleton.1 hb];exact u3 a ha r bK
   ·rcases List.mem_append.1 hz with hz|hz
    ·exact h.ok z (by rw[hys];simp[hz])
    rw[List.mem_singleton.1 hz];exact⟨o0,by show r.f0<r.f1+1;omega,q,hq,oq0,by show r.f1+1≤q.f1;rw[← hqq];omega⟩
   ·rcases List.mem_append.1 hz with hz|hz
    ·exact h.nx z (by rw[hys];simp[hz]) j (List.mem_cons_of_mem _ hj)
    rw[List.mem_singleton.1 hz];have:=hi j hj
    show r.f1+1≤j
    omega
   have hz:(ys++[(⟨r.f0,r.f1+1⟩:Rn)]).getLast?=some z:=hz;rw[List.getLast?_concat] at hz;obtain rfl:=Option.some.inj hz;exact⟨k,s.2,by rw[hk];congr 1;show i=r.f1+1 - 1;omega,rfl⟩
  rw[if_neg hr] at hln ⊢;refine hfresh (fun a ha=>?_) hln;have hle:=h.nx r hrm i List.mem_cons_self;rw[hys] at ha
  rcases List.mem_append.1 ha with ha|ha
  ·have hup:=h.up;rw[hys] at hup;have:=(List.pairwise_append.1 hup).2.2 a ha r bK;have:=(h.ok r hrm).2.1;omega
  rw[List.mem_singleton.1 ha];omega
theorem EI.go {x y:EG} (hy:Full y):∀(l:List Int) (k:Nat) (s:List Rn × List Int),(∀j (hj:j<l.length),(idxs y.f4)[k+j]?=some l[j])→l.Pairwise (· < ·)→EI y l s→EI y [] (gG x y l k s)
 | [],k,s,_,_,h=>h
 | i::l,k,s,hk,hp,h=>by
  have hp2:=List.pairwise_cons.1 hp;refine EI.go hy l (k+1) _ (fun j hj=>?_) hp2.2 ?_
  ·have:=hk (j+1) (by simp only[List.length_cons];omega);rw[show k+1+j=k+(j+1) by omega];exact this
  have h0:=hk 0 bK;rw[Nat.add_zero] at h0;split
  ·exact h.step hy hp2.1 h0
  exact⟨h.up,h.ok,fun r hr j hj=>h.nx r hr j (List.mem_cons_of_mem _ hj),h.ln,h.lb⟩
theorem Full.up {y:It} (hy:Full y):(idxs y.f4).Pairwise (· < ·):=by
 have:∀l:List Rn,l.Pairwise (fun a b=>a.f1<b.f0)→(∀r∈l,r.f0<r.f1)→(idxs l).Pairwise (· < ·):=by
  intro l
  induction l with
  | nil=>intro _ _;exact List.Pairwise.nil
  | cons r l ih=>
   intro hp hr;have hp2:=List.pairwise_cons.1 hp;rw[vv];refine List.pairwise_append.2 ⟨Sw r,ih hp2.2 (fun q hq=>hr q (List.mem_cons_of_mem _ hq)),fun a ha b hb=>?_⟩;obtain⟨q,hq,q0,_⟩:=GY.1 hb;have:=xU.1 ha;have:=hp2.1 q hq;omega
 exact this _ hy.ap (fun r hr=>(hy.r r hr).2.1)
theorem Rt {x y:It} (hy:Full y):kL (rz x y)=true:=by
 have hE:EI y [] (gG x y (idxs y.f4) 0 ([],[])):=EI.go hy _ _ _ (fun j hj=>by rw[Nat.zero_add,List.getElem?_eq_getElem hj]) hy.up ⟨List.Pairwise.nil,fun r h=>(by cases h),fun r h=>(by cases h),rfl,fun r h=>(by cases h)⟩
 obtain⟨s,hs⟩:∃s,gG x y (idxs y.f4) 0 ([],[])=s:=⟨_,rfl⟩
 have he:rz x y=⟨3,⟨1,y.f1,⟨#[]⟩,y.f3,y.f4,s.2⟩,s.1⟩:=by unfold rz;rw[hs]
 rw[hs] at hE;have hsz:gJ (⟨1,y.f1,⟨#[]⟩,y.f3,y.f4,s.2⟩:It)=some ((idxs y.f4).length:Int):=hy.sized;have h99:=hy.s
 have hap:jm s.1 16522=some ((idxs s.1).length:Int):=by
  unfold jm
  rw[GX s.1 (-1) 0 hE.up (fun r hr=>by
   obtain⟨h0,h1,q,hq,_,h2⟩:=hE.ok r hr;have:=(hy.r q hq).2.2
   exact⟨h1,by omega,by omega⟩)]
  simp
 rw[he];unfold kL;dsimp only;rw[hsz];dsimp only;rw[if_neg (fun h=>by rcases h with h|h <;> exact h rfl),hap];dsimp only;rw[KE s.1 y.f4 hE.up hy.ap (fun r hr=>(hE.ok r hr).2.1) (fun q hq=>(hy.r q hq).2.1) (fun r hr=>(hE.ok r hr).2.2),decide_eq_true (by rw[hE.ln];omega),Bool.true_and,Bool.true_and];unfold lZ zB
 cases hl:s.1.getLast? with
 | none=>rfl
 | some r=>
  dsimp only;split
  ·rfl
  rename_i ht;obtain⟨h0,h1,q,hq,q0,q1⟩:=hE.ok r (List.mem_of_getLast? hl);have hqr:=(hy.r q hq).2.2
  have hU:r.f1=(y.f3+511) / 512:=by omega
  obtain⟨j,d0,hj,hd⟩:=hE.lb r hl;have hjl:=(List.getElem?_eq_some_iff.1 hj).1
  have hjn:j+1=(idxs y.f4).length:=by
   rcases Nat.lt_or_ge (j+1) (idxs y.f4).length with hlt|hge
   ·exfalso;have h2:=List.pairwise_iff_getElem.1 hy.up j (j+1) hjl hlt aj;have h3:=(List.getElem?_eq_some_iff.1 hj).2;obtain⟨z,hz,z0,z1⟩:=GY.1 (List.getElem_mem hlt);have:=(hy.r z hz).2.2;omega
   omega
  have hyq:=hy.q;unfold lZ zB at hyq
  cases Nb:y.f4.getLast? with
  | none=>
   rw[List.getLast?_eq_none_iff.1 Nb] at hq;cases hq
  | some z=>
   rw[Nb] at hyq;dsimp only at hyq;have hzm:=List.mem_of_getLast? Nb
   have hz1:z.f1=r.f1:=by
    have hz2:=(hy.r z hzm).2.2;obtain⟨ys,hys⟩:=List.getLast?_eq_some_iff.1 Nb
    have hge:q.f1≤z.f1:=by
     rw[hys] at hq
     rcases List.mem_append.1 hq with hq|hq
     ·have hap:=hy.ap;rw[hys] at hap;have:=(List.pairwise_append.1 hap).2.2 q hq z bK;have:=(hy.r z hzm).2.1;omega
     rw[List.mem_singleton.1 hq];exact Int.le_refl _
    omega
   have ht2:¬z.f1*512 - y.f3≤0:=by omega
   rw[if_neg ht2] at hyq
   obtain⟨t,htt⟩:∃t:Nat,(r.f1*512 - y.f3).toNat=t:=⟨_,rfl⟩
   have htz:(z.f1*512 - y.f3).toNat=t:=by omega
   have ht5:t≤512:=by omega
   rw[htz] at hyq;rw[htt];have hyn:=hy.n;have hb:(dS y.f5 j).length=512:=gD aj
   have e1:s.2.drop (s.2.length - t)=(dS y.f5 j).drop (512 - t):=by
    rw[hd,List.length_append,hb,List.drop_append,List.drop_of_length_le aj,List.nil_append]
    congr 1
    omega
   have e2:y.f5.drop (y.f5.length - t)=(dS y.f5 j).drop (512 - t):=by
    unfold dS;rw[List.take_of_length_le (by rw[List.length_drop];omega),List.drop_drop]
    congr 1
    omega
   rw[e1,← e2];exact hyq
theorem Vp.written {p:ByteArray} (h:Vp p):fZ p=true:=by
 obtain⟨h1,h2,h3,h4⟩:=xS (show jV p=((jV p).1,true) by rw[← (show (jV p).2=true from h)]);unfold fZ;rw[decide_eq_true h1,h2,h4];rfl
theorem GZ {a b:ByteArray}:YK a b=true↔Less (bs a) (bs b):=by
 unfold YK Less;rw[Lib.toList_data,Lib.toList_data];exact Iff.rfl
theorem U7 {K:List (ByteArray × Int)} {x:It} (h:d9 K x=true) (h4:x.f0=4):mI K x.f2=1:=by
 unfold d9 at h;rw[if_neg aj,if_neg aj,if_neg aj,if_pos h4,Bool.and_eq_true] at h;exact of_decide_eq_true h.2
theorem G7:∀{l:List It} {K:List (ByteArray × Int)} {b:Option (List ByteArray)},gY K b l=true→∀y∈l,y.f0=4→mI K y.f2=1∨∃z∈l,z.f1=y.f2∧Less (kl z) (kl y)
 | [],_,_,_,_,h,_=>by cases h
 | x::l,K,b,h,y,hy,h4=>by
  have hr:=(Ah h).1;rw[gY] at h;simp only[Bool.and_eq_true,decide_eq_true_eq] at h
  rcases List.mem_cons.1 hy with rfl|hy1
  ·exact .inl (U7 h.1.2 h4)
  rcases G7 h.2 y hy1 h4 with h1|⟨z,hz,e,hl⟩
  ·rw[mI] at h1;split at h1
   ·rename_i e;exact .inr ⟨x,List.mem_cons_self,e,hr.head y hy1⟩
   exact .inl h1
  exact .inr ⟨z,List.mem_cons_of_mem _ hz,e,hl⟩
theorem G8 {l:List It} (h:jN l=true):∀y∈l,jH y=true:=fun y hy=>by
 obtain⟨K,hk⟩:=xV h y hy;unfold d9 at hk;unfold jH;split at hk
 ·rename_i h1;rw[if_pos h1];simp only[Bool.and_eq_true,decide_eq_true_eq] at hk;have hf:=yx hk.2;rw[hf.sized];dsimp only;rw[decide_eq_true hk.1,decide_eq_true (by have:=hf.n;omega),hf.q];rfl
 rename_i h1;rw[if_neg h1];split at hk
 ·rename_i h2;rw[if_pos h2];exact hk
 rename_i h2;rw[if_neg h2];split at hk
 ·rename_i h3;rw[if_pos h3];exact hk
 rename_i h3;rw[if_neg h3];split at hk
 ·rename_i h4;rw[if_pos h4];simp only[Bool.and_eq_true] at hk;have hr:=qJ h
  rcases G7 h y hy h4 with hq|⟨z,hz,e,hl⟩
  ·rw[mI] at hq
   split at hq <;> simp[mI] at hq
  rw[hk.1,Bool.true_and,← e,(hr.path z hz).written,Bool.true_and];exact GZ.2 hl
 cases hk
theorem Ed:∀(l:List Ch) (last:ByteArray),(∀c∈l,fZ c.f1.f1=true∧lQ c=true)→l.Pairwise (fun c d=>Less (bs (qR c)) (bs (qR d)))→(∀c∈l,YK last (qR c)=true)→gK last l=true
 | [],_,_,_,_=>rfl
 | c::l,last,h,hp,hl=>by
  have hp2:=List.pairwise_cons.1 hp;obtain⟨h1,h2⟩:=h c List.mem_cons_self;rw[gK,h1,h2,show YK last (CS c.f1.f1)=true from hl c List.mem_cons_self,Ed l (CS c.f1.f1) (fun d hd=>h d (List.mem_cons_of_mem _ hd)) hp2.2 (fun d hd=>GZ.2 (hp2.1 d hd))];rfl
theorem Z7 {a b:List It} (ha:jN a=true) (hb:jN b=true) {xa xb:Option It} (h1:∀x,xa=some x→x∈a) (h2:∀x,xb=some x→x∈b) {c:Ch} (h:lu xa xb=some c):lQ c=true:=by
 unfold lu at h;split at h
 ·cases h
 cases xa with
 | none=>
  cases xb with
  | none=>cases h
  | some y=>
   obtain rfl:=Option.some.inj h;unfold lQ;rw[if_neg (by show ¬(2:Int)=1;decide),if_pos (by rfl),G8 hb y (h2 y rfl)];rfl
 | some x=>
  cases xb with
  | none=>
   obtain rfl:=Option.some.inj h;rfl
  | some y=>
   dsimp only at h;split at h
   ·rename_i hk;obtain rfl:=Option.some.inj h;unfold lQ;rw[if_neg (by show ¬(3:Int)=1;decide),if_neg (by show ¬(3:Int)=2;decide),if_pos (by rfl)];obtain⟨K,hok⟩:=xV hb y (h2 y rfl);exact Rt (yx (Dk hok hk.2).f)
   obtain rfl:=Option.some.inj h;unfold lQ;rw[if_neg (by show ¬(2:Int)=1;decide),if_pos (by rfl),G8 hb y (h2 y rfl)];rfl
theorem Mt {a b:List It} (ha:jN a=true) (hb:jN b=true):gK ⟨#[]⟩ (iY a b)=true:=by
 have ra:=qJ ha;have rb:=qJ hb;refine Ed _ _ (fun c hc=>?_) (DY ra rb) (fun c hc=>?_)
 ·rw[qz] at hc;obtain⟨r,hr,hd⟩:=vo.1 hc;have hh:=Two.here hr;exact⟨(Dj ra rb hr hd).2.written,Z7 ha hb hh.1 hh.2 hd⟩
 rw[qz] at hc;obtain⟨r,hr,hd⟩:=vo.1 hc;have hv:=(Dj ra rb hr hd).2;refine GZ.2 ?_;have e:bs (qR c)=tq ((dQ c.f1.f1).map bs):=Bq hv;rw[e]
 have hne:dQ c.f1.f1≠[]:=fun hn=>by
  have:=ow hv.parts.2.1;rw[hn] at this;have h2:=hv.parts.2.1;have h3:(bs c.f1.f1)=[]:=this;have h4:=of_decide_eq_true h2;rw[h3] at h4;cases h4
 cases hp:dQ c.f1.f1 with
 | nil=>exact absurd hp hne
 | cons q l=>rfl
def VG (f:It→Nat) (o:Option It):Nat:=(o.map f).getD 0
theorem OU (f:It→Nat) {L:Nat→List It} {p:Nat→Nat} {k:ByteArray} {j:Nat}:VG f (fG L p k j)+((dr L (fO L p k) j).map f).sum≤((dr L p j).map f).sum:=by
 cases hx:(L j)[p j]? with
 | none=>
  have hh:fG L p k j=none:=by unfold fG;rw[hx]
  have hn:fO L p k j=p j:=by unfold fO;rw[hh];rfl
  have hd:dr L (fO L p k) j=dr L p j:=by unfold dr;rw[hn]
  rw[hd,hh];simp[VG]
 | some x=>
  have hdx:=Lc hx
  cases hh:fG L p k j with
  | none=>
   have hn:fO L p k j=p j:=by unfold fO;rw[hh];rfl
   have hd:dr L (fO L p k) j=dr L p j:=by unfold dr;rw[hn]
   rw[hd];simp[VG]
  | some y=>
   have hn:fO L p k j=p j+1:=by unfold fO;rw[hh];rfl
   have hd:dr L (fO L p k) j=(L j).drop (p j+1):=by unfold dr;rw[hn]
   have hy:y=x:=by
    unfold fG at hh;rw[hx] at hh;dsimp only at hh;split at hh
    ·exact (Option.some.inj hh).symm
    cases hh
   rw[hd,hdx,hy];simp[VG]
theorem G9 (f:It→Nat) {L:Nat→List It}:∀(n:Nat) (p:Nat→Nat),((Two.fI L n p).map (fun r=>VG f r.2.1)).sum≤((dr L p 0).map f).sum∧((Two.fI L n p).map (fun r=>VG f r.2.2)).sum≤((dr L p 1).map f).sum
 | 0,p=>by simp[Two.fI]
 | n+1,p=>by
  rw[Two.fI]
  cases hk:ko L p 2 with
  | none=>simp
  | some k=>
   have ih:=G9 f (L:=L) n (fO L p k);have h1:=OU f (L:=L) (p:=p) (k:=k) (j:=0);have h2:=OU f (L:=L) (p:=p) (k:=k) (j:=1);simp only[List.map_cons,List.sum_cons];omega
def tY (x:It):Nat:=(eF x).length
theorem Co (x:It):3+x.f1.size≤tY x∧(x.f0=1→tY x=15+x.f1.size+8*x.f4.length+x.f5.length):=by
 unfold tY eF;simp only[List.length_append,aT,Go.Proofs.YtknihldkhedpkaaGreatDoorW.PrintWords.bytesOf_length];refine⟨by omega,fun h=>?_⟩;rw[if_pos h];simp only[List.length_append,aT,vV];omega
theorem XI {a b:List It} (ha:jN a=true) (hb:jN b=true) {xa xb:Option It} (h2:∀x,xb=some x→x∈b):((lu xa xb).map fun c=>(rE c).length).getD 0≤VG tY xa+2*VG tY xb:=by
 unfold lu;split
 ·simp
 cases xa with
 | none=>
  cases xb with
  | none=>simp
  | some y=>
   have:=Co y
   show (rE ⟨2,y,[]⟩).length≤0+2*tY y
   unfold rE;rw[List.length_append,aT,if_neg (by show ¬(2:Int)=1;decide),if_pos (by rfl)]
   show 1+tY y≤_
   omega
 | some x=>
  cases xb with
  | none=>
   have:=Co x
   show (rE ⟨1,⟨0,x.f1,⟨#[]⟩,0,[],[]⟩,[]⟩).length≤tY x+2*0
   unfold rE;rw[List.length_append,aT,if_pos (by rfl),ng]
   show 1+(x.f1.size+2)≤_
   omega
  | some y=>
   dsimp only;split
   ·rename_i hk
    show (rE (rz x y)).length≤tY x+2*tY y
    obtain⟨K,hok⟩:=xV hb y (h2 y rfl);have hf:=yx (Dk hok hk.2).f;have h1:=(Co y).2 hk.2;have hl:=qD x y (idxs y.f4) 0 ([],[]);have hn:=hf.n;unfold rE;rw[List.length_append,aT,if_neg (by show ¬(3:Int)=1;decide),if_neg (by show ¬(3:Int)=2;decide),if_pos (by rfl)];simp only[List.length_append,aT,ng,oZ]
    show 1+(y.f1.size+2+8+(8*y.f4.length+4)+(8*(gG x y (idxs y.f4) 0 ([],[])).1.length+4)+(gG x y (idxs y.f4) 0 ([],[])).2.length)≤_
    simp only[List.length_nil,Nat.zero_add] at hl;omega
   have:=Co y
   show (rE ⟨2,y,[]⟩).length≤tY x+2*tY y
   unfold rE;rw[List.length_append,aT,if_neg (by show ¬(2:Int)=1;decide),if_pos (by rfl)]
   show 1+tY y≤_
   omega
theorem OV {a b:List It} (ha:jN a=true) (hb:jN b=true):∀(rs:List Two.Rd),(∀r∈rs,∀x,r.2.2=some x→x∈b)→((Di rs).flatMap rE).length≤(rs.map (fun r=>VG tY r.2.1)).sum+2*(rs.map (fun r=>VG tY r.2.2)).sum
 | [],_=>by simp[Di]
 | r::rs,h=>by
  have ih:=OV ha hb rs (fun q hq=>h q (List.mem_cons_of_mem _ hq));have h1:=XI (xa:=r.2.1) ha hb (h r List.mem_cons_self)
  have e:(Di (r::rs)).flatMap rE=((lu r.2.1 r.2.2).toList.flatMap rE)++(Di rs).flatMap rE:=by
   unfold Di;rw[List.flatMap_cons,List.flatMap_append]
  have e2:((lu r.2.1 r.2.2).toList.flatMap rE).length=((lu r.2.1 r.2.2).map fun c=>(rE c).length).getD 0:=by
   cases lu r.2.1 r.2.2 <;> simp
  rw[e,List.length_append,e2];simp only[List.map_cons,List.sum_cons];omega
theorem Cq (n:Int):∀(l:List Ch) (out:List Int),out.length+(l.flatMap rE).length+9≤16777216→(kZ n out l).2=0
 | [],out,_=>rfl
 | c::l,out,h=>by
  rw[List.flatMap_cons,List.length_append] at h;rw[kZ,if_neg (by rw[List.length_append];omega)];exact Cq n l _ (by rw[List.length_append];omega)
theorem Ee:∀(l:List It) (out:List Int) (n:Nat),(lY out n l).2=0→(lY out n l).1.length=out.length+(l.map tY).sum+9
 | [],out,n,_=>by
  show (jM out n).length=_
  unfold jM;simp only[List.length_append,aT,List.map_nil,List.sum_nil];omega
 | x::l,out,n,h=>by
  rw[lY] at h ⊢;split at h
  ·cases h
  rename_i hle;rw[if_neg hle,Ee l _ _ h,List.length_append,List.map_cons,List.sum_cons]
  show _+(eF x).length+_+9=_+((eF x).length+_)+9
  omega
theorem OW {l:List It} (h:(bY l).2=0) (hf:l.all nO=true):(l.map tY).sum≤4194304:=by
 have hb:=(mJ h hf).2.1;unfold bY at h hb;split at h
 ·cases h
 rename_i h1;rw[if_neg h1] at hb;split at h
 ·rename_i h2;rw[if_pos h2,Ee l _ _ h] at hb;omega
 cases h
theorem DC {a b:List It} (fa:a.all nO=true) (fb:b.all nO=true) (ha:(bY a).2=0) (hb:(bY b).2=0) :
  (kW a b).2=0∧(kW a b).1.length≤16777216∧(∀x∈(kW a b).1,0≤x∧x≤255)∧wu a (kW a b).1=(b,0):=by
 have pa:=qp ha;have pb:=qp hb
 have e:kW a b=iA (gV (bY a).1) (gV (bY b).1) (iY a b):=by
  unfold kW;rw[if_neg (fun h=>h ha),if_neg (fun h=>h hb)]
 have hsa:=qB (mJ ha fa).2.2;have hsb:=qB (mJ hb fb).2.2
 have hlen:(iY a b).length≤8192:=by
  have h1:=AV (mZ a b) [];have h2:=Two.length (L:=lg a b) (Two.kE (lg a b) (fun _=>0)) (fun _=>0);have h3:Two.kE (lg a b) (fun _=>0)=a.length+b.length:=rfl;have h4:(mZ a b).length≤a.length+b.length:=h3▸h2;have h5:(iY a b).length≤([]:List Ch).length+(mZ a b).length:=h1;simp only[List.length_nil,Nat.zero_add] at h5;omega
 have hz:(iA (gV (bY a).1) (gV (bY b).1) (iY a b)).2=0:=by
  unfold iA;rw[if_neg aj,if_pos (by unfold sU;rw[decide_eq_true hsa.1,decide_eq_true hsa.2,decide_eq_true hsb.1,decide_eq_true hsb.2,Mt pa.2 pb.2];rfl)];refine Cq _ _ _ ?_;have h1:=OV pa.2 pb.2 (mZ a b) (fun r hr=>(Two.here hr).2);have h2:=G9 tY (L:=lg a b) (Two.kE (lg a b) (fun _=>0)) (fun _=>0);have e1:dr (lg a b) (fun _=>0) 0=a:=rfl;have e2:dr (lg a b) (fun _=>0) 1=b:=rfl;rw[e1,e2] at h2;have h2':((mZ a b).map (fun r=>VG tY r.2.1)).sum≤(a.map tY).sum∧((mZ a b).map (fun r=>VG tY r.2.2)).sum≤(b.map tY).sum:=h2;have h3:=OW ha fa;have h4:=OW hb fb;rw[qz];simp only[List.length_append,aT];have h5:iX.length=8:=rfl;omega
 obtain⟨_,_,_,hl4⟩:=xP hz;have hft:∀c∈iY a b,uH c:=yH ha hb fa fb _ [] (fun r hr=>Two.here hr) bK;rw[e];refine⟨hz,hl4,FT hft,?_⟩;unfold wu jw;rw[if_neg (fun h=>h ha),J5 hz];dsimp only;rw[if_neg (fun h=>h rfl),F9 pa.2 pb.2 (fun x hx=>uG (List.all_eq_true.1 fa x hx)) (fun x hx=>uG (List.all_eq_true.1 fb x hx))];dsimp only;rw[e,if_neg (by rw[hz];decide),if_pos rfl]
end Go.Proofs.YtknihldkhedpkaaGreatDoor
end
