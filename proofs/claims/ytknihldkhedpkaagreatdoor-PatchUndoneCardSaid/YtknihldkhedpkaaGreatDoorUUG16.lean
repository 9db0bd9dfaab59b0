import Derived.Test.YtknihldkhedpkaaGreatDoorUUG15
import Derived.Test.YtknihldkhedpkaaGreatDoorUUG10
set_option linter.all false
set_option maxHeartbeats 16000000
set_option maxRecDepth 100000
section
namespace Go.Proofs.YtknihldkhedpkaaGreatDoor
open Go.RowKit Go.Lib
open Go.Proofs.YtknihldkhedpkaaGreatDoorW.PrintWords Go.Proofs.YtknihldkhedpkaaGreatDoorW.PrintLast Go.Proofs.YtknihldkhedpkaaGreatDoor.PT
structure Pq (B:Nat) (w:World) (g:Nat) (v:Value) (out:List Int):Prop where
 blk:w.heap[g]?=some (.cells #[v] 109 (0,0))
 row:Kd.R (Kd.int .u8) 5 w B (fun _=>True) v out
 low:B≤g
theorem Pq.lt {B g:Nat} {w:World} {v:Value} {out:List Int} (H:Pq B w g v out):g<w.heap.size:=bE H.blk
theorem Pq.below {B g:Nat} {w w1:World} {v:Value} {out:List Int} (H:Pq B w g v out) (hb:Below w.heap.size w w1):Pq B w1 g v out:=⟨aG H.blk hb,Kd.dF H.row hb,H.low⟩
theorem Pq.ne {B g:Nat} {w:World} {v:Value} {out:List Int} (H:Pq B w g v out):some g≠v.ownBlock:=Kd.uJ H.row H.blk aD
theorem Pq.slice {B g:Nat} {w:World} {v:Value} {out:List Int} (H:Pq B w g v out):∃A c,v=.slice A out.length c:=Kd.bG H.row
theorem Pq.cell {B g:Nat} {w:World} {v:Value} {out:List Int} (H:Pq B w g v out):w.cell? ⟨g,0,none⟩=some v:=by rw[ak H.blk];rfl
theorem Pq.put {B g:Nat} {w w1:World} {v v1:Value} {out rH:List Int} (H:Pq B w g v out) (hg:w.grownBy w1 v.ownBlock) (ho:Kd.R (Kd.int .u8) 5 w1 B (fun _=>True) v1 rH) :
  Pq B (w1.setCell ⟨g,0,none⟩ v1) g v1 rH:=by
 have hb:=jW H.blk hg H.ne;exact⟨by have:=dM hb 0 v1;simpa using this,Kd.iP ho hb (by intro q hq;simp[Kd.int,Kd.scalar] at hq;subst hq;decide) 0 v1,H.low⟩
theorem Pq.cells {B g:Nat} {w w1:World} {v:Value} {out:List Int} (H:Pq B w g v out) (hg:w.grownBy w1 v.ownBlock) :
  w1.cell? ⟨g,0,none⟩=some v∧w1.frozen? ⟨g,0,none⟩=false∧g<w1.heap.size:=by
 have hb:=jW H.blk hg H.ne;exact⟨by rw[ak hb];rfl,ay hb 0,bE hb⟩
theorem Fr.K8 {B g:Nat} {w w1:World} {v:Value} {out:List Int} (H:Pq B w g v out) (hg:w.grownBy w1 v.ownBlock):Fr g w w1 :=
 ⟨hg.size,fun k o hk _ ht=>(hg.block k (bE hk) (fun e=>by
  obtain⟨inner,ho⟩:=Kd.FN H.row;obtain⟨cs,hc⟩:=mY ho k e.symm;rw[hk] at hc
  injection hc with hc
  exact ht _ _ hc)).trans hk⟩
structure Pg (B:Nat) (w:World) (g b:Nat):Prop where
 blk:w.heap[g]?=some (.cells #[.slice (some ⟨b,0,none⟩) 8 8] 109 (0,0))
 arr:w.heap[b]?=some (.cells (nums .u8 iX).toArray 5 (8,9))
 low:B≤g
theorem Pg.below {B g b:Nat} {w w1:World} (H:Pg B w g b) (hb:Below w.heap.size w w1):Pg B w1 g b:=⟨aG H.blk hb,aG H.arr hb,H.low⟩
def Pa (B:Nat) (w:World) (g:Nat) (out:List Int):Prop:=(out=iX∧∃b,Pg B w g b)∨∃v,Pq B w g v out
theorem Pa.pq {B g:Nat} {w:World} {out:List Int} (H:Pa B w g out) (h:8<out.length):∃v,Pq B w g v out:=by
 rcases H with⟨rfl,_⟩|H
 ·exact absurd h aD
 exact H
theorem K9 {w:World} {b:Nat} (h:w.heap[b]?=some (.cells (nums .u8 iX).toArray 5 (8,9))) (o:Obj):∀b',some (⟨b,0,none⟩:Addr)=some b'→∀(j:Nat) u,(nums .u8 iX)[j]?=some u→(w.alloc o).cell? (b'.add j)=some u:=by
 intro b' hb' j u hj
 injection hb' with hb'
 subst hb';have h1:(w.alloc o).cell? ⟨b,j,none⟩=(nums .u8 iX).toArray[j]?:=cell_of_row _ b j _ 5 (8,9) (aM h o);rw[add_plain,h1,List.getElem?_toArray];exact hj
theorem ND (w0 w:World) (g:Nat) (out:List Int) (x:Int) (m:Nat) (H:Pa w0.heap.size w g out) (hb:Below w0.heap.size w0 w) (hm:m≤8) (hl:out.length≤1099511627776) :
  Calls Tryz.prog 64 #[.pointer (some ⟨g,0,none⟩),.int .i64 x,.int .i64 m] w fun e w'=>e=.returned (.tuple #[])∧Pa w0.heap.size w' g (out++leB m x)∧Below w0.heap.size w0 w'∧Fr g w w':=by
 have HP:=ah.mk H;have HB:=ah.mk hb;obtain⟨i0,hi0,hz0,hz1,hz2⟩:=info_parts info5;have HI:=ah.mk (show _∧_∧_∧_ from⟨hi0,hz0,hz1,hz2⟩);clear H hb hi0 hz0 hz1 hz2
 go_enter Tryz.func64,Tryz.ntmps64
 go_wp2
 go_loopg [1,7] m (fun gk s1 s7 wx=>∃(i:Nat) (y:Int) (rH:List Int),i+gk=m∧s7=.int .i64 i∧s1=.int .i64 y∧ah (rH++leB gk y=out++leB m x)∧ah (rH.length=out.length+i)∧ah (Pa w0.heap.size wx g rH)∧ah (Below w0.heap.size w0 wx)∧ah (Fr g w wx))
 case atStart=>exact⟨0,x,out,by omega,rfl,rfl,⟨rfl⟩,⟨rfl⟩,HP,HB,⟨Fr.refl _ _⟩⟩
 case round=>
  clear HP HB;obtain⟨i,y,rH,hig,rfl,rfl,HE,hlen,HP,HB,HF⟩:=hrel
  cases gk with
  | zero=>
   have hd:decide ((i:Int)<(m:Int))=false:=decide_eq_false aj;have hd2:decide (i<m)=false:=decide_eq_false aj
   go_wp2
   go_end0
   have h:=HE.out;rw[leB,List.append_nil] at h;exact⟨rfl,by rw[← h];exact HP.out,HB.out,HF.out⟩
  | succ gk=>
   have hd:decide ((i:Int)<(m:Int))=true:=decide_eq_true aj;have hd2:decide (i<m)=true:=decide_eq_true aj
   have hl1:rH.length≤1099511627786:=by have:=hlen.out;omega
   rcases HP.out with⟨ho1,b,HG⟩|⟨v,HV⟩
   ·have Fb:=ah.mk ho1;have HG0:=ah.mk HG
    have c0:wr.cell? ⟨g,0,none⟩=some (.slice (some ⟨b,0,none⟩) 8 8):=by rw[ak HG.blk];rfl
    clear ho1 HG HP
    go_wp2_with ((with_reducible refine dx (b:=.append) (xs:=#[.tmp 13,.tmp 16]) rfl ?_);at_builtin;refine wpList_append_grows _ rfl (.tmp 13) (.tmp 16) 27 rfl 5 i0 (.int .u8 0) 1 1 Tryz.underlying27 HI.out.1 HI.out.2.1 HI.out.2.2.1 HI.out.2.2.2 rfl aD (some ⟨b,0,none⟩) 8 8 (nums .u8 iX) rfl (fun h=>by cases h) rfl ?hA ⟨wr.heap.size,0,none⟩ 1 1 [.int .u8 (y % 256)] rfl rfl ?hN (by simp[Value.oneCell']) aD aD aD ?_;(case hA=>exact K9 HG0.out.arr _);(case hN=>exact JQ wr _ 5);intro v2 w2 ho hg;have HO:=ah.mk ho;have HG:=ah.mk hg;have hgb:=jW (aM HG0.out.blk (.cells #[Value.int .u8 (y % 256)] 5)) hg bK;have cF:w2.cell? ⟨g,0,none⟩=some (.slice (some ⟨b,0,none⟩) 8 8):=(by rw[ak hgb];rfl);have fF:=ay hgb 0;have lF:=bE hgb;have HGB:=ah.mk hgb;clear ho hg hgb;obtain⟨A2,c2,hv2⟩:=JR HO.out;subst hv2)
    have hR:Kd.R (Kd.int .u8) 5 w2 w0.heap.size (fun _=>True) (.slice A2 9 c2) (iX++[y % 256]):=Kd.sO (vU HO.out (Nat.le_trans HB.out.size bK)) (fun _ _=>trivial);have hbel:Below w0.heap.size w0 w2:=xJ (HB.out.alloc HB.out.size _) none (by rw[World.size_alloc];have:=HB.out.size;omega) HG.out bK;have HRR:=ah.mk hR;have YT:=ah.mk hbel;clear hR hbel
    go_roundg gk
    case measure=>omega
    case rel=>exact⟨i+1,y / 256,rH++[y % 256],by omega,by first|rfl|simp,by first|rfl|simp,⟨by rw[← HE.out,leB,List.append_assoc];rfl⟩,⟨by rw[List.length_append,hlen.out];simp;omega⟩,
      ⟨.inr ⟨_,⟨by have:=dM HGB.out 0 (.slice A2 9 c2);simpa using this,by rw[Fb.out];exact Kd.iP HRR.out HGB.out (by intro q hq;simp[Kd.int,Kd.scalar] at hq;subst hq;decide) 0 _,HG0.out.low⟩⟩⟩,⟨YT.out.setCell HG0.out.low _⟩,⟨HF.out.trans ((Fr.of_below ((Below.refl _ _).alloc (Nat.le_refl _) _)).trans ((Fr.of_below (xK HG.out)).trans (Fr.set _ _ _)))⟩⟩
   obtain⟨A,c,hv⟩:=HV.slice;subst hv;have c0:=HV.cell;have HPV:=ah.mk HV;clear HV HP
   go_wp2_with ((with_reducible refine dx (b:=.append) (xs:=#[.tmp 13,.tmp 16]) rfl ?_);at_builtin;refine Kd.mP (Kd.int .u8) (w0:=w0) w0.heap.size rfl (.tmp 13) (.tmp 16) 27 5 (.int .u8 0) 1 rfl Tryz.underlying27 info5 rfl aD aj (.slice A rH.length c) rH (y % 256) [.int .u8 (y % 256)] (fun _=>True) (fun _=>False) rfl rfl ?aP (fun _ hk=>hk.elim) (fun _ _=>trivial) ?aO ?aB ?aS ?aL ?_;(case aP=>exact rfl);(case aB=>exact HB.out);(case aO=>exact HPV.out.row);(case aS=>exact HB.out.size);(case aL=>omega);intro v2 w2 ho hb hg _h;have HO:=ah.mk ho;have HG:=ah.mk hg;have HB1:=ah.mk hb;obtain⟨cF,fF,lF⟩:=HPV.out.cells hg;clear ho hb hg _h;obtain⟨A2,c2,hv2⟩:=Kd.bG HO.out;subst hv2)
   have hO:=HO.out;simp only[List.length_append,List.length_cons,List.length_nil,Nat.zero_add] at hO;have HO:=ah.mk hO;clear hO
   go_roundg gk
   case measure=>omega
   case rel=>exact⟨i+1,y / 256,rH++[y % 256],by omega,by first|rfl|simp,by first|rfl|simp,⟨by rw[← HE.out,leB,List.append_assoc];rfl⟩,⟨by rw[List.length_append,hlen.out];simp;omega⟩,⟨.inr ⟨_,HPV.out.put HG.out HO.out⟩⟩,⟨HB1.out.setCell HPV.out.low _⟩,⟨HF.out.trans ((Fr.K8 HPV.out HG.out).trans (Fr.set _ _ _))⟩⟩
theorem nX (w0 w:World) (g:Nat) (v:Value) (out:List Int) (x:Int) (m:Nat) (H:Pq w0.heap.size w g v out) (hb:Below w0.heap.size w0 w) (hm:m≤8) (h8:8<out.length) (hl:out.length≤1099511627776) :
  Calls Tryz.prog 64 #[.pointer (some ⟨g,0,none⟩),.int .i64 x,.int .i64 m] w fun e w'=>e=.returned (.tuple #[])∧(∃v',Pq w0.heap.size w' g v' (out++leB m x))∧Below w0.heap.size w0 w'∧Fr g w w':=by
 refine (ND w0 w g out x m (.inr ⟨v,H⟩) hb hm hl).mono ?_;rintro e w1 ⟨rfl,h1,h2,h3⟩;exact⟨rfl,h1.pq (by rw[List.length_append];omega),h2,h3⟩
theorem yM (w0 w:World) (g:Nat) (v:Value) (out:List Int) (s:ByteArray) (H:Pq w0.heap.size w g v out) (hb:Below w0.heap.size w0 w) (h8:8<out.length) (hl:out.length≤549755813888) (hs:s.size≤549755813888) :
  Calls Tryz.prog 103 #[.pointer (some ⟨g,0,none⟩),.string s] w fun e w'=>e=.returned (.tuple #[])∧(∃v',Pq w0.heap.size w' g v' (out++jI s))∧Below w0.heap.size w0 w'∧Fr g w w':=by
 have HP:=ah.mk H;have HB:=ah.mk hb;have hc:=nX w0 w g v out s.size 2 H hb aD h8 aj
 have hl2:(out++leB 2 (s.size:Int)).length=out.length+2:=by rw[List.length_append,aT]
 have hT:out++jI s=(out++leB 2 (s.size:Int))++bytesOf s:=by unfold jI;rw[List.append_assoc]
 rw[hT]
 obtain⟨o1,ho1⟩:∃o,out++leB 2 (s.size:Int)=o:=⟨_,rfl⟩
 rw[ho1] at hc hl2;rw[ho1];have HL:=ah.mk hl2;clear H hb hl2 ho1 hT
 go_enter Tryz.func103,Tryz.ntmps103
 go_wp2_with (first
  | (go_at_call 64;refine hc.mono ?_;rintro e w1 ⟨rfl,⟨v1,h1⟩,hb1,hf1⟩;have wT:=ah.mk h1;have HB1:=ah.mk hb1;have I6:=ah.mk hf1;have c0:=h1.cell;obtain⟨A,c,hv⟩:=h1.slice;clear h1 hb1 hf1 hc;subst hv)
  | ((with_reducible refine dx (b:=.append) (xs:=#[.tmp 12,.tmp 13]) rfl ?_);at_builtin;refine uY (w0:=w0) w0.heap.size rfl (.tmp 12) (.tmp 13) 27 9 5 rfl Tryz.underlying27 Tryz.underlying9 info5 _ o1 s rfl rfl (Bj wT.out.row) HB1.out HB1.out.size (by have:=HL.out;omega) ?_;intro v2 w2 ho hb hg;have HO:=ah.mk (Bl ho);have HG:=ah.mk hg;have HB2:=ah.mk hb;obtain⟨cF,fF,lF⟩:=wT.out.cells hg;clear ho hb hg;obtain⟨A2,c2,hv2⟩:=Kd.bG HO.out;subst hv2))
 have hO:=HO.out;simp only[List.length_append] at hO
 go_end0
 exact⟨rfl,⟨_,wT.out.put HG.out hO⟩,HB2.out.setCell wT.out.low _,I6.out.trans ((Fr.K8 wT.out HG.out).trans (Fr.set _ _ _))⟩
theorem Df (w0 w:World) (g:Nat) (v:Value) (out:List Int) (l:List Ru) (A0:Option Addr) (c0:Nat) (H:Pq w0.heap.size w g v out) (hb:Below w0.heap.size w0 w) (h8:8<out.length) (hl:out.length≤1073741824) (hs:l.length≤1048576) (hr:Kd.C dB w0 A0 l.length l) (hc:l.length≤c0) :
  Calls Tryz.prog 105 #[.pointer (some ⟨g,0,none⟩),.slice A0 l.length c0] w fun e w'=>e=.returned (.tuple #[])∧(∃v',Pq w0.heap.size w' g v' (out++jP l))∧Below w0.heap.size w0 w'∧Fr g w w':=by
 have hcc:=nX w0 w g v out l.length 4 H hb aD h8 aj
 have hl2:(out++leB 4 (l.length:Int)).length=out.length+4:=by rw[List.length_append,aT]
 have hT:out++jP l=(out++leB 4 (l.length:Int))++iy l:=by unfold jP;rw[List.append_assoc]
 rw[hT]
 obtain⟨o4,wM⟩:∃o,out++leB 4 (l.length:Int)=o:=⟨_,rfl⟩
 rw[wM] at hcc hl2;rw[wM];have HR:=ah.mk hr;clear H hb wM hT hr
 go_enter Tryz.func105,Tryz.ntmps105
 go_wp2_with (go_at_call 64;refine hcc.mono ?_;rintro e w4 ⟨rfl,⟨v4,h4⟩,hb4,uP⟩;have MX:=ah.mk h4;have kJ:=ah.mk hb4;have I5:=ah.mk uP;clear h4 hb4 uP hcc)
 go_loopg [12] l.length (fun gk s12 wx=>∃(i:Nat) (vi:Value) (oi:List Int),i+gk=l.length∧s12=.int .i64 i∧ah (o4++iy (l.take i)=oi)∧ah (oi.length=o4.length+8*i)∧ah (Pq w0.heap.size wx g vi oi)∧ah (Below w0.heap.size w0 wx)∧ah (Fr g w wx))
 case atStart=>exact⟨0,v4,o4,by omega,rfl,⟨by simp[iy]⟩,⟨by omega⟩,MX,kJ,I5⟩
 case round=>
  clear MX kJ I5;obtain⟨i,vi,oi,hig,rfl,HOi,HLi,VN,VO,HFi⟩:=hrel;by_cases hi:i<l.length
  ·have hd:decide ((i:Int)<(l.length:Int))=true:=decide_eq_true aj;have hd2:decide (i<l.length)=true:=decide_eq_true hi;obtain⟨ad,hA,r0,r1⟩:=FL (Kd.aC HR.out VO.out) i hi
   obtain⟨ru,YG⟩:∃r,l[i]'hi=r:=⟨_,rfl⟩
   rw[YG] at r0 r1
   have hnx:iy (l.take (i+1))=iy (l.take i)++(leB 4 ru.f0++leB 4 ru.f1):=by
    unfold iy;rw[List.take_succ_eq_append_getElem hi,YG,List.flatMap_append];simp
   have HNX:=ah.mk hnx;subst hA
   obtain⟨W1,hW1⟩:∃W1,wr.alloc (.cells #[.int .i64 ru.f0,.int .i64 ru.f1] 117)=W1:=⟨_,rfl⟩
   have hba:=(Below.refl wr.heap.size wr).alloc (Nat.le_refl _) (.cells #[.int .i64 ru.f0,.int .i64 ru.f1] 117);have hW3:=bJ wr (.cells #[.int .i64 ru.f0,.int .i64 ru.f1] 117);rw[hW1] at hba hW3
   have q0:W1.cell? ⟨wr.heap.size,0,none⟩=some (.int .i64 ru.f0):=by rw[ak hW3];rfl
   have hgw:wr.heap.size≠g:=by have:=VN.out.lt;omega
   have HW1:=ah.mk (VN.out.below hba);have HW2:=ah.mk (VO.out.trans (hba.mono VO.out.size));have HW3:=ah.mk hW3;have I6:=ah.mk (HFi.out.trans (Fr.of_below hba));have hli:oi.length=o4.length+8*i:=HLi.out
   have hle:oi.length≤1099511627776:=by omega
   have agz:8<oi.length:=by omega
   clear hnx hba hW3 hli VN VO HFi
   go_wp2_with fail
   refine (nX w0 W1 g vi oi ru.f0 4 HW1.out HW2.out aD agz hle).mono ?_;rintro e w5 ⟨rfl,⟨v5,h5⟩,hb5,IX⟩;have IY:=ah.mk h5;have kH:=ah.mk hb5;have Pv:=ah.mk (I6.out.trans IX);have oF:=IX.cell HW3.out hgw aD
   have y1:w5.cell? ⟨wr.heap.size,1,none⟩=some (.int .i64 ru.f1):=by rw[ak oF];rfl
   have Uf:(oi++leB 4 ru.f0).length=oi.length+4:=by rw[List.length_append,aT]
   obtain⟨o5,IZ⟩:∃o,oi++leB 4 ru.f0=o:=⟨_,rfl⟩
   rw[IZ] at Uf IY;have Vv:=ah.mk IZ;have HL5:=ah.mk Uf
   have acN:o5.length≤1099511627776:=by have:=HLi.out;omega
   have abW:8<o5.length:=by omega
   clear h5 hb5 IX oF HW1 HW2 HW3 Uf IZ r0 r1 q0 hle agz hW1
   go_wp2_with fail
   refine (nX w0 w5 g v5 o5 ru.f1 4 IY.out kH.out aD abW acN).mono ?_;rintro e w6 ⟨rfl,⟨v6,h6⟩,hb6,Ja⟩;have Vw:=ah.mk h6;have sQ:=ah.mk hb6;have Yk:=ah.mk (Pv.out.trans Ja);clear h6 hb6 Ja IY kH y1 acN abW
   go_wp2_with fail
   go_roundg (l.length - (i+1))
   case measure=>omega
   case rel=>exact⟨i+1,v6,o5++leB 4 ru.f1,by omega,by first|rfl|simp,⟨by rw[HNX.out,← Vv.out,← HOi.out];simp only[List.append_assoc]⟩,⟨by rw[List.length_append,aT,HL5.out,HLi.out];omega⟩,Vw,sQ,Yk⟩
  have hd:decide ((i:Int)<(l.length:Int))=false:=decide_eq_false aj;have hd2:decide (i<l.length)=false:=decide_eq_false hi;have hE:l.take i=l:=List.take_of_length_le aj;have HE:=ah.mk hE;clear hE
  go_wp2_with fail
  go_end0
  exact⟨rfl,⟨vi,by rw[← HE.out,HOi.out];exact VN.out⟩,VO.out,HFi.out⟩
theorem ng (s:ByteArray):(jI s).length=s.size+2:=by unfold jI;rw[List.length_append,aT,Go.Proofs.YtknihldkhedpkaaGreatDoorW.PrintWords.bytesOf_length];omega
theorem vV (l:List Ru):(iy l).length=8*l.length:=by
 induction l with
 | nil=>rfl
 | cons r l ih=>unfold iy at *;rw[List.flatMap_cons,List.length_append,ih,List.length_append,aT,aT,List.length_cons];omega
theorem oZ (l:List Ru):(jP l).length=8*l.length+4:=by unfold jP;rw[List.length_append,aT,vV];omega
theorem Us (w0 w:World) (g:Nat) (v0:Value) (o0:List Int) (x:It) (A4:Option Addr) (c4:Nat) (A5:Option Addr) (c5:Nat) (H:Pq w0.heap.size w g v0 o0) (hb:Below w0.heap.size w0 w) (h8:8<o0.length) (hl:o0.length≤268435456) (hs:Sm x)
  (h4:Kd.C dB w0 A4 x.f4.length x.f4) (h5:Kd.C (Kd.int .u8) w0 A5 x.f5.length x.f5) (l4:x.f4.length≤c4) (l5:x.f5.length≤c5) :
  Calls Tryz.prog 104 #[.pointer (some ⟨g,0,none⟩),.agg #[.int .i64 x.f0,.string x.f1,.string x.f2,.int .i64 x.f3,.slice A4 x.f4.length c4,.slice A5 x.f5.length c5]] w fun e w'=>e=.returned (.tuple #[])∧(∃v',Pq w0.heap.size w' g v' (o0++eF x))∧Below w0.heap.size w0 w'∧Fr g w w':=by
 obtain⟨W1,hW1⟩:∃W1,w.alloc (.cells #[.int .i64 x.f0,.string x.f1,.string x.f2,.int .i64 x.f3,.slice A4 x.f4.length c4,.slice A5 x.f5.length c5] 29)=W1:=⟨_,rfl⟩
 have hba:=(Below.refl w.heap.size w).alloc (Nat.le_refl _) (.cells #[.int .i64 x.f0,.string x.f1,.string x.f2,.int .i64 x.f3,.slice A4 x.f4.length c4,.slice A5 x.f5.length c5] 29);have hbk:=bJ w (.cells #[.int .i64 x.f0,.string x.f1,.string x.f2,.int .i64 x.f3,.slice A4 x.f4.length c4,.slice A5 x.f5.length c5] 29);rw[hW1] at hba hbk
 have hgn:w.heap.size≠g:=by have:=H.lt;omega
 have alQ:W1.cell? ⟨w.heap.size,0,none⟩=some (.int .i64 x.f0):=by rw[ak hbk];rfl
 have HP0:=ah.mk (H.below hba);have HB0:=ah.mk (hb.trans (hba.mono hb.size));have HF0:=ah.mk (Fr.of_below (g:=g) hba);have PU:=ah.mk hbk;have HR4:=ah.mk h4;have nD:=ah.mk h5;have HS:=ah.mk hs;have hsp:=hs.p;have hst:=hs.t;have hsr:=hs.r;have hsd:=hs.d;clear H hb hba hbk hs h4 h5
 go_enter Tryz.func104,Tryz.ntmps104
 go_wp2_with fail
 try rw[hW1]
 refine (nX w0 W1 g v0 o0 x.f0 1 HP0.out HB0.out aD h8 aj).mono ?_;rintro e w1 ⟨rfl,⟨v1,h1⟩,hb1,hf1⟩;have I6:=ah.mk (HF0.out.trans hf1);have jY:=ah.mk (hf1.cell PU.out hgn aD)
 have alS:w1.cell? ⟨w.heap.size,0,none⟩=some (.int .i64 x.f0):=by rw[ak jY.out];rfl
 have alT:w1.cell? ⟨w.heap.size,1,none⟩=some (.string x.f1):=by rw[ak jY.out];rfl
 clear hf1;clear hW1 alQ
 have hl1:(o0++leB 1 x.f0).length=o0.length+1:=by rw[List.length_append];rw[aT]
 obtain⟨o1,ho1⟩:∃o,o0++leB 1 x.f0=o:=⟨_,rfl⟩
 rw[ho1] at hl1 h1;have wT:=ah.mk h1;have HB1:=ah.mk hb1;have Fb:=ah.mk ho1
 have h81:8<o1.length:=by omega
 have hu1:o1.length≤278435456:=by omega
 clear h1 hb1 ho1 hl1
 go_wp2_with fail
 refine (yM w0 w1 g v1 o1 x.f1 wT.out HB1.out h81 aj aj).mono ?_;rintro e w2 ⟨rfl,⟨v2,h2⟩,hb2,hf2⟩;have zX:=ah.mk (I6.out.trans hf2);have jG:=ah.mk (hf2.cell jY.out hgn aD)
 have alU:w2.cell? ⟨w.heap.size,0,none⟩=some (.int .i64 x.f0):=by rw[ak jG.out];rfl
 have alV:w2.cell? ⟨w.heap.size,2,none⟩=some (.string x.f2):=by rw[ak jG.out];rfl
 have alW:w2.cell? ⟨w.heap.size,3,none⟩=some (.int .i64 x.f3):=by rw[ak jG.out];rfl
 clear hf2;clear alS alT
 have hl2:(o1++jI x.f1).length=o1.length+(x.f1.size+2):=by rw[List.length_append];rw[ng]
 obtain⟨o2,ho2⟩:∃o,o1++jI x.f1=o:=⟨_,rfl⟩
 rw[ho2] at hl2 h2;have zA:=ah.mk h2;have HB2:=ah.mk hb2;have wU:=ah.mk ho2
 have h82:8<o2.length:=by omega
 have hu2:o2.length≤288435456:=by omega
 clear h2 hb2 ho2 hl2;have HO:=ah.mk (show o0++(leB 1 x.f0++jI x.f1)=o2 by rw[← wU.out,← Fb.out,List.append_assoc]);by_cases k1:x.f0=1
 ·have t1:(x.f0 == 1)=true:=beq_iff_eq.2 k1;have HK:=ah.mk k1;clear k1
  go_wp2_with fail
  refine (nX w0 w2 g v2 o2 x.f3 8 zA.out HB2.out aD h82 aj).mono ?_;rintro e w3 ⟨rfl,⟨v3,h3⟩,hb3,hf3⟩;have yJ:=ah.mk (zX.out.trans hf3);have qQ:=ah.mk (hf3.cell jG.out hgn aD)
  have alX:w3.cell? ⟨w.heap.size,4,none⟩=some (.slice A4 x.f4.length c4):=by rw[ak qQ.out];rfl
  clear hf3;clear alU alV alW
  have hl3:(o2++leB 8 x.f3).length=o2.length+8:=by rw[List.length_append];rw[aT]
  obtain⟨o3,ho3⟩:∃o,o2++leB 8 x.f3=o:=⟨_,rfl⟩
  rw[ho3] at hl3 h3;have JF:=ah.mk h3;have HB3:=ah.mk hb3;have Yi:=ah.mk ho3
  have h83:8<o3.length:=by omega
  have hu3:o3.length≤298435456:=by omega
  clear h3 hb3 ho3 hl3
  go_wp2_with fail
  refine (Df w0 w3 g v3 o3 x.f4 A4 c4 JF.out HB3.out h83 aj aj HR4.out l4).mono ?_;rintro e w4 ⟨rfl,⟨v4,h4⟩,hb4,uP⟩;have I5:=ah.mk (yJ.out.trans uP);have wV:=ah.mk (uP.cell qQ.out hgn aD)
  have arP:w4.cell? ⟨w.heap.size,5,none⟩=some (.slice A5 x.f5.length c5):=by rw[ak wV.out];rfl
  clear uP;clear alX
  have hl4:(o3++jP x.f4).length=o3.length+(8*x.f4.length+4):=by rw[List.length_append];rw[oZ]
  obtain⟨o4,wM⟩:∃o,o3++jP x.f4=o:=⟨_,rfl⟩
  rw[wM] at hl4 h4;have MX:=ah.mk h4;have kJ:=ah.mk hb4;have Ue:=ah.mk wM
  have h84:8<o4.length:=by omega
  have hu4:o4.length≤308435456:=by omega
  clear h4 hb4 wM hl4
  have hfin:∀w' v',Pq w0.heap.size w' g v' (o4++x.f5)→Pq w0.heap.size w' g v' (o0++eF x):=by
   intro w' v' h;unfold eF;rw[if_pos HK.out];rw[← Ue.out,← Yi.out,← HO.out] at h
   simpa only[List.append_assoc,jI,jP] using h
  have Bn:=ah.mk hfin;clear hfin;have c0:=MX.out.cell;obtain⟨A,c,hv⟩:=MX.out.slice;subst hv;have PE:=ah.mk (MX.out.below (w1:=w4.drew) (bA (Below.refl _ _)));have wP:=ah.mk (bA kJ.out);have yE:=ah.mk (Kd.aC (Kd.aC nD.out kJ.out) (bA (Below.refl w4.heap.size w4)));have Yq:=ah.mk (I5.out.trans (Fr.of_below (g:=g) (bA (Below.refl w4.heap.size w4))))
  go_wp2_with fail
  go_region_law ((refine qo (w0:=w0) .u8 w0.heap.size rfl (.tmp 28) (.tmp 30) 27 5 1 rfl Tryz.underlying27 info5 aD (.slice A o4.length c) o4 x.f5 A5 x.f5.length c5 (fun _=>True) rfl rfl (fun _ _=>trivial) PE.out.row yE.out wP.out wP.out.size aj ?_;intro v7 w7 ho hb hg _h;have PG:=ah.mk ho;have YH:=ah.mk hg;have Ep:=ah.mk hb;obtain⟨cF,fF,lF⟩:=PE.out.cells hg;clear ho hb hg _h;obtain⟨A7,c7,hv7⟩:=Kd.bG PG.out;subst hv7))
  all_goals (
   have hO:=PG.out;simp only[List.length_append] at hO
   go_wp2_with fail
   go_end0
   exact⟨rfl,⟨_,Bn.out _ _ (PE.out.put YH.out hO)⟩,Ep.out.setCell PE.out.low _,Yq.out.trans ((Fr.K8 PE.out YH.out).trans (Fr.set _ _ _))⟩)
 have t1:(x.f0 == 1)=false:=beq_eq_false_iff_ne.2 k1;by_cases k3:x.f0=3∨x.f0=4
 ·have t3:(x.f0 == 3)=true∨((x.f0 == 3)=false∧(x.f0 == 4)=true):=by
   by_cases h:x.f0=3
   ·exact .inl (beq_iff_eq.2 h)
   exact .inr ⟨beq_eq_false_iff_ne.2 h,beq_iff_eq.2 aj⟩
  have HK:=ah.mk k3;have HKn:=ah.mk k1;clear k1 k3
  have hfin:∀w' v',Pq w0.heap.size w' g v' (o2++jI x.f2)→Pq w0.heap.size w' g v' (o0++eF x):=by
   intro w' v' h;unfold eF;rw[if_neg HKn.out,if_pos HK.out];rw[← HO.out] at h
   simpa only[List.append_assoc,jI,jP] using h
  have Bn:=ah.mk hfin;clear hfin
  rcases t3 with t3|⟨t3,t4⟩
  all_goals (
   go_wp2_with fail
   refine (yM w0 w2 g v2 o2 x.f2 zA.out HB2.out h82 aj aj).mono ?_;rintro e w3 ⟨rfl,⟨v3,h3⟩,hb3,hf3⟩;have yJ:=ah.mk (zX.out.trans hf3);clear hf3
   go_wp2_with fail
   go_end0
   exact⟨rfl,⟨v3,Bn.out _ _ h3⟩,hb3,yJ.out⟩)
 have t3:(x.f0 == 3)=false:=beq_eq_false_iff_ne.2 aj;have t4:(x.f0 == 4)=false:=beq_eq_false_iff_ne.2 aj
 have hfin:Pq w0.heap.size w2 g v2 (o0++eF x):=by
  have h:=zA.out;unfold eF;rw[if_neg k1,if_neg k3,List.append_nil];rw[← HO.out] at h
  simpa only[List.append_assoc,jI] using h
 have Bn:=ah.mk hfin;clear k1 k3 hfin
 go_wp2_with fail
 go_end0
 exact⟨rfl,⟨v2,Bn.out⟩,HB2.out,zX.out⟩
structure SmC (c:qF):Prop where
 i:Sm c.f1
 s:c.f2.length≤1048576
theorem NG (w0 w:World) (g:Nat) (v0:Value) (o0:List Int) (c:qF) (A4:Option Addr) (c4:Nat) (A5:Option Addr) (c5:Nat) (A6:Option Addr) (c6:Nat) (H:Pq w0.heap.size w g v0 o0) (hb:Below w0.heap.size w0 w) (h8:8<o0.length) (hl:o0.length≤16777216) (hs:SmC c)
  (h4:Kd.C dB w0 A4 c.f1.f4.length c.f1.f4) (h5:Kd.C (Kd.int .u8) w0 A5 c.f1.f5.length c.f1.f5) (h6:Kd.C dB w0 A6 c.f2.length c.f2) (l4:c.f1.f4.length≤c4) (l5:c.f1.f5.length≤c5) (l6:c.f2.length≤c6) :
  Calls Tryz.prog 65 #[.pointer (some ⟨g,0,none⟩),.agg #[.int .i64 c.f0,.int .i64 c.f1.f0,.string c.f1.f1,.string c.f1.f2,.int .i64 c.f1.f3,.slice A4 c.f1.f4.length c4,.slice A5 c.f1.f5.length c5,.slice A6 c.f2.length c6]] w fun e w'=>e=.returned (.tuple #[])∧(∃v',Pq w0.heap.size w' g v' (o0++rE c))∧Below w0.heap.size w0 w'∧Fr g w w':=by
 obtain⟨W1,hW1⟩:∃W1,w.alloc (.cells #[.int .i64 c.f0,.int .i64 c.f1.f0,.string c.f1.f1,.string c.f1.f2,.int .i64 c.f1.f3,.slice A4 c.f1.f4.length c4,.slice A5 c.f1.f5.length c5,.slice A6 c.f2.length c6] 31)=W1:=⟨_,rfl⟩
 have hba:=(Below.refl w.heap.size w).alloc (Nat.le_refl _) (.cells #[.int .i64 c.f0,.int .i64 c.f1.f0,.string c.f1.f1,.string c.f1.f2,.int .i64 c.f1.f3,.slice A4 c.f1.f4.length c4,.slice A5 c.f1.f5.length c5,.slice A6 c.f2.length c6] 31);have hbk:=bJ w (.cells #[.int .i64 c.f0,.int .i64 c.f1.f0,.string c.f1.f1,.string c.f1.f2,.int .i64 c.f1.f3,.slice A4 c.f1.f4.length c4,.slice A5 c.f1.f5.length c5,.slice A6 c.f2.length c6] 31);rw[hW1] at hba hbk
 have hgn:w.heap.size≠g:=by have:=H.lt;omega
 have al0:W1.cell? ⟨w.heap.size,0,none⟩=some (.int .i64 c.f0):=by rw[ak hbk];rfl
 have HP0:=ah.mk (H.below hba);have HB0:=ah.mk (hb.trans (hba.mono hb.size));have HF0:=ah.mk (Fr.of_below (g:=g) hba);have PU:=ah.mk hbk;have HR4:=ah.mk h4;have nD:=ah.mk h5;have uj:=ah.mk h6;have HS:=ah.mk hs;have hsp:=hs.i.p;have hst:=hs.i.t;have hsr:=hs.i.r;have hsd:=hs.i.d;have hss:=hs.s;clear H hb hba hbk hs h4 h5 h6
 go_enter Tryz.func65,Tryz.ntmps65
 go_wp2_with fail
 try rw[hW1]
 refine (nX w0 W1 g v0 o0 c.f0 1 HP0.out HB0.out aD h8 aj).mono ?_;rintro e w1 ⟨rfl,⟨v1,h1⟩,hb1,hf1⟩;have I6:=ah.mk (HF0.out.trans hf1);have jY:=ah.mk (hf1.cell PU.out hgn aD)
 have al1:w1.cell? ⟨w.heap.size,0,none⟩=some (.int .i64 c.f0):=by rw[ak jY.out];rfl
 have al2:w1.cell? ⟨w.heap.size,1,none⟩=some (.int .i64 c.f1.f0):=by rw[ak jY.out];rfl
 have al3:w1.cell? ⟨w.heap.size,2,none⟩=some (.string c.f1.f1):=by rw[ak jY.out];rfl
 have al4:w1.cell? ⟨w.heap.size,3,none⟩=some (.string c.f1.f2):=by rw[ak jY.out];rfl
 have al5:w1.cell? ⟨w.heap.size,4,none⟩=some (.int .i64 c.f1.f3):=by rw[ak jY.out];rfl
 have al6:w1.cell? ⟨w.heap.size,5,none⟩=some (.slice A4 c.f1.f4.length c4):=by rw[ak jY.out];rfl
 have al7:w1.cell? ⟨w.heap.size,6,none⟩=some (.slice A5 c.f1.f5.length c5):=by rw[ak jY.out];rfl
 have al8:w1.cell? ⟨w.heap.size,7,none⟩=some (.slice A6 c.f2.length c6):=by rw[ak jY.out];rfl
 clear hf1;clear hW1 al0
 have hl1:(o0++leB 1 c.f0).length=o0.length+1:=by rw[List.length_append];rw[aT]
 obtain⟨o1,ho1⟩:∃o,o0++leB 1 c.f0=o:=⟨_,rfl⟩
 rw[ho1] at hl1 h1;have wT:=ah.mk h1;have HB1:=ah.mk hb1;have Fb:=ah.mk ho1
 have h81:8<o1.length:=by omega
 have hu1:o1.length≤26777216:=by omega
 clear h1 hb1 ho1 hl1
 obtain⟨W2,hW2⟩:∃W2,w1.alloc (.cells #[.int .i64 c.f1.f0,.string c.f1.f1,.string c.f1.f2,.int .i64 c.f1.f3,.slice A4 c.f1.f4.length c4,.slice A5 c.f1.f5.length c5] 29)=W2:=⟨_,rfl⟩
 obtain⟨b2,adi⟩:∃b2,b2=w1.heap.size:=⟨_,rfl⟩
 have hbb:=(Below.refl w1.heap.size w1).alloc (Nat.le_refl _) (.cells #[.int .i64 c.f1.f0,.string c.f1.f1,.string c.f1.f2,.int .i64 c.f1.f3,.slice A4 c.f1.f4.length c4,.slice A5 c.f1.f5.length c5] 29);have hbx:=bJ w1 (.cells #[.int .i64 c.f1.f0,.string c.f1.f1,.string c.f1.f2,.int .i64 c.f1.f3,.slice A4 c.f1.f4.length c4,.slice A5 c.f1.f5.length c5] 29);rw[hW2] at hbb hbx
 have hgx:b2≠g:=by have:=wT.out.lt;omega
 have Yp:=ah.mk (show W2.heap[b2]?=some (.cells #[.int .i64 c.f1.f0,.string c.f1.f1,.string c.f1.f2,.int .i64 c.f1.f3,.slice A4 c.f1.f4.length c4,.slice A5 c.f1.f5.length c5] 29 (0,0)) by rw[adi];exact hbx);have zA:=ah.mk (wT.out.below hbb);have HB2:=ah.mk (HB1.out.trans (hbb.mono HB1.out.size));have zX:=ah.mk (I6.out.trans (Fr.of_below (g:=g) hbb));have jG:=ah.mk (aG jY.out hbb)
 have al9:W2.cell? ⟨w.heap.size,0,none⟩=some (.int .i64 c.f0):=by rw[ak jG.out];rfl
 have ama:W2.cell? ⟨b2,1,none⟩=some (.string c.f1.f1):=by rw[ak Yp.out];rfl
 clear hbb hbx
 go_upto_region 3 with (fail)
 try rw[hW2]
 rw[← adi];clear hW2 adi al1 al2 al3 al4 al5 al6 al7 al8;by_cases k1:c.f0=1
 ·have t1:(c.f0 == 1)=true:=beq_iff_eq.2 k1;have HK:=ah.mk k1;clear k1
  have hfin:∀w' v',Pq w0.heap.size w' g v' (o1++jI c.f1.f1)→Pq w0.heap.size w' g v' (o0++rE c):=by
   intro w' v' h;unfold rE;rw[if_pos HK.out];rw[← Fb.out] at h
   simpa only[List.append_assoc,jI,jP] using h
  have Bn:=ah.mk hfin;clear hfin
  go_wp2_with fail
  refine (yM w0 W2 g v1 o1 c.f1.f1 zA.out HB2.out h81 aj aj).mono ?_;rintro e w3 ⟨rfl,⟨v3,h3⟩,hb3,hf3⟩;have yJ:=ah.mk (zX.out.trans hf3);clear hf3
  go_wp2_with fail
  go_end0
  exact⟨rfl,⟨v3,Bn.out _ _ h3⟩,hb3,yJ.out⟩
 have t1:(c.f0 == 1)=false:=beq_eq_false_iff_ne.2 k1;have Eo:=ah.mk k1;clear k1;by_cases k2:c.f0=2
 ·have t2:(c.f0 == 2)=true:=beq_iff_eq.2 k2;have HK:=ah.mk k2;clear k2
  have hfin:∀w' v',Pq w0.heap.size w' g v' (o1++eF c.f1)→Pq w0.heap.size w' g v' (o0++rE c):=by
   intro w' v' h;unfold rE;rw[if_neg Eo.out,if_pos HK.out];rw[← Fb.out] at h
   simpa only[List.append_assoc,jI,jP] using h
  have Bn:=ah.mk hfin;clear hfin
  go_wp2_with (refine dX (.load 29 (.tmp 4)) rfl ?_;refine wpList_load_row rfl _ _ rfl b2 rfl 29 #[.int .i64 c.f1.f0,.string c.f1.f1,.string c.f1.f2,.int .i64 c.f1.f3,.slice A4 c.f1.f4.length c4,.slice A5 c.f1.f5.length c5] (0,0) _ Yp.out Tryz.underlying29 rfl aA ?_)
  refine (Us w0 W2 g v1 o1 c.f1 A4 c4 A5 c5 zA.out HB2.out h81 aj HS.out.i HR4.out nD.out l4 l5).mono ?_;rintro e w3 ⟨rfl,⟨v3,h3⟩,hb3,hf3⟩;have yJ:=ah.mk (zX.out.trans hf3);clear hf3
  go_wp2_with fail
  go_end0
  exact⟨rfl,⟨v3,Bn.out _ _ h3⟩,hb3,yJ.out⟩
 have t2:(c.f0 == 2)=false:=beq_eq_false_iff_ne.2 k2;have Fy:=ah.mk k2;clear k2;by_cases k3:c.f0=3
 ·have t3:(c.f0 == 3)=true:=beq_iff_eq.2 k3;have HK:=ah.mk k3;clear k3
  have hfin:∀w' v',Pq w0.heap.size w' g v' (o1++jI c.f1.f1++leB 8 c.f1.f3++jP c.f1.f4++jP c.f2++c.f1.f5)→Pq w0.heap.size w' g v' (o0++rE c):=by
   intro w' v' h;unfold rE;rw[if_neg Eo.out,if_neg Fy.out,if_pos HK.out];rw[← Fb.out] at h
   simpa only[List.append_assoc,jI,jP] using h
  have Bn:=ah.mk hfin;clear hfin
  go_wp2_with fail
  refine (yM w0 W2 g v1 o1 c.f1.f1 zA.out HB2.out h81 aj aj).mono ?_;rintro e w3 ⟨rfl,⟨v3,h3⟩,hb3,hf3⟩;have yJ:=ah.mk (zX.out.trans hf3);have qQ:=ah.mk (hf3.cell jG.out hgn aD);have Yr:=ah.mk (hf3.cell Yp.out hgx aD)
  have amb:w3.cell? ⟨b2,3,none⟩=some (.int .i64 c.f1.f3):=by rw[ak Yr.out];rfl
  clear hf3;clear ama al9
  have hl3:(o1++jI c.f1.f1).length=o1.length+(c.f1.f1.size+2):=by rw[List.length_append];rw[ng]
  obtain⟨o3,ho3⟩:∃o,o1++jI c.f1.f1=o:=⟨_,rfl⟩
  rw[ho3] at hl3 h3;have JF:=ah.mk h3;have HB3:=ah.mk hb3;have Yi:=ah.mk ho3
  have h83:8<o3.length:=by omega
  have hu3:o3.length≤46777216:=by omega
  clear h3 hb3 ho3 hl3
  go_wp2_with fail
  refine (nX w0 w3 g v3 o3 c.f1.f3 8 JF.out HB3.out aD h83 aj).mono ?_;rintro e w4 ⟨rfl,⟨v4,h4⟩,hb4,uP⟩;have I5:=ah.mk (yJ.out.trans uP);have wV:=ah.mk (uP.cell qQ.out hgn aD);have MK:=ah.mk (uP.cell Yr.out hgx aD)
  have amc:w4.cell? ⟨b2,4,none⟩=some (.slice A4 c.f1.f4.length c4):=by rw[ak MK.out];rfl
  clear uP;clear amb
  have hl4:(o3++leB 8 c.f1.f3).length=o3.length+8:=by rw[List.length_append];rw[aT]
  obtain⟨o4,wM⟩:∃o,o3++leB 8 c.f1.f3=o:=⟨_,rfl⟩
  rw[wM] at hl4 h4;have MX:=ah.mk h4;have kJ:=ah.mk hb4;have Ue:=ah.mk wM
  have h84:8<o4.length:=by omega
  have hu4:o4.length≤56777216:=by omega
  clear h4 hb4 wM hl4
  go_wp2_with fail
  refine (Df w0 w4 g v4 o4 c.f1.f4 A4 c4 MX.out kJ.out h84 aj aj HR4.out l4).mono ?_;rintro e w5 ⟨rfl,⟨v5,h5⟩,hb5,IX⟩;have Pv:=ah.mk (I5.out.trans IX);have sP:=ah.mk (IX.cell wV.out hgn aD);have I4:=ah.mk (IX.cell MK.out hgx aD)
  have amd:w5.cell? ⟨w.heap.size,7,none⟩=some (.slice A6 c.f2.length c6):=by rw[ak sP.out];rfl
  clear IX;clear amc
  have hl5:(o4++jP c.f1.f4).length=o4.length+(8*c.f1.f4.length+4):=by rw[List.length_append];rw[oZ]
  obtain⟨o5,IZ⟩:∃o,o4++jP c.f1.f4=o:=⟨_,rfl⟩
  rw[IZ] at hl5 h5;have IY:=ah.mk h5;have kH:=ah.mk hb5;have Vv:=ah.mk IZ
  have h85:8<o5.length:=by omega
  have hu5:o5.length≤66777216:=by omega
  clear h5 hb5 IZ hl5
  go_wp2_with fail
  refine (Df w0 w5 g v5 o5 c.f2 A6 c6 IY.out kH.out h85 aj aj uj.out l6).mono ?_;rintro e w6 ⟨rfl,⟨v6,h6⟩,hb6,Ja⟩;have Yk:=ah.mk (Pv.out.trans Ja);have CP:=ah.mk (Ja.cell sP.out hgn aD);have HX6:=ah.mk (Ja.cell I4.out hgx aD)
  have arS:w6.cell? ⟨b2,5,none⟩=some (.slice A5 c.f1.f5.length c5):=by rw[ak HX6.out];rfl
  clear Ja;clear amd
  have Si:(o5++jP c.f2).length=o5.length+(8*c.f2.length+4):=by rw[List.length_append];rw[oZ]
  obtain⟨o6,Qj⟩:∃o,o5++jP c.f2=o:=⟨_,rfl⟩
  rw[Qj] at Si h6;have Vw:=ah.mk h6;have sQ:=ah.mk hb6;have VD:=ah.mk Qj
  have h86:8<o6.length:=by omega
  have hu6:o6.length≤76777216:=by omega
  clear h6 hb6 Qj Si;have HOO:=ah.mk (show o1++jI c.f1.f1++leB 8 c.f1.f3++jP c.f1.f4++jP c.f2=o6 by rw[← VD.out,← Vv.out,← Ue.out,← Yi.out]);rw[HOO.out] at Bn;have c0:=Vw.out.cell;obtain⟨A,cx,hv⟩:=Vw.out.slice;subst hv;have PE:=ah.mk (Vw.out.below (w1:=w6.drew) (bA (Below.refl _ _)));have wP:=ah.mk (bA sQ.out);have yE:=ah.mk (Kd.aC (Kd.aC nD.out sQ.out) (bA (Below.refl w6.heap.size w6)));have Yq:=ah.mk (Yk.out.trans (Fr.of_below (g:=g) (bA (Below.refl w6.heap.size w6))))
  go_wp2_with fail
  go_region_law ((refine qo (w0:=w0) .u8 w0.heap.size rfl (.tmp 46) (.tmp 48) 27 5 1 rfl Tryz.underlying27 info5 aD (.slice A o6.length cx) o6 c.f1.f5 A5 c.f1.f5.length c5 (fun _=>True) rfl rfl (fun _ _=>trivial) PE.out.row yE.out wP.out wP.out.size aj ?_;intro v7 w7 ho hb hg _h;have PG:=ah.mk ho;have YH:=ah.mk hg;have Ep:=ah.mk hb;obtain⟨cF,fF,lF⟩:=PE.out.cells hg;clear ho hb hg _h;obtain⟨A7,c7,hv7⟩:=Kd.bG PG.out;subst hv7))
  all_goals (
   have hO:=PG.out;simp only[List.length_append] at hO
   go_wp2_with fail
   go_end0
   exact⟨rfl,⟨_,Bn.out _ _ (PE.out.put YH.out hO)⟩,Ep.out.setCell PE.out.low _,Yq.out.trans ((Fr.K8 PE.out YH.out).trans (Fr.set _ _ _))⟩)
 have t3:(c.f0 == 3)=false:=beq_eq_false_iff_ne.2 k3;have HK:=ah.mk k3;clear k3
 have hfin:Pq w0.heap.size W2 g v1 (o0++rE c):=by
  have h:=zA.out;unfold rE;rw[if_neg Eo.out,if_neg Fy.out,if_neg HK.out,List.append_nil,Fb.out];exact h
 have Bn:=ah.mk hfin;clear hfin
 go_wp2_with fail
 go_end0
 exact⟨rfl,⟨v1,Bn.out⟩,HB2.out,zX.out⟩
theorem JU {most:Int}:∀(l:List Ru) (last all n:Int),gZ most last all l=some n→(l.length:Int)≤n - all
 | [],last,all,n,h=>by
  rw[gZ] at h;cases h;simp
 | r::l,last,all,n,h=>by
  rw[gZ] at h;split at h
  ·cases h
  have:=JU l r.f1 _ n h;rw[List.length_cons];omega
theorem FP {l:List Ru} {most n:Int} (h:jm l most=some n):(l.length:Int)≤n:=by
 have:=JU l (-1) 0 n h;omega
theorem JV {x:It} {n:Int} (h:gJ x=some n):(x.f4.length:Int)≤20000:=by
 have h1:=Bh h;have h2:=FP (xI h).2.2;omega
theorem xL {x:It} (h:iQ x=true):x.f3=0∧x.f4.length=0∧x.f5.length=0:=by
 unfold iQ at h;simp only[Bool.and_eq_true,decide_eq_true_eq] at h;exact⟨h.1.1,h.1.2,h.2⟩
theorem Sl {x:It} (h:jH x=true):x.f2.size≤1023∧x.f4.length≤20000∧x.f5.length≤10240000:=by
 by_cases k1:x.f0=1
 ·rw[pu1 k1] at h
  cases hs:gJ x with
  | none=>rw[hs] at h;cases h
  | some n=>
   rw[hs] at h;simp only[Bool.and_eq_true,decide_eq_true_eq] at h;have h1:=Bh hs;have h2:=JV hs;omega
 by_cases k2:x.f0=2
 ·rw[pu2 k1 k2] at h;simp only[Bool.and_eq_true,decide_eq_true_eq] at h;have:=xL h.1;omega
 by_cases k3:x.f0=3
 ·rw[pu3 k1 k2 k3] at h;simp only[Bool.and_eq_true,decide_eq_true_eq] at h;have:=xL h.1;omega
 by_cases k4:x.f0=4
 ·rw[pu4 k1 k2 k3 k4] at h;simp only[Bool.and_eq_true,decide_eq_true_eq] at h;have:=xL h.1;have:=oW h.2.1;omega
 rw[pu5 k1 k2 k3 k4] at h;cases h
theorem abX {c:qF} (h:lQ c=true):c.f1.f2.size≤1023∧c.f1.f4.length≤20000∧c.f1.f5.length≤10240000∧c.f2.length≤20000:=by
 unfold lQ at h;split at h
 ·simp only[Bool.and_eq_true,decide_eq_true_eq] at h;omega
 split at h
 ·simp only[Bool.and_eq_true,decide_eq_true_eq] at h;have:=Sl h.2;omega
 split at h
 ·unfold kL at h
  cases hs:gJ c.f1 with
  | none=>rw[hs] at h;cases h
  | some n=>
   rw[hs] at h;dsimp only at h;split at h
   ·cases h
   rename_i hk
   cases ha:jm c.f2 16522 with
   | none=>rw[ha] at h;cases h
   | some m=>
    rw[ha] at h;simp only[Bool.and_eq_true,decide_eq_true_eq] at h;have h1:=JV hs;have h2:=NC ha;have h3:=FP ha
    have h4:c.f1.f2.size=0:=Classical.byContradiction fun hh=>hk (.inr hh)
    omega
 cases h
theorem JW:∀(l:List qF) (last:ByteArray),gK last l=true→∀c∈l,SmC c
 | [],_,_,c,hc=>by cases hc
 | d::l,last,h,c,hc=>by
  rw[gK] at h;simp only[Bool.and_eq_true] at h
  rcases List.mem_cons.1 hc with rfl|hc
  ·have h1:=oW h.1;have h2:=abX h.2.2.1;exact⟨⟨by omega,by omega,by omega,by omega⟩,by omega⟩
  exact JW l _ h.2.2.2 c hc
theorem xM (s:ByteArray):∀b∈Go.Proofs.YtknihldkhedpkaaGreatDoorW.PrintWords.bytesOf s,0≤b∧b≤255:=by
 intro b hb;unfold Go.Proofs.YtknihldkhedpkaaGreatDoorW.PrintWords.bytesOf at hb;obtain⟨c,_,rfl⟩:=List.mem_map.1 hb;have:=c.toNat_lt;omega
theorem jc {a b:List Int} (ha:∀x∈a,0≤x∧x≤255) (hb:∀x∈b,0≤x∧x≤255):∀x∈a++b,0≤x∧x≤255:=fun x hx=>(List.mem_append.1 hx).elim (ha x) (hb x)
theorem NH (s:ByteArray):∀b∈jI s,0≤b∧b≤255:=jc (fM _ _) (xM s)
theorem JX (l:List Ru):∀b∈iy l,0≤b∧b≤255:=by
 intro b hb;unfold iy at hb;obtain⟨r,_,hr⟩:=List.mem_flatMap.1 hb;exact jc (fM _ _) (fM _ _) b hr
theorem NI (l:List Ru):∀b∈jP l,0≤b∧b≤255:=jc (fM _ _) (JX l)
theorem Wv {c:qF} (h:uH c):∀b∈rE c,0≤b∧b≤255:=by
 unfold rE;refine jc (fM _ _) ?_;split
 ·exact NH _
 split
 ·unfold eF;refine jc (jc (jc (fM _ _) (fM _ _)) (xM _)) ?_;split
  ·exact jc (jc (jc (fM _ _) (fM _ _)) (JX _)) h.i.b
  split
  ·exact jc (fM _ _) (xM _)
  intro b hb;cases hb
 split
 ·exact jc (jc (jc (jc (NH _) (fM _ _)) (NI _)) (NI _)) h.i.b
 intro b hb;cases hb
theorem JY:∀b∈iX,0≤b∧b≤255:=by decide
theorem JZ (b0 g0:Int) (A0:Option Addr) (c0:Nat) (l:List qF) (w:World) (hr:Kd.C IW w A0 l.length l) (hc:l.length≤c0) (hf:∀x∈l,uH x) (h0:0≤b0) (h1:b0≤4294967295) (h2:0≤g0) (h3:g0≤4294967295) :
  Calls Tryz.prog 32 #[.agg #[.int .i64 b0,.int .i64 g0,.slice A0 l.length c0]] w fun e w'=>∃v,e=.returned (.tuple #[v,.int .i64 (iA b0 g0 l).2])∧Kd.R (Kd.int .u8) 5 w' w.heap.size (fun _=>True) v (iA b0 g0 l).1∧Below w.heap.size w w':=by
 have kc:=fun (w:World) (C:Array Value) (n c:Nat)=>Lib.run_convert_bytes_const (P:=Tryz.prog) w 27 5 C n c Tryz.underlying27 Tryz.underlying5
 obtain⟨W1,hW1⟩:∃W1,w.alloc (.cells #[.int .i64 b0,.int .i64 g0,.slice A0 l.length c0] 24)=W1:=⟨_,rfl⟩
 have hbx:=bJ w (.cells #[.int .i64 b0,.int .i64 g0,.slice A0 l.length c0] 24);have hb0:=(Below.refl w.heap.size w).alloc (Nat.le_refl _) (.cells #[.int .i64 b0,.int .i64 g0,.slice A0 l.length c0] 24);rw[hW1] at hbx hb0
 have p0:W1.cell? ⟨w.heap.size,0,none⟩=some (.int .i64 b0):=by rw[ak hbx];rfl
 have p1:W1.cell? ⟨w.heap.size,1,none⟩=some (.int .i64 g0):=by rw[ak hbx];rfl
 have p2:W1.cell? ⟨w.heap.size,2,none⟩=some (.slice A0 l.length c0):=by rw[ak hbx];rfl
 have hz:w.heap.size<W1.heap.size:=bE hbx;have HX0:=ah.mk hbx;have HB0:=ah.mk hb0;have HR:=ah.mk hr;have HF:=ah.mk hf;clear hbx hb0 hr hf;by_cases hbig:8192<l.length
 ·have d1:decide ((8192:Int)<(l.length:Int))=true:=decide_eq_true aj
  have HP:ah (iA b0 g0 l=([],7)):=⟨by unfold iA;rw[if_pos hbig]⟩
  go_enter Tryz.func32,Tryz.ntmps32
  go_wp2_with fail
  go_ret2
  exact⟨.slice none 0 0,by rw[HP.out];rfl,by rw[HP.out];exact Kd.eY _ _ _ _ _,HB0.out⟩
 have d1:decide ((8192:Int)<(l.length:Int))=false:=decide_eq_false aj;have hrt:=Wu b0 g0 A0 c0 l W1 (Kd.aC HR.out HB0.out) hc HF.out aj h0 h1 h2 h3
 obtain⟨rt,PK⟩:∃b,sU b0 g0 l=b:=⟨_,rfl⟩
 rw[PK] at hrt;have HRT:=ah.mk hrt;have HRE:=ah.mk PK;clear hrt PK
 cases rt with
 | false=>
  have HP:ah (iA b0 g0 l=([],180)):=⟨by unfold iA;rw[if_neg hbig,HRE.out];rfl⟩
  go_enter Tryz.func32,Tryz.ntmps32
  go_wp2_with (first|(refine dX (.load 24 (.tmp 1)) rfl ?_;refine wpList_load_row rfl _ _ rfl w.heap.size rfl 24 #[.int .i64 b0,.int .i64 g0,.slice A0 l.length c0] (0,0) _ HX0.out Tryz.underlying24 rfl aA ?_)|(go_at_call 63;refine HRT.out.mono ?_;rintro e w2 ⟨rfl,hb2⟩;have HB2:=ah.mk (HB0.out.trans (hb2.mono HB0.out.size));clear hb2))
  go_ret2
  exact⟨.slice none 0 0,by rw[HP.out];rfl,by rw[HP.out];exact Kd.eY _ _ _ _ _,HB2.out⟩
 | true=>
  have hsm:∀c∈l,SmC c:=by
   have h:=HRE.out;unfold sU at h;simp only[Bool.and_eq_true] at h;exact JW l _ h.2.2.2.2
  have Yt:=ah.mk hsm
  have HPP:ah (kZ l.length (iX++leB 4 b0++leB 4 g0) l=iA b0 g0 l):=⟨by unfold iA;rw[if_neg hbig,HRE.out,if_pos rfl]⟩
  clear hsm
  go_enter Tryz.func32,Tryz.ntmps32
  go_upto_region 5 with (first|(refine dX (.load 24 (.tmp 1)) rfl ?_;refine wpList_load_row rfl _ _ rfl w.heap.size rfl 24 #[.int .i64 b0,.int .i64 g0,.slice A0 l.length c0] (0,0) _ HX0.out Tryz.underlying24 rfl aA ?_)|(go_at_call 63;refine HRT.out.mono ?_;rintro e w2 ⟨rfl,hb2⟩;have HB2:=ah.mk hb2;clear hb2))
  clear hW1
  go_cut [4] (fun v4 wc=>∃g b,v4=.pointer (some ⟨g,0,none⟩)∧w.heap.size<g∧ah (Pg w.heap.size wc g b)∧ah (Below W1.heap.size W1 wc))
  case first=>
   go_wp2_with fail
   go_meet
   case rel=>
    have hz2:=HB2.out.size;exact⟨w2.heap.size+1,w2.heap.size,rfl,by omega,⟨⟨by have:=bJ (w2.alloc (.cells #[Value.int .u8 118,.int .u8 108,.int .u8 112,.int .u8 97,.int .u8 116,.int .u8 99,.int .u8 104,.int .u8 1] 5 (8,9))) (.cells #[.slice (some ⟨w2.heap.size,0,none⟩) 8 8] 109);rwa [World.size_alloc] at this,aM (bJ _ _) _,by omega⟩⟩,⟨(HB2.out.alloc HB2.out.size _).alloc (by rw[World.size_alloc];omega) _⟩⟩
  case rest=>
   obtain⟨g,b,rfl,hg0,HG,HBc⟩:=hcut;have hx:=aG HX0.out HBc.out
   have q0:wc.cell? ⟨w.heap.size,0,none⟩=some (.int .i64 b0):=by rw[ak hx];rfl
   have HX:=ah.mk hx;have HB1:=ah.mk (HB0.out.trans (HBc.out.mono HB0.out.size))
   have hgn:w.heap.size≠g:=by omega
   clear hx p0 p1 p2 HX0 HBc HRT
   go_wp2_with fail
   refine (ND w wc g iX b0 4 (.inl ⟨rfl,b,HG.out⟩) HB1.out aD aD).mono ?_;rintro e w3 ⟨rfl,h3,hb3,hf3⟩;have Yr:=ah.mk (hf3.cell HX.out hgn aD)
   have q1:w3.cell? ⟨w.heap.size,1,none⟩=some (.int .i64 g0):=by rw[ak Yr.out];rfl
   obtain⟨v3,h3⟩:=h3.pq (by rw[List.length_append,aT];decide);have JF:=ah.mk h3;have HB3:=ah.mk hb3;clear h3 hb3 hf3 q0
   go_wp2_with fail
   refine (nX w w3 g v3 (iX++leB 4 b0) g0 4 JF.out HB3.out aD (by rw[List.length_append,aT];decide) (by rw[List.length_append,aT];decide)).mono ?_;rintro e w4 ⟨rfl,⟨v4,h4⟩,hb4,uP⟩;have MK:=ah.mk (uP.cell Yr.out hgn aD)
   have q2:w4.cell? ⟨w.heap.size,2,none⟩=some (.slice A0 l.length c0):=by rw[ak MK.out];rfl
   have MX:=ah.mk h4;have kJ:=ah.mk hb4
   have HW4:ah (∀x∈iX++leB 4 b0++leB 4 g0,0≤x∧x≤255):=⟨jc (jc JY (fM _ _)) (fM _ _)⟩
   clear h4 hb4 uP q1 JF HB3 Yr HG HB1 HX
   go_wp2_with fail
   go_loopg [29] l.length (fun gk s29 wx=>∃(i:Nat) (v:Value) (out:List Int),i+gk=l.length∧s29=.int .i64 i∧8<out.length∧out.length≤16777216∧ah (kZ l.length out (l.drop i)=iA b0 g0 l)∧ah (Pq w.heap.size wx g v out)∧ah (Below w.heap.size w wx)∧ah (∀x∈out,0≤x∧x≤255)∧ah (wx.heap[w.heap.size]?=some (.cells #[.int .i64 b0,.int .i64 g0,.slice A0 l.length c0] 24 (0,0))))
   case atStart=>exact⟨0,v4,_,by omega,rfl,by rw[List.length_append,List.length_append,aT,aT];decide,by rw[List.length_append,List.length_append,aT,aT];decide,⟨by rw[List.drop_zero];exact HPP.out⟩,MX,kJ,HW4,MK⟩
   case round=>
    clear MX kJ HW4 MK q2 HPP;obtain⟨i,v,out,hig,rfl,h8,hlo,HGo,HP,HB,HW,HX⟩:=hrel;by_cases hi:i<l.length
    ·have hd:decide ((i:Int)<(l.length:Int))=true:=decide_eq_true aj;have hd2:decide (i<l.length)=true:=decide_eq_true hi;obtain⟨ad,A4,c4,A5,c5,A6,c6,hA,r0,r1,r2,r3,r4,r5,r6,r7,l4,g4,l5,g5,l6,g6⟩:=Pz HR.out (i:Int) aj aj;rw[Int.toNat_natCast] at r0 r1 r2 r3 r4 r5 r6 r7
     have hrd:jL l (i:Int)=l[i]'hi:=by simp[jL,hi]
     have HSc:=ah.mk (Yt.out (l[i]'hi) (List.getElem_mem hi));have Sk:=ah.mk (HF.out (l[i]'hi) (List.getElem_mem hi));have hg1:=HGo.out;rw[List.drop_eq_getElem_cons hi] at hg1
     obtain⟨c,hx⟩:∃c,l[i]'hi=c:=⟨_,rfl⟩
     rw[hrd,hx] at r0 r1 r2 r3 r4 r5 r6 r7 l4 g4 l5 g5 l6 g6;rw[hx] at hg1 HSc Sk;rw[kZ] at hg1;subst hA;have r0:=au HB.out r0;have r1:=au HB.out r1;have r2:=au HB.out r2;have r3:=au HB.out r3;have r4:=au HB.out r4;have r5:=au HB.out r5;have r6:=au HB.out r6;have r7:=au HB.out r7;have G4:=ah.mk g4;have G5:=ah.mk g5;have G6:=ah.mk g6
     obtain⟨W2,hW2⟩:∃W2,wr.alloc (.cells #[.int .i64 c.f0,.int .i64 c.f1.f0,.string c.f1.f1,.string c.f1.f2,.int .i64 c.f1.f3,.slice A4 c.f1.f4.length c4,.slice A5 c.f1.f5.length c5,.slice A6 c.f2.length c6] 31)=W2:=⟨_,rfl⟩
     have hba:=(Below.refl wr.heap.size wr).alloc (Nat.le_refl _) (.cells #[.int .i64 c.f0,.int .i64 c.f1.f0,.string c.f1.f1,.string c.f1.f2,.int .i64 c.f1.f3,.slice A4 c.f1.f4.length c4,.slice A5 c.f1.f5.length c5,.slice A6 c.f2.length c6] 31);have hby:=bJ wr (.cells #[.int .i64 c.f0,.int .i64 c.f1.f0,.string c.f1.f1,.string c.f1.f2,.int .i64 c.f1.f3,.slice A4 c.f1.f4.length c4,.slice A5 c.f1.f5.length c5,.slice A6 c.f2.length c6] 31);rw[hW2] at hba hby;have HY:=ah.mk hby;have zA:=ah.mk (HP.out.below hba);have HB2:=ah.mk (HB.out.trans (hba.mono HB.out.size));have Yp:=ah.mk (aG HX.out hba)
     have hcl:(rE c).length≤1099511627:=by
      have h1:=HSc.out.i.p;have h2:=HSc.out.i.t;have h3:=HSc.out.i.r;have h4:=HSc.out.i.d;have h5:=HSc.out.s;unfold rE;split
      ·simp only[List.length_append,aT,ng];omega
      split
      ·unfold eF;split
       ·simp only[List.length_append,aT,Go.Proofs.YtknihldkhedpkaaGreatDoorW.PrintWords.bytesOf_length,vV];omega
       split
       ·simp only[List.length_append,aT,Go.Proofs.YtknihldkhedpkaaGreatDoorW.PrintWords.bytesOf_length];omega
       simp only[List.length_append,aT,Go.Proofs.YtknihldkhedpkaaGreatDoorW.PrintWords.bytesOf_length,List.length_nil];omega
      split
      ·simp only[List.length_append,aT,ng,oZ];omega
      simp only[List.length_append,aT,List.length_nil];omega
     have hol:(out++rE c).length≤1099511627776:=by rw[List.length_append];omega
     have agB:8<(out++rE c).length:=by rw[List.length_append];omega
     have adl:=jc HW.out (Wv Sk.out);have hch:=NG w W2 g v out c A4 c4 A5 c5 A6 c6 zA.out HB2.out h8 hlo HSc.out g4 g5 g6 l4 l5 l6
     obtain⟨o2,ho2⟩:∃o,out++rE c=o:=⟨_,rfl⟩
     rw[ho2] at hol agB hch hg1 adl;have HCH:=ah.mk hch;have HW2:=ah.mk adl;have Pw:=ah.mk hg1;clear hrd hx hg1 HGo g4 g5 g6 hba hby hch hcl adl ho2 hlo h8
     go_wp2_with (refine dX (.load 31 (.tmp 6)) rfl ?_;refine wpList_load_row rfl _ _ rfl wr.heap.size rfl 31 #[.int .i64 c.f0,.int .i64 c.f1.f0,.string c.f1.f1,.string c.f1.f2,.int .i64 c.f1.f3,.slice A4 c.f1.f4.length c4,.slice A5 c.f1.f5.length c5,.slice A6 c.f2.length c6] (0,0) _ HY.out Tryz.underlying31 rfl aA ?_)
     refine HCH.out.mono ?_;rintro e w5 ⟨rfl,⟨v5,h5⟩,hb5,IX⟩;have I4:=ah.mk (IX.cell Yp.out hgn aD);have IY:=ah.mk h5;have kH:=ah.mk hb5;have k0:=h5.cell;obtain⟨As,cs,hv5⟩:=h5.slice;subst hv5;clear h5 hb5 IX hW2 r0 r1 r2 r3 r4 r5 r6 r7 HCH HY zA HB2 Yp;by_cases hov:16777216<o2.length+9
     ·have hdd:decide ((16777216:Int)<(o2.length:Int)+9)=true:=decide_eq_true aj
      have HN:ah (iA b0 g0 l=([],7)):=⟨by rw[← Pw.out,if_pos hov]⟩
      go_wp2_with fail
      go_ret2
      exact⟨.slice none 0 0,by rw[HN.out];rfl,by rw[HN.out];exact Kd.eY _ _ _ _ _,kH.out⟩
     have hdd:decide ((16777216:Int)<(o2.length:Int)+9)=false:=decide_eq_false aj
     have HN:ah (kZ l.length o2 (l.drop (i+1))=iA b0 g0 l):=⟨by rw[← Pw.out,if_neg hov]⟩
     go_wp2_with fail
     go_roundg (l.length - (i+1))
     case measure=>omega
     case rel=>exact⟨i+1,_,o2,by omega,by first|rfl|simp,agB,by omega,HN,IY,kH,HW2,I4⟩
    have hd:decide ((i:Int)<(l.length:Int))=false:=decide_eq_false aj;have hd2:decide (i<l.length)=false:=decide_eq_false hi
    have HE:ah (iA b0 g0 l=(jM out l.length,0)):=⟨by rw[← HGo.out,List.drop_of_length_le aj];rfl⟩
    have HH:=ah.mk HX.out;clear HGo
    go_wp2_with fail
    refine (nX w _ g v out 0 1 HP.out HB.out aD h8 aj).mono ?_;rintro e w5 ⟨rfl,⟨v5,h5⟩,hb5,IX⟩;have I4:=ah.mk (IX.cell HX.out hgn aD)
    have q2:w5.cell? ⟨w.heap.size,2,none⟩=some (.slice A0 l.length c0):=by rw[ak I4.out];rfl
    have hl5:8<(out++leB 1 0).length∧(out++leB 1 0).length≤16777217:=by rw[List.length_append,aT];omega
    have Da:=jc HW.out (fM 1 0)
    obtain⟨o5,IZ⟩:∃o,out++leB 1 0=o:=⟨_,rfl⟩
    rw[IZ] at h5 hl5 Da;have IY:=ah.mk h5;have kH:=ah.mk hb5;have Vv:=ah.mk IZ;have HW5:=ah.mk Da;obtain⟨ame,arU⟩:=hl5;clear h5 hb5 IX Da IZ
    go_wp2_with fail
    refine (nX w _ g v5 o5 l.length 4 IY.out kH.out aD ame aj).mono ?_;rintro e w6 ⟨rfl,⟨v6,h6⟩,hb6,Ja⟩
    have Si:8<(o5++leB 4 (l.length:Int)).length∧(o5++leB 4 (l.length:Int)).length≤16777221:=by rw[List.length_append,aT];omega
    have hw6:=jc HW5.out (fM 4 (l.length:Int))
    obtain⟨o6,Qj⟩:∃o,o5++leB 4 (l.length:Int)=o:=⟨_,rfl⟩
    rw[Qj] at h6 Si hw6;have Vw:=ah.mk h6;have sQ:=ah.mk hb6;have VD:=ah.mk (show out++leB 1 0++leB 4 (l.length:Int)=o6 by rw[Vv.out,Qj]);have HW6:=ah.mk hw6;obtain⟨amf,arW⟩:=Si;have k6:=h6.cell
    obtain⟨A6,c6,hcap6,e6,Ww⟩:∃A c,o6.length≤c∧v6=.slice A o6.length c∧Kd.C (Kd.int .u8) w6 A o6.length o6:=by
     obtain⟨A,c,e2,hcap,hread⟩:=Kd.ug h6.row;exact⟨A,c,hcap,e2,hread⟩
    subst e6;have uj:=ah.mk Ww;clear h6 hb6 Ja hw6 Qj q2 Ww IY kH
    go_wp2_with fail
    refine (Sc A6 c6 o6 w6 uj.out hcap6 HW6.out).mono ?_;rintro e w7 ⟨rfl,CK⟩;have HP7:=ah.mk (Vw.out.below CK);have Ep:=ah.mk (sQ.out.trans (CK.mono sQ.out.size));clear CK k6
    go_wp2_with fail
    refine (nX w w7 g _ o6 (oq o6) 4 HP7.out Ep.out aD amf aj).mono ?_;rintro e w8 ⟨rfl,⟨v8,h8'⟩,MP,hf8⟩;have k8:=h8'.cell;have HP8:=ah.mk h8';have I7:=ah.mk MP;clear h8' MP hf8
    go_wp2_with fail
    go_ret2
    refine⟨v8,by rw[HE.out];rfl,?_,I7.out⟩;rw[HE.out];unfold jM;rw[VD.out];exact HP8.out.row
end Go.Proofs.YtknihldkhedpkaaGreatDoor
end
