import Derived.Test.YtknihldkhedpkaaGreatDoorUUG9
import Derived.Deep.RegionLaw
import Derived.Test.YtknihldkhedpkaaGreatDoorUUG8
import Derived.Test.YtknihldkhedpkaaGreatDoorUUG1
import Derived.Test.YtknihldkhedpkaaGreatDoorUUG7
set_option linter.all false
set_option maxHeartbeats 16000000
set_option maxRecDepth 100000
section
namespace Go.Proofs.YtknihldkhedpkaaGreatDoor
open Go.RowKit Go.Lib
open Go.Proofs.YtknihldkhedpkaaGreatDoorW.PrintWords Go.Proofs.YtknihldkhedpkaaGreatDoorW.PrintLast Go.Proofs.YtknihldkhedpkaaGreatDoor.PT
section
variable {P : Program} {ops : Array Oper} {o : Oper} {a : Act} {Q : Exit → Act → World → Prop} {K : Act → World → Prop} {E : Prop}
theorem qo {w0 W:World} (k:IntKind) (base:Nat) (hgd:o.guard=none) (s x:Operand) (t e:TypeId) (bytes:Nat)
  (ho:o.op=.call { callee:=.builtin .append,args:=#[s,x],argTypes:=#[t,t] })
  (ht:P.underlying t=some (.slice e)) (hinfo:(P.info? e).map (fun i=>(i.zero,i.size,i.bytes))=some (some (.int k 0),1,bytes)) (hb0:0<bytes)
  (v:Value) (xs ys:List Int) (A:Option Addr) (m c:Nat) (ok:Nat→Prop) (hs:a.eval s=v) (hx:a.eval x=.slice A m c) (hfresh:∀k,W.heap.size≤k→ok k)
  (HO:(Kd.int k).R e W base ok v xs) (HR:(Kd.int k).C W A m ys) (HB:Below base w0 W) (hbase:base≤W.heap.size) (hl:(xs.length+m)*bytes≤140737488355328)
  (h:∀v1 w1,(Kd.int k).R e w1 base ok v1 (xs++ys)→Below base w0 w1→W.grownBy w1 v.ownBlock→(v1.ownBlock=v.ownBlock∨∃b,v1.ownBlock=some b∧W.heap.size≤b)→K (a.put o.dst v1) w1) :
  if Region.wanted o (yielded ops a.tmps)=true then Oper.wp P o a W K Q else E:=by
 obtain⟨i0,hi,hzz⟩:=Option.map_eq_some_iff.1 hinfo;simp only[Prod.mk.injEq] at hzz;obtain⟨hz0,hz1,hz2⟩:=hzz;have hm:ys.length=m:=HR.1;have Fb:W.ownsRow base e 1 v xs.length (encs (Value.int k) xs):=Kd.Fe HO;have HR1:iU (Value.int k) (0:Int) W A m ys:=Kd.sN (enc:=Value.int k) (d:=(0:Int)) (h1:=fun _=>rfl) HR;have hlen:xs.length+m≤140737488355328:=Nat.le_trans (Nat.le_mul_of_pos_right _ hb0) hl
 have hrun:∃v1 w1,(Builtin.append_ #[t,t] o.type #[v,.slice A m c]).run P W=.ok v1 w1∧w1.ownsRow base e 1 v1 (xs++ys).length (encs (Value.int k) (xs++ys))∧W.grownBy w1 v.ownBlock∧(v1.ownBlock=v.ownBlock∨v1.ownBlock=some W.heap.size):=by
  rcases A with _|ad
  ·have h0:m=0:=by
    rcases Nat.eq_zero_or_pos m with h0|h0
    ·exact h0
    obtain⟨ad,h,_⟩:=HR1.2.2 h0;cases h
   subst h0;obtain rfl:ys=[]:=List.eq_nil_of_length_eq_zero hm;refine⟨v,W,?_,by simpa using Fb,World.grownBy.refl W _,.inl rfl⟩
   rcases Fb.2 with⟨rfl,hn⟩|⟨g,cap,cur,rfl,_,_,hnc,_⟩
   ·simp[Builtin.append_,run_underlying ht,sizeOf,typeInfo,hi,Builtin.lenOf,Builtin.firstCells]
   simp[Builtin.append_,run_underlying ht,sizeOf,typeInfo,hi,Builtin.lenOf,Builtin.firstCells,hnc,storeCells]
  have hcells:∀j u,(encs (Value.int k) ys)[j]?=some u→W.cell? (ad.add j)=some u:=by
   intro j u hu
   have hj:j<ys.length:=by
    rcases Nat.lt_or_ge j ys.length with h|h
    ·exact h
    simp[encs,List.getElem?_eq_none h] at hu
   obtain⟨YE,h',hc⟩:=HR1.2.2 aj
   injection h' with h'
   subst h';rw[MV (d:=(0:Int)) ys j hj] at hu;rw[← hu];exact hc j aj
  obtain⟨v1,w1,hr,h2,h3,_,h5⟩:=run_append_own_at (P:=P) W base t o.type e i0 (.int k 0) 1 bytes ht hi hz0 hz1 hz2 rfl aj v xs.length (encs (Value.int k) xs) Fb ad m c (encs (Value.int k) ys) (by simp[encs,hm]) hcells
   (by intro u hu;simp only[encs,List.mem_map] at hu;obtain⟨q,_,rfl⟩:=hu;rfl) (by simp only[maxLen];omega) hl hbase
  exact⟨v1,w1,hr,by simpa [encs,hm] using h2,h3,h5⟩
 obtain⟨v1,w1,hr,hown,hg,hat⟩:=hrun
 have hw:Region.wanted o (yielded ops a.tmps)=true:=by simp[Region.wanted,hgd]
 rw[if_pos hw];unfold Oper.wp execOp;simp only[ho,resolve,invoke,builtin,Sem.run_bind,Sem.run_pure,Result.andThen_ok,List.map_toArray,List.map_cons,List.map_nil,hs,hx,hr]
 have hok:∀k,v1.ownBlock=some k→ok k:=fun j hj=>by
  rcases hat with hat|hat
  ·exact HO.1 j (hat▸hj)
  rw[hat] at hj
  injection hj with hj
  exact hfresh j aj
 refine h v1 w1 (Kd.sO hown hok) (HB.grown hg hbase (mH Fb)) hg ?_
 rcases hat with hat|hat
 ·exact .inl hat
 exact .inr ⟨_,hat,Nat.le_refl _⟩
end
def Ps (B:Nat) (w:World) (g:Nat) (out:List Int) (n:Int):Prop:=(out=jU∧∃b,Pf B w g b n)∨∃v,Pk B w g v out n
theorem Ps.below {B g:Nat} {w w1:World} {out:List Int} {n:Int} (H:Ps B w g out n) (hb:Below w.heap.size w w1):Ps B w1 g out n:=by
 rcases H with⟨ho,b,H⟩|⟨v,H⟩
 ·exact .inl ⟨ho,b,H.below hb⟩
 exact .inr ⟨v,H.below hb⟩
theorem Ps.low {B g:Nat} {w:World} {out:List Int} {n:Int} (H:Ps B w g out n):B≤g:=by
 rcases H with⟨_,b,H⟩|⟨v,H⟩
 ·exact H.low
 exact H.low
theorem Ps.blk {B g:Nat} {w:World} {out:List Int} {n:Int} (H:Ps B w g out n):∃v,w.heap[g]?=some (.cells #[v,.int .i64 n] 128 (0,0)):=by
 rcases H with⟨_,b,H⟩|⟨v,H⟩
 ·exact⟨_,H.blk⟩
 exact⟨_,H.blk⟩
theorem Ps.count {B g:Nat} {w:World} {out:List Int} {n:Int} (H:Ps B w g out n):w.cell? ⟨g,1,none⟩=some (.int .i64 n)∧w.frozen? ⟨g,1,none⟩=false:=by
 obtain⟨v,h⟩:=H.blk;exact⟨by rw[ak h];rfl,ay h 1⟩
theorem Ps.bump {B g:Nat} {w:World} {out:List Int} {n:Int} (H:Ps B w g out n) (n1:Int):Ps B (w.setCell ⟨g,1,none⟩ (.int .i64 n1)) g out n1:=by
 rcases H with⟨ho,b,H⟩|⟨v,H⟩
 ·refine .inl ⟨ho,b,⟨by have:=dM H.blk 1 (.int .i64 n1);simpa using this,?_,H.low⟩⟩
  have hne:g≠b:=fun e=>by
   have h1:=H.blk;rw[e,H.arr] at h1
   injection h1 with h1
   injection h1 with _ h1
   exact absurd h1 aD
  exact (Below.heap_setCell w ⟨g,1,none⟩ _ b (fun e=>hne e.symm)).trans H.arr
 exact .inr ⟨v,⟨by have:=dM H.blk 1 (.int .i64 n1);simpa using this,Kd.iP H.row H.blk (by intro q hq;simp[Kd.int,Kd.scalar] at hq;subst hq;decide) 1 _,H.low⟩⟩
theorem Sb (w0 w:World) (g:Nat) (out:List Int) (n x:Int) (H:Ps w0.heap.size w g out n) (hb:Below w0.heap.size w0 w) (hl:out.length≤1099511627776) :
  Calls Tryz.prog 118 #[.pointer (some ⟨g,0,none⟩),.int .i64 x,.int .i64 1] w fun e w'=>e=.returned (.tuple #[])∧(∃v',Pk w0.heap.size w' g v' (out++leB 1 x) n)∧Below w0.heap.size w0 w'∧Fr g w w':=by
 rcases H with⟨rfl,b,H⟩|⟨v,H⟩
 ·exact Ud w0 w g b n x H hb
 exact uf w0 w g v out n x 1 H hb aD hl
def iy (l:List dI):List Int:=l.flatMap fun r=>leB 4 r.f0++leB 4 r.f1
def eF (x:nI):List Int :=
 leB 1 x.f0++leB 2 x.f1.size++bytesOf x.f1 ++
  (if x.f0=1 then leB 8 x.f3++leB 4 x.f4.length++iy x.f4++x.f5 else if x.f0=3∨x.f0=4 then leB 2 x.f2.size++bytesOf x.f2 else [])
def afL (x:nI) (A4:Option Addr) (c4:Nat) (A5:Option Addr) (c5:Nat):Array Value:=#[.int .i64 x.f0,.string x.f1,.string x.f2,.int .i64 x.f3,.slice A4 x.f4.length c4,.slice A5 x.f5.length c5]
structure Sm (x:nI):Prop where
 p:x.f1.size≤1048576
 t:x.f2.size≤1048576
 r:x.f4.length≤1048576
 d:x.f5.length≤1073741824
theorem YF (w0 w:World) (g:Nat) (out:List Int) (n:Int) (x:nI) (A4:Option Addr) (c4:Nat) (A5:Option Addr) (c5:Nat) (H:Ps w0.heap.size w g out n) (hb:Below w0.heap.size w0 w) (hl:out.length≤1073741824) (hs:Sm x) (hn:0≤n) (hn2:n≤1048576)
  (h4:Kd.C dB w0 A4 x.f4.length x.f4) (h5:Kd.C (Kd.int .u8) w0 A5 x.f5.length x.f5) (l4:x.f4.length≤c4) (l5:x.f5.length≤c5) :
  Calls Tryz.prog 85 #[.pointer (some ⟨g,0,none⟩),.agg #[.int .i64 x.f0,.string x.f1,.string x.f2,.int .i64 x.f3,.slice A4 x.f4.length c4,.slice A5 x.f5.length c5]] w fun e w'=>e=.returned (.tuple #[])∧(∃v',Pk w0.heap.size w' g v' (out++eF x) (n+1))∧Below w0.heap.size w0 w':=by
 obtain⟨X,hX⟩:∃X,afL x A4 c4 A5 c5=X:=⟨_,rfl⟩
 have H1:=(H.below ((Below.refl w.heap.size w).alloc (Nat.le_refl _) (.cells X 29)))
 have hbk:=bJ w (.cells X 29);have hb1:=hb.alloc hb.size (.cells X 29)
 have hgn:w.heap.size≠g:=by
  obtain⟨v,h⟩:=H.blk;have:=bE h;omega
 rw[← hX] at H1 hbk hb1;unfold afL at H1 hbk hb1;obtain⟨c1,f1⟩:=H1.count;have H2:=ah.mk (H1.bump (n+1));have HB2:=ah.mk (hb1.setCell (p:=⟨g,1,none⟩) H.low (.int .i64 (n+1)));have jG:=ah.mk ((Below.heap_setCell _ ⟨g,1,none⟩ (.int .i64 (n+1)) _ hgn).trans hbk);have HS:=ah.mk hs;have HR4:=ah.mk h4;have nD:=ah.mk h5;have hl5:=hs.p;clear H H1 hb hb1 hbk hs h4 h5 hX
 go_enter Tryz.func85,Tryz.ntmps85
 go_wp2_with fail
 refine (Sb w0 _ g out (n+1) x.f0 H2.out HB2.out aj).mono ?_;rintro e w1 ⟨rfl,⟨v1,h1⟩,hb1,hf1⟩;have wT:=ah.mk h1;have HB1:=ah.mk hb1;have hk1:=hf1.cell jG.out hgn aD
 have d0:w1.cell? ⟨w.heap.size,0,none⟩=some (.int .i64 x.f0):=by rw[ak hk1];rfl
 have d1:w1.cell? ⟨w.heap.size,1,none⟩=some (.string x.f1):=by rw[ak hk1];rfl
 have jY:=ah.mk hk1;have z1:=bE hk1
 have hl1:(out++leB 1 x.f0).length=out.length+1:=by rw[List.length_append,aT]
 obtain⟨o1,ho1⟩:∃o,out++leB 1 x.f0=o:=⟨_,rfl⟩
 rw[ho1] at hl1 wT;have Fb:=ah.mk ho1
 have hle1:o1.length≤1073741825:=by omega
 clear h1 hb1 hf1 hk1 H2 HB2 jG hl1 ho1 c1 f1
 go_wp2_with fail
 refine (MW w0 w1 g v1 o1 (n+1) x.f1 wT.out HB1.out aj aj).mono ?_;rintro e w2 ⟨rfl,⟨v2,h2⟩,hb2,hf2⟩;have zA:=ah.mk h2;have HB2:=ah.mk hb2;have hk2:=hf2.cell jY.out hgn aD
 have e0:w2.cell? ⟨w.heap.size,0,none⟩=some (.int .i64 x.f0):=by rw[ak hk2];rfl
 have e2:w2.cell? ⟨w.heap.size,2,none⟩=some (.string x.f2):=by rw[ak hk2];rfl
 have e3:w2.cell? ⟨w.heap.size,3,none⟩=some (.int .i64 x.f3):=by rw[ak hk2];rfl
 have jG:=ah.mk hk2;have z2:=bE hk2
 have hl2:(o1++leB 2 x.f1.size++bytesOf x.f1).length=o1.length+2+x.f1.size:=by rw[List.length_append,List.length_append,aT,Go.Proofs.YtknihldkhedpkaaGreatDoorW.PrintWords.bytesOf_length]
 obtain⟨o2,ho2⟩:∃o,o1++leB 2 (x.f1.size:Int)++bytesOf x.f1=o:=⟨_,rfl⟩
 rw[ho2] at hl2 zA;have wU:=ah.mk (show out++leB 1 x.f0++leB 2 (x.f1.size:Int)++bytesOf x.f1=o2 by rw[Fb.out];exact ho2)
 have hle2:o2.length≤1075838978:=by omega
 clear h2 hb2 hf2 hk2 wT HB1 jY hl2 ho2 hle1 Fb d0 d1 z1;by_cases k1:x.f0=1
 ·have t1:(x.f0 == 1)=true:=beq_iff_eq.2 k1;have HK:=ah.mk k1;clear k1
  go_wp2_with fail
  refine (uf w0 w2 g v2 o2 (n+1) x.f3 8 zA.out HB2.out aD aj).mono ?_;rintro e w3 ⟨rfl,⟨v3,h3⟩,hb3,hf3⟩;have JF:=ah.mk h3;have HB3:=ah.mk hb3;have hk3:=hf3.cell jG.out hgn aD
  have g4:w3.cell? ⟨w.heap.size,4,none⟩=some (.slice A4 x.f4.length c4):=by rw[ak hk3];rfl
  have qQ:=ah.mk hk3;have z3:=bE hk3
  have hl3:(o2++leB 8 x.f3).length=o2.length+8:=by rw[List.length_append,aT]
  obtain⟨o3,ho3⟩:∃o,o2++leB 8 x.f3=o:=⟨_,rfl⟩
  rw[ho3] at hl3 JF;have Yi:=ah.mk ho3
  have hle3:o3.length≤1075838986:=by omega
  clear h3 hb3 hf3 hk3 zA HB2 jG hl3 ho3 hle2 e0 e2 e3 z2
  go_wp2_with fail
  refine (uf w0 w3 g v3 o3 (n+1) x.f4.length 4 JF.out HB3.out aD aj).mono ?_;rintro e w4 ⟨rfl,⟨v4,h4⟩,hb4,uP⟩;have MX:=ah.mk h4;have kJ:=ah.mk hb4;have hk4:=uP.cell qQ.out hgn aD;have wV:=ah.mk hk4
  have q4:w4.cell? ⟨w.heap.size,4,none⟩=some (.slice A4 x.f4.length c4):=by rw[ak hk4];rfl
  have z4:=bE hk4
  have hl4:(o3++leB 4 (x.f4.length:Int)).length=o3.length+4:=by rw[List.length_append,aT]
  obtain⟨o4,wM⟩:∃o,o3++leB 4 (x.f4.length:Int)=o:=⟨_,rfl⟩
  rw[wM] at hl4 MX;have Ue:=ah.mk wM
  have arj:o4.length≤1075838990:=by omega
  clear h4 hb4 uP hk4 JF HB3 qQ hl4 wM hle3 g4 z3;have HR:=ah.mk (Kd.aC HR4.out kJ.out);have ark:=HS.out.r
  go_wp2_with fail
  go_loopg [37] x.f4.length (fun gk s37 wx=>∃(i:Nat) (vi:Value) (oi:List Int),i+gk=x.f4.length∧s37=.int .i64 i∧ah (o4++iy (x.f4.take i)=oi)∧oi.length≤1075838990+8*i∧ah (Pk w0.heap.size wx g vi oi (n+1))∧ah (Below w0.heap.size w0 wx)∧ah (wx.heap[w.heap.size]?=w4.heap[w.heap.size]?))
  case atStart=>exact⟨0,v4,o4,by omega,rfl,⟨by simp[iy]⟩,by omega,MX,kJ,⟨rfl⟩⟩
  case round=>
   clear MX kJ HR z4;obtain⟨i,vi,oi,hig,rfl,HOi,arn,VN,VO,HKi⟩:=hrel;have hki:=HKi.out.trans wV.out;have zi:=bE hki;by_cases hi:i<x.f4.length
   ·have hd:decide ((i:Int)<(x.f4.length:Int))=true:=decide_eq_true aj;have hd2:decide (i<x.f4.length)=true:=decide_eq_true hi;obtain⟨ad,hA,r0,r1⟩:=dP (Kd.aC HR4.out VO.out) (i:Int) aj aj;rw[Int.toNat_natCast] at r0 r1
    have hrd:aK x.f4 (i:Int)=x.f4[i]'hi:=by simp[aK,hi]
    obtain⟨ru,YG⟩:∃r,x.f4[i]'hi=r:=⟨_,rfl⟩
    rw[hrd,YG] at r0 r1
    have hnx:iy (x.f4.take (i+1))=iy (x.f4.take i)++(leB 4 ru.f0++leB 4 ru.f1):=by
     unfold iy;rw[List.take_succ_eq_append_getElem hi,YG,List.flatMap_append];simp
    have HNX:=ah.mk hnx;have HKI:=ah.mk hki;have HA:=ah.mk hA;subst hA;have hW1:=VN.out.below ((Below.refl wr.heap.size wr).alloc (Nat.le_refl _) (.cells #[.int .i64 ru.f0,.int .i64 ru.f1] 117));have hW2:=VO.out.alloc VO.out.size (.cells #[.int .i64 ru.f0,.int .i64 ru.f1] 117);have hW3:=bJ wr (.cells #[.int .i64 ru.f0,.int .i64 ru.f1] 117);have Yj:=aM hki (.cells #[.int .i64 ru.f0,.int .i64 ru.f1] 117)
    have hgw:wr.heap.size≠g:=by have:=VN.out.lt;omega
    have HW1:=ah.mk hW1;have HW2:=ah.mk hW2;have HW3:=ah.mk hW3;have HW4:=ah.mk Yj;clear hrd YG hnx hki hW1 hW2 hW3 Yj
    go_wp2_with fail
    refine (uf w0 _ g vi oi (n+1) ru.f0 4 HW1.out HW2.out aD aj).mono ?_;rintro e w5 ⟨rfl,⟨v5,h5⟩,hb5,IX⟩;have IY:=ah.mk h5;have kH:=ah.mk hb5;have hk5:=IX.cell HW4.out hgn aD;have oF:=IX.cell HW3.out hgw aD
    have y1:w5.cell? ⟨wr.heap.size,1,none⟩=some (.int .i64 ru.f1):=by rw[ak oF];rfl
    have sP:=ah.mk hk5;have z5:=bE oF
    have Uf:(oi++leB 4 ru.f0).length=oi.length+4:=by rw[List.length_append,aT]
    obtain⟨o5,IZ⟩:∃o,oi++leB 4 ru.f0=o:=⟨_,rfl⟩
    rw[IZ] at Uf IY;have Vv:=ah.mk IZ
    have acN:o5.length≤1075838994+8*i:=by omega
    clear h5 hb5 IX hk5 oF HW1 HW2 HW3 HW4 Uf IZ r0 r1
    go_wp2_with fail
    refine (uf w0 w5 g v5 o5 (n+1) ru.f1 4 IY.out kH.out aD aj).mono ?_;rintro e w6 ⟨rfl,⟨v6,h6⟩,hb6,Ja⟩;have Vw:=ah.mk h6;have sQ:=ah.mk hb6;have CP:=ah.mk (Ja.cell sP.out hgn aD);clear h6 hb6 Ja IY kH sP y1 z5
    go_wp2_with fail
    go_roundg (x.f4.length - (i+1))
    case measure=>omega
    case rel=>exact⟨i+1,v6,o5++leB 4 ru.f1,by omega,by first|rfl|simp,⟨by rw[HNX.out,← Vv.out,← HOi.out];simp only[List.append_assoc]⟩,by rw[List.length_append,aT];omega,Vw,sQ,⟨CP.out.trans wV.out.symm⟩⟩
   have hd:decide ((i:Int)<(x.f4.length:Int))=false:=decide_eq_false aj;have hd2:decide (i<x.f4.length)=false:=decide_eq_false hi;have hE:x.f4.take i=x.f4:=List.take_of_length_le aj
   have u4:wr.cell? ⟨w.heap.size,5,none⟩=some (.slice A5 x.f5.length c5):=by rw[ak hki];rfl
   have hfin:∀w' v',Pk w0.heap.size w' g v' (oi++x.f5) (n+1)→Pk w0.heap.size w' g v' (out++eF x) (n+1):=by
    intro w' v' h;unfold eF;rw[if_pos HK.out];rw[← HOi.out,hE,← Ue.out,← Yi.out,← wU.out] at h
    simpa only[List.append_assoc] using h
   have HF:=ah.mk hfin;have HR:=ah.mk (Kd.aC nD.out VO.out);have hsd:=HS.out.d;have hsr:=HS.out.r;have c0:=VN.out.cell;obtain⟨A,c,hv⟩:=VN.out.slice;subst hv;clear hfin hE hki;have HD:=VN.out.below (w1:=wr.drew) (bA (Below.refl _ _));have wP:=bA VO.out;have yE:=Kd.aC HR.out (bA (Below.refl wr.heap.size wr));have PE:=ah.mk HD;have wP:=ah.mk wP;have yE:=ah.mk yE;clear HD HR
   go_wp2_with fail
   go_region_law ((refine qo (w0:=w0) .u8 w0.heap.size rfl (.tmp 54) (.tmp 56) 27 5 1 rfl Tryz.underlying27 info5 aD (.slice A oi.length c) oi x.f5 A5 x.f5.length c5 (fun _=>True) rfl rfl (fun _ _=>trivial) PE.out.row yE.out wP.out wP.out.size aj ?_;intro v7 w7 ho hb hg _h;have PG:=ah.mk ho;have YH:=ah.mk hg;have Ep:=ah.mk hb;obtain⟨cF,fF,lF⟩:=PE.out.cells hg;clear ho hb hg _h;obtain⟨A7,c7,hv7⟩:=Kd.bG PG.out;subst hv7))
   all_goals (
    have hO:=PG.out;simp only[List.length_append] at hO
    go_wp2_with fail
    go_end0
    exact⟨rfl,⟨_,HF.out _ _ (PE.out.put YH.out hO)⟩,Ep.out.setCell VN.out.low _⟩)
 have t1:(x.f0 == 1)=false:=beq_eq_false_iff_ne.2 k1;by_cases k3:x.f0=3∨x.f0=4
 ·have t3:(x.f0 == 3)=true∨((x.f0 == 3)=false∧(x.f0 == 4)=true):=by
   by_cases h:x.f0=3
   ·exact .inl (beq_iff_eq.2 h)
   exact .inr ⟨beq_eq_false_iff_ne.2 h,beq_iff_eq.2 aj⟩
  have HK:=ah.mk k3;have HKn:=ah.mk k1;clear k1 k3
  have hfin:∀w' v',Pk w0.heap.size w' g v' (o2++leB 2 x.f2.size++bytesOf x.f2) (n+1)→Pk w0.heap.size w' g v' (out++eF x) (n+1):=by
   intro w' v' h;unfold eF;rw[if_neg HKn.out,if_pos HK.out];rw[← wU.out] at h
   simpa only[List.append_assoc] using h
  have HF:=ah.mk hfin;have hsz:=HS.out.t;clear hfin
  rcases t3 with t3|⟨t3,t4⟩
  all_goals (
   go_wp2_with fail
   refine (MW w0 w2 g v2 o2 (n+1) x.f2 zA.out HB2.out aj aj).mono ?_;rintro e w3 ⟨rfl,⟨v3,h3⟩,hb3,hf3⟩;have JF:=ah.mk h3;have HB3:=ah.mk hb3;clear h3 hb3 hf3
   go_wp2_with fail
   go_end0
   exact⟨rfl,⟨v3,HF.out _ _ JF.out⟩,HB3.out⟩)
 have t3:(x.f0 == 3)=false:=beq_eq_false_iff_ne.2 aj;have t4:(x.f0 == 4)=false:=beq_eq_false_iff_ne.2 aj
 have hfin:Pk w0.heap.size w2 g v2 (out++eF x) (n+1):=by
  have h:=zA.out;unfold eF;rw[if_neg k1,if_neg k3,List.append_nil];rw[← wU.out] at h
  simpa only[List.append_assoc] using h
 have HF:=ah.mk hfin;clear k1 k3 hfin
 go_wp2_with fail
 go_end0
 exact⟨rfl,⟨v2,HF.out⟩,HB2.out⟩
def jM (out:List Int) (n:Int):List Int:=out++leB 1 0++leB 4 n++leB 4 (oq (out++leB 1 0++leB 4 n))
theorem YI (w0 w:World) (g:Nat) (out:List Int) (n:Int) (H:Ps w0.heap.size w g out n) (hb:Below w0.heap.size w0 w) (hl:out.length≤1099511627000) (hwf:∀x∈out,0≤x∧x≤255) :
  Calls Tryz.prog 86 #[.pointer (some ⟨g,0,none⟩)] w fun e w'=>∃v',e=.returned v'∧Kd.R (Kd.int .u8) 5 w' w0.heap.size (fun _=>True) v' (jM out n)∧Below w0.heap.size w0 w':=by
 have HS:=ah.mk H;have HB:=ah.mk hb;have HW:=ah.mk hwf;clear H hb hwf
 go_enter Tryz.func86,Tryz.ntmps86
 go_wp2_with fail
 refine (Sb w0 _ g out n 0 HS.out HB.out aj).mono ?_;rintro e w1 ⟨rfl,⟨v1,h1⟩,hb1,hf1⟩;have wT:=ah.mk h1;have HB1:=ah.mk hb1
 have d1:w1.cell? ⟨g,1,none⟩=some (.int .i64 n):=by rw[ak h1.blk];rfl
 have hl1:(out++leB 1 0).length=out.length+1:=by rw[List.length_append,aT]
 obtain⟨o1,ho1⟩:∃o,out++leB 1 0=o:=⟨_,rfl⟩
 rw[ho1] at hl1 wT;have Fb:=ah.mk ho1
 have hle1:o1.length≤1099511627001:=by omega
 clear h1 hb1 hf1 hl1 ho1
 go_wp2_with fail
 refine (uf w0 w1 g v1 o1 n n 4 wT.out HB1.out aD aj).mono ?_;rintro e w2 ⟨rfl,⟨v2,h2⟩,hb2,hf2⟩
 have hl2:(o1++leB 4 n).length=o1.length+4:=by rw[List.length_append,aT]
 have hw2:∀x∈o1++leB 4 n,0≤x∧x≤255:=by
  intro x hx
  rcases List.mem_append.1 hx with hx|hx
  ·rw[← Fb.out] at hx
   rcases List.mem_append.1 hx with hx|hx
   ·exact HW.out x hx
   exact fM _ _ x hx
  exact fM _ _ x hx
 obtain⟨o2,ho2⟩:∃o,o1++leB 4 n=o:=⟨_,rfl⟩
 rw[ho2] at hl2 h2 hw2;have zA:=ah.mk h2;have HB2:=ah.mk hb2;have wU:=ah.mk (show out++leB 1 0++leB 4 n=o2 by rw[Fb.out];exact ho2);have HW2:=ah.mk hw2
 have hle2:o2.length≤1099511627005:=by omega
 have c2:=h2.cell;obtain⟨A,c,e2,hcap,hread⟩:=Kd.ug h2.row;subst e2;have HR2:=ah.mk hread;clear h2 hb2 hf2 hl2 ho2 hw2 hread wT HB1 Fb hle1 d1
 go_wp2_with fail
 refine (Sc A c o2 w2 HR2.out hcap HW2.out).mono ?_;rintro e w3 ⟨rfl,hb3⟩;have JF:=ah.mk (zA.out.below hb3);have HB3:=ah.mk (HB2.out.trans (hb3.mono HB2.out.size));clear hb3 c2
 go_wp2_with fail
 refine (uf w0 w3 g _ o2 n (oq o2) 4 JF.out HB3.out aD aj).mono ?_;rintro e w4 ⟨rfl,⟨v4,h4⟩,hb4,uP⟩;have c4:=h4.cell;have MX:=ah.mk h4;have kJ:=ah.mk hb4;clear h4 hb4 uP
 go_wp2_with fail
 go_ret
 refine⟨_,rfl,?_,kJ.out⟩;unfold jM;rw[wU.out];exact MX.out.row
def lY:List Int→Nat→List It→List Int × Int
 | out,n,[]=>(jM out n,0)
 | out,n,x::l=>if (out++eF x).length+9 > 4194304 then ([],7) else lY (out++eF x) (n+1) l
def bY (l:List It):List Int × Int:=if 4096<l.length then ([],7) else if jN l=true then lY jU 0 l else ([],150)
def nO (x:It):Bool:=decide (x.f1.size≤140737488351232) && decide (x.f2.size≤140737488351232) && decide (x.f4.length≤140737488351232) && decide (x.f5.length≤140737488351232) && x.f5.all fun n=>decide (0≤n) && decide (n≤255)
theorem uG {x:It} (h:nO x=true):Fit x:=by
 unfold nO at h;simp only[Bool.and_eq_true,decide_eq_true_eq,List.all_eq_true] at h;exact⟨h.1.1.1.1,h.1.1.1.2,h.1.1.2,h.1.2,h.2⟩
def iT.f (l0:List (nI)):Option (List Int × Int):=if l0.all nO=true then some (bY l0) else none
theorem Fg (s:ByteArray):∀b∈Go.Proofs.YtknihldkhedpkaaGreatDoorW.PrintWords.bytesOf s,0≤b∧b≤255:=by
 intro b hb;unfold Go.Proofs.YtknihldkhedpkaaGreatDoorW.PrintWords.bytesOf at hb;obtain⟨c,_,rfl⟩:=List.mem_map.1 hb;have:=c.toNat_lt;omega
theorem VP (l:List Ru):∀b∈iy l,0≤b∧b≤255:=by
 intro b hb;unfold iy at hb;obtain⟨r,_,hr⟩:=List.mem_flatMap.1 hb
 rcases List.mem_append.1 hr with h|h
 ·exact fM _ _ b h
 exact fM _ _ b h
theorem Fh {x:It} (h:Fit x):∀b∈eF x,0≤b∧b≤255:=by
 intro b hb;unfold eF at hb
 rcases List.mem_append.1 hb with hb|hb
 ·rcases List.mem_append.1 hb with hb|hb
  ·rcases List.mem_append.1 hb with hb|hb
   ·exact fM _ _ b hb
   exact fM _ _ b hb
  exact Fg _ b hb
 split at hb
 ·rcases List.mem_append.1 hb with hb|hb
  ·rcases List.mem_append.1 hb with hb|hb
   ·rcases List.mem_append.1 hb with hb|hb
    ·exact fM _ _ b hb
    exact fM _ _ b hb
   exact VP _ b hb
  exact h.b b hb
 split at hb
 ·rcases List.mem_append.1 hb with hb|hb
  ·exact fM _ _ b hb
  exact Fg _ b hb
 cases hb
theorem yF (l:List Ru):(iy l).length=8*l.length:=by
 unfold iy;rw[List.length_flatMap]
 induction l with
 | nil=>rfl
 | cons a l ih=>rw[List.map_cons,List.sum_cons,ih,List.length_append,aT,aT,List.length_cons];omega
theorem Ug {x:It} (h:Sm x):(eF x).length≤1099511627776:=by
 have h1:=h.p;have h2:=h.t;have h3:=h.r;have h4:=h.d;unfold eF;split
 ·simp only[List.length_append,aT,Go.Proofs.YtknihldkhedpkaaGreatDoorW.PrintWords.bytesOf_length,yF];omega
 split
 ·simp only[List.length_append,aT,Go.Proofs.YtknihldkhedpkaaGreatDoorW.PrintWords.bytesOf_length];omega
 simp only[List.length_append,aT,Go.Proofs.YtknihldkhedpkaaGreatDoorW.PrintWords.bytesOf_length,List.length_nil];omega
theorem MZ:∀{K:List (ByteArray × Int)} {p:ByteArray},mI K p≠0→∃n,(p,n)∈K
 | [],_,h=>absurd rfl h
 | (q,n)::K,p,h=>by
  rw[mI] at h;by_cases e:q=p
  ·subst e;exact⟨n,List.mem_cons_self⟩
  rw[if_neg e] at h;obtain⟨m,hm⟩:=MZ h;exact⟨m,List.mem_cons_of_mem _ hm⟩
theorem M0 {s:ByteArray} (h:(jV s).2=true):s.size≤1023:=by
 unfold jV at h;split at h
 ·rename_i hc;exact hc.1
 cases h
theorem KS {K:List (ByteArray × Int)} {x:It} (hK:∀q∈K,q.1.size≤1023) (h:d9 K x=true):x.f2.size≤1023∧x.f4.length≤16523∧x.f5.length≤8459776:=by
 have hbare:iQ x=true→x.f4.length=0∧x.f5.length=0:=fun hb=>by
  unfold iQ at hb;simp only[Bool.and_eq_true,decide_eq_true_eq] at hb;exact⟨hb.1.2,hb.2⟩
 unfold d9 at h;split at h
 ·simp only[Bool.and_eq_true,decide_eq_true_eq] at h;have:=AU h.2;omega
 split at h
 ·simp only[Bool.and_eq_true,decide_eq_true_eq] at h;have:=hbare h.1;omega
 split at h
 ·simp only[Bool.and_eq_true,decide_eq_true_eq] at h;have:=hbare h.1;omega
 split at h
 ·simp only[Bool.and_eq_true,decide_eq_true_eq] at h;have h0:=hbare h.1;obtain⟨n,hn⟩:=MZ (K:=K) (p:=x.f2) aj;have:=hK _ hn;simp only at this;omega
 cases h
theorem xk:∀(l:List It) (K:List (ByteArray × Int)) (b:Option (List ByteArray)),(∀q∈K,q.1.size≤1023)→gY K b l=true→∀x∈l,x.f1.size≤1023∧x.f2.size≤1023∧x.f4.length≤16523∧x.f5.length≤8459776
 | [],_,_,_,_=>fun x hx=>by cases hx
 | y::l,K,b,hK,h=>by
  rw[gY] at h;simp only[Bool.and_eq_true,decide_eq_true_eq] at h;obtain⟨⟨⟨⟨h1,h2⟩,h3⟩,h4⟩,h5⟩:=h;have hp:=M0 h1;have hi:=KS hK h4;intro x hx
  rcases List.mem_cons.1 hx with rfl|hx
  ·exact⟨hp,hi⟩
  exact xk l _ _ (fun q hq=>by rcases List.mem_cons.1 hq with rfl|hq;exact hp;exact hK q hq) h5 x hx
theorem M6 {l:List It} (h:jN l=true):∀x∈l,Sm x:=fun x hx=>by
 have:=xk l _ _ (fun q hq=>by rcases List.mem_cons.1 hq with rfl|hq;decide;cases hq) h x hx;exact⟨by omega,by omega,by omega,by omega⟩
theorem iT.calls (A0:Option Addr) (c0:Nat) (l0:List (nI)) (r1:List Int) (r2:Int) (w:World) (hr0:Kd.C om w A0 l0.length l0) (hc0:l0.length≤c0) (h:iT.f l0=some (r1,r2)) :
  Calls Tryz.prog 48 #[.slice A0 l0.length c0] w fun e w'=>∃xq:Value,e=.returned (.tuple #[xq,.int .i64 r2])∧Kd.R (Kd.int .u8) 5 w' w.heap.size (fun _=>True) xq r1∧Below w.heap.size w w':=by
 unfold iT.f at h;by_cases hfit:l0.all nO=true
 ·rw[if_pos hfit] at h;have hp:=Option.some.inj h
  have hfit:∀x∈l0,Fit x:=fun x hx=>uG (List.all_eq_true.1 hfit x hx)
  have HF:=ah.mk hfit;have HR:=ah.mk hr0;clear h hfit hr0;by_cases hbig:4096<l0.length
  ·have hb1:decide ((4096:Int)<(l0.length:Int))=true:=decide_eq_true aj;have hb2:decide (4096<l0.length)=true:=decide_eq_true hbig;unfold bY at hp;rw[if_pos hbig] at hp
   injection hp with e1 e2
   subst e1 e2
   go_enter Tryz.func48,Tryz.ntmps48
   go_wp2_with fail
   go_ret2
   exact⟨_,rfl,Kd.eY _ _ _ _ _,Below.refl _ _⟩
  have hb1:decide ((4096:Int)<(l0.length:Int))=false:=decide_eq_false aj;have hb2:decide (4096<l0.length)=false:=decide_eq_false hbig;unfold bY at hp;rw[if_neg hbig] at hp;have hrt:=Uh A0 c0 l0 w HR.out hc0 HF.out aj
  obtain⟨rt,PK⟩:∃b,jN l0=b:=⟨_,rfl⟩
  rw[PK] at hrt hp;have HRT:=ah.mk hrt;have HRE:=ah.mk PK;clear hrt PK
  cases rt with
  | false=>
   rw[if_neg aD] at hp
   injection hp with e1 e2
   subst e1 e2
   go_enter Tryz.func48,Tryz.ntmps48
   go_wp2_with fail
   refine HRT.out.mono ?_;rintro e w1 ⟨rfl,hb⟩;have HB:=ah.mk hb;clear hb
   go_wp2_with fail
   go_ret2
   exact⟨_,rfl,Kd.eY _ _ _ _ _,HB.out⟩
  | true=>
   rw[if_pos rfl] at hp;have HPP:=ah.mk hp;clear hp
   go_enter Tryz.func48,Tryz.ntmps48
   go_wp2_with fail
   refine HRT.out.mono ?_;rintro e w1 ⟨rfl,hb⟩;have HB:=ah.mk hb;clear hb
   go_wp2_with fail
   refine (Jb w1).mono ?_;rintro e w2 ⟨g,b,rfl,hpf,hb2⟩;have hge:w.heap.size≤w1.heap.size:=HB.out.size
   have afQ:Pf w.heap.size w2 g b 0:=⟨hpf.blk,hpf.arr,Nat.le_trans hge hpf.low⟩
   have HPF:=ah.mk (show Ps w.heap.size w2 g jU ((0:Nat):Int) from .inl ⟨rfl,b,afQ⟩);have HB2:=ah.mk (HB.out.trans (hb2.mono HB.out.size));clear hpf afQ hb2 hge HB
   go_wp2_with fail
   go_loopg [16] l0.length (fun gk s16 wx=>∃(i:Nat) (out:List Int),i+gk=l0.length∧s16=.int .i64 i∧out.length≤4194304∧ah (lY out i (l0.drop i)=(r1,r2))∧ah (Ps w.heap.size wx g out i)∧ah (Below w.heap.size w wx)∧ah (∀x∈out,0≤x∧x≤255))
   case atStart=>exact⟨0,jU,by omega,rfl,by decide,⟨by rw[List.drop_zero];exact HPP.out⟩,HPF,HB2,⟨by decide⟩⟩
   case round=>
    clear HPF HB2 HPP;obtain⟨i,out,hig,rfl,hlo,HG,HP,HB,HW⟩:=hrel;by_cases hi:i<l0.length
    ·have hd:decide ((i:Int)<(l0.length:Int))=true:=decide_eq_true aj;have hd2:decide (i<l0.length)=true:=decide_eq_true hi;obtain⟨ad,A4,c4,A5,c5,hA,r0,r1',r2',r3,r4,r5,l4,g4,l5,g5⟩:=oo HR.out (i:Int) aj aj;rw[Int.toNat_natCast] at r0 r1' r2' r3 r4 r5
     have hrd:aJ l0 (i:Int)=l0[i]'hi:=by simp[aJ,hi]
     have hmem:=List.getElem_mem hi;have YJ:=ah.mk (HF.out _ hmem);have HSx:=ah.mk (M6 HRE.out _ hmem);have hg0:=HG.out;rw[List.drop_eq_getElem_cons hi] at hg0
     obtain⟨x,hx⟩:∃x,l0[i]'hi=x:=⟨_,rfl⟩
     rw[hrd,hx] at r0 r1' r2' r3 r4 r5 l4 g4 l5 g5;rw[hx] at hg0 YJ HSx;have HG:=ah.mk hg0;have MK:=ah.mk g4;have I4:=ah.mk g5;have q0:=au HB.out r0;have q1:=au HB.out r1';have q2:=au HB.out r2';have q3:=au HB.out r3;have q4:=au HB.out r4;have q5:=au HB.out r5;have HA:=ah.mk hA;subst hA;clear hrd hx hg0 g4 g5 r0 r1' r2' r3 r4 r5 hmem;have HPB:=ah.mk (HP.out.below ((Below.refl wr.heap.size wr).alloc (Nat.le_refl _) (.cells #[.int .i64 x.f0,.string x.f1,.string x.f2,.int .i64 x.f3,.slice A4 x.f4.length c4,.slice A5 x.f5.length c5] 29)));have wW:=ah.mk (HB.out.alloc HB.out.size (.cells #[.int .i64 x.f0,.string x.f1,.string x.f2,.int .i64 x.f3,.slice A4 x.f4.length c4,.slice A5 x.f5.length c5] 29));clear HP HB
     go_wp2_with fail
     refine (YF w _ g out (i:Int) x A4 c4 A5 c5 HPB.out wW.out aj HSx.out aj aj MK.out I4.out l4 l5).mono ?_;rintro e w3 ⟨rfl,⟨v3,h3⟩,hb3⟩;have hcell:=h3.cell
     obtain⟨o3,ho3⟩:∃o,out++eF x=o:=⟨_,rfl⟩
     have hw3:∀y∈out++eF x,0≤y∧y≤255:=by
      intro y hy
      rcases List.mem_append.1 hy with hy|hy
      ·exact HW.out y hy
      exact Fh YJ.out y hy
     rw[ho3] at h3 hw3;obtain⟨A3,c3,hv3⟩:=h3.slice;subst hv3;have JF:=ah.mk h3;have HB3:=ah.mk hb3;have HW3:=ah.mk hw3;have Yi:=ah.mk ho3;have hg3:=h3.lt
     have hw64:wrap64 ((o3.length:Int)+9)=(o3.length:Int)+9:=by
      have h1:=Ug HSx.out
      have h2:o3.length=out.length+(eF x).length:=by rw[← ho3,List.length_append]
      unfold wrap64;omega
     clear h3 hb3 hw3 HPB wW;by_cases hlong:o3.length+9 > 4194304
     ·have hl1:decide ((4194304:Int)<(o3.length:Int)+9)=true:=decide_eq_true aj;have HLG:=ah.mk hlong;clear hlong ho3
      go_wp2_with fail
      go_ret2
      have h:=HG.out;rw[lY,Yi.out,if_pos HLG.out] at h
      injection h with e1 e2
      subst e1 e2;exact⟨_,rfl,Kd.eY _ _ _ _ _,HB3.out⟩
     have hl1:decide ((4194304:Int)<(o3.length:Int)+9)=false:=decide_eq_false aj;have HLG:=ah.mk hlong
     have hle3:o3.length≤4194304:=by omega
     clear hlong ho3
     go_wp2_with fail
     go_roundg (l0.length - (i+1))
     case measure=>omega
     case rel=>exact⟨i+1,o3,by omega,by first|rfl|simp,hle3,⟨by have h:=HG.out;rw[lY,Yi.out,if_neg HLG.out] at h;exact h⟩,⟨.inr ⟨_,JF.out⟩⟩,HB3,HW3⟩
    have hd:decide ((i:Int)<(l0.length:Int))=false:=decide_eq_false aj;have hd2:decide (i<l0.length)=false:=decide_eq_false hi;have hE:l0.drop i=[]:=List.drop_of_length_le aj;have h:=HG.out;rw[hE,lY] at h;have HG:=ah.mk h;clear h hE
    go_wp2_with fail
    refine (YI w wr g out (i:Int) HP.out HB.out aj HW.out).mono ?_;rintro e w3 ⟨v3,rfl,h3,hb3⟩;have HR3:=ah.mk h3;have HB3:=ah.mk hb3;clear h3 hb3
    go_wp2_with fail
    go_ret2
    have h:=HG.out
    injection h with e1 e2
    subst e1 e2;exact⟨_,rfl,HR3.out,HB3.out⟩
 rw[if_neg hfit] at h;cases h
structure Kq (B:Nat) (A C:World):Prop where
 os:C.os=A.os
 tape:C.tape=A.tape
 output:C.output=A.output
 size:A.heap.size≤C.heap.size
 blocks:∀(k:Nat) (o:Obj),A.heap[k]?=some o→(k<B∨∃cs t,o=.cells cs t (0,0)∧t≠3∧t≠95)→C.heap[k]?=some o
theorem Kq.VQ {B:Nat} {A C:World} (h:zl B A C):Kq B A C:=⟨h.os,h.tape,h.output,h.size,fun k o ho hk=>by
 rcases h.blocks k (bE ho) with e|⟨hB,cs,cs',t,ht,e,e'⟩
 ·exact e.trans ho
 rcases hk with hk|⟨ds,t',rfl,h3,h5⟩
 ·omega
 rw[e] at ho
 injection ho with ho
 injection ho with _ ho
 subst ho
 rcases ht with rfl|rfl
 ·exact absurd rfl h3
 exact absurd rfl h5⟩
theorem Kq.xu {B l:Nat} {A:World} {o o':Obj} (hl:B≤l) (ho:A.heap[l]?=some o) (hc:o.isCells=false):Kq B A (A.putObj l o') :=
 ⟨rfl,rfl,rfl,by simp[World.putObj],fun k p hp hk=>by
  by_cases e:k=l
  ·subst e
   rcases hk with hk|⟨cs,t,rfl,_⟩
   ·omega
   rw[hp] at ho
   injection ho with ho
   subst ho;cases hc
  exact (World.putObj_heap_other e).trans hp⟩
theorem Kq.below {B:Nat} {A C:World} (h:Below A.heap.size A C):Kq B A C:=⟨h.os,h.tape,h.output,h.size,fun k o ho _=>aG ho h⟩
theorem Kq.low {B n:Nat} {w0 A C:World} (h:Kq B A C) (hn:n≤B) (hw:n≤w0.heap.size) (hb:Below n w0 A):Below n w0 C :=
 ⟨h.os.trans hb.os,h.tape.trans hb.tape,h.output.trans hb.output,Nat.le_trans hb.size h.size,fun k hk=>by
  have hlt:k<A.heap.size:=by have:=hb.size;omega
  rw[← hb.block k hk];have:=h.blocks k A.heap[k] (Array.getElem?_eq_getElem hlt) (.inl aj)
  rw[this,Array.getElem?_eq_getElem hlt]⟩
theorem Kq.row {α:Type} {d:Kd α} {e base B:Nat} {A C:World} {v:Value} {xs:List α} (h:Kq B A C) (hr:d.R e A base (fun _=>True) v xs) (ht:∀q,q∈e::d.E→q≠3∧q≠95):d.R e C base (fun _=>True) v xs :=
 Kd.dU (Kd.CQ (Kd.gM hr) (fun k hk=>by
  obtain⟨_,_,_,q,hq,cells,hc⟩:=hk;rw[hc]
  exact h.blocks k _ hc (.inr ⟨cells,q,rfl,(ht q hq).1,(ht q hq).2⟩))) (fun _ _=>trivial)
theorem Kq.afR {α:Type} {d:Kd α} {e base B:Nat} {A C:World} {v:Value} {xs:List α} (h:Kq B A C) (hr:Kd.S d e A base (fun _=>True) v xs) (ht:∀q,q∈e::d.E→q≠3∧q≠95):Kd.S d e C base (fun _=>True) v xs :=
 Kd.sS (Kd.VR (Kd.KT hr) (fun k hk=>by
  obtain⟨_,_,_,q,hq,cells,hc⟩:=hk;rw[hc]
  exact h.blocks k _ hc (.inr ⟨cells,q,rfl,(ht q hq).1,(ht q hq).2⟩))) (fun _ _=>trivial)
theorem M7 {B:Nat} {A C:World} (h:zl B A C):Still B A C:=⟨h.size,fun k o hB ho hc=>by
 rcases h.blocks k (bE ho) with e|⟨_,cs,cs',t,ht,e,e'⟩
 ·exact e.trans ho
 rw[e] at ho
 injection ho with ho
 subst ho
 cases hc⟩
theorem acO {n0 B:Nat} {S:Nat→Prop} {A C:World} {l:Nat} {o o1 p o2:Obj} (hn:n0≤B) (hS:∀k,S k→k<B) (hl:B≤l) (ho:A.heap[l]?=some o) (hc:o.isCells=false) (h:KpR n0 S (A.putObj l o1) C) (hp:C.heap[l]?=some p) (hpc:p.isCells=false):KpR n0 S A (C.putObj l o2):=by
 have hz:(A.putObj l o1).heap.size=A.heap.size:=by simp[World.putObj]
 have hz2:(C.putObj l o2).heap.size=C.heap.size:=by simp[World.putObj]
 refine⟨⟨h.low.os,h.low.tape,h.low.output,by have:=h.low.size;omega,fun k hk=>?_⟩,fun k hk=>?_,fun k cs hk=>?_⟩
 ·rw[World.putObj_heap_other aj,h.low.block k hk,World.putObj_heap_other aj]
 ·have:=hS k hk;rw[World.putObj_heap_other aj,h.same k hk,World.putObj_heap_other aj]
 have hne:k≠l:=fun e=>by
  rw[e,ho] at hk
  injection hk with hk
  subst hk;cases hc
 rw[World.putObj_heap_other hne];exact h.nums k cs ((World.putObj_heap_other hne).trans hk)
theorem yG {L:Nat→List It} {p:Nat→Nat} {k:ByteArray} {j:Nat} {x:It} (h:fG L p k j=some x):x∈L j∧(kV x).toList=k.toList:=by
 unfold fG at h
 cases hx:(L j)[p j]? with
 | none=>rw[hx] at h;cases h
 | some y=>
  rw[hx] at h;dsimp only at h;split at h
  ·rename_i he;obtain rfl:=Option.some.inj h;exact⟨List.mem_of_getElem? hx,beq_iff_eq.1 he⟩
  cases h
theorem KU (a b:UInt8) (l:List UInt8):(iW a b l).length=l.length:=by
 unfold iW;exact List.length_map _
theorem zT (a b:UInt8) (s:ByteArray):(fV a b s).size=s.size:=by
 show (iW a b s.data.toList).toArray.size=s.data.size
 rw[List.size_toArray,KU,Array.length_toList]
theorem M8 {K:List (ByteArray × Int)}:∀{before:Option (List ByteArray)} {l:List It},gY K before l=true→∀x∈l,x.f1.size≤1023:=by
 intro before l
 induction l generalizing K before with
 | nil=>intro _ x hx;cases hx
 | cons a l ih=>
  intro h x hx;rw[gY] at h;simp only[Bool.and_eq_true] at h
  rcases List.mem_cons.1 hx with rfl|hx
  ·exact M0 h.1.1.1.1
  exact ih h.2 x hx
theorem qp {l:List It} (h:(bY l).2=0):l.length≤4096∧jN l=true:=by
 unfold bY at h;split at h
 ·cases h
 split at h
 ·rename_i h1 h2;exact⟨by omega,h2⟩
 cases h
theorem Fj {l:List It} (h:(bY l).2=0):∀x∈l,x.f1.size≤1023:=M8 (qp h).2
theorem qw {n l:Nat} {w W:World} {o o':Obj} (hb:Below n w W) (hl:n≤l) (hw:n≤w.heap.size) (ho:W.heap[l]?=some o) (hc:o.isCells=false):Below n w (W.putObj l o') :=
 (Kq.xu (B:=n) hl ho hc).low (Nat.le_refl _) hw hb
structure kg (n:Nat) (G T:Nat→Prop) (A C:World):Prop where
 os:C.os=A.os
 tape:C.tape=A.tape
 output:C.output=A.output
 size:A.heap.size≤C.heap.size
 blocks:∀(k:Nat) (o:Obj),A.heap[k]?=some o→(G k∨(n≤k∧∃cs q,o=.cells cs q (0,0)∧T q))∨C.heap[k]?=some o
section
variable {n : Nat} {G T : Nat → Prop} {A C D : World}
theorem kg.refl (A:World):kg n G T A A:=⟨rfl,rfl,rfl,Nat.le_refl _,fun _ _ h=>.inr h⟩
theorem kg.trans (h:kg n G T A C) (k:kg n G T C D):kg n G T A D :=
 ⟨k.os.trans h.os,k.tape.trans h.tape,k.output.trans h.output,Nat.le_trans h.size k.size,fun i o hi=>by
  rcases h.blocks i o hi with e|e
  ·exact .inl e
  exact k.blocks i o e⟩
theorem kg.below (h:Below A.heap.size A C):kg n G T A C:=⟨h.os,h.tape,h.output,h.size,fun k o ho=>.inr (aG ho h)⟩
theorem kg.grown {α:Type} {d:Kd α} {e base:Nat} {ok:Nat→Prop} {v:Value} {xs:List α} (hr:d.R e A base ok v xs) (hn:n≤base) (he:T e) (hg:A.grownBy C v.ownBlock):kg n G T A C :=
 ⟨hg.os,hg.tape,hg.output,hg.size,fun k o ho=>by
  by_cases hk:some k=v.ownBlock
  ·obtain⟨_,inner,ho2,_⟩:=hr;obtain⟨cells,hc⟩:=mY ho2 k hk.symm;have:=mH ho2 k hk.symm;rw[hc] at ho
   injection ho with ho
   exact .inl (.inr ⟨by omega,cells,e,ho.symm,he⟩)
  exact .inr ((hg.block k (bE ho) hk).trans ho)⟩
theorem kg.map {b:Nat} (hb:G b) (hg:A.grownBy C (some b)):kg n G T A C :=
 ⟨hg.os,hg.tape,hg.output,hg.size,fun k o ho=>by
  by_cases hk:k=b
  ·exact .inl (.inl (hk▸hb))
  exact .inr ((hg.block k (bE ho) (fun e=>hk (Option.some.inj e))).trans ho)⟩
theorem kg.set {b:Nat} (hb:G b) (j:Nat) (u:Value):kg n G T A (A.setCell ⟨b,j,none⟩ u):=by
 have h:=(Below.refl 0 A).setCell (p:=⟨b,j,none⟩) (Nat.zero_le _) u;refine⟨h.os,h.tape,h.output,h.size,fun k o ho=>?_⟩;by_cases e:k=b
 ·subst e;exact .inl (.inl hb)
 exact .inr ((Below.heap_setCell A ⟨b,j,none⟩ u k e).trans ho)
theorem kg.low {w:World} {n0:Nat} (h:kg n G T A C) (hn:n0≤n) (hG:∀k,G k→n0≤k) (hw:n0≤w.heap.size) (hb:Below n0 w A):Below n0 w C :=
 ⟨h.os.trans hb.os,h.tape.trans hb.tape,h.output.trans hb.output,Nat.le_trans hb.size h.size,fun k hk=>by
  have hlt:k<A.heap.size:=by have:=hb.size;omega
  have h1:=Array.getElem?_eq_getElem hlt
  rcases h.blocks k _ h1 with (e|⟨e,_⟩)|e
  ·have:=hG k e;omega
  ·omega
  rw[e,← h1,hb.block k hk]⟩
theorem kg.keep (h:kg n G T A C) {k:Nat} {o:Obj} (ho:A.heap[k]?=some o) (h1:¬G k) (h2:k<n∨∀cs q,o=.cells cs q (0,0)→¬T q):C.heap[k]?=some o:=by
 rcases h.blocks k o ho with (e|⟨e,cs,q,hq,hq2⟩)|e
 ·exact absurd e h1
 ·rcases h2 with h2|h2
  ·omega
  exact absurd hq2 (h2 cs q hq)
 exact e
theorem kg.still {B:Nat} (h:kg n G T A C) (hG:∀k,G k→k<B):Still B A C :=
 ⟨h.size,fun k o hB ho hc=>h.keep ho (fun e=>by have:=hG k e;omega) (.inr (fun cs q e=>by rw[e] at hc;cases hc))⟩
theorem kg.kp {n0:Nat} {S:Nat→Prop} (h:kg n G T A C) (hn:n0≤n) (hG:∀k,G k→n0≤k) (h0:n0≤A.heap.size) (hS:∀k,S k→¬G k∧k<n∧k<A.heap.size) (hT:¬T 3) (hg:∀k,G k→∀cs,A.heap[k]?≠some (.cells cs 3 (0,0))):KpR n0 S A C :=
 ⟨h.low hn hG h0 (Below.refl _ _),fun k hk=>by
  obtain⟨h1,h2,h3⟩:=hS k hk;have h4:=Array.getElem?_eq_getElem h3;rw[h4]
  exact h.keep h4 h1 (.inl h2),fun k cs ho=>h.keep ho (fun e=>hg k e cs ho) (.inr (fun cs2 q e=>by injection e with _ e;rw[← e];exact hT))⟩
end
theorem jO {α:Type} {d:Kd α} {e base:Nat} {ok:Nat→Prop} {W:World} {v:Value} {xs:List α} {k:Nat} {o:Obj} (h:d.R e W base ok v xs) (ho:W.heap[k]?=some o) (hne:∀cells,o≠.cells cells e (0,0)):some k≠v.ownBlock:=fun he=>by
 obtain⟨_,inner,ho2,_⟩:=h;obtain⟨cells,hc⟩:=mY ho2 k he.symm;rw[hc] at ho;exact hne cells (Option.some.inj ho).symm
theorem iB {α:Type} {d:Kd α} {e base:Nat} {ok:Nat→Prop} {w:World} {v:Value} {xs:List α} (h:d.R e w base ok v xs):∃A n c,v=.slice A n c:=by
 obtain⟨A,c,h⟩:=Kd.bG h;exact⟨A,_,c,h⟩
abbrev qF:=Vu
def gZ (most:Int):Int→Int→List Ru→Option Int
 | _,all,[]=>some all
 | last,all,r::l=>if r.f0≤last∨r.f1≤r.f0∨most<r.f1 then none else gZ most r.f1 (all+(r.f1 - r.f0)) l
def jm (l:List Ru) (most:Int):Option Int:=gZ most (-1) 0 l
def gJ (x:It):Option Int:=if x.f3<0∨8459264<x.f3 then none else jm x.f4 ((x.f3+511) / 512)
def zB (rows:List Ru) (size:Int):Int:=match rows.getLast? with
 | none=>0
 | some r=>r.f1*512 - size
def lZ (rows:List Ru) (data:List Int) (size:Int):Bool:=if zB rows size≤0 then true else (data.drop (data.length - (zB rows size).toNat)).all fun n=>decide (n=0)
def gU:List Ru→List Ru→Bool
 | [],_=>true
 | r::l,o=>match o.dropWhile (fun q=>decide (q.f1<r.f1)) with
  | []=>false
  | q::o'=>if r.f0<q.f0 then false else gU l (q::o')
def fZ (s:ByteArray):Bool:=decide (s.size≤1023) && (ig s && (dQ s).all gH)
def CS (s:ByteArray):ByteArray:=fV 47 0 s
def YK (a b:ByteArray):Bool:=Op.bytesLess a.toList b.toList
def jH (x:It):Bool :=
 if x.f0=1 then (match gJ x with
  | none=>false
  | some all=>decide (x.f2.size=0) && (decide ((x.f5.length:Int)=all*512) && lZ x.f4 x.f5 x.f3))
 else if x.f0=2 then iQ x && decide (x.f2.size=0)
 else if x.f0=3 then iQ x && (decide (x.f2.size≠0) && (decide (x.f2.size≤255) && decide (Lib.indexByte (bs x.f2) 0<0)))
 else if x.f0=4 then iQ x && (fZ x.f2 && YK (CS x.f2) (CS x.f1))
 else false
def kL (c:qF):Bool :=
 match gJ c.f1 with
 | none=>false
 | some _=>if c.f1.f0≠1∨c.f1.f2.size≠0 then false else
  match jm c.f2 16522 with
  | none=>false
  | some all=>gU c.f2 c.f1.f4 && (decide ((c.f1.f5.length:Int)=all*512) && lZ c.f2 c.f1.f5 c.f1.f3)
def lQ (c:qF):Bool :=
 if c.f0=1 then decide (c.f2.length=0) && (decide (c.f1.f0=0) && (decide (c.f1.f3=0) && (decide (c.f1.f2.size=0) && (decide (c.f1.f4.length=0) && decide (c.f1.f5.length=0)))))
 else if c.f0=2 then decide (c.f2.length=0) && jH c.f1
 else if c.f0=3 then kL c
 else false
def gK:ByteArray→List qF→Bool
 | _,[]=>true
 | last,c::l=>fZ c.f1.f1 && (YK last (CS c.f1.f1) && (lQ c && gK (CS c.f1.f1) l))
def sU (b0 g0:Int) (l:List qF):Bool:=decide (0≤b0) && (decide (b0≤4294967295) && (decide (0≤g0) && (decide (g0≤4294967295) && gK ⟨#[]⟩ l)))
def jI (s:ByteArray):List Int:=leB 2 s.size++bytesOf s
def jP (l:List Ru):List Int:=leB 4 l.length++iy l
def rE (c:qF):List Int :=
 leB 1 c.f0++(if c.f0=1 then jI c.f1.f1 else if c.f0=2 then eF c.f1 else if c.f0=3 then jI c.f1.f1++leB 8 c.f1.f3++jP c.f1.f4++jP c.f2++c.f1.f5 else [])
def iX:List Int:=[118,108,112,97,116,99,104,1]
def kZ (n:Int):List Int→List qF→List Int × Int
 | out,[]=>(jM out n,0)
 | out,c::l=>if (out++rE c).length+9 > 16777216 then ([],7) else kZ n (out++rE c) l
def iA (b0 g0:Int) (l:List qF):List Int × Int :=
 if 8192<l.length then ([],7) else if sU b0 g0 l=true then kZ l.length (iX++leB 4 b0++leB 4 g0) l else ([],180)
structure uH (c:qF):Prop where
 i:Fit c.f1
 s:c.f2.length≤140737488351232
end Go.Proofs.YtknihldkhedpkaaGreatDoor
end
section
namespace Go.Proofs.YtknihldkhedpkaaGreatDoor.Two
open Go.RowKit Go.Lib
open Go.Proofs.YtknihldkhedpkaaGreatDoorW.PrintWords Go.Proofs.YtknihldkhedpkaaGreatDoorW.PrintLast Go.Proofs.YtknihldkhedpkaaGreatDoor.PT
abbrev Rd:=ByteArray × Option It × Option It
def fI (L:Nat→List It):Nat→(Nat→Nat)→List Rd
 | 0,_=>[]
 | n+1,p=>match ko L p 2 with
  | none=>[]
  | some k=>(k,fG L p k 0,fG L p k 1)::fI L n (fO L p k)
def kE (L:Nat→List It) (p:Nat→Nat):Nat:=((L 0).length - p 0)+((L 1).length - p 1)
theorem vN {L:Nat→List It} {p:Nat→Nat} {k:ByteArray} (h:ko L p 2=some k):kE L (fO L p k)<kE L p:=by
 obtain⟨j,x,hj,h1,h2⟩:=sG h
 have hm:∀i,p i≤fO L p k i:=fun i=>by unfold fO;split <;> omega
 have hlt:p j<(L j).length:=by
  rcases Nat.lt_or_ge (p j) (L j).length with h|h
  ·exact h
  rw[List.getElem?_eq_none h] at h1;cases h1
 have hn:fO L p k j=p j+1:=by
  unfold fO fG;rw[h1];dsimp only;subst h2;simp
 have h0:=hm 0;have h1':=hm 1;unfold kE
 rcases (show j=0∨j=1 by omega) with rfl|rfl <;> omega
structure oG where
 key:ByteArray
 g:Nat
 a:Option It
 b:Option It
def oG.rd (x:oG):Rd:=(x.key,x.a,x.b)
def encR (x:oG):Array Value:=#[.string x.key,.slice (some ⟨x.g,0,none⟩) 2 2]
def Sd (rs:List Rd) (w0:World) (pre:List oG) (x:oG) (W:World):Prop :=
 (∃rest,rs=pre.map oG.rd++x.rd::rest)∧∃p0 p1,W.heap[x.g]?=some (.cells #[p0,p1] 95 (0,0))∧OI w0 p0 x.a∧OI w0 p1 x.b
structure Am (L:Nat→List It) (A:Nat→Option Addr) (c:Nat→Nat) (w0:World) (b1 b2 br:Nat) (wx:World):Prop where
 low:Below w0.heap.size w0 wx
 x1:wx.heap[b1]?=some (.cells #[.func (.func 51) #[] #[]] 93 (0,0))
 x2:wx.heap[b2]?=some (.cells #[.slice (some ⟨br,0,none⟩) 2 2] 75 (0,0))
 xr:wx.heap[br]?=some (.cells #[.slice (A 0) (L 0).length (c 0),.slice (A 1) (L 1).length (c 1)] 25 (0,0))
section
variable {L : Nat → List It} {A : Nat → Option Addr} {c : Nat → Nat} {w0 : World} {b1 b2 br : Nat} {wx wy : World}
theorem Am.below (h:Am L A c w0 b1 b2 br wx) (hb:Below wx.heap.size wx wy):Am L A c w0 b1 b2 br wy :=
 ⟨h.low.trans (hb.mono h.low.size),aG h.x1 hb,aG h.x2 hb,aG h.xr hb⟩
theorem Am.st (h:Am L A c w0 b1 b2 br wx) {B:Nat} (hs:zl B wx wy) (h0:w0.heap.size≤B) (h1:b1<B) (h2:b2<B) (h3:br<B):Am L A c w0 b1 b2 br wy :=
 ⟨hs.low h0 h.low (Nat.le_refl _),hs.keep h.x1 h1,hs.keep h.x2 h2,hs.keep h.xr h3⟩
theorem Am.kp (h:Am L A c w0 b1 b2 br wx) (hk:KpR w0.heap.size (fun k=>k=b1∨k=b2∨k=br) wx wy):Am L A c w0 b1 b2 br wy :=
 ⟨h.low.trans hk.low,(hk.same _ (.inl rfl)).trans h.x1,(hk.same _ (.inr (.inl rfl))).trans h.x2,(hk.same _ (.inr (.inr rfl))).trans h.xr⟩
end
end Go.Proofs.YtknihldkhedpkaaGreatDoor.Two
end
