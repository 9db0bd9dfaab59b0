import Derived.Test.YtknihldkhedpkaaGreatDoorDDG8
import Derived.Deep.RegionLaw
import Derived.Test.YtknihldkhedpkaaGreatDoorDDG7
import Derived.Test.YtknihldkhedpkaaGreatDoorDDG1
import Derived.Test.YtknihldkhedpkaaGreatDoorDDG6
set_option linter.all false
set_option maxHeartbeats 16000000
set_option maxRecDepth 100000
section
namespace Go.Proofs.YtknihldkhedpkaaGreatDoor
open Go.RowKit Go.Lib
open Go.Proofs.YtknihldkhedpkaaGreatDoorW.PrintWords Go.Proofs.YtknihldkhedpkaaGreatDoorW.PrintLast Go.Proofs.YtknihldkhedpkaaGreatDoor.PT
section
variable {P : Program} {ops : Array Oper} {o : Oper} {a : Act} {Q : Exit → Act → World → Prop} {K : Act → World → Prop} {E : Prop}
theorem p9 {w0 W:World} (k:IntKind) (base:Nat) (hgd:o.guard=none) (s x:Operand) (t e:TypeId) (bytes:Nat)
  (ho:o.op=.call { callee:=.builtin .append,args:=#[s,x],argTypes:=#[t,t] })
  (ht:P.underlying t=some (.slice e)) (hinfo:(P.info? e).map (fun i=>(i.zero,i.size,i.bytes))=some (some (.int k 0),1,bytes)) (hb0:0<bytes)
  (v:Value) (xs ys:List Int) (A:Option Addr) (m c:Nat) (ok:Nat→Prop) (hs:a.eval s=v) (hx:a.eval x=.slice A m c) (hfresh:∀k,W.heap.size≤k→ok k)
  (HO:(Kd.int k).R e W base ok v xs) (HR:(Kd.int k).C W A m ys) (HB:Below base w0 W) (hbase:base≤W.heap.size) (hl:(xs.length+m)*bytes≤140737488355328)
  (h:∀v1 w1,(Kd.int k).R e w1 base ok v1 (xs++ys)→Below base w0 w1→W.grownBy w1 v.ownBlock→(v1.ownBlock=v.ownBlock∨∃b,v1.ownBlock=some b∧W.heap.size≤b)→K (a.put o.dst v1) w1) :
  if Region.wanted o (yielded ops a.tmps)=true then Oper.wp P o a W K Q else E:=by
 obtain⟨i0,hi,hzz⟩:=Option.map_eq_some_iff.1 hinfo;simp only[Prod.mk.injEq] at hzz;obtain⟨hz0,hz1,hz2⟩:=hzz;have hm:ys.length=m:=HR.1;have zP:W.ownsRow base e 1 v xs.length (encs (Value.int k) xs):=Kd.xW HO;have HR1:jB (Value.int k) (0:Int) W A m ys:=Kd.sD (enc:=Value.int k) (d:=(0:Int)) (h1:=fun _=>rfl) HR;have hlen:xs.length+m≤140737488355328:=Nat.le_trans (Nat.le_mul_of_pos_right _ hb0) hl
 have hrun:∃v1 w1,(Builtin.append_ #[t,t] o.type #[v,.slice A m c]).run P W=.ok v1 w1∧w1.ownsRow base e 1 v1 (xs++ys).length (encs (Value.int k) (xs++ys))∧W.grownBy w1 v.ownBlock∧(v1.ownBlock=v.ownBlock∨v1.ownBlock=some W.heap.size):=by
  rcases A with _|ad
  ·have h0:m=0:=by
    rcases Nat.eq_zero_or_pos m with h0|h0
    ·exact h0
    obtain⟨ad,h,_⟩:=HR1.2.2 h0;cases h
   subst h0;obtain rfl:ys=[]:=List.eq_nil_of_length_eq_zero hm;refine⟨v,W,?_,by simpa using zP,World.grownBy.refl W _,.inl rfl⟩
   rcases zP.2 with⟨rfl,hn⟩|⟨g,cap,cur,rfl,_,_,hnc,_⟩
   ·simp[Builtin.append_,run_underlying ht,sizeOf,typeInfo,hi,Builtin.lenOf,Builtin.firstCells]
   simp[Builtin.append_,run_underlying ht,sizeOf,typeInfo,hi,Builtin.lenOf,Builtin.firstCells,hnc,storeCells]
  have hcells:∀j u,(encs (Value.int k) ys)[j]?=some u→W.cell? (ad.add j)=some u:=by
   intro j u hu
   have hj:j<ys.length:=by
    rcases Nat.lt_or_ge j ys.length with h|h
    ·exact h
    simp[encs,List.getElem?_eq_none h] at hu
   obtain⟨ad',h',hc⟩:=HR1.2.2 aj
   injection h' with h'
   subst h';rw[Iq (d:=(0:Int)) ys j hj] at hu;rw[← hu];exact hc j aj
  obtain⟨v1,w1,hr,h2,h3,_,h5⟩:=run_append_own_at (P:=P) W base t o.type e i0 (.int k 0) 1 bytes ht hi hz0 hz1 hz2 rfl aj v xs.length (encs (Value.int k) xs) zP ad m c (encs (Value.int k) ys) (by simp[encs,hm]) hcells
   (by intro u hu;simp only[encs,List.mem_map] at hu;obtain⟨q,_,rfl⟩:=hu;rfl) (by simp only[maxLen];omega) hl hbase
  exact⟨v1,w1,hr,by simpa [encs,hm] using h2,h3,h5⟩
 obtain⟨v1,w1,hr,hown,hg,hat⟩:=hrun
 have hw:Region.wanted o (yielded ops a.tmps)=true:=by simp[Region.wanted,hgd]
 rw[if_pos hw];unfold Oper.wp execOp;simp only[ho,resolve,invoke,builtin,Sem.run_bind,Sem.run_pure,Result.andThen_ok,List.map_toArray,List.map_cons,List.map_nil,hs,hx,hr]
 have hok:∀k,v1.ownBlock=some k→ok k:=fun j hj=>by
  rcases hat with hat|hat
  ·exact HO.1 j (hat▸hj)
  rw[hat] at hj
  injection hj with hj
  exact hfresh j aj
 refine h v1 w1 (Kd.qm hown hok) (HB.grown hg hbase (pO zP)) hg ?_
 rcases hat with hat|hat
 ·exact .inl hat
 exact .inr ⟨_,hat,Nat.le_refl _⟩
end
def Ps (B:Nat) (w:World) (g:Nat) (out:List Int) (n:Int):Prop:=(out=jA∧∃b,Pf B w g b n)∨∃v,Pk B w g v out n
theorem Ps.below {B g:Nat} {w w1:World} {out:List Int} {n:Int} (H:Ps B w g out n) (hb:Below w.heap.size w w1):Ps B w1 g out n:=by
 rcases H with⟨ho,b,H⟩|⟨v,H⟩
 ·exact .inl ⟨ho,b,H.below hb⟩
 exact .inr ⟨v,H.below hb⟩
theorem Ps.low {B g:Nat} {w:World} {out:List Int} {n:Int} (H:Ps B w g out n):B≤g:=by
 rcases H with⟨_,b,H⟩|⟨v,H⟩
 ·exact H.low
 exact H.low
theorem Ps.blk {B g:Nat} {w:World} {out:List Int} {n:Int} (H:Ps B w g out n):∃v,w.heap[g]?=some (.cells #[v,.int .i64 n] 128 (0,0)):=by
 rcases H with⟨_,b,H⟩|⟨v,H⟩
 ·exact⟨_,H.blk⟩
 exact⟨_,H.blk⟩
theorem Ps.count {B g:Nat} {w:World} {out:List Int} {n:Int} (H:Ps B w g out n):w.cell? ⟨g,1,none⟩=some (.int .i64 n)∧w.frozen? ⟨g,1,none⟩=false:=by
 obtain⟨v,h⟩:=H.blk;exact⟨by rw[ak h];rfl,ay h 1⟩
theorem Ps.bump {B g:Nat} {w:World} {out:List Int} {n:Int} (H:Ps B w g out n) (n1:Int):Ps B (w.setCell ⟨g,1,none⟩ (.int .i64 n1)) g out n1:=by
 rcases H with⟨ho,b,H⟩|⟨v,H⟩
 ·refine .inl ⟨ho,b,⟨by have:=gB H.blk 1 (.int .i64 n1);simpa using this,?_,H.low⟩⟩
  have hne:g≠b:=fun e=>by
   have h1:=H.blk;rw[e,H.arr] at h1
   injection h1 with h1
   injection h1 with _ h1
   exact absurd h1 aH
  exact (Below.heap_setCell w ⟨g,1,none⟩ _ b (fun e=>hne e.symm)).trans H.arr
 exact .inr ⟨v,⟨by have:=gB H.blk 1 (.int .i64 n1);simpa using this,Kd.oK H.row H.blk (by intro q hq;simp[Kd.int,Kd.scalar] at hq;subst hq;decide) 1 _,H.low⟩⟩
theorem Uv (w0 w:World) (g:Nat) (out:List Int) (n x:Int) (H:Ps w0.heap.size w g out n) (hb:Below w0.heap.size w0 w) (hl:out.length≤1099511627776) :
  Calls Tryz.prog 118 #[.pointer (some ⟨g,0,none⟩),.int .i64 x,.int .i64 1] w fun e w'=>e=.returned (.tuple #[])∧(∃v',Pk w0.heap.size w' g v' (out++leB 1 x) n)∧Below w0.heap.size w0 w'∧Fr g w w':=by
 rcases H with⟨rfl,b,H⟩|⟨v,H⟩
 ·exact VH w0 w g b n x H hb
 exact tO w0 w g v out n x 1 H hb aH hl
def gQ (l:List dh):List Int:=l.flatMap fun r=>leB 4 r.f0++leB 4 r.f1
def fA (x:kV):List Int :=
 leB 1 x.f0++leB 2 x.f1.size++bytesOf x.f1 ++
  (if x.f0=1 then leB 8 x.f3++leB 4 x.f4.length++gQ x.f4++x.f5 else if x.f0=3∨x.f0=4 then leB 2 x.f2.size++bytesOf x.f2 else [])
def ajU (x:kV) (A4:Option Addr) (c4:Nat) (A5:Option Addr) (c5:Nat):Array Value:=#[.int .i64 x.f0,.string x.f1,.string x.f2,.int .i64 x.f3,.slice A4 x.f4.length c4,.slice A5 x.f5.length c5]
structure Sm (x:kV):Prop where
 p:x.f1.size≤1048576
 t:x.f2.size≤1048576
 r:x.f4.length≤1048576
 d:x.f5.length≤1073741824
theorem acB (w0 w:World) (g:Nat) (out:List Int) (n:Int) (x:kV) (A4:Option Addr) (c4:Nat) (A5:Option Addr) (c5:Nat) (H:Ps w0.heap.size w g out n) (hb:Below w0.heap.size w0 w) (hl:out.length≤1073741824) (hs:Sm x) (hn:0≤n) (hn2:n≤1048576)
  (h4:Kd.C dw w0 A4 x.f4.length x.f4) (h5:Kd.C (Kd.int .u8) w0 A5 x.f5.length x.f5) (l4:x.f4.length≤c4) (l5:x.f5.length≤c5) :
  Calls Tryz.prog 85 #[.pointer (some ⟨g,0,none⟩),.agg #[.int .i64 x.f0,.string x.f1,.string x.f2,.int .i64 x.f3,.slice A4 x.f4.length c4,.slice A5 x.f5.length c5]] w fun e w'=>e=.returned (.tuple #[])∧(∃v',Pk w0.heap.size w' g v' (out++fA x) (n+1))∧Below w0.heap.size w0 w':=by
 obtain⟨X,hX⟩:∃X,ajU x A4 c4 A5 c5=X:=⟨_,rfl⟩
 have H1:=(H.below ((Below.refl w.heap.size w).alloc (Nat.le_refl _) (.cells X 29)))
 have hbk:=bF w (.cells X 29);have hb1:=hb.alloc hb.size (.cells X 29)
 have hgn:w.heap.size≠g:=by
  obtain⟨v,h⟩:=H.blk;have:=bG h;omega
 rw[← hX] at H1 hbk hb1;unfold ajU at H1 hbk hb1;obtain⟨c1,f1⟩:=H1.count;have H2:=ah.mk (H1.bump (n+1));have HB2:=ah.mk (hb1.setCell (p:=⟨g,1,none⟩) H.low (.int .i64 (n+1)));have jG:=ah.mk ((Below.heap_setCell _ ⟨g,1,none⟩ (.int .i64 (n+1)) _ hgn).trans hbk);have HS:=ah.mk hs;have HR4:=ah.mk h4;have nE:=ah.mk h5;have hl5:=hs.p;clear H H1 hb hb1 hbk hs h4 h5 hX
 go_enter Tryz.func85,Tryz.ntmps85
 go_wp2_with fail
 refine (Uv w0 _ g out (n+1) x.f0 H2.out HB2.out aj).mono ?_;rintro e w1 ⟨rfl,⟨v1,h1⟩,hb1,hf1⟩;have wT:=ah.mk h1;have HB1:=ah.mk hb1;have hk1:=hf1.cell jG.out hgn aH
 have d0:w1.cell? ⟨w.heap.size,0,none⟩=some (.int .i64 x.f0):=by rw[ak hk1];rfl
 have d1:w1.cell? ⟨w.heap.size,1,none⟩=some (.string x.f1):=by rw[ak hk1];rfl
 have jH:=ah.mk hk1;have z1:=bG hk1
 have hl1:(out++leB 1 x.f0).length=out.length+1:=by rw[List.length_append,aU]
 obtain⟨o1,ho1⟩:∃o,out++leB 1 x.f0=o:=⟨_,rfl⟩
 rw[ho1] at hl1 wT;have zP:=ah.mk ho1
 have hle1:o1.length≤1073741825:=by omega
 clear h1 hb1 hf1 hk1 H2 HB2 jG hl1 ho1 c1 f1
 go_wp2_with fail
 refine (Oq w0 w1 g v1 o1 (n+1) x.f1 wT.out HB1.out aj aj).mono ?_;rintro e w2 ⟨rfl,⟨v2,h2⟩,hb2,hf2⟩;have wS:=ah.mk h2;have HB2:=ah.mk hb2;have hk2:=hf2.cell jH.out hgn aH
 have e0:w2.cell? ⟨w.heap.size,0,none⟩=some (.int .i64 x.f0):=by rw[ak hk2];rfl
 have e2:w2.cell? ⟨w.heap.size,2,none⟩=some (.string x.f2):=by rw[ak hk2];rfl
 have e3:w2.cell? ⟨w.heap.size,3,none⟩=some (.int .i64 x.f3):=by rw[ak hk2];rfl
 have jG:=ah.mk hk2;have z2:=bG hk2
 have hl2:(o1++leB 2 x.f1.size++bytesOf x.f1).length=o1.length+2+x.f1.size:=by rw[List.length_append,List.length_append,aU,Go.Proofs.YtknihldkhedpkaaGreatDoorW.PrintWords.bytesOf_length]
 obtain⟨o2,ho2⟩:∃o,o1++leB 2 (x.f1.size:Int)++bytesOf x.f1=o:=⟨_,rfl⟩
 rw[ho2] at hl2 wS;have yS:=ah.mk (show out++leB 1 x.f0++leB 2 (x.f1.size:Int)++bytesOf x.f1=o2 by rw[zP.out];exact ho2)
 have hle2:o2.length≤1075838978:=by omega
 clear h2 hb2 hf2 hk2 wT HB1 jH hl2 ho2 hle1 zP d0 d1 z1;by_cases k1:x.f0=1
 ·have t1:(x.f0 == 1)=true:=beq_iff_eq.2 k1;have HK:=ah.mk k1;clear k1
  go_wp2_with fail
  refine (tO w0 w2 g v2 o2 (n+1) x.f3 8 wS.out HB2.out aH aj).mono ?_;rintro e w3 ⟨rfl,⟨v3,h3⟩,hb3,hf3⟩;have OJ:=ah.mk h3;have HB3:=ah.mk hb3;have hk3:=hf3.cell jG.out hgn aH
  have g4:w3.cell? ⟨w.heap.size,4,none⟩=some (.slice A4 x.f4.length c4):=by rw[ak hk3];rfl
  have ug:=ah.mk hk3;have z3:=bG hk3
  have hl3:(o2++leB 8 x.f3).length=o2.length+8:=by rw[List.length_append,aU]
  obtain⟨o3,ho3⟩:∃o,o2++leB 8 x.f3=o:=⟨_,rfl⟩
  rw[ho3] at hl3 OJ;have Jr:=ah.mk ho3
  have hle3:o3.length≤1075838986:=by omega
  clear h3 hb3 hf3 hk3 wS HB2 jG hl3 ho3 hle2 e0 e2 e3 z2
  go_wp2_with fail
  refine (tO w0 w3 g v3 o3 (n+1) x.f4.length 4 OJ.out HB3.out aH aj).mono ?_;rintro e w4 ⟨rfl,⟨v4,h4⟩,hb4,E8⟩;have MP:=ah.mk h4;have iM:=ah.mk hb4;have hk4:=E8.cell ug.out hgn aH;have Fa:=ah.mk hk4
  have q4:w4.cell? ⟨w.heap.size,4,none⟩=some (.slice A4 x.f4.length c4):=by rw[ak hk4];rfl
  have z4:=bG hk4
  have hl4:(o3++leB 4 (x.f4.length:Int)).length=o3.length+4:=by rw[List.length_append,aU]
  obtain⟨o4,pV⟩:∃o,o3++leB 4 (x.f4.length:Int)=o:=⟨_,rfl⟩
  rw[pV] at hl4 MP;have Di:=ah.mk pV
  have auo:o4.length≤1075838990:=by omega
  clear h4 hb4 E8 hk4 OJ HB3 ug hl4 pV hle3 g4 z3;have HR:=ah.mk (Kd.aC HR4.out iM.out);have aup:=HS.out.r
  go_wp2_with fail
  go_loopg [37] x.f4.length (fun gk s37 wx=>∃(i:Nat) (vi:Value) (oi:List Int),i+gk=x.f4.length∧s37=.int .i64 i∧ah (o4++gQ (x.f4.take i)=oi)∧oi.length≤1075838990+8*i∧ah (Pk w0.heap.size wx g vi oi (n+1))∧ah (Below w0.heap.size w0 wx)∧ah (wx.heap[w.heap.size]?=w4.heap[w.heap.size]?))
  case atStart=>exact⟨0,v4,o4,by omega,rfl,⟨by simp[gQ]⟩,by omega,MP,iM,⟨rfl⟩⟩
  case round=>
   clear MP iM HR z4;obtain⟨i,vi,oi,hig,rfl,HOi,aur,WC,WE,HKi⟩:=hrel;have hki:=HKi.out.trans Fa.out;have zi:=bG hki;by_cases hi:i<x.f4.length
   ·have hd:decide ((i:Int)<(x.f4.length:Int))=true:=decide_eq_true aj;have hd2:decide (i<x.f4.length)=true:=decide_eq_true hi;obtain⟨ad,hA,r0,r1⟩:=dQ (Kd.aC HR4.out WE.out) (i:Int) aj aj;rw[Int.toNat_natCast] at r0 r1
    have hrd:aQ x.f4 (i:Int)=x.f4[i]'hi:=by simp[aQ,hi]
    obtain⟨ru,Mh⟩:∃r,x.f4[i]'hi=r:=⟨_,rfl⟩
    rw[hrd,Mh] at r0 r1
    have hnx:gQ (x.f4.take (i+1))=gQ (x.f4.take i)++(leB 4 ru.f0++leB 4 ru.f1):=by
     unfold gQ;rw[List.take_succ_eq_append_getElem hi,Mh,List.flatMap_append];simp
    have HNX:=ah.mk hnx;have HKI:=ah.mk hki;have HA:=ah.mk hA;subst hA;have hW1:=WC.out.below ((Below.refl wr.heap.size wr).alloc (Nat.le_refl _) (.cells #[.int .i64 ru.f0,.int .i64 ru.f1] 117));have hW2:=WE.out.alloc WE.out.size (.cells #[.int .i64 ru.f0,.int .i64 ru.f1] 117);have hW3:=bF wr (.cells #[.int .i64 ru.f0,.int .i64 ru.f1] 117);have Zk:=aN hki (.cells #[.int .i64 ru.f0,.int .i64 ru.f1] 117)
    have hgw:wr.heap.size≠g:=by have:=WC.out.lt;omega
    have HW1:=ah.mk hW1;have HW2:=ah.mk hW2;have HW3:=ah.mk hW3;have HW4:=ah.mk Zk;clear hrd Mh hnx hki hW1 hW2 hW3 Zk
    go_wp2_with fail
    refine (tO w0 _ g vi oi (n+1) ru.f0 4 HW1.out HW2.out aH aj).mono ?_;rintro e w5 ⟨rfl,⟨v5,h5⟩,hb5,Mi⟩;have MQ:=ah.mk h5;have kW:=ah.mk hb5;have hk5:=Mi.cell HW4.out hgn aH;have yR:=Mi.cell HW3.out hgw aH
    have y1:w5.cell? ⟨wr.heap.size,1,none⟩=some (.int .i64 ru.f1):=by rw[ak yR];rfl
    have KC:=ah.mk hk5;have z5:=bG yR
    have UL:(oi++leB 4 ru.f0).length=oi.length+4:=by rw[List.length_append,aU]
    obtain⟨o5,uY⟩:∃o,oi++leB 4 ru.f0=o:=⟨_,rfl⟩
    rw[uY] at UL MQ;have E9:=ah.mk uY
    have aeb:o5.length≤1075838994+8*i:=by omega
    clear h5 hb5 Mi hk5 yR HW1 HW2 HW3 HW4 UL uY r0 r1
    go_wp2_with fail
    refine (tO w0 w5 g v5 o5 (n+1) ru.f1 4 MQ.out kW.out aH aj).mono ?_;rintro e w6 ⟨rfl,⟨v6,h6⟩,hb6,MR⟩;have ZG:=ah.mk h6;have oD:=ah.mk hb6;have UN:=ah.mk (MR.cell KC.out hgn aH);clear h6 hb6 MR MQ kW KC y1 z5
    go_wp2_with fail
    go_roundg (x.f4.length - (i+1))
    case measure=>omega
    case rel=>exact⟨i+1,v6,o5++leB 4 ru.f1,by omega,by first|rfl|simp,⟨by rw[HNX.out,← E9.out,← HOi.out];simp only[List.append_assoc]⟩,by rw[List.length_append,aU];omega,ZG,oD,⟨UN.out.trans Fa.out.symm⟩⟩
   have hd:decide ((i:Int)<(x.f4.length:Int))=false:=decide_eq_false aj;have hd2:decide (i<x.f4.length)=false:=decide_eq_false hi;have hE:x.f4.take i=x.f4:=List.take_of_length_le aj
   have u4:wr.cell? ⟨w.heap.size,5,none⟩=some (.slice A5 x.f5.length c5):=by rw[ak hki];rfl
   have hfin:∀w' v',Pk w0.heap.size w' g v' (oi++x.f5) (n+1)→Pk w0.heap.size w' g v' (out++fA x) (n+1):=by
    intro w' v' h;unfold fA;rw[if_pos HK.out];rw[← HOi.out,hE,← Di.out,← Jr.out,← yS.out] at h
    simpa only[List.append_assoc] using h
   have HF:=ah.mk hfin;have HR:=ah.mk (Kd.aC nE.out WE.out);have hsd:=HS.out.d;have hsr:=HS.out.r;have c0:=WC.out.cell;obtain⟨A,c,hv⟩:=WC.out.slice;subst hv;clear hfin hE hki;have HD:=WC.out.below (w1:=wr.drew) (bf (Below.refl _ _));have Dj:=bf WE.out;have CW:=Kd.aC HR.out (bf (Below.refl wr.heap.size wr));have Pj:=ah.mk HD;have Dj:=ah.mk Dj;have CW:=ah.mk CW;clear HD HR
   go_wp2_with fail
   go_region_law ((refine p9 (w0:=w0) .u8 w0.heap.size rfl (.tmp 54) (.tmp 56) 27 5 1 rfl Tryz.underlying27 info5 aH (.slice A oi.length c) oi x.f5 A5 x.f5.length c5 (fun _=>True) rfl rfl (fun _ _=>trivial) Pj.out.row CW.out Dj.out Dj.out.size aj ?_;intro v7 w7 ho hb hg _h;have Eb:=ah.mk ho;have HG7:=ah.mk hg;have CX:=ah.mk hb;obtain⟨cF,fF,lF⟩:=Pj.out.cells hg;clear ho hb hg _h;obtain⟨A7,c7,hv7⟩:=Kd.bP Eb.out;subst hv7))
   all_goals (
    have hO:=Eb.out;simp only[List.length_append] at hO
    go_wp2_with fail
    go_end0
    exact⟨rfl,⟨_,HF.out _ _ (Pj.out.put HG7.out hO)⟩,CX.out.setCell WC.out.low _⟩)
 have t1:(x.f0 == 1)=false:=beq_eq_false_iff_ne.2 k1;by_cases k3:x.f0=3∨x.f0=4
 ·have t3:(x.f0 == 3)=true∨((x.f0 == 3)=false∧(x.f0 == 4)=true):=by
   by_cases h:x.f0=3
   ·exact .inl (beq_iff_eq.2 h)
   exact .inr ⟨beq_eq_false_iff_ne.2 h,beq_iff_eq.2 aj⟩
  have HK:=ah.mk k3;have HKn:=ah.mk k1;clear k1 k3
  have hfin:∀w' v',Pk w0.heap.size w' g v' (o2++leB 2 x.f2.size++bytesOf x.f2) (n+1)→Pk w0.heap.size w' g v' (out++fA x) (n+1):=by
   intro w' v' h;unfold fA;rw[if_neg HKn.out,if_pos HK.out];rw[← yS.out] at h
   simpa only[List.append_assoc] using h
  have HF:=ah.mk hfin;have hsz:=HS.out.t;clear hfin
  rcases t3 with t3|⟨t3,t4⟩
  all_goals (
   go_wp2_with fail
   refine (Oq w0 w2 g v2 o2 (n+1) x.f2 wS.out HB2.out aj aj).mono ?_;rintro e w3 ⟨rfl,⟨v3,h3⟩,hb3,hf3⟩;have OJ:=ah.mk h3;have HB3:=ah.mk hb3;clear h3 hb3 hf3
   go_wp2_with fail
   go_end0
   exact⟨rfl,⟨v3,HF.out _ _ OJ.out⟩,HB3.out⟩)
 have t3:(x.f0 == 3)=false:=beq_eq_false_iff_ne.2 aj;have t4:(x.f0 == 4)=false:=beq_eq_false_iff_ne.2 aj
 have hfin:Pk w0.heap.size w2 g v2 (out++fA x) (n+1):=by
  have h:=wS.out;unfold fA;rw[if_neg k1,if_neg k3,List.append_nil];rw[← yS.out] at h
  simpa only[List.append_assoc] using h
 have HF:=ah.mk hfin;clear k1 k3 hfin
 go_wp2_with fail
 go_end0
 exact⟨rfl,⟨v2,HF.out⟩,HB2.out⟩
def kP (out:List Int) (n:Int):List Int:=out++leB 1 0++leB 4 n++leB 4 (kQ (out++leB 1 0++leB 4 n))
theorem acC (w0 w:World) (g:Nat) (out:List Int) (n:Int) (H:Ps w0.heap.size w g out n) (hb:Below w0.heap.size w0 w) (hl:out.length≤1099511627000) (hwf:∀x∈out,0≤x∧x≤255) :
  Calls Tryz.prog 86 #[.pointer (some ⟨g,0,none⟩)] w fun e w'=>∃v',e=.returned v'∧Kd.R (Kd.int .u8) 5 w' w0.heap.size (fun _=>True) v' (kP out n)∧Below w0.heap.size w0 w':=by
 have HS:=ah.mk H;have HB:=ah.mk hb;have HW:=ah.mk hwf;clear H hb hwf
 go_enter Tryz.func86,Tryz.ntmps86
 go_wp2_with fail
 refine (Uv w0 _ g out n 0 HS.out HB.out aj).mono ?_;rintro e w1 ⟨rfl,⟨v1,h1⟩,hb1,hf1⟩;have wT:=ah.mk h1;have HB1:=ah.mk hb1
 have d1:w1.cell? ⟨g,1,none⟩=some (.int .i64 n):=by rw[ak h1.blk];rfl
 have hl1:(out++leB 1 0).length=out.length+1:=by rw[List.length_append,aU]
 obtain⟨o1,ho1⟩:∃o,out++leB 1 0=o:=⟨_,rfl⟩
 rw[ho1] at hl1 wT;have zP:=ah.mk ho1
 have hle1:o1.length≤1099511627001:=by omega
 clear h1 hb1 hf1 hl1 ho1
 go_wp2_with fail
 refine (tO w0 w1 g v1 o1 n n 4 wT.out HB1.out aH aj).mono ?_;rintro e w2 ⟨rfl,⟨v2,h2⟩,hb2,hf2⟩
 have hl2:(o1++leB 4 n).length=o1.length+4:=by rw[List.length_append,aU]
 have hw2:∀x∈o1++leB 4 n,0≤x∧x≤255:=by
  intro x hx
  rcases List.mem_append.1 hx with hx|hx
  ·rw[← zP.out] at hx
   rcases List.mem_append.1 hx with hx|hx
   ·exact HW.out x hx
   exact eP _ _ x hx
  exact eP _ _ x hx
 obtain⟨o2,ho2⟩:∃o,o1++leB 4 n=o:=⟨_,rfl⟩
 rw[ho2] at hl2 h2 hw2;have wS:=ah.mk h2;have HB2:=ah.mk hb2;have yS:=ah.mk (show out++leB 1 0++leB 4 n=o2 by rw[zP.out];exact ho2);have HW2:=ah.mk hw2
 have hle2:o2.length≤1099511627005:=by omega
 have c2:=h2.cell;obtain⟨A,c,e2,hcap,hread⟩:=Kd.sK h2.row;subst e2;have HR2:=ah.mk hread;clear h2 hb2 hf2 hl2 ho2 hw2 hread wT HB1 zP hle1 d1
 go_wp2_with fail
 refine (Sv A c o2 w2 HR2.out hcap HW2.out).mono ?_;rintro e w3 ⟨rfl,hb3⟩;have OJ:=ah.mk (wS.out.below hb3);have HB3:=ah.mk (HB2.out.trans (hb3.mono HB2.out.size));clear hb3 c2
 go_wp2_with fail
 refine (tO w0 w3 g _ o2 n (kQ o2) 4 OJ.out HB3.out aH aj).mono ?_;rintro e w4 ⟨rfl,⟨v4,h4⟩,hb4,E8⟩;have c4:=h4.cell;have MP:=ah.mk h4;have iM:=ah.mk hb4;clear h4 hb4 E8
 go_wp2_with fail
 go_ret
 refine⟨_,rfl,?_,iM.out⟩;unfold kP;rw[yS.out];exact MP.out.row
def nX:List Int→Nat→List It→List Int × Int
 | out,n,[]=>(kP out n,0)
 | out,n,x::l=>if (out++fA x).length+9 > 4194304 then ([],7) else nX (out++fA x) (n+1) l
def dI (l:List It):List Int × Int:=if 4096<l.length then ([],7) else if lZ l=true then nX jA 0 l else ([],150)
def rH (x:It):Bool:=decide (x.f1.size≤140737488351232) && decide (x.f2.size≤140737488351232) && decide (x.f4.length≤140737488351232) && decide (x.f5.length≤140737488351232) && x.f5.all fun n=>decide (0≤n) && decide (n≤255)
theorem zH {x:It} (h:rH x=true):Fit x:=by
 unfold rH at h;simp only[Bool.and_eq_true,decide_eq_true_eq,List.all_eq_true] at h;exact⟨h.1.1.1.1,h.1.1.1.2,h.1.1.2,h.1.2,h.2⟩
def lW.f (l0:List (kV)):Option (List Int × Int):=if l0.all rH=true then some (dI l0) else none
theorem Ir (s:ByteArray):∀b∈Go.Proofs.YtknihldkhedpkaaGreatDoorW.PrintWords.bytesOf s,0≤b∧b≤255:=by
 intro b hb;unfold Go.Proofs.YtknihldkhedpkaaGreatDoorW.PrintWords.bytesOf at hb;obtain⟨c,_,rfl⟩:=List.mem_map.1 hb;have:=c.toNat_lt;omega
theorem Y0 (l:List Ru):∀b∈gQ l,0≤b∧b≤255:=by
 intro b hb;unfold gQ at hb;obtain⟨r,_,hr⟩:=List.mem_flatMap.1 hb
 rcases List.mem_append.1 hr with h|h
 ·exact eP _ _ b h
 exact eP _ _ b h
theorem FJ {x:It} (h:Fit x):∀b∈fA x,0≤b∧b≤255:=by
 intro b hb;unfold fA at hb
 rcases List.mem_append.1 hb with hb|hb
 ·rcases List.mem_append.1 hb with hb|hb
  ·rcases List.mem_append.1 hb with hb|hb
   ·exact eP _ _ b hb
   exact eP _ _ b hb
  exact Ir _ b hb
 split at hb
 ·rcases List.mem_append.1 hb with hb|hb
  ·rcases List.mem_append.1 hb with hb|hb
   ·rcases List.mem_append.1 hb with hb|hb
    ·exact eP _ _ b hb
    exact eP _ _ b hb
   exact Y0 _ b hb
  exact h.b b hb
 split at hb
 ·rcases List.mem_append.1 hb with hb|hb
  ·exact eP _ _ b hb
  exact Ir _ b hb
 cases hb
theorem uL (l:List Ru):(gQ l).length=8*l.length:=by
 unfold gQ;rw[List.length_flatMap]
 induction l with
 | nil=>rfl
 | cons a l ih=>rw[List.map_cons,List.sum_cons,ih,List.length_append,aU,aU,List.length_cons];omega
theorem VI {x:It} (h:Sm x):(fA x).length≤1099511627776:=by
 have h1:=h.p;have h2:=h.t;have h3:=h.r;have h4:=h.d;unfold fA;split
 ·simp only[List.length_append,aU,Go.Proofs.YtknihldkhedpkaaGreatDoorW.PrintWords.bytesOf_length,uL];omega
 split
 ·simp only[List.length_append,aU,Go.Proofs.YtknihldkhedpkaaGreatDoorW.PrintWords.bytesOf_length];omega
 simp only[List.length_append,aU,Go.Proofs.YtknihldkhedpkaaGreatDoorW.PrintWords.bytesOf_length,List.length_nil];omega
theorem Ou:∀{K:List (ByteArray × Int)} {p:ByteArray},om K p≠0→∃n,(p,n)∈K
 | [],_,h=>absurd rfl h
 | (q,n)::K,p,h=>by
  rw[om] at h;by_cases e:q=p
  ·subst e;exact⟨n,List.mem_cons_self⟩
  rw[if_neg e] at h;obtain⟨m,hm⟩:=Ou h;exact⟨m,List.mem_cons_of_mem _ hm⟩
theorem Ov {s:ByteArray} (h:(iW s).2=true):s.size≤1023:=by
 unfold iW at h;split at h
 ·rename_i hc;exact hc.1
 cases h
theorem L6 {K:List (ByteArray × Int)} {x:It} (hK:∀q∈K,q.1.size≤1023) (h:eT K x=true):x.f2.size≤1023∧x.f4.length≤16523∧x.f5.length≤8459776:=by
 have hbare:iy x=true→x.f4.length=0∧x.f5.length=0:=fun hb=>by
  unfold iy at hb;simp only[Bool.and_eq_true,decide_eq_true_eq] at hb;exact⟨hb.1.2,hb.2⟩
 unfold eT at h;split at h
 ·simp only[Bool.and_eq_true,decide_eq_true_eq] at h;have:=Cj h.2;omega
 split at h
 ·simp only[Bool.and_eq_true,decide_eq_true_eq] at h;have:=hbare h.1;omega
 split at h
 ·simp only[Bool.and_eq_true,decide_eq_true_eq] at h;have:=hbare h.1;omega
 split at h
 ·simp only[Bool.and_eq_true,decide_eq_true_eq] at h;have h0:=hbare h.1;obtain⟨n,hn⟩:=Ou (K:=K) (p:=x.f2) aj;have:=hK _ hn;simp only at this;omega
 cases h
theorem xU:∀(l:List It) (K:List (ByteArray × Int)) (b:Option (List ByteArray)),(∀q∈K,q.1.size≤1023)→gL K b l=true→∀x∈l,x.f1.size≤1023∧x.f2.size≤1023∧x.f4.length≤16523∧x.f5.length≤8459776
 | [],_,_,_,_=>fun x hx=>by cases hx
 | y::l,K,b,hK,h=>by
  rw[gL] at h;simp only[Bool.and_eq_true,decide_eq_true_eq] at h;obtain⟨⟨⟨⟨h1,h2⟩,h3⟩,h4⟩,h5⟩:=h;have hp:=Ov h1;have hi:=L6 hK h4;intro x hx
  rcases List.mem_cons.1 hx with rfl|hx
  ·exact⟨hp,hi⟩
  exact xU l _ _ (fun q hq=>by rcases List.mem_cons.1 hq with rfl|hq;exact hp;exact hK q hq) h5 x hx
theorem NW {l:List It} (h:lZ l=true):∀x∈l,Sm x:=fun x hx=>by
 have:=xU l _ _ (fun q hq=>by rcases List.mem_cons.1 hq with rfl|hq;decide;cases hq) h x hx;exact⟨by omega,by omega,by omega,by omega⟩
theorem lW.calls (A0:Option Addr) (c0:Nat) (l0:List (kV)) (r1:List Int) (r2:Int) (w:World) (hr0:Kd.C mV w A0 l0.length l0) (hc0:l0.length≤c0) (h:lW.f l0=some (r1,r2)) :
  Calls Tryz.prog 48 #[.slice A0 l0.length c0] w fun e w'=>∃wI:Value,e=.returned (.tuple #[wI,.int .i64 r2])∧Kd.R (Kd.int .u8) 5 w' w.heap.size (fun _=>True) wI r1∧Below w.heap.size w w':=by
 unfold lW.f at h;by_cases hfit:l0.all rH=true
 ·rw[if_pos hfit] at h;have hp:=Option.some.inj h
  have hfit:∀x∈l0,Fit x:=fun x hx=>zH (List.all_eq_true.1 hfit x hx)
  have HF:=ah.mk hfit;have HR:=ah.mk hr0;clear h hfit hr0;by_cases hbig:4096<l0.length
  ·have hb1:decide ((4096:Int)<(l0.length:Int))=true:=decide_eq_true aj;have hb2:decide (4096<l0.length)=true:=decide_eq_true hbig;unfold dI at hp;rw[if_pos hbig] at hp
   injection hp with e1 e2
   subst e1 e2
   go_enter Tryz.func48,Tryz.ntmps48
   go_wp2_with fail
   go_ret2
   exact⟨_,rfl,Kd.eD _ _ _ _ _,Below.refl _ _⟩
  have hb1:decide ((4096:Int)<(l0.length:Int))=false:=decide_eq_false aj;have hb2:decide (4096<l0.length)=false:=decide_eq_false hbig;unfold dI at hp;rw[if_neg hbig] at hp;have hrt:=VD A0 c0 l0 w HR.out hc0 HF.out aj
  obtain⟨rt,F8⟩:∃b,lZ l0=b:=⟨_,rfl⟩
  rw[F8] at hrt hp;have Zg:=ah.mk hrt;have Zh:=ah.mk F8;clear hrt F8
  cases rt with
  | false=>
   rw[if_neg aH] at hp
   injection hp with e1 e2
   subst e1 e2
   go_enter Tryz.func48,Tryz.ntmps48
   go_wp2_with fail
   refine Zg.out.mono ?_;rintro e w1 ⟨rfl,hb⟩;have HB:=ah.mk hb;clear hb
   go_wp2_with fail
   go_ret2
   exact⟨_,rfl,Kd.eD _ _ _ _ _,HB.out⟩
  | true=>
   rw[if_pos rfl] at hp;have HPP:=ah.mk hp;clear hp
   go_enter Tryz.func48,Tryz.ntmps48
   go_wp2_with fail
   refine Zg.out.mono ?_;rintro e w1 ⟨rfl,hb⟩;have HB:=ah.mk hb;clear hb
   go_wp2_with fail
   refine (Jc w1).mono ?_;rintro e w2 ⟨g,b,rfl,hpf,hb2⟩;have hge:w.heap.size≤w1.heap.size:=HB.out.size
   have ajV:Pf w.heap.size w2 g b 0:=⟨hpf.blk,hpf.arr,Nat.le_trans hge hpf.low⟩
   have HPF:=ah.mk (show Ps w.heap.size w2 g jA ((0:Nat):Int) from .inl ⟨rfl,b,ajV⟩);have HB2:=ah.mk (HB.out.trans (hb2.mono HB.out.size));clear hpf ajV hb2 hge HB
   go_wp2_with fail
   go_loopg [16] l0.length (fun gk s16 wx=>∃(i:Nat) (out:List Int),i+gk=l0.length∧s16=.int .i64 i∧out.length≤4194304∧ah (nX out i (l0.drop i)=(r1,r2))∧ah (Ps w.heap.size wx g out i)∧ah (Below w.heap.size w wx)∧ah (∀x∈out,0≤x∧x≤255))
   case atStart=>exact⟨0,jA,by omega,rfl,by decide,⟨by rw[List.drop_zero];exact HPP.out⟩,HPF,HB2,⟨by decide⟩⟩
   case round=>
    clear HPF HB2 HPP;obtain⟨i,out,hig,rfl,hlo,HG,HP,HB,HW⟩:=hrel;by_cases hi:i<l0.length
    ·have hd:decide ((i:Int)<(l0.length:Int))=true:=decide_eq_true aj;have hd2:decide (i<l0.length)=true:=decide_eq_true hi;obtain⟨ad,A4,c4,A5,c5,hA,r0,r1',r2',r3,r4,r5,l4,g4,l5,g5⟩:=jh HR.out (i:Int) aj aj;rw[Int.toNat_natCast] at r0 r1' r2' r3 r4 r5
     have hrd:aI l0 (i:Int)=l0[i]'hi:=by simp[aI,hi]
     have hmem:=List.getElem_mem hi;have ZC:=ah.mk (HF.out _ hmem);have HSx:=ah.mk (NW Zh.out _ hmem);have hg0:=HG.out;rw[List.drop_eq_getElem_cons hi] at hg0
     obtain⟨x,hx⟩:∃x,l0[i]'hi=x:=⟨_,rfl⟩
     rw[hrd,hx] at r0 r1' r2' r3 r4 r5 l4 g4 l5 g5;rw[hx] at hg0 ZC HSx;have HG:=ah.mk hg0;have IL:=ah.mk g4;have IQ:=ah.mk g5;have q0:=au HB.out r0;have q1:=au HB.out r1';have q2:=au HB.out r2';have q3:=au HB.out r3;have q4:=au HB.out r4;have q5:=au HB.out r5;have HA:=ah.mk hA;subst hA;clear hrd hx hg0 g4 g5 r0 r1' r2' r3 r4 r5 hmem;have HPB:=ah.mk (HP.out.below ((Below.refl wr.heap.size wr).alloc (Nat.le_refl _) (.cells #[.int .i64 x.f0,.string x.f1,.string x.f2,.int .i64 x.f3,.slice A4 x.f4.length c4,.slice A5 x.f5.length c5] 29)));have AQ:=ah.mk (HB.out.alloc HB.out.size (.cells #[.int .i64 x.f0,.string x.f1,.string x.f2,.int .i64 x.f3,.slice A4 x.f4.length c4,.slice A5 x.f5.length c5] 29));clear HP HB
     go_wp2_with fail
     refine (acB w _ g out (i:Int) x A4 c4 A5 c5 HPB.out AQ.out aj HSx.out aj aj IL.out IQ.out l4 l5).mono ?_;rintro e w3 ⟨rfl,⟨v3,h3⟩,hb3⟩;have hcell:=h3.cell
     obtain⟨o3,ho3⟩:∃o,out++fA x=o:=⟨_,rfl⟩
     have hw3:∀y∈out++fA x,0≤y∧y≤255:=by
      intro y hy
      rcases List.mem_append.1 hy with hy|hy
      ·exact HW.out y hy
      exact FJ ZC.out y hy
     rw[ho3] at h3 hw3;obtain⟨A3,c3,hv3⟩:=h3.slice;subst hv3;have OJ:=ah.mk h3;have HB3:=ah.mk hb3;have HW3:=ah.mk hw3;have Jr:=ah.mk ho3;have hg3:=h3.lt
     have hw64:wrap64 ((o3.length:Int)+9)=(o3.length:Int)+9:=by
      have h1:=VI HSx.out
      have h2:o3.length=out.length+(fA x).length:=by rw[← ho3,List.length_append]
      unfold wrap64;omega
     clear h3 hb3 hw3 HPB AQ;by_cases hlong:o3.length+9 > 4194304
     ·have hl1:decide ((4194304:Int)<(o3.length:Int)+9)=true:=decide_eq_true aj;have HLG:=ah.mk hlong;clear hlong ho3
      go_wp2_with fail
      go_ret2
      have h:=HG.out;rw[nX,Jr.out,if_pos HLG.out] at h
      injection h with e1 e2
      subst e1 e2;exact⟨_,rfl,Kd.eD _ _ _ _ _,HB3.out⟩
     have hl1:decide ((4194304:Int)<(o3.length:Int)+9)=false:=decide_eq_false aj;have HLG:=ah.mk hlong
     have hle3:o3.length≤4194304:=by omega
     clear hlong ho3
     go_wp2_with fail
     go_roundg (l0.length - (i+1))
     case measure=>omega
     case rel=>exact⟨i+1,o3,by omega,by first|rfl|simp,hle3,⟨by have h:=HG.out;rw[nX,Jr.out,if_neg HLG.out] at h;exact h⟩,⟨.inr ⟨_,OJ.out⟩⟩,HB3,HW3⟩
    have hd:decide ((i:Int)<(l0.length:Int))=false:=decide_eq_false aj;have hd2:decide (i<l0.length)=false:=decide_eq_false hi;have hE:l0.drop i=[]:=List.drop_of_length_le aj;have h:=HG.out;rw[hE,nX] at h;have HG:=ah.mk h;clear h hE
    go_wp2_with fail
    refine (acC w wr g out (i:Int) HP.out HB.out aj HW.out).mono ?_;rintro e w3 ⟨v3,rfl,h3,hb3⟩;have HR3:=ah.mk h3;have HB3:=ah.mk hb3;clear h3 hb3
    go_wp2_with fail
    go_ret2
    have h:=HG.out
    injection h with e1 e2
    subst e1 e2;exact⟨_,rfl,HR3.out,HB3.out⟩
 rw[if_neg hfit] at h;cases h
structure Kq (B:Nat) (A C:World):Prop where
 os:C.os=A.os
 tape:C.tape=A.tape
 output:C.output=A.output
 size:A.heap.size≤C.heap.size
 blocks:∀(k:Nat) (o:Obj),A.heap[k]?=some o→(k<B∨∃cs t,o=.cells cs t (0,0)∧t≠3∧t≠95)→C.heap[k]?=some o
theorem Kq.Yi {B:Nat} {A C:World} (h:ze B A C):Kq B A C:=⟨h.os,h.tape,h.output,h.size,fun k o ho hk=>by
 rcases h.blocks k (bG ho) with e|⟨hB,cs,cs',t,ht,e,e'⟩
 ·exact e.trans ho
 rcases hk with hk|⟨ds,t',rfl,h3,h5⟩
 ·omega
 rw[e] at ho
 injection ho with ho
 injection ho with _ ho
 subst ho
 rcases ht with rfl|rfl
 ·exact absurd rfl h3
 exact absurd rfl h5⟩
theorem Kq.Ah {B l:Nat} {A:World} {o o':Obj} (hl:B≤l) (ho:A.heap[l]?=some o) (hc:o.isCells=false):Kq B A (A.putObj l o') :=
 ⟨rfl,rfl,rfl,by simp[World.putObj],fun k p hp hk=>by
  by_cases e:k=l
  ·subst e
   rcases hk with hk|⟨cs,t,rfl,_⟩
   ·omega
   rw[hp] at ho
   injection ho with ho
   subst ho;cases hc
  exact (World.putObj_heap_other e).trans hp⟩
theorem Kq.below {B:Nat} {A C:World} (h:Below A.heap.size A C):Kq B A C:=⟨h.os,h.tape,h.output,h.size,fun k o ho _=>aJ ho h⟩
theorem Kq.low {B n:Nat} {w0 A C:World} (h:Kq B A C) (hn:n≤B) (hw:n≤w0.heap.size) (hb:Below n w0 A):Below n w0 C :=
 ⟨h.os.trans hb.os,h.tape.trans hb.tape,h.output.trans hb.output,Nat.le_trans hb.size h.size,fun k hk=>by
  have hlt:k<A.heap.size:=by have:=hb.size;omega
  rw[← hb.block k hk];have:=h.blocks k A.heap[k] (Array.getElem?_eq_getElem hlt) (.inl aj)
  rw[this,Array.getElem?_eq_getElem hlt]⟩
theorem Kq.row {α:Type} {d:Kd α} {e base B:Nat} {A C:World} {v:Value} {xs:List α} (h:Kq B A C) (hr:d.R e A base (fun _=>True) v xs) (ht:∀q,q∈e::d.E→q≠3∧q≠95):d.R e C base (fun _=>True) v xs :=
 Kd.dX (Kd.Ai (Kd.ig hr) (fun k hk=>by
  obtain⟨_,_,_,q,hq,cells,hc⟩:=hk;rw[hc]
  exact h.blocks k _ hc (.inr ⟨cells,q,rfl,(ht q hq).1,(ht q hq).2⟩))) (fun _ _=>trivial)
theorem Kq.ajg {α:Type} {d:Kd α} {e base B:Nat} {A C:World} {v:Value} {xs:List α} (h:Kq B A C) (hr:Kd.S d e A base (fun _=>True) v xs) (ht:∀q,q∈e::d.E→q≠3∧q≠95):Kd.S d e C base (fun _=>True) v xs :=
 Kd.vk (Kd.Y1 (Kd.L8 hr) (fun k hk=>by
  obtain⟨_,_,_,q,hq,cells,hc⟩:=hk;rw[hc]
  exact h.blocks k _ hc (.inr ⟨cells,q,rfl,(ht q hq).1,(ht q hq).2⟩))) (fun _ _=>trivial)
theorem N8 {B:Nat} {A C:World} (h:ze B A C):Still B A C:=⟨h.size,fun k o hB ho hc=>by
 rcases h.blocks k (bG ho) with e|⟨_,cs,cs',t,ht,e,e'⟩
 ·exact e.trans ho
 rw[e] at ho
 injection ho with ho
 subst ho
 cases hc⟩
theorem afz {n0 B:Nat} {S:Nat→Prop} {A C:World} {l:Nat} {o o1 p o2:Obj} (hn:n0≤B) (hS:∀k,S k→k<B) (hl:B≤l) (ho:A.heap[l]?=some o) (hc:o.isCells=false) (h:KpR n0 S (A.putObj l o1) C) (hp:C.heap[l]?=some p) (hpc:p.isCells=false):KpR n0 S A (C.putObj l o2):=by
 have hz:(A.putObj l o1).heap.size=A.heap.size:=by simp[World.putObj]
 have hz2:(C.putObj l o2).heap.size=C.heap.size:=by simp[World.putObj]
 refine⟨⟨h.low.os,h.low.tape,h.low.output,by have:=h.low.size;omega,fun k hk=>?_⟩,fun k hk=>?_,fun k cs hk=>?_⟩
 ·rw[World.putObj_heap_other aj,h.low.block k hk,World.putObj_heap_other aj]
 ·have:=hS k hk;rw[World.putObj_heap_other aj,h.same k hk,World.putObj_heap_other aj]
 have hne:k≠l:=fun e=>by
  rw[e,ho] at hk
  injection hk with hk
  subst hk;cases hc
 rw[World.putObj_heap_other hne];exact h.nums k cs ((World.putObj_heap_other hne).trans hk)
theorem xZ {L:Nat→List It} {p:Nat→Nat} {k:ByteArray} {j:Nat} {x:It} (h:fO L p k j=some x):x∈L j∧(gu x).toList=k.toList:=by
 unfold fO at h
 cases hx:(L j)[p j]? with
 | none=>rw[hx] at h;cases h
 | some y=>
  rw[hx] at h;dsimp only at h;split at h
  ·rename_i he;obtain rfl:=Option.some.inj h;exact⟨List.mem_of_getElem? hx,beq_iff_eq.1 he⟩
  cases h
theorem L9 (a b:UInt8) (l:List UInt8):(iR a b l).length=l.length:=by
 unfold iR;exact List.length_map _
theorem vZ (a b:UInt8) (s:ByteArray):(bY a b s).size=s.size:=by
 show (iR a b s.data.toList).toArray.size=s.data.size
 rw[List.size_toArray,L9,Array.length_toList]
theorem Ow {K:List (ByteArray × Int)}:∀{before:Option (List ByteArray)} {l:List It},gL K before l=true→∀x∈l,x.f1.size≤1023:=by
 intro before l
 induction l generalizing K before with
 | nil=>intro _ x hx;cases hx
 | cons a l ih=>
  intro h x hx;rw[gL] at h;simp only[Bool.and_eq_true] at h
  rcases List.mem_cons.1 hx with rfl|hx
  ·exact Ov h.1.1.1.1
  exact ih h.2 x hx
theorem iY {l:List It} (h:(dI l).2=0):l.length≤4096∧lZ l=true:=by
 unfold dI at h;split at h
 ·cases h
 split at h
 ·rename_i h1 h2;exact⟨by omega,h2⟩
 cases h
theorem Hy {l:List It} (h:(dI l).2=0):∀x∈l,x.f1.size≤1023:=Ow (iY h).2
theorem rA {n l:Nat} {w W:World} {o o':Obj} (hb:Below n w W) (hl:n≤l) (hw:n≤w.heap.size) (ho:W.heap[l]?=some o) (hc:o.isCells=false):Below n w (W.putObj l o') :=
 (Kq.Ah (B:=n) hl ho hc).low (Nat.le_refl _) hw hb
structure ng (n:Nat) (G T:Nat→Prop) (A C:World):Prop where
 os:C.os=A.os
 tape:C.tape=A.tape
 output:C.output=A.output
 size:A.heap.size≤C.heap.size
 blocks:∀(k:Nat) (o:Obj),A.heap[k]?=some o→(G k∨(n≤k∧∃cs q,o=.cells cs q (0,0)∧T q))∨C.heap[k]?=some o
section
variable {n : Nat} {G T : Nat → Prop} {A C D : World}
theorem ng.refl (A:World):ng n G T A A:=⟨rfl,rfl,rfl,Nat.le_refl _,fun _ _ h=>.inr h⟩
theorem ng.trans (h:ng n G T A C) (k:ng n G T C D):ng n G T A D :=
 ⟨k.os.trans h.os,k.tape.trans h.tape,k.output.trans h.output,Nat.le_trans h.size k.size,fun i o hi=>by
  rcases h.blocks i o hi with e|e
  ·exact .inl e
  exact k.blocks i o e⟩
theorem ng.below (h:Below A.heap.size A C):ng n G T A C:=⟨h.os,h.tape,h.output,h.size,fun k o ho=>.inr (aJ ho h)⟩
theorem ng.grown {α:Type} {d:Kd α} {e base:Nat} {ok:Nat→Prop} {v:Value} {xs:List α} (hr:d.R e A base ok v xs) (hn:n≤base) (he:T e) (hg:A.grownBy C v.ownBlock):ng n G T A C :=
 ⟨hg.os,hg.tape,hg.output,hg.size,fun k o ho=>by
  by_cases hk:some k=v.ownBlock
  ·obtain⟨_,inner,ho2,_⟩:=hr;obtain⟨cells,hc⟩:=mM ho2 k hk.symm;have:=pO ho2 k hk.symm;rw[hc] at ho
   injection ho with ho
   exact .inl (.inr ⟨by omega,cells,e,ho.symm,he⟩)
  exact .inr ((hg.block k (bG ho) hk).trans ho)⟩
theorem ng.map {b:Nat} (hb:G b) (hg:A.grownBy C (some b)):ng n G T A C :=
 ⟨hg.os,hg.tape,hg.output,hg.size,fun k o ho=>by
  by_cases hk:k=b
  ·exact .inl (.inl (hk▸hb))
  exact .inr ((hg.block k (bG ho) (fun e=>hk (Option.some.inj e))).trans ho)⟩
theorem ng.set {b:Nat} (hb:G b) (j:Nat) (u:Value):ng n G T A (A.setCell ⟨b,j,none⟩ u):=by
 have h:=(Below.refl 0 A).setCell (p:=⟨b,j,none⟩) (Nat.zero_le _) u;refine⟨h.os,h.tape,h.output,h.size,fun k o ho=>?_⟩;by_cases e:k=b
 ·subst e;exact .inl (.inl hb)
 exact .inr ((Below.heap_setCell A ⟨b,j,none⟩ u k e).trans ho)
theorem ng.low {w:World} {n0:Nat} (h:ng n G T A C) (hn:n0≤n) (hG:∀k,G k→n0≤k) (hw:n0≤w.heap.size) (hb:Below n0 w A):Below n0 w C :=
 ⟨h.os.trans hb.os,h.tape.trans hb.tape,h.output.trans hb.output,Nat.le_trans hb.size h.size,fun k hk=>by
  have hlt:k<A.heap.size:=by have:=hb.size;omega
  have h1:=Array.getElem?_eq_getElem hlt
  rcases h.blocks k _ h1 with (e|⟨e,_⟩)|e
  ·have:=hG k e;omega
  ·omega
  rw[e,← h1,hb.block k hk]⟩
theorem ng.keep (h:ng n G T A C) {k:Nat} {o:Obj} (ho:A.heap[k]?=some o) (h1:¬G k) (h2:k<n∨∀cs q,o=.cells cs q (0,0)→¬T q):C.heap[k]?=some o:=by
 rcases h.blocks k o ho with (e|⟨e,cs,q,hq,hq2⟩)|e
 ·exact absurd e h1
 ·rcases h2 with h2|h2
  ·omega
  exact absurd hq2 (h2 cs q hq)
 exact e
theorem ng.still {B:Nat} (h:ng n G T A C) (hG:∀k,G k→k<B):Still B A C :=
 ⟨h.size,fun k o hB ho hc=>h.keep ho (fun e=>by have:=hG k e;omega) (.inr (fun cs q e=>by rw[e] at hc;cases hc))⟩
theorem ng.kp {n0:Nat} {S:Nat→Prop} (h:ng n G T A C) (hn:n0≤n) (hG:∀k,G k→n0≤k) (h0:n0≤A.heap.size) (hS:∀k,S k→¬G k∧k<n∧k<A.heap.size) (hT:¬T 3) (hg:∀k,G k→∀cs,A.heap[k]?≠some (.cells cs 3 (0,0))):KpR n0 S A C :=
 ⟨h.low hn hG h0 (Below.refl _ _),fun k hk=>by
  obtain⟨h1,h2,h3⟩:=hS k hk;have h4:=Array.getElem?_eq_getElem h3;rw[h4]
  exact h.keep h4 h1 (.inl h2),fun k cs ho=>h.keep ho (fun e=>hg k e cs ho) (.inr (fun cs2 q e=>by injection e with _ e;rw[← e];exact hT))⟩
end
theorem gX {α:Type} {d:Kd α} {e base:Nat} {ok:Nat→Prop} {W:World} {v:Value} {xs:List α} {k:Nat} {o:Obj} (h:d.R e W base ok v xs) (ho:W.heap[k]?=some o) (hne:∀cells,o≠.cells cells e (0,0)):some k≠v.ownBlock:=fun he=>by
 obtain⟨_,inner,ho2,_⟩:=h;obtain⟨cells,hc⟩:=mM ho2 k he.symm;rw[hc] at ho;exact hne cells (Option.some.inj ho).symm
theorem fU {α:Type} {d:Kd α} {e base:Nat} {ok:Nat→Prop} {w:World} {v:Value} {xs:List α} (h:d.R e w base ok v xs):∃A n c,v=.slice A n c:=by
 obtain⟨A,c,h⟩:=Kd.bP h;exact⟨A,_,c,h⟩
abbrev sF:=VT
def dL (most:Int):Int→Int→List Ru→Option Int
 | _,all,[]=>some all
 | last,all,r::l=>if r.f0≤last∨r.f1≤r.f0∨most<r.f1 then none else dL most r.f1 (all+(r.f1 - r.f0)) l
def iw (l:List Ru) (most:Int):Option Int:=dL most (-1) 0 l
def jk (x:It):Option Int:=if x.f3<0∨8459264<x.f3 then none else iw x.f4 ((x.f3+511) / 512)
def Ea (rows:List Ru) (size:Int):Int:=match rows.getLast? with
 | none=>0
 | some r=>r.f1*512 - size
def ni (rows:List Ru) (data:List Int) (size:Int):Bool:=if Ea rows size≤0 then true else (data.drop (data.length - (Ea rows size).toNat)).all fun n=>decide (n=0)
def dO:List Ru→List Ru→Bool
 | [],_=>true
 | r::l,o=>match o.dropWhile (fun q=>decide (q.f1<r.f1)) with
  | []=>false
  | q::o'=>if r.f0<q.f0 then false else dO l (q::o')
def eu (s:ByteArray):Bool:=decide (s.size≤1023) && (fP s && (dP s).all fQ)
def mK (s:ByteArray):ByteArray:=bY 47 0 s
def O9 (a b:ByteArray):Bool:=Op.bytesLess a.toList b.toList
def fV (x:It):Bool :=
 if x.f0=1 then (match jk x with
  | none=>false
  | some all=>decide (x.f2.size=0) && (decide ((x.f5.length:Int)=all*512) && ni x.f4 x.f5 x.f3))
 else if x.f0=2 then iy x && decide (x.f2.size=0)
 else if x.f0=3 then iy x && (decide (x.f2.size≠0) && (decide (x.f2.size≤255) && decide (Lib.indexByte (bs x.f2) 0<0)))
 else if x.f0=4 then iy x && (eu x.f2 && O9 (mK x.f2) (mK x.f1))
 else false
def ko (c:sF):Bool :=
 match jk c.f1 with
 | none=>false
 | some _=>if c.f1.f0≠1∨c.f1.f2.size≠0 then false else
  match iw c.f2 16522 with
  | none=>false
  | some all=>dO c.f2 c.f1.f4 && (decide ((c.f1.f5.length:Int)=all*512) && ni c.f2 c.f1.f5 c.f1.f3)
def kG (c:sF):Bool :=
 if c.f0=1 then decide (c.f2.length=0) && (decide (c.f1.f0=0) && (decide (c.f1.f3=0) && (decide (c.f1.f2.size=0) && (decide (c.f1.f4.length=0) && decide (c.f1.f5.length=0)))))
 else if c.f0=2 then decide (c.f2.length=0) && fV c.f1
 else if c.f0=3 then ko c
 else false
def dY:ByteArray→List sF→Bool
 | _,[]=>true
 | last,c::l=>eu c.f1.f1 && (O9 last (mK c.f1.f1) && (kG c && dY (mK c.f1.f1) l))
def lu (b0 g0:Int) (l:List sF):Bool:=decide (0≤b0) && (decide (b0≤4294967295) && (decide (0≤g0) && (decide (g0≤4294967295) && dY ⟨#[]⟩ l)))
def jW (s:ByteArray):List Int:=leB 2 s.size++bytesOf s
def jS (l:List Ru):List Int:=leB 4 l.length++gQ l
def Bc (c:sF):List Int :=
 leB 1 c.f0++(if c.f0=1 then jW c.f1.f1 else if c.f0=2 then fA c.f1 else if c.f0=3 then jW c.f1.f1++leB 8 c.f1.f3++jS c.f1.f4++jS c.f2++c.f1.f5 else [])
def kg:List Int:=[118,108,112,97,116,99,104,1]
def nM (n:Int):List Int→List sF→List Int × Int
 | out,[]=>(kP out n,0)
 | out,c::l=>if (out++Bc c).length+9 > 16777216 then ([],7) else nM n (out++Bc c) l
def jC (b0 g0:Int) (l:List sF):List Int × Int :=
 if 8192<l.length then ([],7) else if lu b0 g0 l=true then nM l.length (kg++leB 4 b0++leB 4 g0) l else ([],180)
structure wX (c:sF):Prop where
 i:Fit c.f1
 s:c.f2.length≤140737488351232
end Go.Proofs.YtknihldkhedpkaaGreatDoor
end
section
namespace Go.Proofs.YtknihldkhedpkaaGreatDoor.Two
open Go.RowKit Go.Lib
open Go.Proofs.YtknihldkhedpkaaGreatDoorW.PrintWords Go.Proofs.YtknihldkhedpkaaGreatDoorW.PrintLast Go.Proofs.YtknihldkhedpkaaGreatDoor.PT
abbrev Rd:=ByteArray × Option It × Option It
def eO (L:Nat→List It):Nat→(Nat→Nat)→List Rd
 | 0,_=>[]
 | n+1,p=>match jM L p 2 with
  | none=>[]
  | some k=>(k,fO L p k 0,fO L p k 1)::eO L n (gT L p k)
def jL (L:Nat→List It) (p:Nat→Nat):Nat:=((L 0).length - p 0)+((L 1).length - p 1)
theorem rO {L:Nat→List It} {p:Nat→Nat} {k:ByteArray} (h:jM L p 2=some k):jL L (gT L p k)<jL L p:=by
 obtain⟨j,x,hj,h1,h2⟩:=pX h
 have hm:∀i,p i≤gT L p k i:=fun i=>by unfold gT;split <;> omega
 have hlt:p j<(L j).length:=by
  rcases Nat.lt_or_ge (p j) (L j).length with h|h
  ·exact h
  rw[List.getElem?_eq_none h] at h1;cases h1
 have hn:gT L p k j=p j+1:=by
  unfold gT fO;rw[h1];dsimp only;subst h2;simp
 have h0:=hm 0;have h1':=hm 1;unfold jL
 rcases (show j=0∨j=1 by omega) with rfl|rfl <;> omega
structure oJ where
 key:ByteArray
 g:Nat
 a:Option It
 b:Option It
def oJ.rd (x:oJ):Rd:=(x.key,x.a,x.b)
def encR (x:oJ):Array Value:=#[.string x.key,.slice (some ⟨x.g,0,none⟩) 2 2]
def Sn (rs:List Rd) (w0:World) (pre:List oJ) (x:oJ) (W:World):Prop :=
 (∃rest,rs=pre.map oJ.rd++x.rd::rest)∧∃p0 p1,W.heap[x.g]?=some (.cells #[p0,p1] 95 (0,0))∧OI w0 p0 x.a∧OI w0 p1 x.b
structure Am (L:Nat→List It) (A:Nat→Option Addr) (c:Nat→Nat) (w0:World) (b1 b2 br:Nat) (wx:World):Prop where
 low:Below w0.heap.size w0 wx
 x1:wx.heap[b1]?=some (.cells #[.func (.func 51) #[] #[]] 93 (0,0))
 x2:wx.heap[b2]?=some (.cells #[.slice (some ⟨br,0,none⟩) 2 2] 75 (0,0))
 xr:wx.heap[br]?=some (.cells #[.slice (A 0) (L 0).length (c 0),.slice (A 1) (L 1).length (c 1)] 25 (0,0))
section
variable {L : Nat → List It} {A : Nat → Option Addr} {c : Nat → Nat} {w0 : World} {b1 b2 br : Nat} {wx wy : World}
theorem Am.below (h:Am L A c w0 b1 b2 br wx) (hb:Below wx.heap.size wx wy):Am L A c w0 b1 b2 br wy :=
 ⟨h.low.trans (hb.mono h.low.size),aJ h.x1 hb,aJ h.x2 hb,aJ h.xr hb⟩
theorem Am.st (h:Am L A c w0 b1 b2 br wx) {B:Nat} (hs:ze B wx wy) (h0:w0.heap.size≤B) (h1:b1<B) (h2:b2<B) (h3:br<B):Am L A c w0 b1 b2 br wy :=
 ⟨hs.low h0 h.low (Nat.le_refl _),hs.keep h.x1 h1,hs.keep h.x2 h2,hs.keep h.xr h3⟩
end
end Go.Proofs.YtknihldkhedpkaaGreatDoor.Two
end
