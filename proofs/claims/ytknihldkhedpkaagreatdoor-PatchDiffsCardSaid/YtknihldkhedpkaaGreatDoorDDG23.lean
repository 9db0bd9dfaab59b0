import Derived.Test.YtknihldkhedpkaaGreatDoorDDG22
import Derived.Test.YtknihldkhedpkaaGreatDoorDDG12
import Derived.Test.YtknihldkhedpkaaGreatDoorDDG6
import Derived.Test.YtknihldkhedpkaaGreatDoorDDG21
import Derived.Test.YtknihldkhedpkaaGreatDoorDDG13
set_option linter.all false
set_option maxHeartbeats 16000000
set_option maxRecDepth 100000
section
namespace Go.Proofs.YtknihldkhedpkaaGreatDoor
open Go.RowKit
open Go.Lib hiding bytesOf bytesOf_length bytesOf_take
open Go.Proofs.YtknihldkhedpkaaGreatDoorW.PrintWords Go.Proofs.YtknihldkhedpkaaGreatDoorW.PrintLast Go.Proofs.YtknihldkhedpkaaGreatDoor.PT
def Ht (l:List sF):Nat→ByteArray
 | 0=>⟨#[]⟩
 | m+1=>match l[m]? with
  | some c=>mK c.f1.f1
  | none=>⟨#[]⟩
theorem NY {l:List sF} {m:Nat} (h:m<l.length):Ht l (m+1)=mK l[m].f1.f1:=by
 show (match l[m]? with|some c=>mK c.f1.f1|none=>⟨#[]⟩)=_
 rw[List.getElem?_eq_getElem h]
theorem afo {p:ByteArray} (h:eu p=true):O9 ⟨#[]⟩ (mK p)=true:=by
 have hs:0<(mK p).size:=by
  unfold mK;rw[vZ];unfold eu fP at h;simp only[Bool.and_eq_true,decide_eq_true_eq] at h;have h2:=h.2.1
  rcases Nat.eq_zero_or_pos p.size with h0|h0
  ·have:(bs p).length=0:=by rw[cZ];exact h0
   rw[List.length_eq_zero_iff.1 this] at h2;cases h2
  exact h0
 unfold O9
 cases hl:(mK p).toList with
 | nil=>
  have:=congrArg List.length hl;rw[Lib.toList_data,Array.length_toList] at this;have h3:(mK p).data.size=(mK p).size:=rfl;simp only[List.length_nil] at this;omega
 | cons a b=>rw[Lib.toList_data];rfl
abbrev zIt:It:=⟨0,⟨#[]⟩,⟨#[]⟩,0,[],[]⟩
theorem afp {c:sF} (h:c.f0=1):kG c=(decide (c.f2.length=0) && rV c.f1 zIt):=by
 unfold kG rV;rw[if_pos h]
 have h4:iT c.f1.f4 zIt.f4=decide (c.f1.f4.length=0):=by
  cases hl:c.f1.f4 <;> rfl
 have h5:((strOfNums c.f1.f5).toList == (strOfNums zIt.f5).toList)=decide (c.f1.f5.length=0):=by
  cases hl:c.f1.f5 with
  | nil=>exact beq_self_eq_true _
  | cons a b=>
   rw[beq_eq_false_iff_ne.2 (fun hh=>by
    have:=congrArg List.length hh
    simp[strOfNums,Lib.toList_data] at this),decide_eq_false bB]
 have h2:decide (bs c.f1.f2=bs zIt.f2)=decide (c.f1.f2.size=0):=by
  apply decide_eq_decide.2;constructor
  ·intro hh;have:=congrArg List.length hh;rw[cZ,cZ] at this;exact this
  intro hh
  have:(bs c.f1.f2).length=0:=by rw[cZ];exact hh
  rw[List.length_eq_zero_iff.1 this];rfl
 rw[h4,h5,h2]
 cases decide (c.f2.length=0) <;> cases decide (c.f1.f0=0) <;> cases decide (c.f1.f3=0) <;> cases decide (c.f1.f2.size=0) <;> rfl
theorem NZ (b0 g0:Int) (A0:Option Addr) (c0:Nat) (l:List sF) (w:World) (hr:Kd.C EA w A0 l.length l) (hc:l.length≤c0) (hf:∀x∈l,wX x) (hl:l.length≤1048576) :
  Calls Tryz.prog 42 #[.agg #[.int .i64 b0,.int .i64 g0,.slice A0 l.length c0]] w fun e w'=>e=.returned (.bool (lu b0 g0 l))∧Below w.heap.size w w':=by
 obtain⟨P,hP⟩:∃P,#[Value.int .i64 b0,.int .i64 g0,.slice A0 l.length c0]=P:=⟨_,rfl⟩
 obtain⟨W0,hW0⟩:∃W0,w.alloc (.cells P 24)=W0:=⟨_,rfl⟩
 have hbx:=bF w (.cells P 24);have hb0:=(Below.refl w.heap.size w).alloc (Nat.le_refl _) (.cells P 24);rw[hW0] at hbx hb0
 have p0:W0.cell? ⟨w.heap.size,0,none⟩=some (.int .i64 b0):=by rw[ak hbx,← hP];rfl
 have p1:W0.cell? ⟨w.heap.size,1,none⟩=some (.int .i64 g0):=by rw[ak hbx,← hP];rfl
 have p2:W0.cell? ⟨w.heap.size,2,none⟩=some (.slice A0 l.length c0):=by rw[ak hbx,← hP];rfl
 rw[hP]
 have hsz:w.heap.size<W0.heap.size:=by rw[← hW0,World.size_alloc];omega
 have OD:=ah.mk hsz;have HR:=ah.mk (Kd.aC hr hb0);have HF:=ah.mk hf;have HB0:=ah.mk hb0;have wS:=ah.mk p2;clear hr hf hb0 hbx hP hsz
 go_enter Tryz.func42,Tryz.ntmps42
 go_upto_region 1 with (fail)
 try rw[hW0]
 clear hW0;by_cases h0:b0<0
 ·have d0:decide (b0<0)=true:=decide_eq_true h0
  have HW:ah (lu b0 g0 l=false):=⟨by unfold lu;simp;omega⟩
  clear h0
  go_wp2_with fail
  go_ret
  exact⟨by rw[HW.out] <;> rfl,HB0.out⟩
 have d0:decide (b0<0)=false:=decide_eq_false h0;by_cases h1:4294967295<b0
 ·have d1:decide (4294967295<b0)=true:=decide_eq_true h1
  have HW:ah (lu b0 g0 l=false):=⟨by unfold lu;simp;omega⟩
  clear h1
  go_wp2_with fail
  go_ret
  exact⟨by rw[HW.out] <;> rfl,HB0.out⟩
 have d1:decide (4294967295<b0)=false:=decide_eq_false h1;by_cases h2:g0<0
 ·have d2:decide (g0<0)=true:=decide_eq_true h2
  have HW:ah (lu b0 g0 l=false):=⟨by unfold lu;simp;omega⟩
  clear h2
  go_wp2_with fail
  go_ret
  exact⟨by rw[HW.out] <;> rfl,HB0.out⟩
 have d2:decide (g0<0)=false:=decide_eq_false h2;by_cases h3:4294967295<g0
 ·have d3:decide (4294967295<g0)=true:=decide_eq_true h3
  have HW:ah (lu b0 g0 l=false):=⟨by unfold lu;simp;omega⟩
  clear h3
  go_wp2_with fail
  go_ret
  exact⟨by rw[HW.out] <;> rfl,HB0.out⟩
 have d3:decide (4294967295<g0)=false:=decide_eq_false h3
 have HD0:ah (lu b0 g0 l=dY ⟨#[]⟩ l):=⟨by unfold lu;rw[decide_eq_true (show 0≤b0 by omega),decide_eq_true (show b0≤4294967295 by omega),decide_eq_true (show 0≤g0 by omega),decide_eq_true (show g0≤4294967295 by omega)];simp⟩
 clear h0 h1 h2 h3
 go_wp2_with fail
 clear d0 d1 d2 d3 p0 p1 p2
 go_loopg [3] l.length (fun g s3 wx=>∃(i:Nat),i+g=l.length∧s3=.int .i64 i∧ah (dY (Ht l i) (l.drop i)=dY ⟨#[]⟩ l)∧ah (Below w.heap.size w wx)∧ah (Below W0.heap.size W0 wx))
 case atStart=>exact⟨0,by omega,rfl,⟨by rw[List.drop_zero];rfl⟩,HB0,⟨Below.refl _ _⟩⟩
 case round=>
  clear HB0;obtain⟨i,hig,rfl,HG,HBw,HB⟩:=hrel;have p2:wr.cell? ⟨w.heap.size,2,none⟩=some (.slice A0 l.length c0):=au HB.out wS.out;by_cases hi:i<l.length
  ·have hd:decide ((i:Int)<(l.length:Int))=true:=decide_eq_true aj;have hd2:decide (i<l.length)=true:=decide_eq_true hi;have q0:(0≤(i:Int))=True:=eq_true aj;have q1:((i:Int)<(l.length:Int))=True:=eq_true aj;obtain⟨ad,A4,c4,A5,c5,A6,c6,hA,r0,r1,r2,r3,r4,r5,r6,r7,l4,g4,l5,g5,l6,g6⟩:=CY (Kd.aC HR.out HB.out) (i:Int) aj aj;rw[Int.toNat_natCast] at r0 r1 r2 r3 r4 r5 r6 r7
   have hrd:gV l (i:Int)=l[i]'hi:=by simp[gV,hi]
   have II:=ah.mk (HF.out (l[i]'hi) (List.getElem_mem hi));have hg0:=HG.out;rw[List.drop_eq_getElem_cons hi] at hg0
   obtain⟨c,hx⟩:∃c,l[i]'hi=c:=⟨_,rfl⟩
   rw[hrd,hx] at r0 r1 r2 r3 r4 r5 r6 r7 l4 g4 l5 g5 l6 g6;rw[hx] at hg0 II;rw[dY] at hg0;have IG:=ah.mk hg0;have HX:=ah.mk hx;subst hA;clear hrd hx hg0 HG
   obtain⟨W1,hW1⟩:∃W1,wr.alloc (.cells #[.int .i64 c.f0,.int .i64 c.f1.f0,.string c.f1.f1,.string c.f1.f2,.int .i64 c.f1.f3,.slice A4 c.f1.f4.length c4,.slice A5 c.f1.f5.length c5,.slice A6 c.f2.length c6] 31)=W1:=⟨_,rfl⟩
   have hbx:=bF wr (.cells #[.int .i64 c.f0,.int .i64 c.f1.f0,.string c.f1.f1,.string c.f1.f2,.int .i64 c.f1.f3,.slice A4 c.f1.f4.length c4,.slice A5 c.f1.f5.length c5,.slice A6 c.f2.length c6] 31);have hb0:=(Below.refl wr.heap.size wr).alloc (Nat.le_refl _) (.cells #[.int .i64 c.f0,.int .i64 c.f1.f0,.string c.f1.f1,.string c.f1.f2,.int .i64 c.f1.f3,.slice A4 c.f1.f4.length c4,.slice A5 c.f1.f5.length c5,.slice A6 c.f2.length c6] 31);rw[hW1] at hbx hb0
   have z1:W1.cell? ⟨wr.heap.size,1,none⟩=some (.int .i64 c.f1.f0):=by rw[ak hbx];rfl
   have z2:W1.cell? ⟨wr.heap.size,2,none⟩=some (.string c.f1.f1):=by rw[ak hbx];rfl
   have z3:W1.cell? ⟨wr.heap.size,3,none⟩=some (.string c.f1.f2):=by rw[ak hbx];rfl
   have z4:W1.cell? ⟨wr.heap.size,4,none⟩=some (.int .i64 c.f1.f3):=by rw[ak hbx];rfl
   have z5:W1.cell? ⟨wr.heap.size,5,none⟩=some (.slice A4 c.f1.f4.length c4):=by rw[ak hbx];rfl
   have z6:W1.cell? ⟨wr.heap.size,6,none⟩=some (.slice A5 c.f1.f5.length c5):=by rw[ak hbx];rfl
   obtain⟨W2,hW2⟩:∃W2,W1.alloc (.cells #[.int .i64 c.f1.f0,.string c.f1.f1,.string c.f1.f2,.int .i64 c.f1.f3,.slice A4 c.f1.f4.length c4,.slice A5 c.f1.f5.length c5] 29)=W2:=⟨_,rfl⟩
   have xq:=bF W1 (.cells #[.int .i64 c.f1.f0,.string c.f1.f1,.string c.f1.f2,.int .i64 c.f1.f3,.slice A4 c.f1.f4.length c4,.slice A5 c.f1.f5.length c5] 29);have hb1:=(Below.refl W1.heap.size W1).alloc (Nat.le_refl _) (.cells #[.int .i64 c.f1.f0,.string c.f1.f1,.string c.f1.f2,.int .i64 c.f1.f3,.slice A4 c.f1.f4.length c4,.slice A5 c.f1.f5.length c5] 29);rw[hW2] at xq hb1;have OH:=ah.mk xq;have WB:=ah.mk (aJ hbx hb1);have hbw:=hb0.trans (hb1.mono hb0.size);have HR4:=ah.mk (Kd.aC g4 hbw);have nE:=ah.mk (Kd.aC g5 hbw);have qI:=ah.mk (Kd.aC g6 hbw);have HBb:=ah.mk (HB.out.trans (hbw.mono HB.out.size));have zh:=ah.mk (HBw.out.trans (hbw.mono HBw.out.size));clear g4 g5 g6 hb0 hb1 hbw hbx xq
   go_upto_region 8 with (fail)
   try rw[hW1]
   try rw[hW2]
   clear r0 r1 r2 r3 r4 r5 r6 r7 z1 z2 z3 z4 z5 z6 hW1 hW2 p2 q0 q1
   have x1:W2.cell? ⟨W1.heap.size,1,none⟩=some (.string c.f1.f1):=by rw[ak OH.out];rfl
   have p2:W2.cell? ⟨w.heap.size,2,none⟩=some (.slice (some ad) l.length c0):=au HBb.out wS.out;have HWR:=ah.mk (fun W=>Em c.f1.f1 II.out.i.p W);have HKX:=ah.mk (fun W=>Fx c.f1.f1 II.out.i.p W)
   go_cut [61] (fun v61 wd=>v61=.bool (!(eu c.f1.f1 && O9 (Ht l i) (mK c.f1.f1)))∧ah (Below W2.heap.size W2 wd))
   case first=>
    cases hwt:eu c.f1.f1 with
    | false=>
     rw[hwt] at HWR;have UJ:=ah.mk hwt;clear p2 hwt;have hdr:=bf (Below.refl W2.heap.size W2)
     have hS:(fun w'=>w'.cell? ⟨W1.heap.size,1,none⟩=some (.string c.f1.f1)∧ah (Below W2.heap.size W2 w')) W2.drew:=⟨au hdr x1,⟨hdr⟩⟩
     clear hdr;refine jJ (n:=23) (S:=(fun w'=>w'.cell? ⟨W1.heap.size,1,none⟩=some (.string c.f1.f1)∧ah (Below W2.heap.size W2 w'))) (ds:=[]) (aM 23 0) aD rfl rfl hS (fun hHeld=>?_);clear hS;refine bA 0 39 (aM 23 1) ?_;refine gG 1 40 (aM 23 3) rfl hHeld (by rintro w' ⟨s1,s2⟩;go_simp;with_reducible rfl) ?_;refine mD 2 (some 41) (aM 23 7) (fun K hK=>?_);refine mW Tryz.func77 #[.string c.f1.f1] ?_;refine (HWR.out _).mono ?_;rintro e w3 ⟨rfl,hb2⟩;refine⟨_,rfl,?_⟩;refine hK.out _ _ ⟨au hb2 hHeld.1,⟨hHeld.2.out.trans (hb2.mono hHeld.2.out.size)⟩⟩ ?_;clear hb2 hHeld hK K;intro hHeld;refine fH 41 ?_;refine bA 3 42 (aM 23 15) ?_;refine bA 4 43 (aM 23 31) ?_;refine fD 5 44 (aM 23 63) ?_;refine fD 6 45 (aM 23 127) ?_;refine fD 7 46 (aM 23 255) ?_;refine fD 8 47 (aM 23 511) ?_;refine fD 9 48 (aM 23 1023) ?_;refine fD 10 49 (aM 23 2047) ?_;refine fD 11 50 (aM 23 4095) ?_;refine fD 12 51 (aM 23 8191) ?_;refine fD 13 52 (aM 23 16383) ?_;refine fD 14 53 (aM 23 32767) ?_;refine fD 15 54 (aM 23 65535) ?_;refine fD 16 55 (aM 23 131071) ?_;refine fD 17 56 (aM 23 262143) ?_;refine fD 18 57 (aM 23 524287) ?_;refine fD 19 58 (aM 23 1048575) ?_;refine fD 20 59 (aM 23 2097151) ?_;refine fD 21 60 (aM 23 4194303) ?_;refine bA 22 61 (aM 23 8388607) ?_;refine jK aD ?_
     go_wp2_with fail
     go_meet
     case rel=>exact⟨by rw[UJ.out] <;> rfl,hHeld.2⟩
    | true=>
     rw[hwt] at HWR;have UJ:=ah.mk hwt;by_cases h0:i=0
     ·have e0:decide ((0:Int)<(i:Int))=false:=decide_eq_false aj;have e1:decide (0<i)=false:=decide_eq_false aj
      have MN:ah (O9 (Ht l i) (mK c.f1.f1)=true):=⟨by rw[h0];exact afo hwt⟩
      clear p2 h0 hwt;have hdr:=bf (Below.refl W2.heap.size W2)
      have hS:(fun w'=>w'.cell? ⟨W1.heap.size,1,none⟩=some (.string c.f1.f1)∧ah (Below W2.heap.size W2 w')) W2.drew:=⟨au hdr x1,⟨hdr⟩⟩
      clear hdr;refine jJ (n:=23) (S:=(fun w'=>w'.cell? ⟨W1.heap.size,1,none⟩=some (.string c.f1.f1)∧ah (Below W2.heap.size W2 w'))) (ds:=[]) (aM 23 0) aD rfl rfl hS (fun hHeld=>?_);clear hS;refine bA 0 39 (aM 23 1) ?_;refine gG 1 40 (aM 23 3) rfl hHeld (by rintro w' ⟨s1,s2⟩;go_simp;with_reducible rfl) ?_;refine mD 2 (some 41) (aM 23 7) (fun K hK=>?_);refine mW Tryz.func77 #[.string c.f1.f1] ?_;refine (HWR.out _).mono ?_;rintro e w3 ⟨rfl,hb2⟩;refine⟨_,rfl,?_⟩;refine hK.out _ _ ⟨au hb2 hHeld.1,⟨hHeld.2.out.trans (hb2.mono hHeld.2.out.size)⟩⟩ ?_;clear hb2 hHeld hK K;intro hHeld;refine fH 41 ?_;refine bA 3 42 (aM 23 15) ?_;refine bA 4 43 (aM 23 31) ?_;refine bA 5 44 (aM 23 63) ?_;refine bA 6 45 (aM 23 127) ?_;refine bA 7 46 (aM 23 255) ?_;refine fD 8 47 (aM 23 511) ?_;refine fD 9 48 (aM 23 1023) ?_;refine fD 10 49 (aM 23 2047) ?_;refine fD 11 50 (aM 23 4095) ?_;refine fD 12 51 (aM 23 8191) ?_;refine fD 13 52 (aM 23 16383) ?_;refine fD 14 53 (aM 23 32767) ?_;refine fD 15 54 (aM 23 65535) ?_;refine fD 16 55 (aM 23 131071) ?_;refine fD 17 56 (aM 23 262143) ?_;refine fD 18 57 (aM 23 524287) ?_;refine fD 19 58 (aM 23 1048575) ?_;refine fD 20 59 (aM 23 2097151) ?_;refine bA 21 60 (aM 23 4194303) ?_;refine bA 22 61 (aM 23 8388607) ?_;refine jK aD ?_
      go_wp2_with fail
      go_meet
      case rel=>exact⟨by rw[MN.out,UJ.out] <;> rfl,hHeld.2⟩
     obtain⟨m,hm⟩:∃m:Nat,m+1=i:=⟨i - 1,by omega⟩
     have hw:wrap64 ((i:Int) - 1)=(i:Int) - 1:=fq aj aj
     have hw2:IntKind.i64.wrap ((i:Int) - 1)=(i:Int) - 1:=by rw[IntKind.wrap_i64];omega
     have q0:(1≤(i:Int))=True:=eq_true aj;have q1:((i:Int) - 1<(l.length:Int))=True:=eq_true aj
     have hml:m<l.length:=by omega
     have e0:decide ((0:Int)<(i:Int))=true:=decide_eq_true aj;have e1:decide (0<i)=true:=decide_eq_true aj
     obtain⟨y,hy⟩:∃y,l[m]=y:=⟨_,rfl⟩
     have hfy:=(HF.out l[m] (List.getElem_mem hml)).i.p;obtain⟨EC,B4,d4,B5,d5,B6,d6,VZ,_,_,y2,_⟩:=CY (Kd.aC HR.out HBb.out) (m:Int) aj aj
     have hrd:gV l (m:Int)=l[m]:=by simp[gV,hml]
     rw[hrd,hy,Int.toNat_natCast] at y2;rw[hy] at hfy;obtain rfl:ad=EC:=Option.some.inj VZ;rw[show m=i - 1 by omega] at y2
     have MN:ah (O9 (Ht l i) (mK c.f1.f1)=Op.bytesLess (bY 47 0 y.f1.f1).toList (bY 47 0 c.f1.f1).toList):=⟨by rw[← hm,NY hml,hy];rfl⟩
     have HKY:=ah.mk (fun W=>Fx y.f1.f1 hfy W);clear hwt hrd VZ hml hm hy;have hdr:=bf (Below.refl W2.heap.size W2)
     have hS:(fun w'=>w'.cell? ⟨W1.heap.size,1,none⟩=some (.string c.f1.f1)∧w'.cell? ⟨w.heap.size,2,none⟩=some (.slice (some ad) l.length c0)∧w'.cell? ⟨(ad.add ((i - 1)*8)).block,(ad.add ((i - 1)*8)).off+2,none⟩=some (.string y.f1.f1)∧ah (Below W2.heap.size W2 w')) W2.drew:=⟨au hdr x1,au hdr p2,au hdr y2,⟨hdr⟩⟩
     clear hdr;refine jJ (n:=23) (S:=(fun w'=>w'.cell? ⟨W1.heap.size,1,none⟩=some (.string c.f1.f1)∧w'.cell? ⟨w.heap.size,2,none⟩=some (.slice (some ad) l.length c0)∧w'.cell? ⟨(ad.add ((i - 1)*8)).block,(ad.add ((i - 1)*8)).off+2,none⟩=some (.string y.f1.f1)∧ah (Below W2.heap.size W2 w'))) (ds:=[]) (aM 23 0) aD rfl rfl hS (fun hHeld=>?_);clear hS;refine bA 0 39 (aM 23 1) ?_;refine gG 1 40 (aM 23 3) rfl hHeld (by rintro w' ⟨s1,s2,s3,s4⟩;go_simp;with_reducible rfl) ?_;refine mD 2 (some 41) (aM 23 7) (fun K hK=>?_);refine mW Tryz.func77 #[.string c.f1.f1] ?_;refine (HWR.out _).mono ?_;rintro e w3 ⟨rfl,hb2⟩;refine⟨_,rfl,?_⟩;refine hK.out _ _ ⟨au hb2 hHeld.1,au hb2 hHeld.2.1,au hb2 hHeld.2.2.1,⟨hHeld.2.2.2.out.trans (hb2.mono hHeld.2.2.2.out.size)⟩⟩ ?_;clear hb2 hHeld hK K;intro hHeld;refine fH 41 ?_;refine bA 3 42 (aM 23 15) ?_;refine bA 4 43 (aM 23 31) ?_;refine bA 5 44 (aM 23 63) ?_;refine bA 6 45 (aM 23 127) ?_;refine bA 7 46 (aM 23 255) ?_;refine bA 8 47 (aM 23 511) ?_;refine gG 9 48 (aM 23 1023) rfl hHeld (by rintro w' ⟨s1,s2,s3,s4⟩;go_simp;with_reducible rfl) ?_;refine bA 10 49 (aM 23 2047) ?_;refine bA 11 50 (aM 23 4095) ?_;refine bA 12 51 (aM 23 8191) ?_;refine bA 13 52 (aM 23 16383) ?_;refine bA 14 53 (aM 23 32767) ?_;refine gG 15 54 (aM 23 65535) rfl hHeld (by rintro w' ⟨s1,s2,s3,s4⟩;go_simp;with_reducible rfl) ?_;refine bA 17 56 (aM 23 196607) ?_;refine gG 18 57 (aM 23 458751) rfl hHeld (by rintro w' ⟨s1,s2,s3,s4⟩;go_simp;with_reducible rfl) ?_;refine mD 16 (some 55) (aM 23 524287) (fun K hK=>?_);refine mW Tryz.func68 #[.string y.f1.f1] ?_;refine (HKY.out _).mono ?_;rintro e w3 ⟨rfl,hb2⟩;refine⟨_,rfl,?_⟩;refine hK.out _ _ ⟨au hb2 hHeld.1,au hb2 hHeld.2.1,au hb2 hHeld.2.2.1,⟨hHeld.2.2.2.out.trans (hb2.mono hHeld.2.2.2.out.size)⟩⟩ ?_;clear hb2 hHeld hK K;intro hHeld;refine fH 55 ?_;refine mD 19 (some 58) (aM 23 1048575) (fun K hK=>?_);refine mW Tryz.func68 #[.string c.f1.f1] ?_;refine (HKX.out _).mono ?_;rintro e w3 ⟨rfl,hb2⟩;refine⟨_,rfl,?_⟩;refine hK.out _ _ ⟨au hb2 hHeld.1,au hb2 hHeld.2.1,au hb2 hHeld.2.2.1,⟨hHeld.2.2.2.out.trans (hb2.mono hHeld.2.2.2.out.size)⟩⟩ ?_;clear hb2 hHeld hK K;intro hHeld;refine fH 58 ?_;refine bA 20 59 (aM 23 2097151) ?_;refine bA 21 60 (aM 23 4194303) ?_;refine bA 22 61 (aM 23 8388607) ?_;refine jK aD ?_
     go_wp2_with fail
     go_meet
     case rel=>exact⟨by
      rw[MN.out,UJ.out]
      rfl,hHeld.2.2.2⟩
   case rest=>
    obtain⟨rfl,OL⟩:=hcut
    obtain⟨wb,rfl⟩:∃wb,wb=wc:=⟨_,rfl⟩
    have ZF:=ah.mk (HBb.out.trans (OL.out.mono HBb.out.size));have iM:=ah.mk (zh.out.trans (OL.out.mono zh.out.size));have WB:=ah.mk (aJ WB.out OL.out);have OH:=ah.mk (aJ OH.out OL.out);have HR4:=ah.mk (Kd.aC HR4.out OL.out);have nE:=ah.mk (Kd.aC nE.out OL.out);have qI:=ah.mk (Kd.aC qI.out OL.out)
    obtain⟨pre,hpre⟩:∃b,(eu c.f1.f1 && O9 (Ht l i) (mK c.f1.f1))=b:=⟨_,rfl⟩
    rw[hpre]
    have HG2:ah ((pre && (kG c && dY (mK c.f1.f1) (l.drop (i+1))))=dY ⟨#[]⟩ l):=⟨by rw[← hpre,Bool.and_assoc];exact IG.out⟩
    clear hpre x1 p2 IG OL
    cases pre with
    | false=>
     have HN:ah (dY ⟨#[]⟩ l=false):=⟨by rw[← HG2.out];rfl⟩
     go_wp2_with fail
     go_ret
     exact⟨by rw[HD0.out,HN.out] <;> rfl,iM.out⟩
    | true=>
     have HG3:ah ((kG c && dY (mK c.f1.f1) (l.drop (i+1)))=dY ⟨#[]⟩ l):=⟨by rw[← HG2.out,Bool.true_and]⟩
     have z0:wb.cell? ⟨wr.heap.size,0,none⟩=some (.int .i64 c.f0):=by rw[ak WB.out];rfl
     have z7:wb.cell? ⟨wr.heap.size,7,none⟩=some (.slice A6 c.f2.length c6):=by rw[ak WB.out];rfl
     clear HG2
     go_upto_block 2 with (fail)
     go_cut [6] (fun v6 wd=>v6=.bool (kG c)∧ah (Below wb.heap.size wb wd))
     case first=>
      have qD:=ah.mk (Below.refl wb.heap.size wb);by_cases k1:c.f0=1
      ·have t1:(c.f0 == 1)=true:=beq_iff_eq.2 k1;have hck:=afp k1;have hsm:=fu.calls c.f1.f0 c.f1.f1 c.f1.f2 c.f1.f3 A4 c4 c.f1.f4 A5 c5 c.f1.f5 0 ⟨#[]⟩ ⟨#[]⟩ 0 none 0 [] none 0 [] _ wb HR4.out l4 nE.out l5 ⟨rfl,by simp,fun h=>absurd h bB⟩ bB ⟨rfl,by simp,fun h=>absurd h bB⟩ bB rfl
       obtain⟨sb,hsb⟩:∃b,rV c.f1 zIt=b:=⟨_,rfl⟩
       have aiN:=hsm.mono (fun e w' h=>(⟨by rw[← hsb];exact h.1,h.2⟩:e=.returned (.bool sb)∧Below wb.heap.size wb w'));rw[hsb] at hck;have IJ:=ah.mk aiN;have Zl:=ah.mk hck;clear hsm aiN hsb hck k1
       have b0:((c.f2.length:Int) == 0)=decide (c.f2.length=0):=by
        by_cases h:c.f2.length=0
        ·rw[decide_eq_true h];exact beq_iff_eq.2 aj
        rw[decide_eq_false h];exact beq_eq_false_iff_ne.2 aj
       have anQ:=ah.mk b0;clear b0
       cases sb with
       | false=>
        go_wp2_with (first
         | (refine eX (.load 29 (.tmp 5)) rfl ?_;refine wpList_load_row rfl _ _ rfl W1.heap.size rfl 29 _ (0,0) _ OH.out Tryz.underlying29 rfl aD ?_)
         | (go_at_call 37;refine IJ.out.mono ?_;rintro e w6 ⟨rfl,hb6⟩;have oD:=ah.mk hb6;have k7:=au hb6 z7;clear hb6))
        go_meet
        case rel=>exact⟨by rw[Zl.out,Bool.and_false],oD⟩
       | true=>
        go_wp2_with (first
         | (refine eX (.load 29 (.tmp 5)) rfl ?_;refine wpList_load_row rfl _ _ rfl W1.heap.size rfl 29 _ (0,0) _ OH.out Tryz.underlying29 rfl aD ?_)
         | (go_at_call 37;refine IJ.out.mono ?_;rintro e w6 ⟨rfl,hb6⟩;have oD:=ah.mk hb6;have k7:=au hb6 z7;clear hb6))
        go_meet
        case rel=>exact⟨by rw[Zl.out,Bool.and_true,anQ.out],oD⟩
      have t1:(c.f0 == 1)=false:=beq_eq_false_iff_ne.2 k1;by_cases k2:c.f0=2
      ·have t2:(c.f0 == 2)=true:=beq_iff_eq.2 k2;have Zl:=ah.mk (show kG c=(decide (c.f2.length=0) && fV c.f1) by unfold kG;rw[if_neg k1,if_pos k2]);have hpu:=Vh c.f0 c.f1 c.f2 A4 c4 A5 c5 A6 c6 wb HR4.out l4 nE.out l5 II.out.s II.out.i;rw[← Zl.out] at hpu;have HPU:=ah.mk hpu;clear hpu k1 k2
       go_wp2_with (first
        | (refine eX (.load 31 (.tmp 4)) rfl ?_;refine wpList_load_row rfl _ _ rfl wr.heap.size rfl 31 _ (0,0) _ WB.out Tryz.underlying31 rfl aD ?_)
        | (go_at_call 78;refine HPU.out.mono ?_;rintro e w6 ⟨rfl,hb6⟩;have oD:=ah.mk hb6;clear hb6))
       go_meet
       case rel=>exact⟨rfl,oD⟩
      have t2:(c.f0 == 2)=false:=beq_eq_false_iff_ne.2 k2;by_cases k3:c.f0=3
      ·have t3:(c.f0 == 3)=true:=beq_iff_eq.2 k3;have Zl:=ah.mk (show kG c=ko c by unfold kG;rw[if_neg k1,if_neg k2,if_pos k3]);have hed:=QJ c.f0 c.f1 c.f2 A4 c4 A5 c5 A6 c6 wb HR4.out l4 nE.out l5 qI.out l6 II.out.s II.out.i;rw[show (⟨c.f0,c.f1,c.f2⟩:sF)=c from rfl,← Zl.out] at hed;have HED:=ah.mk hed;clear hed k1 k2 k3
       go_wp2_with (first
        | (refine eX (.load 31 (.tmp 4)) rfl ?_;refine wpList_load_row rfl _ _ rfl wr.heap.size rfl 31 _ (0,0) _ WB.out Tryz.underlying31 rfl aD ?_)
        | (go_at_call 79;refine HED.out.mono ?_;rintro e w6 ⟨rfl,hb6⟩;have oD:=ah.mk hb6;clear hb6))
       go_meet
       case rel=>exact⟨rfl,oD⟩
      have t3:(c.f0 == 3)=false:=beq_eq_false_iff_ne.2 k3;have Zl:=ah.mk (show kG c=false by unfold kG;rw[if_neg k1,if_neg k2,if_neg k3]);clear k1 k2 k3
      go_wp2_with fail
      go_meet
      case rel=>exact⟨by rw[Zl.out],qD⟩
     case rest=>
      obtain⟨rfl,Pb⟩:=hcut;have kW:=ah.mk (iM.out.trans (Pb.out.mono iM.out.size));have oD:=ah.mk (ZF.out.trans (Pb.out.mono ZF.out.size));clear Pb z0 z7 HR4 nE qI
      obtain⟨ok,hok⟩:∃b,kG c=b:=⟨_,rfl⟩
      have hg3:=HG3.out;rw[hok] at hg3;rw[hok];have HG4:=ah.mk hg3;clear hok hg3 HG3
      cases ok with
      | false=>
       have HN:ah (dY ⟨#[]⟩ l=false):=⟨by rw[← HG4.out];rfl⟩
       go_wp2_with fail
       go_ret
       exact⟨by rw[HD0.out,HN.out] <;> rfl,kW.out⟩
      | true=>
       have HN:ah (dY (Ht l (i+1)) (l.drop (i+1))=dY ⟨#[]⟩ l):=⟨by rw[NY hi,HX.out,← HG4.out,Bool.true_and]⟩
       go_wp2_with fail
       go_roundg (l.length - (i+1))
       case measure=>omega
       case rel=>exact⟨i+1,by omega,by first|rfl|(push_cast;rfl)|simp,HN,kW,oD⟩
  have hd:decide ((i:Int)<(l.length:Int))=false:=decide_eq_false aj;have hd2:decide (i<l.length)=false:=decide_eq_false hi
  have HN:ah (dY ⟨#[]⟩ l=true):=⟨by rw[← HG.out,List.drop_of_length_le aj];rfl⟩
  go_wp2_with fail
  go_ret
  exact⟨by rw[HD0.out,HN.out] <;> rfl,HBw.out⟩
theorem N7 {l:List Ru} {most n:Int} (h:iw l most=some n) (hm:0≤most) (hu:most≤20000):∀r∈l,(0≤r.f0∧r.f0≤9223372036854775807)∧(0≤r.f1∧r.f1≤9223372036854775807):=by
 have ha:∀(l:List Ru) (last all:Int) (a:Int),dL most last all l=some a→∀r∈l,r.f0<r.f1:=by
  intro l
  induction l with
  | nil=>intro _ _ _ _ r hr;cases hr
  | cons q l ih=>
   intro last all a h r hr;rw[dL] at h;split at h
   ·cases h
   rcases List.mem_cons.1 hr with rfl|hr
   ·omega
   exact ih _ _ _ h r hr
 intro r hr;have h1:=(uz h hm).2.2.2 r hr;have h2:=ha l _ _ _ h r hr;omega
theorem afq {c:sF} (h:kG c=true):(c.f0=1∨c.f0=2∨c.f0=3)∧(0≤c.f1.f3∧c.f1.f3≤9223372036854775807)∧(∀r∈c.f1.f4,(0≤r.f0∧r.f0≤9223372036854775807)∧(0≤r.f1∧r.f1≤9223372036854775807))∧(∀r∈c.f2,(0≤r.f0∧r.f0≤9223372036854775807)∧(0≤r.f1∧r.f1≤9223372036854775807)):=by
 have hsz:∀{x:It} {n:Int},jk x=some n→(0≤x.f3∧x.f3≤9223372036854775807)∧∀r∈x.f4,(0≤r.f0∧r.f0≤9223372036854775807)∧(0≤r.f1∧r.f1≤9223372036854775807):=by
  intro x n hx;obtain⟨a,b,c⟩:=xk hx;exact⟨by omega,N7 c aj aj⟩
 have hnil:∀{l:List Ru},l.length=0→∀r∈l,(0≤r.f0∧r.f0≤9223372036854775807)∧(0≤r.f1∧r.f1≤9223372036854775807):=by
  intro l hl r hr;rw[List.length_eq_zero_iff.1 hl] at hr;cases hr
 have hbr:∀{x:It},iy x=true→(0≤x.f3∧x.f3≤9223372036854775807)∧∀r∈x.f4,(0≤r.f0∧r.f0≤9223372036854775807)∧(0≤r.f1∧r.f1≤9223372036854775807):=by
  intro x hx;have:=Bd hx;exact⟨by omega,hnil this.2.1⟩
 unfold kG at h;by_cases k1:c.f0=1
 ·rw[if_pos k1] at h;simp only[Bool.and_eq_true,decide_eq_true_eq] at h;exact⟨.inl k1,by omega,hnil h.2.2.2.2.1,hnil h.1⟩
 rw[if_neg k1] at h;by_cases k2:c.f0=2
 ·rw[if_pos k2] at h;simp only[Bool.and_eq_true,decide_eq_true_eq] at h;have hp:=h.2
  have hx:(0≤c.f1.f3∧c.f1.f3≤9223372036854775807)∧∀r∈c.f1.f4,(0≤r.f0∧r.f0≤9223372036854775807)∧(0≤r.f1∧r.f1≤9223372036854775807):=by
   by_cases j1:c.f1.f0=1
   ·rw[pu1 j1] at hp;split at hp
    ·cases hp
    exact hsz (by assumption)
   by_cases j2:c.f1.f0=2
   ·rw[pu2 j1 j2,Bool.and_eq_true] at hp;exact hbr hp.1
   by_cases j3:c.f1.f0=3
   ·rw[pu3 j1 j2 j3,Bool.and_eq_true] at hp;exact hbr hp.1
   by_cases j4:c.f1.f0=4
   ·rw[pu4 j1 j2 j3 j4,Bool.and_eq_true] at hp;exact hbr hp.1
   rw[pu5 j1 j2 j3 j4] at hp;cases hp
  exact⟨.inr (.inl k2),hx.1,hx.2,hnil h.1⟩
 rw[if_neg k2] at h;by_cases k3:c.f0=3
 ·rw[if_pos k3] at h;unfold ko at h;split at h
  ·cases h
  next n hn=>
  split at h
  ·cases h
  split at h
  ·cases h
  next m hm=>
  exact⟨.inr (.inr k3),(hsz hn).1,(hsz hn).2,N7 hm aH aH⟩
 rw[if_neg k3] at h;cases h
theorem J4:∀(l:List sF) (last:ByteArray),dY last l=true→∀c∈l,kG c=true
 | [],_,_,c,hc=>by cases hc
 | d::l,last,h,c,hc=>by
  rw[dY] at h;simp only[Bool.and_eq_true] at h
  rcases List.mem_cons.1 hc with rfl|hc
  ·exact h.2.2.1
  exact J4 l _ h.2.2.2 c hc
theorem aaR {c:sF} (h:SmC c):(Bc c).length≤1099511627:=by
 have h1:=h.i.p;have h2:=h.i.t;have h3:=h.i.r;have h4:=h.i.d;have h5:=h.s;unfold Bc;split
 ·simp only[List.length_append,aU,lC];omega
 split
 ·unfold fA;split
  ·simp only[List.length_append,aU,Go.Proofs.YtknihldkhedpkaaGreatDoorW.PrintWords.bytesOf_length,uZ];omega
  split
  ·simp only[List.length_append,aU,Go.Proofs.YtknihldkhedpkaaGreatDoorW.PrintWords.bytesOf_length];omega
  simp only[List.length_append,aU,Go.Proofs.YtknihldkhedpkaaGreatDoorW.PrintWords.bytesOf_length,List.length_nil];omega
 split
 ·simp only[List.length_append,aU,lC,lD];omega
 simp only[List.length_append,aU,List.length_nil];omega
theorem QK (w0:World) (v0:Value) (out:List Int) (x:It) (A4:Option Addr) (c4:Nat) (A5:Option Addr) (c5:Nat) (w:World) (h:oC w0.heap.size w0 w v0 out) (h4:Kd.C dw w0 A4 x.f4.length x.f4) (hc4:x.f4.length≤c4) (h5:Kd.C (Kd.int .u8) w0 A5 x.f5.length x.f5) (IU:x.f5.length≤c5)
  (hs:0≤x.f3∧x.f3≤9223372036854775807) (Mh:∀r∈x.f4,(0≤r.f0∧r.f0≤9223372036854775807)∧(0≤r.f1∧r.f1≤9223372036854775807)) (hl:out.length+x.f1.size+x.f2.size+8*x.f4.length+x.f5.length+64≤140737488355327) :
  Calls Tryz.prog 45 #[v0,.agg #[.int .i64 x.f0,.string x.f1,.string x.f2,.int .i64 x.f3,.slice A4 x.f4.length c4,.slice A5 x.f5.length c5]] w fun e w'=>∃v,e=.returned v∧oC w0.heap.size w0 w' v (out++fA x):=by
 have HC:=ah.mk (GN w0 v0 out x A4 c4 A5 c5 (w.alloc (.cells #[.int .i64 x.f0,.string x.f1,.string x.f2,.int .i64 x.f3,.slice A4 x.f4.length c4,.slice A5 x.f5.length c5] 29)) (h.below (aG (Below.refl w.heap.size w) _)) h4 hc4 h5 IU hs Mh hl);clear h h4 h5 hs Mh hl
 go_enter Tryz.func45,Tryz.ntmps45
 go_wp2_with (first
  | (refine eX (.load 29 (.tmp 3)) rfl ?_;refine wpList_load_row rfl _ _ rfl w.heap.size rfl 29 _ (0,0) _ (bF _ _) Tryz.underlying29 rfl aD ?_)
  | (go_at_call 81;refine HC.out.mono ?_;rintro e w1 ⟨v1,rfl,ho⟩;have HO:=ah.mk ho;clear ho))
 go_ret
 exact⟨_,rfl,HO.out⟩
theorem Vj (A0:Option Addr) (c0:Nat) (l:List Int) (w:World) (hr:Kd.C (Kd.int .u8) w A0 l.length l) (hc:l.length≤c0) (hb:∀x∈l,0≤x∧x≤255) (hl:l.length<9223372036854775807) :
  Calls Tryz.prog 47 #[.slice A0 l.length c0] w fun e w'=>e=.returned (.int .i64 (kQ l))∧Below w.heap.size w w':=by
 have HC:=ah.mk (NV A0 c0 l w hr hc hb hl);clear hr hb hl
 go_enter Tryz.func47,Tryz.ntmps47
 go_wp2_with (go_at_call 82;refine HC.out.mono ?_;rintro e w1 ⟨rfl,hb⟩;have HB:=ah.mk hb;clear hb)
 go_ret
 exact⟨rfl,HB.out⟩
def RpC (b0 g0:Int) (l:List sF) (w:World) (e:Ending) (w':World):Prop:=Below w.heap.size w w'∧∃v,e=.returned (.tuple #[v,.int .i64 (jC b0 g0 l).2])∧Kd.R (Kd.int .u8) 5 w' w.heap.size (fun _=>True) v (jC b0 g0 l).1
theorem QL {b0 g0:Int} {l:List sF} {w w':World} {n:Int} (h:jC b0 g0 l=([],n)) (hb:Below w.heap.size w w'):RpC b0 g0 l w (.returned (.tuple #[.slice none 0 0,.int .i64 n])) w':=⟨hb,.slice none 0 0,by rw[h],by rw[h];exact Kd.eD _ _ _ _ _⟩
theorem QM (b0 g0:Int) (A0:Option Addr) (c0:Nat) (l:List sF) (w:World) (hr:Kd.C EA w A0 l.length l) (hc:l.length≤c0) (hf:∀x∈l,wX x) :
  Calls Tryz.prog 14 #[.agg #[.int .i64 b0,.int .i64 g0,.slice A0 l.length c0]] w fun e w'=>RpC b0 g0 l w e w':=by
 obtain⟨W1,hW1⟩:∃W1,w.alloc (.cells #[.int .i64 b0,.int .i64 g0,.slice A0 l.length c0] 24)=W1:=⟨_,rfl⟩
 have hbx:=bF w (.cells #[.int .i64 b0,.int .i64 g0,.slice A0 l.length c0] 24);have hb0:=(Below.refl w.heap.size w).alloc (Nat.le_refl _) (.cells #[.int .i64 b0,.int .i64 g0,.slice A0 l.length c0] 24);rw[hW1] at hbx hb0
 have p0:W1.cell? ⟨w.heap.size,0,none⟩=some (.int .i64 b0):=by rw[ak hbx];rfl
 have p1:W1.cell? ⟨w.heap.size,1,none⟩=some (.int .i64 g0):=by rw[ak hbx];rfl
 have p2:W1.cell? ⟨w.heap.size,2,none⟩=some (.slice A0 l.length c0):=by rw[ak hbx];rfl
 have hz:w.heap.size<W1.heap.size:=bG hbx;have HX0:=ah.mk hbx;have HB0:=ah.mk hb0;have HR:=ah.mk (Kd.aC hr hb0);have HF:=ah.mk hf;have HP0:=ah.mk p0;have wT:=ah.mk p1;have wS:=ah.mk p2;have HZ:=ah.mk hz;clear hbx hb0 hr hf hz;by_cases hbig:8192<l.length
 ·have d1:decide ((8192:Int)<(l.length:Int))=true:=decide_eq_true aj
  have HP:ah (jC b0 g0 l=([],7)):=⟨by unfold jC;rw[if_pos hbig]⟩
  go_enter Tryz.func14,Tryz.ntmps14
  go_wp2_with fail
  go_ret2
  exact QL HP.out HB0.out
 have d1:decide ((8192:Int)<(l.length:Int))=false:=decide_eq_false aj;have hrt:=NZ b0 g0 A0 c0 l W1 HR.out hc HF.out aj
 obtain⟨rt,F8⟩:∃b,lu b0 g0 l=b:=⟨_,rfl⟩
 rw[F8] at hrt;have Zg:=ah.mk hrt;have Zh:=ah.mk F8;clear hrt F8
 go_enter Tryz.func14,Tryz.ntmps14
 cases rt with
 | false=>
  have HP:ah (jC b0 g0 l=([],180)):=⟨by unfold jC;rw[if_neg hbig,Zh.out];rfl⟩
  go_wp2_with (first
   | (refine eX (.load 24 (.tmp 1)) rfl ?_;refine wpList_load_row rfl _ _ rfl w.heap.size rfl 24 #[.int .i64 b0,.int .i64 g0,.slice A0 l.length c0] (0,0) _ HX0.out Tryz.underlying24 rfl aD ?_)
   | (go_at_call 42;refine Zg.out.mono ?_;rintro e w2 ⟨rfl,hb2⟩;have HB2:=ah.mk (HB0.out.trans (hb2.mono HB0.out.size));clear hb2))
  go_ret2
  exact QL HP.out HB2.out
 | true=>
  have hre:=Zh.out;unfold lu at hre;simp only[Bool.and_eq_true,decide_eq_true_eq] at hre;obtain⟨hb1,hb2,hg1,hg2,hgo⟩:=hre;have IJ:=ah.mk (Dk l _ hgo);have Zl:=ah.mk (J4 l _ hgo)
  have HPP:ah (nM l.length (kg++leB 4 b0++leB 4 g0) l=jC b0 g0 l):=⟨by unfold jC;rw[if_neg hbig,Zh.out,if_pos rfl]⟩
  clear hgo Zh
  go_upto_region 5 with (first
   | (refine eX (.load 24 (.tmp 1)) rfl ?_;refine wpList_load_row rfl _ _ rfl w.heap.size rfl 24 #[.int .i64 b0,.int .i64 g0,.slice A0 l.length c0] (0,0) _ HX0.out Tryz.underlying24 rfl aD ?_)
   | (go_at_call 42;refine Zg.out.mono ?_;rintro e w2 ⟨rfl,hb2⟩;have HB2:=ah.mk hb2;clear hb2))
  have HM:=ah.mk (Uc (B:=W1.heap.size) (w0:=W1) (W:=w2) kg HB2.out HB2.out.size aH);have m0:(w2.alloc (.cells #[.int .u8 118,.int .u8 108,.int .u8 112,.int .u8 97,.int .u8 116,.int .u8 99,.int .u8 104,.int .u8 1] 5)).cell? ⟨w.heap.size,0,none⟩=some (.int .i64 b0):=au HM.out.s HP0.out;have m0':=au HB2.out HP0.out;clear Zg p0 p1 p2 hW1 d1 HX0
  go_upto_region 7 with (go_at_call 43;refine (lH W1.heap.size W1 _ kg b0 4 _ HM.out ⟨hb1,by omega⟩ aH aH).mono ?_;rintro e w3 ⟨v3,rfl,ho3,hk3⟩;have Jr:=ah.mk ho3;have m1:=au ho3.s wT.out;clear ho3 hk3)
  try clear m0 m0'
  clear HM
  go_upto_region 8 with (go_at_call 43;refine (lH W1.heap.size W1 _ _ g0 4 _ Jr.out ⟨hg1,by omega⟩ (by rw[List.length_append,aU];decide) aH).mono ?_;rintro e w4 ⟨v4,rfl,pV,hk4⟩;have Di:=ah.mk pV;clear pV hk4)
  try clear m1
  clear Jr HB2
  go_wp2_with fail
  go_loopg [4,5] l.length (fun gk s4 s5 wx=>∃(i:Nat) (out:List Int),i+gk=l.length∧s5=.int .i64 i∧out.length≤16777216∧ah (nM l.length out (l.drop i)=jC b0 g0 l)∧ah (oC W1.heap.size W1 wx s4 out)∧ah (∀x∈out,0≤x∧x≤255))
  case atStart=>exact⟨0,_,by omega,rfl,by rw[List.length_append,List.length_append,aU,aU];decide,⟨by rw[List.drop_zero];exact HPP.out⟩,Di,⟨gH (gH Dl (eP _ _)) (eP _ _)⟩⟩
  case round=>
   clear Di HPP;obtain⟨i,out,hig,rfl,hlo,ZJ,HO,HW⟩:=hrel
   obtain⟨wo,rfl⟩:∃wo,wo=wr:=⟨_,rfl⟩
   obtain⟨go,rfl⟩:∃go,go=gk:=⟨_,rfl⟩
   have q2:=au HO.out.s wS.out;by_cases hi:i<l.length
   ·have hd:decide ((i:Int)<(l.length:Int))=true:=decide_eq_true aj;have hd2:decide (i<l.length)=true:=decide_eq_true hi;obtain⟨ad,A4,c4,A5,c5,A6,c6,hA,r0,r1,r2,r3,r4,r5,r6,r7,l4,g4,l5,g5,l6,g6⟩:=CY HR.out (i:Int) aj aj;rw[Int.toNat_natCast] at r0 r1 r2 r3 r4 r5 r6 r7
    have hrd:gV l (i:Int)=l[i]'hi:=by simp[gV,hi]
    have hsc:=IJ.out (l[i]'hi) (List.getElem_mem hi);have hfc:=HF.out (l[i]'hi) (List.getElem_mem hi);have hck:=Zl.out (l[i]'hi) (List.getElem_mem hi);have hg1:=ZJ.out;rw[List.drop_eq_getElem_cons hi] at hg1
    obtain⟨c,hx⟩:∃c,l[i]'hi=c:=⟨_,rfl⟩
    rw[hrd,hx] at r0 r1 r2 r3 r4 r5 r6 r7 l4 g4 l5 g5 l6 g6;rw[hx] at hg1 hsc hfc hck;rw[nM] at hg1;subst hA;have r0:=au HO.out.s r0;have r1:=au HO.out.s r1;have r2:=au HO.out.s r2;have r3:=au HO.out.s r3;have r4:=au HO.out.s r4;have r5:=au HO.out.s r5;have r6:=au HO.out.s r6;have r7:=au HO.out.s r7;have G4:=ah.mk g4;have G5:=ah.mk g5;have G6:=ah.mk g6;have OG:=ah.mk (aaR hsc);have HWC:=ah.mk (Pm hfc);obtain⟨s1,s2,s3,s4⟩:=hsc.i;have s5:=hsc.s;obtain⟨hk,hsf,hr4,hr6⟩:=afq hck;have HK:=ah.mk hk;have HR4:=ah.mk hr4;have qI:=ah.mk hr6;have IG:=ah.mk hg1
    obtain⟨W2,hW2⟩:∃W2,wo.alloc (.cells #[.int .i64 c.f0,.int .i64 c.f1.f0,.string c.f1.f1,.string c.f1.f2,.int .i64 c.f1.f3,.slice A4 c.f1.f4.length c4,.slice A5 c.f1.f5.length c5,.slice A6 c.f2.length c6] 31)=W2:=⟨_,rfl⟩
    have hba:=(Below.refl wo.heap.size wo).alloc (Nat.le_refl _) (.cells #[.int .i64 c.f0,.int .i64 c.f1.f0,.string c.f1.f1,.string c.f1.f2,.int .i64 c.f1.f3,.slice A4 c.f1.f4.length c4,.slice A5 c.f1.f5.length c5,.slice A6 c.f2.length c6] 31);have hby:=bF wo (.cells #[.int .i64 c.f0,.int .i64 c.f1.f0,.string c.f1.f1,.string c.f1.f2,.int .i64 c.f1.f3,.slice A4 c.f1.f4.length c4,.slice A5 c.f1.f5.length c5,.slice A6 c.f2.length c6] 31);rw[hW2] at hba hby;have HY:=ah.mk hby;have yS:=ah.mk (HO.out.below hba);have k0:W2.cell? ⟨wo.heap.size,0,none⟩=some (.int .i64 c.f0):=ak hby 0;clear hrd hx hg1 ZJ g4 g5 g6 hba hby hsc hfc hck hk hr4 hr6
    go_upto_region 13 with ((with_reducible refine bQ (b:=.append) (xs:=#[.tmp 36,.tmp 40]) rfl ?_);at_builtin;refine pI yS.out rfl (.tmp 36) (.tmp 40) 27 rfl Tryz.underlying27 info5 rfl rfl aj ?_;intro v3 w3 ho3 hk3;have Jr:=ah.mk ho3;have Mj:=ah.mk (hk3 _ _ _ aH HY.out);clear ho3 hk3)
    clear r0 r1 r2 r3 r4 r5 r6 r7 hW2 k0 yS HY HO q2
    obtain⟨o1,ho1⟩:∃o,out++leB 1 c.f0=o:=⟨_,rfl⟩
    have hn1:o1.length≤out.length+1:=by rw[← ho1,List.length_append,aU];exact Nat.le_refl _
    have Jr:ah (EP W1.heap.size W1 w3 w3 v3 o1):=⟨⟨ho1▸Jr.out,nH.refl _⟩⟩
    have Mg:=ah.mk ho1;clear ho1;have k0:w3.cell? ⟨wo.heap.size,0,none⟩=some (.int .i64 c.f0):=ak Mj.out 0
    go_upto_block 2 with (fail)
    go_cut [4] (fun v4 wd=>ah (oC W1.heap.size W1 wd v4 (out++Bc c)))
    case first=>
     by_cases k1:c.f0=1
     ·have t1:(c.f0 == 1)=true:=beq_iff_eq.2 k1
      have HE:ah (out++Bc c=o1++jW c.f1.f1):=⟨by unfold Bc;rw[if_pos k1,← List.append_assoc,Mg.out]⟩
      have k2:w3.cell? ⟨wo.heap.size,2,none⟩=some (.string c.f1.f1):=ak Mj.out 2;clear k1
      go_wp2_with (go_at_call 44;refine (Hg W1 _ o1 c.f1.f1 _ Jr.out.o aj).mono ?_;rintro e w4 ⟨v4,rfl,pV,hk4⟩;have Di:=ah.mk pV;clear pV hk4)
      go_meet
      case rel=>exact⟨by rw[HE.out];exact Di.out⟩
     have t1:(c.f0 == 1)=false:=beq_eq_false_iff_ne.2 k1;by_cases k2:c.f0=2
     ·have t2:(c.f0 == 2)=true:=beq_iff_eq.2 k2
      have HE:ah (out++Bc c=o1++fA c.f1):=⟨by unfold Bc;rw[if_neg k1,if_pos k2,← List.append_assoc,Mg.out]⟩
      have z1:w3.cell? ⟨wo.heap.size,1,none⟩=some (.int .i64 c.f1.f0):=ak Mj.out 1;have z2:w3.cell? ⟨wo.heap.size,2,none⟩=some (.string c.f1.f1):=ak Mj.out 2;have z3:w3.cell? ⟨wo.heap.size,3,none⟩=some (.string c.f1.f2):=ak Mj.out 3;have z4:w3.cell? ⟨wo.heap.size,4,none⟩=some (.int .i64 c.f1.f3):=ak Mj.out 4;have z5:w3.cell? ⟨wo.heap.size,5,none⟩=some (.slice A4 c.f1.f4.length c4):=ak Mj.out 5;have z6:w3.cell? ⟨wo.heap.size,6,none⟩=some (.slice A5 c.f1.f5.length c5):=ak Mj.out 6;clear k1 k2
      go_wp2_with (go_at_call 45;refine (QK W1 _ o1 c.f1 A4 c4 A5 c5 _ Jr.out.o G4.out l4 G5.out l5 hsf HR4.out aj).mono ?_;rintro e w4 ⟨v4,rfl,pV⟩;have Di:=ah.mk pV;clear pV)
      go_meet
      case rel=>exact⟨by rw[HE.out];exact Di.out⟩
     have k3:c.f0=3:=by have:=HK.out;omega
     have t2:(c.f0 == 2)=false:=beq_eq_false_iff_ne.2 k2;have t3:(c.f0 == 3)=true:=beq_iff_eq.2 k3
     have HE:ah (out++Bc c=o1++jW c.f1.f1++leB 8 c.f1.f3++jS c.f1.f4++jS c.f2++c.f1.f5):=⟨by unfold Bc;rw[if_neg k1,if_neg k2,if_pos k3,← Mg.out];simp only[List.append_assoc]⟩
     have z2:w3.cell? ⟨wo.heap.size,2,none⟩=some (.string c.f1.f1):=ak Mj.out 2;clear k1 k2 k3
     go_upto_region 20 with (go_at_call 44;refine (Hg W1 _ o1 c.f1.f1 _ Jr.out.o aj).mono ?_;rintro e w4 ⟨v4,rfl,pV,hk4⟩;have Di:=ah.mk (Jr.out.next pV hk4);clear pV hk4)
     obtain⟨o4,pV⟩:∃o,o1++jW c.f1.f1=o:=⟨_,rfl⟩
     have hn4:o4.length≤o1.length+2+c.f1.f1.size:=by rw[← pV,List.length_append,lC];omega
     rw[pV] at Di HE;have y4:w4.cell? ⟨wo.heap.size,4,none⟩=some (.int .i64 c.f1.f3):=ak (Di.out.k _ _ _ aH Mj.out) 4;clear pV k0 z2
     go_upto_region 21 with (go_at_call 43;refine (lH W1.heap.size W1 _ o4 c.f1.f3 8 _ Di.out.o hsf aj aH).mono ?_;rintro e w5 ⟨v5,rfl,uY,hk5⟩;have E9:=ah.mk (Di.out.next uY hk5);clear uY hk5)
     obtain⟨o5,uY⟩:∃o,o4++leB 8 c.f1.f3=o:=⟨_,rfl⟩
     have hn5:o5.length≤o4.length+8:=by rw[← uY,List.length_append,aU];exact Nat.le_refl _
     rw[uY] at E9 HE;have y5:w5.cell? ⟨wo.heap.size,5,none⟩=some (.slice A4 c.f1.f4.length c4):=ak (E9.out.k _ _ _ aH Mj.out) 5;clear uY y4
     go_upto_region 22 with (go_at_call 46;refine (Hf W1 _ o5 A4 c4 c.f1.f4 _ E9.out.o G4.out l4 HR4.out aj).mono ?_;rintro e w6 ⟨v6,rfl,xA,hk6⟩;have Fb:=ah.mk (E9.out.next xA hk6);clear xA hk6)
     obtain⟨o6,xA⟩:∃o,o5++jS c.f1.f4=o:=⟨_,rfl⟩
     have hn6:o6.length≤o5.length+4+8*c.f1.f4.length:=by rw[← xA,List.length_append,lD];omega
     rw[xA] at Fb HE;have y7:w6.cell? ⟨wo.heap.size,7,none⟩=some (.slice A6 c.f2.length c6):=ak (Fb.out.k _ _ _ aH Mj.out) 7;clear xA y5
     go_upto_region 23 with (go_at_call 46;refine (Hf W1 _ o6 A6 c6 c.f2 _ Fb.out.o G6.out l6 qI.out aj).mono ?_;rintro e w7 ⟨v7,rfl,yA,GQ⟩;have Eb:=ah.mk (Fb.out.next yA GQ);clear yA GQ)
     obtain⟨o7,yA⟩:∃o,o6++jS c.f2=o:=⟨_,rfl⟩
     have hn7:o7.length≤o6.length+4+8*c.f2.length:=by rw[← yA,List.length_append,lD];omega
     rw[yA] at Eb HE;clear yA y7
     go_wp2_with fail
     go_loopg [4,7] c.f1.f5.length (fun g s4 s7 wx=>∃j:Nat,j+g=c.f1.f5.length∧s7=.int .i64 j∧ah (EP W1.heap.size W1 w3 wx s4 (o7++c.f1.f5.take j)))
     case atStart=>exact⟨0,by omega,rfl,⟨by rw[List.take_zero,List.append_nil];exact Eb.out⟩⟩
     case round=>
      obtain⟨j,hjg,rfl,HL⟩:=hrel;clear Eb;by_cases hj:j<c.f1.f5.length
      ·have e1:decide ((j:Int)<(c.f1.f5.length:Int))=true:=decide_eq_true aj;have e2:decide (j<c.f1.f5.length)=true:=decide_eq_true hj;obtain⟨ad5,hA5,f0⟩:=Kd.gZ (Kd.aC G5.out HL.out.o.s) (j:Int) aj aj
       have hrd:rd c.f1.f5 (j:Int)=c.f1.f5[j]:=by simp[rd,hj]
       rw[hrd,Int.toNat_natCast] at f0;have k6:wr.cell? ⟨wo.heap.size,6,none⟩=some (.slice (some ad5) c.f1.f5.length c5):=hA5▸ak (HL.out.k _ _ _ aH Mj.out) 6
       have hlen:(o7++c.f1.f5.take j).length≤o7.length+j:=by rw[List.length_append,List.length_take];omega
       clear hrd hA5
       go_wp2_with ((with_reducible refine bQ (b:=.append) (xs:=#[.tmp 86,.tmp 93]) rfl ?_);at_builtin;refine pI HL.out.o rfl (.tmp 86) (.tmp 93) 27 rfl Tryz.underlying27 info5 rfl rfl aj ?_;intro v8 w8 Tx EH;have HO8:=ah.mk (HL.out.next Tx EH);clear Tx EH)
       have HO9:ah (EP W1.heap.size W1 w3 w8 v8 (o7++c.f1.f5.take (j+1))):=⟨by rw[List.take_succ_eq_append_getElem hj,← List.append_assoc];exact HO8.out⟩
       go_roundg (c.f1.f5.length - (j+1))
       case measure=>omega
       case rel=>exact⟨j+1,by omega,by first|rfl|(push_cast;rfl)|simp,HO9⟩
      have e1:decide ((j:Int)<(c.f1.f5.length:Int))=false:=decide_eq_false aj;have e2:decide (j<c.f1.f5.length)=false:=decide_eq_false hj;have k6:wr.cell? ⟨wo.heap.size,6,none⟩=some (.slice A5 c.f1.f5.length c5):=ak (HL.out.k _ _ _ aH Mj.out) 6
      have HO9:ah (oC W1.heap.size W1 wr _ (out++Bc c)):=⟨by have:=HL.out.o;rw[List.take_of_length_le aj,← HE.out] at this;exact this⟩
      go_wp2_with fail
      go_meet
      case rel=>exact HO9
    case rest=>
     obtain⟨o2,ho2⟩:∃o,out++Bc c=o:=⟨_,rfl⟩
     have hol:o2.length≤1116289000:=by rw[← ho2,List.length_append];have:=OG.out;omega
     have HW2:ah (∀x∈o2,0≤x∧x≤255):=⟨ho2▸gH HW.out HWC.out⟩
     have hg1:=IG.out;rw[ho2] at hcut hg1;have HG2:=ah.mk hg1;have HOc:=hcut;obtain⟨Aw,cw,hvw⟩:=Kd.bP HOc.out.r;subst hvw;have HBe:=ah.mk (HB0.out.trans (HOc.out.s.mono HB0.out.size));clear hg1 ho2 hcut IG HW HWC OG G4 G5 G6 HR4 qI k0;by_cases hov:16777216<o2.length+9
     ·have hdd:decide ((16777216:Int)<(o2.length:Int)+9)=true:=decide_eq_true aj
      have HN:ah (jC b0 g0 l=([],7)):=⟨by rw[← HG2.out,if_pos hov]⟩
      go_wp2_with fail
      go_ret2
      exact QL HN.out HBe.out
     have hdd:decide ((16777216:Int)<(o2.length:Int)+9)=false:=decide_eq_false aj
     have HN:ah (nM l.length o2 (l.drop (i+1))=jC b0 g0 l):=⟨by rw[← HG2.out,if_neg hov]⟩
     go_wp2_with fail
     go_roundg (l.length - (i+1))
     case measure=>omega
     case rel=>exact⟨i+1,o2,by omega,by first|rfl|(push_cast;rfl)|simp,by omega,HN,HOc,HW2⟩
   obtain rfl:i=l.length:=by omega
   have hd:decide ((l.length:Int)<(l.length:Int))=false:=decide_eq_false aj;have hd2:decide (l.length<l.length)=false:=decide_eq_false hi
   have HE:ah (jC b0 g0 l=(kP out (l.length:Int),0)):=⟨by rw[← ZJ.out,List.drop_of_length_le aj];rfl⟩
   clear ZJ
   go_upto_region 30 with ((with_reducible refine bQ (b:=.append) (xs:=#[.tmp 99,.tmp 100]) rfl ?_);at_builtin;refine pI HO.out rfl (.tmp 99) (.tmp 100) 27 rfl Tryz.underlying27 info5 rfl rfl aj ?_;intro v5 w5 uY hk5;have E9:=ah.mk uY;have m5:=au uY.s wS.out;clear uY hk5)
   obtain⟨o5,uY⟩:∃o,out++leB 1 0=o:=⟨_,rfl⟩
   have hn5:o5.length≤out.length+1:=by rw[← uY,List.length_append,aU];exact Nat.le_refl _
   have E9:ah (oC W1.heap.size W1 w5 v5 o5):=⟨uY▸E9.out⟩
   have HW5:ah (∀x∈o5,0≤x∧x≤255):=⟨uY▸gH HW.out (eP 1 0)⟩
   have HE5:=ah.mk uY;clear uY HO q2
   go_upto_region 31 with (go_at_call 43;refine (lH W1.heap.size W1 _ o5 (l.length:Int) 4 _ E9.out aj aj aH).mono ?_;rintro e w6 ⟨v6,rfl,xA,hk6⟩;have Fb:=ah.mk xA;clear xA hk6)
   obtain⟨o6,xA⟩:∃o,o5++leB 4 (l.length:Int)=o:=⟨_,rfl⟩
   have hn6:o6.length≤o5.length+4:=by rw[← xA,List.length_append,aU];exact Nat.le_refl _
   rw[xA] at Fb
   have HW6:ah (∀x∈o6,0≤x∧x≤255):=⟨xA▸gH HW5.out (eP 4 (l.length:Int))⟩
   have HCB:ah (kP out (l.length:Int)=o6++leB 4 (kQ o6)):=⟨by unfold kP;rw[HE5.out,xA]⟩
   obtain⟨Aw,cw,hvw⟩:=Kd.bP Fb.out.r;subst hvw;have hrd:=Kd.bU Fb.out.r;have hsu:=Vj Aw cw o6 w6 hrd.2.2 hrd.2.1 HW6.out aj
   have hcr:0≤kQ o6∧kQ o6≤9223372036854775807:=by have:=ow IntKind.u32.max (oo o6);unfold kQ;omega
   obtain⟨sm,hsm⟩:∃q,kQ o6=q:=⟨_,rfl⟩
   rw[hsm] at hsu hcr HCB;have HSU:=ah.mk hsu;clear xA hrd hsu hsm E9
   try clear m5
   go_upto_region 32 with (first
    | (go_at_call 47;refine HSU.out.mono ?_;rintro e w7 ⟨rfl,zQ⟩;have Eb:=ah.mk (Fb.out.below zQ);clear zQ)
    | (go_at_call 43;refine (lH W1.heap.size W1 _ o6 sm 4 _ Eb.out hcr aj aH).mono ?_;rintro e w8 ⟨v8,rfl,Tx,EH⟩;have HO8:=ah.mk Tx;clear Tx EH))
   go_wp2_with fail
   go_ret2
   exact⟨HB0.out.trans (HO8.out.s.mono HB0.out.size),v8,by rw[HE.out] <;> rfl,by rw[HE.out];show Kd.R _ _ _ _ _ _ (kP out (l.length:Int));rw[HCB.out];exact Kd.gD HO8.out.r HB0.out.size⟩
def StE (w0:World) (x:It) (e:Ending):Prop:=∃A4 c4 A5 c5,e=.returned (.agg #[.int .i64 x.f0,.string x.f1,.string x.f2,.int .i64 x.f3,.slice A4 x.f4.length c4,.slice A5 x.f5.length c5])∧x.f4.length≤c4∧Kd.C dw w0 A4 x.f4.length x.f4∧x.f5.length≤c5∧Kd.C (Kd.int .u8) w0 A5 x.f5.length x.f5
theorem Eo (w0:World) (A:Option Addr) (c:Nat) (l:List It) (p:ByteArray) (w:World) (hr:Kd.C mV w0 A l.length l) (hc:l.length≤c) (hb:Below w0.heap.size w0 w) (hl:kH l) (hp:Vp p) (hn:l.length≤8192) :
  Calls Tryz.prog 36 #[.slice A l.length c,.string p] w fun e w'=>StE w0 (stP l p) e∧Below w.heap.size w w':=by
 obtain⟨k,hk⟩:=(aaQ hl hp aj).rounds;have hs:=X0 hp hl
 obtain⟨n,hnn⟩:∃n,Le l (bY 47 0 p)=n:=⟨_,rfl⟩
 rw[hnn] at hk hs;have hb0:=aG (Below.refl w.heap.size w) (.cells #[.int .i64 0,.string ⟨#[]⟩,.string ⟨#[]⟩,.int .i64 0,.slice none 0 0,.slice none 0 0] 29);have hfc:=bS.calls k A c l p _ (w.alloc (.cells #[.int .i64 0,.string ⟨#[]⟩,.string ⟨#[]⟩,.int .i64 0,.slice none 0 0,.slice none 0 0] 29)) (Kd.aC hr (hb.trans (hb0.mono hb.size))) hc hk;have HB0:=ah.mk hb0;have HZ:=ah.mk (bF w (.cells #[.int .i64 0,.string ⟨#[]⟩,.string ⟨#[]⟩,.int .i64 0,.slice none 0 0,.slice none 0 0] 29));have HBW:=ah.mk hb;clear hk hnn hb0 hb;by_cases hf:∃h:n<l.length,l[n].f1.toList=p.toList
 ·obtain⟨hlt,e⟩:=hf;rw[List.getElem?_eq_getElem hlt] at hs;dsimp only at hs;rw[if_pos e] at hs
  have hst:stP l p=l[n]:=by unfold stP;rw[hs];rfl
  have hfin:QF l p n=(n:Int):=by unfold QF;rw[List.getElem?_eq_getElem hlt];dsimp only;rw[if_pos e]
  rw[hfin] at hfc;rw[hst];obtain⟨ad,A4,c4,A5,c5,VZ,r0,r1,r2,r3,r4,r5,hc4,Xg,IU,Xh⟩:=jh hr (n:Int) aj aj
  have hrd:aI l (n:Int)=l[n]:=by simp[aI,hlt]
  obtain⟨x,hx⟩:∃x,l[n]=x:=⟨_,rfl⟩
  rw[hrd,hx,Int.toNat_natCast] at r0 r1 r2 r3 r4 r5;rw[hrd,hx] at hc4 Xg IU Xh;rw[hx];subst VZ;have HFC:=ah.mk hfc;have HC:=ah.mk (⟨r0,r1,r2,r3,r4,r5⟩:_∧_∧_∧_∧_∧_);have H4:=ah.mk Xg;have H5:=ah.mk Xh;have d1:decide ((n:Int)<0)=false:=decide_eq_false aj;have q0:(0≤(n:Int))=True:=eq_true aj;have q1:((n:Int)<(l.length:Int))=True:=eq_true aj;clear hfc hr hs hst hfin hx hrd e r0 r1 r2 r3 r4 r5 Xg Xh hl hp
  go_enter Tryz.func36,Tryz.ntmps36
  go_upto_region 4 with (go_at_call 69;refine HFC.out.mono ?_;rintro e w1 ⟨rfl,hb1⟩;have HB1:=ah.mk (HB0.out.trans (hb1.mono HB0.out.size));have HZ1:=ah.mk (aJ HZ.out hb1);clear hb1)
  obtain⟨r0,r1,r2,r3,r4,r5⟩:=QG (HBW.out.trans (HB1.out.mono HBW.out.size)) HC.out
  go_wp2_with (refine eX (.store 29 (.tmp 4) (.tmp 15)) rfl ?_;refine wpList_store_row rfl 29 (.tmp 4) (.tmp 15) rfl w.heap.size #[.int .i64 x.f0,.string x.f1,.string x.f2,.int .i64 x.f3,.slice A4 x.f4.length c4,.slice A5 x.f5.length c5] rfl rfl 29 _ HZ1.out aD (by rfl) ?one ?_;(case one=>simp[Value.oneCell']))
  refine bodyPost_ret (results_cell_row rfl _ _ w.heap.size 29 #[.int .i64 x.f0,.string x.f1,.string x.f2,.int .i64 x.f3,.slice A4 x.f4.length c4,.slice A5 x.f5.length c5] (0,0) _ rfl (setRow_heap _ _ _ _ _ _ HZ1.out) Tryz.underlying29 rfl aD) rfl ⟨⟨A4,c4,A5,c5,rfl,hc4,H4.out,IU,H5.out⟩,below_setRow HB1.out (Nat.le_refl _) _⟩
 have hst:stP l p=Mt:=by
  unfold stP;rw[hs];by_cases hlt:n<l.length
  ·rw[List.getElem?_eq_getElem hlt];dsimp only;rw[if_neg (fun e=>hf ⟨hlt,e⟩)];rfl
  rw[List.getElem?_eq_none aj];rfl
 have hfin:QF l p n = -1:=by
  unfold QF;by_cases hlt:n<l.length
  ·rw[List.getElem?_eq_getElem hlt];dsimp only;rw[if_neg (fun e=>hf ⟨hlt,e⟩)]
  rw[List.getElem?_eq_none aj]
 rw[hfin] at hfc;rw[hst];have HFC:=ah.mk hfc;clear hfc hr hs hst hfin hf hl hp
 go_enter Tryz.func36,Tryz.ntmps36
 go_wp2_with (first
  | (go_at_call 69;refine HFC.out.mono ?_;rintro e w1 ⟨rfl,hb1⟩;have HB1:=ah.mk (HB0.out.trans (hb1.mono HB0.out.size));have HZ1:=ah.mk (aJ HZ.out hb1);clear hb1)
  | (refine eX (.store 29 (.tmp 4) (.tmp 11)) rfl ?_;refine wpList_store_row rfl 29 (.tmp 4) (.tmp 11) rfl w.heap.size #[.int .i64 0,.string ⟨#[]⟩,.string ⟨#[]⟩,.int .i64 0,.slice none 0 0,.slice none 0 0] rfl rfl 29 _ HZ1.out aD (by rfl) ?one ?_;(case one=>simp[Value.oneCell'])))
 refine bodyPost_ret (results_cell_row rfl _ _ w.heap.size 29 #[.int .i64 0,.string ⟨#[]⟩,.string ⟨#[]⟩,.int .i64 0,.slice none 0 0,.slice none 0 0] (0,0) _ rfl (setRow_heap _ _ _ _ _ _ HZ1.out) Tryz.underlying29 rfl aD) rfl ⟨⟨none,0,none,0,rfl,Nat.le_refl _,⟨rfl,by simp,fun h=>absurd h bB⟩,Nat.le_refl _,⟨rfl,by simp,fun h=>absurd h bB⟩⟩,below_setRow HB1.out (Nat.le_refl _) _⟩
end Go.Proofs.YtknihldkhedpkaaGreatDoor
end
section
namespace Go.Proofs.YtknihldkhedpkaaGreatDoor
open Go.RowKit Go.Lib
open Go.Proofs.YtknihldkhedpkaaGreatDoorW.PrintWords Go.Proofs.YtknihldkhedpkaaGreatDoorW.PrintLast Go.Proofs.YtknihldkhedpkaaGreatDoor.PT
def nk (p:ByteArray) (x y:It):Option Ch :=
 if rV x y=true then none else if y.f0=0 then some ⟨1,⟨0,p,⟨#[]⟩,0,[],[]⟩,[]⟩ else if x.f0=1∧y.f0=1 then some (uh x y) else some ⟨2,y,[]⟩
theorem Ag {l:List It} (h:lZ l=true):∀x∈l,x.f0≠0:=fun x hx=>by
 obtain⟨K,hk⟩:=M6 h x hx;have:=xO hk;omega
theorem Hu {x y:It} (h:x.f0≠y.f0):rV x y=false:=by
 unfold rV;rw[decide_eq_false h,Bool.false_and]
theorem J5 {a b:List It} (ha:lZ a=true) (hb:lZ b=true) {r:Two.Rd} (hr:r∈oG a b):Vp (bY 0 47 r.1)∧nk (bY 0 47 r.1) (stP a (bY 0 47 r.1)) (stP b (bY 0 47 r.1))=qB r.2.1 r.2.2:=by
 have ra:=sO ha;have rb:=sO hb;have hsp:=KD ra rb;obtain⟨j,z,hj,hz,hk⟩:=hsp.from_ r hr
 have hvz:Vp z.f1:=by
  rcases (show j=0∨j=1 by omega) with rfl|rfl
  ·exact ra.path z hz
  exact rb.path z hz
 have hkz:r.1=bY 47 0 z.f1:=hk.symm
 have hp:bY 0 47 r.1=z.f1:=by rw[hkz,mE hvz]
 obtain⟨h1,h2⟩:=hsp.here r hr;have h1:r.2.1=st a (bs r.1):=h1;have h2:r.2.2=st b (bs r.1):=h2
 have hs:∀l:List It,stP l z.f1=(st l (bs r.1)).getD Mt:=fun l=>by unfold stP;rw[← hkz]
 rw[hp,hs a,hs b,h1,h2];refine⟨hvz,?_⟩
 cases hx:st a (bs r.1) with
 | none=>
  cases hy:st b (bs r.1) with
  | none=>
   exfalso
   rcases (show j=0∨j=1 by omega) with rfl|rfl
   ·exact Ee hx z hz (by show bs (gu z)=_;rw[hk])
   exact Ee hy z hz (by show bs (gu z)=_;rw[hk])
  | some y=>
   have hk0:=Ag hb y (yg hy).1
   show nk z.f1 Mt y=qB none (some y)
   unfold nk qB;rw[Hu (show Mt.f0≠y.f0 from fun e=>hk0 e.symm),if_neg aH,if_neg hk0,if_neg (fun h=>by have:=h.1;cases this),Po,if_neg aH]
 | some x=>
  have hx0:=Ag ha x (yg hx).1
  have hxp:x.f1=z.f1:=by
   have h3:bY 47 0 x.f1=r.1:=nY (yg hx).2;rw[← mE (ra.path x (yg hx).1),h3,hp]
  cases hy:st b (bs r.1) with
  | none=>
   show nk z.f1 x Mt=qB (some x) none
   unfold nk qB;rw[Hu (show x.f0≠Mt.f0 from hx0),if_neg aH,if_pos (show Mt.f0=0 from rfl),show FE (some x) none=false from rfl,if_neg aH];dsimp only;rw[hxp]
  | some y=>
   have hk0:=Ag hb y (yg hy).1
   show nk z.f1 x y=qB (some x) (some y)
   unfold nk qB;rw[show FE (some x) (some y)=rV x y from rfl,if_neg hk0]
def jQ (a b:List It) (ps:List ByteArray):List Ch:=ps.flatMap fun p=>(nk p (stP a p) (stP b p)).toList
theorem QN {a b:List It} (ha:lZ a=true) (hb:lZ b=true):jQ a b ((oG a b).map (fun r=>bY 0 47 r.1))=qC a b:=by
 rw[UR];unfold jQ WJ;rw[List.flatMap_map]
 have:∀rs:List Two.Rd,(∀r∈rs,r∈oG a b)→rs.flatMap (fun r=>(nk (bY 0 47 r.1) (stP a (bY 0 47 r.1)) (stP b (bY 0 47 r.1))).toList)=rs.flatMap (fun r=>(qB r.2.1 r.2.2).toList):=by
  intro rs
  induction rs with
  | nil=>intro _;rfl
  | cons r rs ih=>
   intro h;rw[List.flatMap_cons,List.flatMap_cons,(J5 ha hb (h r List.mem_cons_self)).2,ih (fun q hq=>h q (List.mem_cons_of_mem _ hq))]
 exact this _ (fun r hr=>hr)
end Go.Proofs.YtknihldkhedpkaaGreatDoor
end
