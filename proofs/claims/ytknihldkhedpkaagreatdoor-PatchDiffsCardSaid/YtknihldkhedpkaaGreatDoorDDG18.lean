import Derived.Test.YtknihldkhedpkaaGreatDoorDDG17
import Derived.Test.YtknihldkhedpkaaGreatDoorDDG9
import Derived.Test.YtknihldkhedpkaaGreatDoorDDG15
import Derived.Test.YtknihldkhedpkaaGreatDoorDDG1
set_option linter.all false
set_option maxHeartbeats 16000000
set_option maxRecDepth 100000
section
namespace Go.Proofs.YtknihldkhedpkaaGreatDoor
open Go.RowKit
open Go.Lib hiding bytesOf bytesOf_length bytesOf_take
open Go.Proofs.YtknihldkhedpkaaGreatDoorW.PrintWords Go.Proofs.YtknihldkhedpkaaGreatDoorW.PrintLast Go.Proofs.YtknihldkhedpkaaGreatDoor.PT
structure oC (B:Nat) (w0 w':World) (v:Value) (out:List Int):Prop where
 r:Kd.R (Kd.int .u8) 5 w' B (fun _=>True) v out
 s:Below B w0 w'
 le:B≤w'.heap.size
def nH (w w':World):Prop:=∀(g:Nat) (cs:Array Value) (t:TypeId),t≠5→w.heap[g]?=some (.cells cs t (0,0))→w'.heap[g]?=some (.cells cs t (0,0))
theorem nH.trans {a b c:World} (h:nH a b) (k:nH b c):nH a c:=fun g cs t ht hb=>k g cs t ht (h g cs t ht hb)
theorem nH.refl (a:World):nH a a:=fun _ _ _ _ h=>h
theorem nH.of_below {a b:World} (h:Below a.heap.size a b):nH a b:=fun _ _ _ _ hb=>aJ hb h
theorem oC.below {B:Nat} {w0 w w':World} {v:Value} {out:List Int} (h:oC B w0 w v out) (hb:Below w.heap.size w w'):oC B w0 w' v out:=⟨Kd.bO h.r hb,h.s.trans (hb.mono h.le),Nat.le_trans h.le hb.size⟩
theorem pI {P:Program} {ops:Array Oper} {rest:List Oper} {o:Oper} {a:Act} {Q:Exit→Act→World→Prop} {B:Nat} {w0 W:World} {v:Value} {out:List Int} {b:Int} (h:oC B w0 W v out) (hgd:o.guard=none) (s x:Operand) (t:TypeId)
  (ho:o.op=.call { callee:=.builtin .append,args:=#[s,x],argTypes:=#[t,t] }) (ht:P.underlying t=some (.slice 5)) (hinfo:(P.info? 5).map (fun i=>(i.zero,i.size,i.bytes))=some (some (.int .u8 0),1,1))
  (hs:a.eval s=v) (hx:a.eval x=.slice (some ⟨W.heap.size,0,none⟩) 1 1) (hl:out.length<140737488355327)
  (k:∀v1 w1,oC B w0 w1 v1 (out++[b])→nH W w1→wpList P ops Q rest (a.put o.dst v1) w1):wpList P ops Q (o::rest) a (W.alloc (.cells #[.int .u8 b] 5)):=by
 refine Kd.gJ (Kd.int .u8) (w0:=w0) B hgd s x t 5 (.int .u8 0) 1 ho ht hinfo rfl aH aj v out b [.int .u8 b] (fun _=>True) (fun _=>False) hs hx rfl (fun _ hk=>hk.elim) (fun _ _=>trivial) h.r h.s h.le aj ?_;intro v1 w1 hr hb hg _;refine k v1 w1 ⟨hr,hb,Nat.le_trans h.le hg.size⟩ (fun g cs t ht hb=>kM hb hg (Kd.uW h.r hb (Ne.symm ht)))
theorem aai (n:Nat) (x:Int):leB (n+1) x=[x % 256]++leB n (x / 256):=rfl
theorem kC (B:Nat) (w0:World) (v0:Value) (out:List Int) (a:Int) (n:Nat) (w:World) (h:oC B w0 w v0 out) (ha:0≤a∧a≤9223372036854775807) (hl:out.length+n<140737488355327) (hn:n≤8) :
  Calls Tryz.prog 80 #[v0,.int .i64 a,.int .i64 n] w fun e w'=>∃v,e=.returned v∧oC B w0 w' v (out++leB n a)∧nH w w':=by
 have HO:=ah.mk h;have HA:=ah.mk ha;clear h ha
 go_enter Tryz.func80,Tryz.ntmps80
 go_wp2_with fail
 go_loopg [0,1,7] n (fun g s0 s1 s7 wx=>∃(i:Nat) (x:Int) (o:List Int),i+g=n∧s1=.int .i64 x∧s7=.int .i64 i∧o.length=out.length+i∧ah (out++leB n a=o++leB g x)∧ah (0≤x∧x≤9223372036854775807)∧ah (oC B w0 wx s0 o)∧ah (nH w wx))
 case atStart=>exact⟨0,a,out,by omega,rfl,rfl,rfl,⟨rfl⟩,HA,HO,⟨nH.refl _⟩⟩
 case round=>
  obtain⟨i,x,o,hig,rfl,rfl,hol,HE,HX,HOx,HK⟩:=hrel;by_cases hi:i<n
  ·have d1:decide ((i:Int)<(n:Int))=true:=decide_eq_true aj;have d2:decide (i<n)=true:=decide_eq_true hi;have hx0:=HX.out
   have HE2:ah (out++leB n a=(o++[Int.tmod x 256 % 256])++leB (n - (i+1)) (wrap64 (Int.tdiv x 256))):=⟨by
    obtain⟨g,rfl⟩:∃g,gk=g+1:=⟨gk - 1,by omega⟩
    rw[HE.out,aai,← List.append_assoc,show n - (i+1)=g by omega]
    rw[Int.tmod_eq_emod_of_nonneg hx0.1,Int.tdiv_eq_ediv_of_nonneg hx0.1,fq aj aj,show x % 256 % 256=x % 256 by omega]⟩
   have OH:ah (0≤wrap64 (Int.tdiv x 256)∧wrap64 (Int.tdiv x 256)≤9223372036854775807):=⟨by rw[Int.tdiv_eq_ediv_of_nonneg hx0.1,fq aj aj];omega⟩
   clear hx0
   go_wp2_with (((with_reducible refine bQ (b:=.append) (xs:=#[.tmp 13,.tmp 17]) rfl ?_);at_builtin;refine pI HOx.out rfl (.tmp 13) (.tmp 17) 27 rfl Tryz.underlying27 info5 rfl rfl aj ?_;intro v2 w2 ho2 hk2;have yS:=ah.mk ho2;have jG:=ah.mk (HK.out.trans hk2);clear ho2 hk2))
   go_roundg (n - (i+1))
   case measure=>omega
   case rel=>exact⟨i+1,_,_,by omega,rfl,by first|rfl|(push_cast;rfl)|simp,by rw[List.length_append,hol];simp;omega,HE2,OH,yS,jG⟩
  have d1:decide ((i:Int)<(n:Int))=false:=decide_eq_false aj;have d2:decide (i<n)=false:=decide_eq_false hi
  obtain rfl:gk=0:=by omega
  go_wp2_with fail
  go_ret
  exact⟨_,rfl,by rw[HE.out,leB,List.append_nil];exact HOx.out,HK.out⟩
theorem bytesOf_take (s:ByteArray) (i:Nat) (h:i<s.size):(bytesOf s).take (i+1)=(bytesOf s).take i++[((s[i]'h).toNat:Int)]:=by
 have hl:i<(Go.Proofs.YtknihldkhedpkaaGreatDoorW.PrintWords.bytesOf s).length:=by rw[Go.Proofs.YtknihldkhedpkaaGreatDoorW.PrintWords.bytesOf_length];exact h
 have e:(bytesOf s)[i]?=some ((s[i]'h).toNat:Int):=by
  unfold bytesOf;rw[List.getElem?_map,List.getElem?_eq_getElem (by rw[gI];exact h),show s.data.toList[i]'(by rw[gI];exact h)=s[i]'h from vo s i h];rfl
 rw[List.getElem?_eq_getElem hl] at e;rw[List.take_succ_eq_append_getElem hl,Option.some.inj e]
structure yT (B:Nat) (w0:World) (g:Nat) (cs:Array Value) (w':World) (v:Value) (out:List Int):Prop where
 o:oC B w0 w' v out
 b:w'.heap[g]?=some (.cells cs 29 (0,0))
theorem yT.next {B g:Nat} {w0 w w':World} {cs:Array Value} {v v':Value} {out out':List Int} (h:yT B w0 g cs w v out) (o:oC B w0 w' v' out') (k:nH w w'):yT B w0 g cs w' v' out':=⟨o,k _ _ _ aH h.b⟩
theorem GN (w0:World) (v0:Value) (out:List Int) (x:It) (A4:Option Addr) (c4:Nat) (A5:Option Addr) (c5:Nat) (w:World) (h:oC w0.heap.size w0 w v0 out) (h4:Kd.C dw w0 A4 x.f4.length x.f4) (hc4:x.f4.length≤c4) (h5:Kd.C (Kd.int .u8) w0 A5 x.f5.length x.f5) (IU:x.f5.length≤c5)
  (hs:0≤x.f3∧x.f3≤9223372036854775807) (Mh:∀r∈x.f4,(0≤r.f0∧r.f0≤9223372036854775807)∧(0≤r.f1∧r.f1≤9223372036854775807)) (hl:out.length+x.f1.size+x.f2.size+8*x.f4.length+x.f5.length+64≤140737488355327) :
  Calls Tryz.prog 81 #[v0,.agg #[.int .i64 x.f0,.string x.f1,.string x.f2,.int .i64 x.f3,.slice A4 x.f4.length c4,.slice A5 x.f5.length c5]] w fun e w'=>∃v,e=.returned v∧oC w0.heap.size w0 w' v (out++fA x):=by
 obtain⟨W1,hW1⟩:∃W1,w.alloc (.cells #[.int .i64 x.f0,.string x.f1,.string x.f2,.int .i64 x.f3,.slice A4 x.f4.length c4,.slice A5 x.f5.length c5] 29)=W1:=⟨_,rfl⟩
 have hbx:=bF w (.cells #[.int .i64 x.f0,.string x.f1,.string x.f2,.int .i64 x.f3,.slice A4 x.f4.length c4,.slice A5 x.f5.length c5] 29);have hb1:=aG (Below.refl w.heap.size w) (.cells #[.int .i64 x.f0,.string x.f1,.string x.f2,.int .i64 x.f3,.slice A4 x.f4.length c4,.slice A5 x.f5.length c5] 29);rw[hW1] at hbx hb1;have HX:=ah.mk (show yT w0.heap.size w0 w.heap.size #[.int .i64 x.f0,.string x.f1,.string x.f2,.int .i64 x.f3,.slice A4 x.f4.length c4,.slice A5 x.f5.length c5] W1 v0 out from⟨h.below hb1,hbx⟩);have H4:=ah.mk h4;have H5:=ah.mk h5;have HRU:=ah.mk Mh;have HS:=ah.mk hs;have k0:W1.cell? ⟨w.heap.size,0,none⟩=some (.int .i64 x.f0):=ak hbx 0;clear h hbx hb1 h4 h5 Mh hs
 go_enter Tryz.func81,Tryz.ntmps81
 go_upto_region 2 with (((with_reducible refine bQ (b:=.append) (xs:=#[.tmp 9,.tmp 13]) rfl ?_);at_builtin;refine pI HX.out.o rfl (.tmp 9) (.tmp 13) 27 rfl Tryz.underlying27 info5 rfl rfl aj ?_;intro v2 w2 ho2 hk2;have yS:=ah.mk ho2;have HY2:=ah.mk (HX.out.next ho2 hk2);clear ho2 hk2))
 clear k0 HX yS hW1
 obtain⟨o1,ho1⟩:∃o,out++leB 1 x.f0=o:=⟨_,rfl⟩
 have hn1:o1.length=out.length+1:=by rw[← ho1,List.length_append,aU]
 have HY2:ah (yT w0.heap.size w0 w.heap.size #[.int .i64 x.f0,.string x.f1,.string x.f2,.int .i64 x.f3,.slice A4 x.f4.length c4,.slice A5 x.f5.length c5] w2 v2 o1):=⟨ho1▸HY2.out⟩
 have Mg:=ah.mk ho1;clear ho1;have k1:w2.cell? ⟨w.heap.size,1,none⟩=some (.string x.f1):=ak HY2.out.b 1
 go_upto_region 3 with (go_at_call 80;refine (kC w0.heap.size w0 _ o1 x.f1.size 2 _ HY2.out.o aj aj aH).mono ?_;rintro e w3 ⟨v3,rfl,ho3,hk3⟩;have Mj:=ah.mk (HY2.out.next ho3 hk3);clear ho3 hk3)
 clear k1
 obtain⟨o2,ho2⟩:∃o,o1++leB 2 x.f1.size=o:=⟨_,rfl⟩
 have hn2:o2.length=out.length+3:=by rw[← ho2,List.length_append,aU,hn1]
 rw[ho2] at Mj;have HE2:=ah.mk ho2;clear ho2 HY2 hn1
 go_wp2_with fail
 go_loopg [0,5] x.f1.size (fun g s0 s5 wx=>∃i:Nat,i+g=x.f1.size∧s5=.int .i64 i∧ah (yT w0.heap.size w0 w.heap.size #[.int .i64 x.f0,.string x.f1,.string x.f2,.int .i64 x.f3,.slice A4 x.f4.length c4,.slice A5 x.f5.length c5] wx s0 (o2++(bytesOf x.f1).take i)))
 case atStart=>exact⟨0,by omega,rfl,⟨by rw[List.take_zero,List.append_nil];exact Mj.out⟩⟩
 case round=>
  obtain⟨i,hig,rfl,HL⟩:=hrel;clear Mj;have k1:wr.cell? ⟨w.heap.size,1,none⟩=some (.string x.f1):=ak HL.out.b 1;by_cases hi:i<x.f1.size
  ·have d1:decide ((i:Int)<(x.f1.size:Int))=true:=decide_eq_true aj;have d2:decide (i<x.f1.size)=true:=decide_eq_true hi
   have hlen:(o2++(bytesOf x.f1).take i).length=out.length+3+i:=by rw[List.length_append,List.length_take,Go.Proofs.YtknihldkhedpkaaGreatDoorW.PrintWords.bytesOf_length];omega
   go_wp2_with (((with_reducible refine bQ (b:=.append) (xs:=#[.tmp 27,.tmp 32]) rfl ?_);at_builtin;refine pI HL.out.o rfl (.tmp 27) (.tmp 32) 27 rfl Tryz.underlying27 info5 rfl rfl aj ?_;intro v4 w4 pV hk4;have Di:=ah.mk pV;have HY4:=ah.mk (HL.out.next pV hk4);clear pV hk4))
   have HY5:ah (yT w0.heap.size w0 w.heap.size #[.int .i64 x.f0,.string x.f1,.string x.f2,.int .i64 x.f3,.slice A4 x.f4.length c4,.slice A5 x.f5.length c5] w4 v4 (o2++(bytesOf x.f1).take (i+1))):=⟨by rw[bytesOf_take x.f1 i hi,← List.append_assoc];exact HY4.out⟩
   go_roundg (x.f1.size - (i+1))
   case measure=>omega
   case rel=>exact⟨i+1,by omega,by first|rfl|(push_cast;rfl)|simp,HY5⟩
  have d1:decide ((i:Int)<(x.f1.size:Int))=false:=decide_eq_false aj;have d2:decide (i<x.f1.size)=false:=decide_eq_false hi
  obtain⟨o3,ho3⟩:∃o,o2++bytesOf x.f1=o:=⟨_,rfl⟩
  have hn3:o3.length=out.length+3+x.f1.size:=by rw[← ho3,List.length_append,Go.Proofs.YtknihldkhedpkaaGreatDoorW.PrintWords.bytesOf_length];omega
  have Zi:ah (yT w0.heap.size w0 w.heap.size #[.int .i64 x.f0,.string x.f1,.string x.f2,.int .i64 x.f3,.slice A4 x.f4.length c4,.slice A5 x.f5.length c5] wr (_:Value) o3):=⟨by rw[← ho3];have:=HL.out;rwa [List.take_of_length_le (by rw[Go.Proofs.YtknihldkhedpkaaGreatDoorW.PrintWords.bytesOf_length];omega)] at this⟩
  have HE3:=ah.mk ho3;have k0:wr.cell? ⟨w.heap.size,0,none⟩=some (.int .i64 x.f0):=ak HL.out.b 0;have k2:wr.cell? ⟨w.heap.size,2,none⟩=some (.string x.f2):=ak HL.out.b 2;clear ho3 hn2;by_cases h1:x.f0=1
  ·have e1:(x.f0 == 1)=true:=beq_iff_eq.2 h1
   have e3:(x.f0 == 3)=false:=by rw[h1];rfl
   have e4:(x.f0 == 4)=false:=by rw[h1];rfl
   have HI:ah (out++fA x=o3++leB 8 x.f3++leB 4 x.f4.length++gQ x.f4++x.f5):=⟨by
    unfold fA;rw[if_pos h1,← HE3.out,← HE2.out,← Mg.out]
    simp only[List.append_assoc]⟩
   have k3:wr.cell? ⟨w.heap.size,3,none⟩=some (.int .i64 x.f3):=ak HL.out.b 3;have hs3:=HS.out;clear h1 Mg HE2 HE3 k2
   go_upto_region 9 with (go_at_call 80;refine (kC w0.heap.size w0 _ o3 x.f3 8 _ Zi.out.o hs3 aj aH).mono ?_;rintro e w7 ⟨v7,rfl,yA,GQ⟩;have KZ:=ah.mk (Zi.out.next yA GQ);clear yA GQ)
   obtain⟨o4,pV⟩:∃o,o3++leB 8 x.f3=o:=⟨_,rfl⟩
   have hn4:o4.length=o3.length+8:=by rw[← pV,List.length_append,aU]
   rw[pV] at KZ HI;clear pV Zi HL k0 k1 k3 hs3;have k4:w7.cell? ⟨w.heap.size,4,none⟩=some (.slice A4 x.f4.length c4):=ak KZ.out.b 4
   go_upto_region 10 with (go_at_call 80;refine (kC w0.heap.size w0 _ o4 x.f4.length 4 _ KZ.out.o aj aj aH).mono ?_;rintro e w8 ⟨v8,rfl,Tx,EH⟩;have HY8:=ah.mk (KZ.out.next Tx EH);clear Tx EH)
   obtain⟨o5,uY⟩:∃o,o4++leB 4 x.f4.length=o:=⟨_,rfl⟩
   have hn5:o5.length=o3.length+12:=by rw[← uY,List.length_append,aU,hn4]
   rw[uY] at HY8 HI;clear uY KZ k4 hn4
   go_wp2_with fail
   go_loopg [0,6] x.f4.length (fun g s0 s6 wx=>∃i:Nat,i+g=x.f4.length∧s6=.int .i64 i∧ah (yT w0.heap.size w0 w.heap.size #[.int .i64 x.f0,.string x.f1,.string x.f2,.int .i64 x.f3,.slice A4 x.f4.length c4,.slice A5 x.f5.length c5] wx s0 (o5++gQ (x.f4.take i))))
   case atStart=>exact⟨0,by omega,rfl,⟨by rw[List.take_zero];simpa [gQ] using HY8.out⟩⟩
   case round=>
    obtain⟨i,hig,rfl,HL⟩:=hrel;clear HY8;by_cases hi:i<x.f4.length
    ·have d1:decide ((i:Int)<(x.f4.length:Int))=true:=decide_eq_true aj;have d2:decide (i<x.f4.length)=true:=decide_eq_true hi;obtain⟨ad,hA,r0,r1⟩:=dQ (Kd.aC H4.out HL.out.o.s) (i:Int) aj aj
     have hrd:aQ x.f4 (i:Int)=x.f4[i]:=by simp[aQ,hi]
     rw[hrd,Int.toNat_natCast] at r0 r1;have HAd:=ah.mk hA
     obtain⟨q,hq⟩:∃q,x.f4[i]=q:=⟨_,rfl⟩
     have hqr:=HRU.out _ (List.getElem_mem hi)
     have htk:gQ (x.f4.take (i+1))=gQ (x.f4.take i)++(leB 4 q.f0++leB 4 q.f1):=by
      rw[List.take_succ_eq_append_getElem hi,hq];unfold gQ;rw[List.flatMap_append];simp
     rw[hq] at r0 r1 hqr
     have hlen:(o5++gQ (x.f4.take i)).length=o3.length+12+8*i:=by rw[List.length_append,uL,List.length_take,hn5];omega
     have k4:wr.cell? ⟨w.heap.size,4,none⟩=some (.slice (some ad) x.f4.length c4):=HAd.out▸ak HL.out.b 4;have HTK:=ah.mk htk
     obtain⟨o6,xA⟩:∃o,o5++gQ (x.f4.take i)=o:=⟨_,rfl⟩
     rw[xA] at hlen HL;have Fb:=ah.mk xA;have CW:=ah.mk (hrd.trans hq);clear hrd hq htk xA hA
     go_upto_region 14 with (go_at_call 80;refine (kC w0.heap.size w0 _ o6 q.f0 4 _ HL.out.o hqr.1 aj aH).mono ?_;rintro e w7 ⟨v7,rfl,yA,GQ⟩;have KZ:=ah.mk (HL.out.next yA GQ);clear yA GQ)
     obtain⟨o7,yA⟩:∃o,o6++leB 4 q.f0=o:=⟨_,rfl⟩
     have hn7:o7.length=o6.length+4:=by rw[← yA,List.length_append,aU]
     rw[yA] at KZ;have Eb:=ah.mk yA
     have r1':w7.cell? ⟨(ad.add (i*2)).block,(ad.add (i*2)).off+1,none⟩=some (.int .i64 q.f1):=by
      obtain⟨EC,hA2,_,q1⟩:=dQ (Kd.aC H4.out KZ.out.o.s) (i:Int) aj aj;rw[CW.out,Int.toNat_natCast,← Option.some.inj (HAd.out.symm.trans hA2)] at q1;exact q1
     have k4:w7.cell? ⟨w.heap.size,4,none⟩=some (.slice (some ad) x.f4.length c4):=HAd.out▸ak KZ.out.b 4;clear yA HL r0 r1
     go_wp2_with (go_at_call 80;refine (kC w0.heap.size w0 _ o7 q.f1 4 _ KZ.out.o hqr.2 aj aH).mono ?_;rintro e w8 ⟨v8,rfl,Tx,EH⟩;have HY8:=ah.mk (KZ.out.next Tx EH);clear Tx EH)
     have HY9:ah (yT w0.heap.size w0 w.heap.size #[.int .i64 x.f0,.string x.f1,.string x.f2,.int .i64 x.f3,.slice A4 x.f4.length c4,.slice A5 x.f5.length c5] w8 v8 (o5++gQ (x.f4.take (i+1)))):=⟨by rw[HTK.out,← List.append_assoc,← List.append_assoc,Fb.out,Eb.out];exact HY8.out⟩
     go_roundg (x.f4.length - (i+1))
     case measure=>omega
     case rel=>exact⟨i+1,by omega,by first|rfl|(push_cast;rfl)|simp,HY9⟩
    have d1:decide ((i:Int)<(x.f4.length:Int))=false:=decide_eq_false aj;have d2:decide (i<x.f4.length)=false:=decide_eq_false hi;have hL0:=HL.out;rw[List.take_of_length_le aj] at hL0
    obtain⟨o6,xA⟩:∃o,o5++gQ x.f4=o:=⟨_,rfl⟩
    have hn6:o6.length=o3.length+12+8*x.f4.length:=by rw[← xA,List.length_append,uL,hn5]
    rw[xA] at hL0 HI;have HY9:=ah.mk hL0;have k4:wr.cell? ⟨w.heap.size,4,none⟩=some (.slice A4 x.f4.length c4):=ak HY9.out.b 4;clear xA HL hL0 hn5
    go_wp2_with fail
    clear d1 d2 k4
    go_loopg [0,7] x.f5.length (fun g s0 s7 wx=>∃i:Nat,i+g=x.f5.length∧s7=.int .i64 i∧ah (yT w0.heap.size w0 w.heap.size #[.int .i64 x.f0,.string x.f1,.string x.f2,.int .i64 x.f3,.slice A4 x.f4.length c4,.slice A5 x.f5.length c5] wx s0 (o6++x.f5.take i)))
    case atStart=>exact⟨0,by omega,rfl,⟨by rw[List.take_zero,List.append_nil];exact HY9.out⟩⟩
    case round=>
     obtain⟨i,hig,rfl,HL⟩:=hrel;clear HY9;by_cases hi:i<x.f5.length
     ·have d1:decide ((i:Int)<(x.f5.length:Int))=true:=decide_eq_true aj;have d2:decide (i<x.f5.length)=true:=decide_eq_true hi;obtain⟨ad,hA,r0⟩:=Kd.gZ (Kd.aC H5.out HL.out.o.s) (i:Int) aj aj
      have hrd:rd x.f5 (i:Int)=x.f5[i]:=by simp[rd,hi]
      rw[hrd,Int.toNat_natCast] at r0;have k5:wr.cell? ⟨w.heap.size,5,none⟩=some (.slice (some ad) x.f5.length c5):=hA▸ak HL.out.b 5
      have hlen:(o6++x.f5.take i).length=o6.length+i:=by rw[List.length_append,List.length_take];omega
      clear hrd hA
      go_wp2_with (((with_reducible refine bQ (b:=.append) (xs:=#[.tmp 76,.tmp 82]) rfl ?_);at_builtin;refine pI HL.out.o rfl (.tmp 76) (.tmp 82) 27 rfl Tryz.underlying27 info5 rfl rfl aj ?_;intro v4 w4 pV hk4;have Di:=ah.mk pV;have HY4:=ah.mk (HL.out.next pV hk4);clear pV hk4))
      have HY5:ah (yT w0.heap.size w0 w.heap.size #[.int .i64 x.f0,.string x.f1,.string x.f2,.int .i64 x.f3,.slice A4 x.f4.length c4,.slice A5 x.f5.length c5] w4 v4 (o6++x.f5.take (i+1))):=⟨by rw[List.take_succ_eq_append_getElem hi,← List.append_assoc];exact HY4.out⟩
      go_roundg (x.f5.length - (i+1))
      case measure=>omega
      case rel=>exact⟨i+1,by omega,by first|rfl|(push_cast;rfl)|simp,HY5⟩
     have d1:decide ((i:Int)<(x.f5.length:Int))=false:=decide_eq_false aj;have d2:decide (i<x.f5.length)=false:=decide_eq_false hi;have k5:wr.cell? ⟨w.heap.size,5,none⟩=some (.slice A5 x.f5.length c5):=ak HL.out.b 5;have k0:wr.cell? ⟨w.heap.size,0,none⟩=some (.int .i64 x.f0):=ak HL.out.b 0
     go_wp2_with fail
     go_ret
     have:=HL.out.o;rw[List.take_of_length_le aj] at this;exact⟨_,rfl,by rw[HI.out];exact this⟩
  have e1:(x.f0 == 1)=false:=beq_eq_false_iff_ne.2 h1;clear HL k2;by_cases h3:x.f0=3
  ·have e3:(x.f0 == 3)=true:=beq_iff_eq.2 h3
   obtain⟨q1,hq1⟩:∃o,o3++leB 2 x.f2.size=o:=⟨_,rfl⟩
   have hm1:q1.length=o3.length+2:=by rw[← hq1,List.length_append,aU]
   have k2:wr.cell? ⟨w.heap.size,2,none⟩=some (.string x.f2):=ak Zi.out.b 2
   go_upto_region 21 with (go_at_call 80;refine (kC w0.heap.size w0 _ o3 x.f2.size 2 _ Zi.out.o aj aj aH).mono ?_;rintro e w7 ⟨v7,rfl,yA,GQ⟩;have KZ:=ah.mk (Zi.out.next yA GQ);clear yA GQ)
   rw[hq1] at KZ;have HQ1:=ah.mk hq1;clear hq1 k2 k0 k1
   go_wp2_with fail
   go_loopg [0,8] x.f2.size (fun g s0 s8 wx=>∃i:Nat,i+g=x.f2.size∧s8=.int .i64 i∧ah (yT w0.heap.size w0 w.heap.size #[.int .i64 x.f0,.string x.f1,.string x.f2,.int .i64 x.f3,.slice A4 x.f4.length c4,.slice A5 x.f5.length c5] wx s0 (q1++(bytesOf x.f2).take i)))
   case atStart=>exact⟨0,by omega,rfl,⟨by rw[List.take_zero,List.append_nil];exact KZ.out⟩⟩
   case round=>
    obtain⟨i,hig,rfl,HL⟩:=hrel;clear KZ;have k2:wr.cell? ⟨w.heap.size,2,none⟩=some (.string x.f2):=ak HL.out.b 2;by_cases hi:i<x.f2.size
    ·have d1:decide ((i:Int)<(x.f2.size:Int))=true:=decide_eq_true aj;have d2:decide (i<x.f2.size)=true:=decide_eq_true hi
     have hlen:(q1++(bytesOf x.f2).take i).length=q1.length+i:=by rw[List.length_append,List.length_take,Go.Proofs.YtknihldkhedpkaaGreatDoorW.PrintWords.bytesOf_length];omega
     go_wp2_with (((with_reducible refine bQ (b:=.append) (xs:=#[.tmp 104,.tmp 109]) rfl ?_);at_builtin;refine pI HL.out.o rfl (.tmp 104) (.tmp 109) 27 rfl Tryz.underlying27 info5 rfl rfl aj ?_;intro v4 w4 pV hk4;have Di:=ah.mk pV;have HY4:=ah.mk (HL.out.next pV hk4);clear pV hk4))
     have HY5:ah (yT w0.heap.size w0 w.heap.size #[.int .i64 x.f0,.string x.f1,.string x.f2,.int .i64 x.f3,.slice A4 x.f4.length c4,.slice A5 x.f5.length c5] w4 v4 (q1++(bytesOf x.f2).take (i+1))):=⟨by rw[bytesOf_take x.f2 i hi,← List.append_assoc];exact HY4.out⟩
     go_roundg (x.f2.size - (i+1))
     case measure=>omega
     case rel=>exact⟨i+1,by omega,by first|rfl|(push_cast;rfl)|simp,HY5⟩
    have d1:decide ((i:Int)<(x.f2.size:Int))=false:=decide_eq_false aj;have d2:decide (i<x.f2.size)=false:=decide_eq_false hi
    go_wp2_with fail
    go_ret
    have:=HL.out.o;rw[List.take_of_length_le (by rw[Go.Proofs.YtknihldkhedpkaaGreatDoorW.PrintWords.bytesOf_length];omega)] at this;exact⟨_,rfl,by rw[show out++fA x=q1++bytesOf x.f2 by unfold fA;rw[if_neg aj,if_pos aj,← HQ1.out,← HE3.out,← HE2.out,← Mg.out];simp only[List.append_assoc]];exact this⟩
  have e3:(x.f0 == 3)=false:=beq_eq_false_iff_ne.2 h3;by_cases h4:x.f0=4
  ·have e4:(x.f0 == 4)=true:=beq_iff_eq.2 h4
   obtain⟨q1,hq1⟩:∃o,o3++leB 2 x.f2.size=o:=⟨_,rfl⟩
   have hm1:q1.length=o3.length+2:=by rw[← hq1,List.length_append,aU]
   have k2:wr.cell? ⟨w.heap.size,2,none⟩=some (.string x.f2):=ak Zi.out.b 2
   go_upto_region 21 with (go_at_call 80;refine (kC w0.heap.size w0 _ o3 x.f2.size 2 _ Zi.out.o aj aj aH).mono ?_;rintro e w7 ⟨v7,rfl,yA,GQ⟩;have KZ:=ah.mk (Zi.out.next yA GQ);clear yA GQ)
   rw[hq1] at KZ;have HQ1:=ah.mk hq1;clear hq1 k2 k0 k1
   go_wp2_with fail
   go_loopg [0,8] x.f2.size (fun g s0 s8 wx=>∃i:Nat,i+g=x.f2.size∧s8=.int .i64 i∧ah (yT w0.heap.size w0 w.heap.size #[.int .i64 x.f0,.string x.f1,.string x.f2,.int .i64 x.f3,.slice A4 x.f4.length c4,.slice A5 x.f5.length c5] wx s0 (q1++(bytesOf x.f2).take i)))
   case atStart=>exact⟨0,by omega,rfl,⟨by rw[List.take_zero,List.append_nil];exact KZ.out⟩⟩
   case round=>
    obtain⟨i,hig,rfl,HL⟩:=hrel;clear KZ;have k2:wr.cell? ⟨w.heap.size,2,none⟩=some (.string x.f2):=ak HL.out.b 2;by_cases hi:i<x.f2.size
    ·have d1:decide ((i:Int)<(x.f2.size:Int))=true:=decide_eq_true aj;have d2:decide (i<x.f2.size)=true:=decide_eq_true hi
     have hlen:(q1++(bytesOf x.f2).take i).length=q1.length+i:=by rw[List.length_append,List.length_take,Go.Proofs.YtknihldkhedpkaaGreatDoorW.PrintWords.bytesOf_length];omega
     go_wp2_with (((with_reducible refine bQ (b:=.append) (xs:=#[.tmp 104,.tmp 109]) rfl ?_);at_builtin;refine pI HL.out.o rfl (.tmp 104) (.tmp 109) 27 rfl Tryz.underlying27 info5 rfl rfl aj ?_;intro v4 w4 pV hk4;have Di:=ah.mk pV;have HY4:=ah.mk (HL.out.next pV hk4);clear pV hk4))
     have HY5:ah (yT w0.heap.size w0 w.heap.size #[.int .i64 x.f0,.string x.f1,.string x.f2,.int .i64 x.f3,.slice A4 x.f4.length c4,.slice A5 x.f5.length c5] w4 v4 (q1++(bytesOf x.f2).take (i+1))):=⟨by rw[bytesOf_take x.f2 i hi,← List.append_assoc];exact HY4.out⟩
     go_roundg (x.f2.size - (i+1))
     case measure=>omega
     case rel=>exact⟨i+1,by omega,by first|rfl|(push_cast;rfl)|simp,HY5⟩
    have d1:decide ((i:Int)<(x.f2.size:Int))=false:=decide_eq_false aj;have d2:decide (i<x.f2.size)=false:=decide_eq_false hi
    go_wp2_with fail
    go_ret
    have:=HL.out.o;rw[List.take_of_length_le (by rw[Go.Proofs.YtknihldkhedpkaaGreatDoorW.PrintWords.bytesOf_length];omega)] at this;exact⟨_,rfl,by rw[show out++fA x=q1++bytesOf x.f2 by unfold fA;rw[if_neg aj,if_pos aj,← HQ1.out,← HE3.out,← HE2.out,← Mg.out];simp only[List.append_assoc]];exact this⟩
  have e4:(x.f0 == 4)=false:=beq_eq_false_iff_ne.2 h4
  have HI:ah (out++fA x=o3):=⟨by
   unfold fA;rw[if_neg h1,if_neg aj,← HE3.out,← HE2.out,← Mg.out]
   simp only[List.append_assoc,List.append_nil]⟩
  clear h1 h3 h4
  go_wp2_with fail
  go_ret
  exact⟨_,rfl,by rw[HI.out];exact Zi.out.o⟩
abbrev Xo:Array Value:=#[.int .i64 0,.int .i64 0,.string ⟨#[]⟩,.string ⟨#[]⟩,.int .i64 0,.slice none 0 0,.slice none 0 0,.slice none 0 0]
structure U6 (w:World) (p:Nat) (xs ys:Array Value) (path:ByteArray) (sz:Int) (v5 v6 v7:Value) (st:List Rn × List Int) (wx:World):Prop where
 low:Below w.heap.size w wx
 bx:wx.heap[w.heap.size]?=some (.cells xs 29 (0,0))
 yx:wx.heap[w.heap.size+1]?=some (.cells ys 29 (0,0))
 res:wx.heap[w.heap.size+2]?=some (.cells Xo 31 (0,0))
 box:wx.heap[p]?=some (.cells #[.int .i64 3,.int .i64 1,.string path,.string ⟨#[]⟩,.int .i64 sz,v5,v6,v7] 31 (0,0))
 data:Kd.R (Kd.int .u8) 5 wx w.heap.size (fun _=>True) v6 st.2
 set:Kd.R dw 117 wx w.heap.size (fun _=>True) v7 st.1
 hp:w.heap.size+2<p
section
variable {w : World} {p : Nat} {xs ys : Array Value} {path : ByteArray} {sz : Int} {v5 v6 v7 : Value} {st : List Rn × List Int} {wx : World}
theorem U6.below {w1:World} (h:U6 w p xs ys path sz v5 v6 v7 st wx) (hb:Below wx.heap.size wx w1):U6 w p xs ys path sz v5 v6 v7 st w1 :=
 ⟨h.low.trans (hb.mono h.low.size),aJ h.bx hb,aJ h.yx hb,aJ h.res hb,aJ h.box hb,Kd.bO h.data hb,Kd.bO h.set hb,h.hp⟩
theorem U6.join {w1:World} {v8:Value} {l:List Rn} (h:U6 w p xs ys path sz v5 v6 v7 st wx) (hb:Below w.heap.size w w1) (hk:Kept wx w1 (fun k=>v7.ownBlock=some k)) (hr:Kd.R dw 117 w1 w.heap.size (fun k=>v7.ownBlock=some k∨wx.heap.size≤k) v8 l) :
  U6 w p xs ys path sz v5 v6 v8 (l,st.2) (w1.setCell ⟨p,7,none⟩ v8):=by
 have hoth:∀k (o:Obj),wx.heap[k]?=some o→(∀cs,o≠.cells cs 117 (0,0))→w1.heap[k]?=some o:=fun k o ho hne=>
  (hk.2 k (bG ho) (fun hp=>by
   obtain⟨cs,hc⟩:=Kd.mh h.set k hp;rw[ho] at hc
   exact hne cs (Option.some.inj hc))).trans ho
 have gN:=hoth p _ h.box (fun cs e=>by injection e with _ e;exact absurd e aH);have hres:=hoth _ _ h.res (fun cs e=>by injection e with _ e;exact absurd e aH);have hbx:=hoth _ _ h.bx (fun cs e=>by injection e with _ e;exact absurd e aH);have hyx:=hoth _ _ h.yx (fun cs e=>by injection e with _ e;exact absurd e aH);have hp:=h.hp;refine⟨hb.setCell (by show w.heap.size≤p;omega) _,fJ hbx (by show w.heap.size≠p;omega) _,fJ hyx (by show w.heap.size+1≠p;omega) _,fJ hres (by show w.heap.size+2≠p;omega) _,gY gN 7 v8 (by rfl),?_,?_,h.hp⟩
 ·refine vD (Kd.oK (Kd.nZ (yB h.data) (fun k ho hlt=>?_)) gN (by intro q hq;simp[Kd.int,Kd.scalar] at hq;subst hq;decide) 7 v8);obtain⟨cs,hc⟩:=Kd.mh h.data k ho;exact (hoth k _ hc (fun cs e=>by injection e with _ e;exact absurd e aH)).trans hc.symm
 exact Kd.oK (rC hr) gN (by intro q hq;simp[dw,Kd.Mr,Kd.pair,Kd.int,Kd.scalar] at hq;subst hq;decide) 7 v8
theorem U6.append {w1:World} {v8:Value} {l:List Int} (h:U6 w p xs ys path sz v5 v6 v7 st wx) (hb:Below w.heap.size w w1) (hg:wx.grownBy w1 v6.ownBlock) (hr:Kd.R (Kd.int .u8) 5 w1 w.heap.size (fun _=>True) v8 l) :
  U6 w p xs ys path sz v5 v8 v7 (st.1,l) (w1.setCell ⟨p,6,none⟩ v8):=by
 have hoth:∀k (o:Obj),wx.heap[k]?=some o→(∀cs,o≠.cells cs 5 (0,0))→w1.heap[k]?=some o:=fun k o ho hne=>
  (hg.block k (bG ho) (fun e=>by
   obtain⟨cs,hc⟩:=Kd.mh h.data k e.symm;rw[ho] at hc
   exact hne cs (Option.some.inj hc))).trans ho
 have gN:=hoth p _ h.box (fun cs e=>by injection e with _ e;exact absurd e aH);have hres:=hoth _ _ h.res (fun cs e=>by injection e with _ e;exact absurd e aH);have hbx:=hoth _ _ h.bx (fun cs e=>by injection e with _ e;exact absurd e aH);have hyx:=hoth _ _ h.yx (fun cs e=>by injection e with _ e;exact absurd e aH);have hp:=h.hp;refine⟨hb.setCell (by show w.heap.size≤p;omega) _,fJ hbx (by show w.heap.size≠p;omega) _,fJ hyx (by show w.heap.size+1≠p;omega) _,fJ hres (by show w.heap.size+2≠p;omega) _,gY gN 6 v8 (by rfl),?_,?_,h.hp⟩
 ·exact Kd.oK hr gN (by intro q hq;simp[Kd.int,Kd.scalar] at hq;subst hq;decide) 6 v8
 exact Kd.oK (Kd.K3 h.set h.data (by intro q hq;simp[dw,Kd.Mr,Kd.pair,Kd.int,Kd.scalar] at hq;subst hq;decide) hg) gN (by intro q hq;simp[dw,Kd.Mr,Kd.pair,Kd.int,Kd.scalar] at hq;subst hq;decide) 6 v8
end
theorem aaj {l:List Int} {t:Nat} (h:t<l.length):l.take (t+1)=l.take t++[rd l (t:Int)]:=by
 rw[List.take_succ_eq_append_getElem h];simp[rd,h]
theorem K6 (x y:VU) (X4:Option Addr) (rZ:Nat) (X5:Option Addr) (sj:Nat) (Y4:Option Addr) (kD:Nat) (Y5:Option Addr) (lJ:Nat) (w:World)
  (fx:Fits x) (fy:Fits y) (most ax:Int) (hax:dL most (-1) 0 x.f4=some ax)
  (lx4:x.f4.length≤rZ) (gx4:Kd.C dw w X4 x.f4.length x.f4) (lx5:x.f5.length≤sj) (gx5:Kd.C (Kd.int .u8) w X5 x.f5.length x.f5)
  (ly4:y.f4.length≤kD) (gy4:Kd.C dw w Y4 y.f4.length y.f4) (ly5:y.f5.length≤lJ) (gy5:Kd.C (Kd.int .u8) w Y5 y.f5.length y.f5) :
  Calls Tryz.prog 38 #[.agg #[.int .i64 x.f0,.string x.f1,.string x.f2,.int .i64 x.f3,.slice X4 x.f4.length rZ,.slice X5 x.f5.length sj],.agg #[.int .i64 y.f0,.string y.f1,.string y.f2,.int .i64 y.f3,.slice Y4 y.f4.length kD,.slice Y5 y.f5.length lJ]] w fun e w'=>
   ∃v6 v7,e=.returned (.agg #[.int .i64 3,.int .i64 1,.string y.f1,.string ⟨#[]⟩,.int .i64 y.f3,.slice Y4 y.f4.length kD,v6,v7]) ∧
    Kd.R (Kd.int .u8) 5 w' w.heap.size (fun _=>True) v6 (uh x y).f1.f5∧Kd.R dw 117 w' w.heap.size (fun _=>True) v7 (uh x y).f2∧Below w.heap.size w w':=by
 have FX:=ah.mk fx;have FY:=ah.mk fy;have GX4:=ah.mk gx4;have GX5:=ah.mk gx5;have Zj:=ah.mk gy4;have GY5:=ah.mk gy5;clear fx fy gx4 gx5 gy4 gy5
 obtain⟨W3,hW3⟩:∃W3,W3=((w.alloc (.cells #[.int .i64 x.f0,.string x.f1,.string x.f2,.int .i64 x.f3,.slice X4 x.f4.length rZ,.slice X5 x.f5.length sj] 29)).alloc (.cells #[.int .i64 y.f0,.string y.f1,.string y.f2,.int .i64 y.f3,.slice Y4 y.f4.length kD,.slice Y5 y.f5.length lJ] 29)).alloc (.cells Xo 31):=⟨_,rfl⟩
 have hb3:Below w.heap.size w W3:=by rw[hW3];exact (((Below.refl _ _).alloc (Nat.le_refl _) _).alloc bB _).alloc (by simp;omega) _
 have hs3:W3.heap.size=w.heap.size+3:=by rw[hW3];simp
 have hk0:=aN (aN (bF w (.cells #[.int .i64 x.f0,.string x.f1,.string x.f2,.int .i64 x.f3,.slice X4 x.f4.length rZ,.slice X5 x.f5.length sj] 29)) (.cells #[.int .i64 y.f0,.string y.f1,.string y.f2,.int .i64 y.f3,.slice Y4 y.f4.length kD,.slice Y5 y.f5.length lJ] 29)) (.cells Xo 31);have hk1:=aN (bF (w.alloc (.cells #[.int .i64 x.f0,.string x.f1,.string x.f2,.int .i64 x.f3,.slice X4 x.f4.length rZ,.slice X5 x.f5.length sj] 29)) (.cells #[.int .i64 y.f0,.string y.f1,.string y.f2,.int .i64 y.f3,.slice Y4 y.f4.length kD,.slice Y5 y.f5.length lJ] 29)) (.cells Xo 31);have hk2:=bF ((w.alloc (.cells #[.int .i64 x.f0,.string x.f1,.string x.f2,.int .i64 x.f3,.slice X4 x.f4.length rZ,.slice X5 x.f5.length sj] 29)).alloc (.cells #[.int .i64 y.f0,.string y.f1,.string y.f2,.int .i64 y.f3,.slice Y4 y.f4.length kD,.slice Y5 y.f5.length lJ] 29)) (.cells Xo 31);rw[← hW3] at hk0 hk1 hk2;rw[show (w.alloc (.cells #[.int .i64 x.f0,.string x.f1,.string x.f2,.int .i64 x.f3,.slice X4 x.f4.length rZ,.slice X5 x.f5.length sj] 29)).heap.size=w.heap.size+1 by simp] at hk1;rw[show ((w.alloc (.cells #[.int .i64 x.f0,.string x.f1,.string x.f2,.int .i64 x.f3,.slice X4 x.f4.length rZ,.slice X5 x.f5.length sj] 29)).alloc (.cells #[.int .i64 y.f0,.string y.f1,.string y.f2,.int .i64 y.f3,.slice Y4 y.f4.length kD,.slice Y5 y.f5.length lJ] 29)).heap.size=w.heap.size+2 by simp] at hk2
 have hE:U6 w W3.heap.size #[.int .i64 x.f0,.string x.f1,.string x.f2,.int .i64 x.f3,.slice X4 x.f4.length rZ,.slice X5 x.f5.length sj] #[.int .i64 y.f0,.string y.f1,.string y.f2,.int .i64 y.f3,.slice Y4 y.f4.length kD,.slice Y5 y.f5.length lJ] y.f1 y.f3 (.slice Y4 y.f4.length kD) (.slice none 0 0) (.slice none 0 0) ([],[]) (W3.alloc (.cells #[.int .i64 3,.int .i64 1,.string y.f1,.string ⟨#[]⟩,.int .i64 y.f3,.slice Y4 y.f4.length kD,.slice none 0 0,.slice none 0 0] 31)) :=
  ⟨hb3.alloc hb3.size _,aN hk0 _,aN hk1 _,aN hk2 _,bF _ _,Kd.eD _ _ _ _ _,Kd.eD _ _ _ _ _,by omega⟩
 have HE:=ah.mk hE;have z1:W3.cell? ⟨w.heap.size+1,1,none⟩=some (.string y.f1):=ak hk1 1;have z3:W3.cell? ⟨w.heap.size+1,3,none⟩=some (.int .i64 y.f3):=ak hk1 3;have z4:W3.cell? ⟨w.heap.size+1,4,none⟩=some (.slice Y4 y.f4.length kD):=ak hk1 4;clear hb3 hk0 hk1 hk2 hE
 go_enter Tryz.func38,Tryz.ntmps38
 go_upto_region 1 with (fail)
 rw[← hW3];have HW3:=ah.mk hW3;clear hW3
 go_wp2_with fail
 obtain⟨p,hp⟩:∃p,w.heap.size+3=p:=⟨_,rfl⟩
 rw[hs3] at HE
 obtain⟨W4,Zk⟩:∃W4,W3.alloc (.cells #[.int .i64 3,.int .i64 1,.string y.f1,.string ⟨#[]⟩,.int .i64 y.f3,.slice Y4 y.f4.length kD,.slice none 0 0,.slice none 0 0] 31)=W4:=⟨_,rfl⟩
 rw[Zk,hp] at HE;rw[Zk];rw[hp];clear hs3 Zk z1 z3 z4 HW3
 go_loopg [6,7] y.f4.length (fun g s6 s7 wx=>∃(j:Nat) (v6 v7:Value),j+g=y.f4.length∧s6=.int .i64 ((512*(idxs (y.f4.take j)).length:Nat):Int)∧s7=.int .i64 j∧ah (U6 w p #[.int .i64 x.f0,.string x.f1,.string x.f2,.int .i64 x.f3,.slice X4 x.f4.length rZ,.slice X5 x.f5.length sj] #[.int .i64 y.f0,.string y.f1,.string y.f2,.int .i64 y.f3,.slice Y4 y.f4.length kD,.slice Y5 y.f5.length lJ] y.f1 y.f3 (.slice Y4 y.f4.length kD) v6 v7 (jv x y (idxs (y.f4.take j)) 0 ([],[])) wx))
 case atStart=>exact⟨0,_,_,by omega,rfl,rfl,⟨HE.out⟩⟩
 case round=>
  clear HE;obtain⟨j,v6,v7,hjg,rfl,rfl,HS⟩:=hrel;have y4:wr.cell? ⟨w.heap.size+1,4,none⟩=some (.slice Y4 y.f4.length kD):=ak HS.out.yx 4;by_cases hj:j<y.f4.length
  ·have d1:decide ((j:Int)<(y.f4.length:Int))=true:=decide_eq_true aj;have d2:decide (j<y.f4.length)=true:=decide_eq_true hj;obtain⟨ad,hA,r0,r1⟩:=dQ Zj.out (j:Int) aj aj
   have hrd:aQ y.f4 (j:Int)=y.f4[j]:=by simp[aQ,hj]
   have hqr:=FY.out.r y.f4[j] (List.getElem_mem hj);have htk:=C8 hj;have hil:=FY.out.i;have hyl:=FY.out.l
   have hnt:(idxs (y.f4.take (j+1))).length≤(idxs y.f4).length:=by
    have h1:=congrArg idxs (List.take_append_drop (j+1) y.f4);rw[NA] at h1;rw[← h1,List.length_append];omega
   rw[htk,List.length_append] at hnt
   obtain⟨q,hq⟩:∃q,y.f4[j]=q:=⟨_,rfl⟩
   rw[hrd,hq,Int.toNat_natCast] at r0 r1;rw[hq] at hqr htk hnt;obtain⟨q0,q1,q2⟩:=hqr;have aak:=Nt q;have HTK:=ah.mk htk;subst hA;have VW:=ah.mk r0;have Gr:=ah.mk r1
   obtain⟨N,hN⟩:∃N,(idxs (y.f4.take j)).length=N:=⟨_,rfl⟩
   have HN:=ah.mk hN
   obtain⟨m,hm⟩:∃m,(q.f1 - q.f0).toNat=m:=⟨_,rfl⟩
   rw[hm] at aak;rw[hN,aak] at hnt;rw[hN];have HIL:=ah.mk aak
   obtain⟨wo,rfl⟩:∃wo,wo=wr:=⟨_,rfl⟩
   obtain⟨go,rfl⟩:∃go,go=gk:=⟨_,rfl⟩
   have r0:=au HS.out.low r0;have p0:(0≤(j:Int))=True:=eq_true aj;have p1:((j:Int)<(y.f4.length:Int))=True:=eq_true aj;clear hrd hq htk r1 hN aak
   go_wp2_with fail
   clear r0 y4
   go_loopg [6,8] m (fun g s6 s8 wx=>∃(k:Nat) (v6 v7:Value),k+g=m∧s6=.int .i64 ((512*(N+k):Nat):Int)∧s8=.int .i64 (q.f0+(k:Int))∧ah (U6 w p #[.int .i64 x.f0,.string x.f1,.string x.f2,.int .i64 x.f3,.slice X4 x.f4.length rZ,.slice X5 x.f5.length sj] #[.int .i64 y.f0,.string y.f1,.string y.f2,.int .i64 y.f3,.slice (some ad) y.f4.length kD,.slice Y5 y.f5.length lJ] y.f1 y.f3 (.slice (some ad) y.f4.length kD) v6 v7 (jv x y (idxs (y.f4.take j)++(jI q).take k) 0 ([],[])) wx))
   case atStart=>exact⟨0,v6,v7,by omega,rfl,by first|rfl|simp,⟨by rw[List.take_zero,List.append_nil];exact HS.out⟩⟩
   case round=>
    clear HS;obtain⟨k,v6,v7,hkg,rfl,rfl,HS⟩:=hrel;have y4:wr.cell? ⟨w.heap.size+1,4,none⟩=some (.slice (some ad) y.f4.length kD):=ak HS.out.yx 4;have r1:=au HS.out.low Gr.out;by_cases hk:k<m
    ·have e1:decide (q.f0+(k:Int)<q.f1)=true:=decide_eq_true aj
     obtain⟨M,hM⟩:∃M,512*(N+k)=M:=⟨_,rfl⟩
     rw[hM];have y5:wr.cell? ⟨w.heap.size+1,5,none⟩=some (.slice Y5 y.f5.length lJ):=ak HS.out.yx 5;have hyn:=FY.out.n
     have hML:M+512≤y.f5.length:=by omega
     have hMs:M+512≤8459776:=by omega
     have hyc:M+512≤lJ:=by omega
     clear hyn;have hbk:=Nr x (q.f0+(k:Int)) X4 rZ X5 sj wr (Kd.aC GX4.out HS.out.low) lx4 (Kd.aC GX5.out HS.out.low) lx5 FX.out.r FX.out.l (by have h1:=FX.out.n;have h2:=FX.out.i;omega) aj aj;have HBK:=ah.mk hbk;have hbg:=GI (k:=N+k) GY5.out aj;have hbl:=gW (d:=y.f5) (k:=N+k) aj;rw[hM] at hbg;have HBG:=ah.mk hbg;have HBL:=ah.mk hbl;have HM:=ah.mk hM;clear hbk hbg hbl hM
     go_upto_region 11 with (first
      | (refine eX (.load 29 (.tmp 2)) rfl ?_;refine wpList_load_row rfl _ _ rfl w.heap.size rfl 29 #[.int .i64 x.f0,.string x.f1,.string x.f2,.int .i64 x.f3,.slice X4 x.f4.length rZ,.slice X5 x.f5.length sj] (0,0) _ HS.out.bx Tryz.underlying29 rfl aD ?_)
      | (go_at_call 71;refine HBK.out.mono ?_;rintro e w2 ⟨⟨A2,k2,rfl,hc2,hC2⟩,hb2⟩;have HS2:=ah.mk (HS.out.below hb2);have OB:=ah.mk (Kd.aC hC2 hb2);have HB2:=ah.mk hb2;clear hb2 hC2))
     try rw[Nat.add_sub_cancel_left]
     have hcA:=Kd.nD (P:=Tryz.prog) (A:=A2) (c:=k2) Tryz.underlying27 Tryz.underlying5 Tryz.underlying9 OB.out;have hcB:=Kd.nD (P:=Tryz.prog) (A:=Y5.map (·.add M)) (c:=lJ - M) Tryz.underlying27 Tryz.underlying5 Tryz.underlying9 (Kd.aC HBG.out HS2.out.low);have hnw:=Xi (old:=x) (goal:=y) (k:=N+k) (i:=q.f0+(k:Int)) hax (fun j hj=>by have h1:=DC hj;have h2:=FX.out.n;omega) (by have:=HM.out;omega);have hst:=D8 x y (idxs (y.f4.take j)++(jI q).take k) (q.f0+(k:Int)) 0 ([],[])
     obtain⟨bo,hbo⟩:∃o,vB x.f4 x.f5 (q.f0+(k:Int))=o:=⟨_,rfl⟩
     obtain⟨bn,hbn⟩:∃o,iX y.f5 (N+k)=o:=⟨_,rfl⟩
     rw[hbo] at hcA hnw
     try rw[hbo]
     rw[hbn] at hcB hnw
     have aeL:∀n∈bo,0≤n∧n≤255:=fun n hn=>by
      rw[← hbo] at hn;unfold vB at hn;split at hn
      ·cases hn
      split at hn
      ·cases hn
      exact FX.out.b n (List.mem_of_mem_drop (List.mem_of_mem_take hn))
     have aeM:∀n∈bn,0≤n∧n≤255:=fun n hn=>by
      rw[← hbn] at hn;exact FY.out.b n (List.mem_of_mem_drop (List.mem_of_mem_take hn))
     have hne:((strOfNums bo).toList != (strOfNums bn).toList)=newAt x y (N+k) (q.f0+(k:Int)):=by
      rw[hnw,bne,uM aeL aeM];by_cases e:bo=bn
      ·rw[decide_eq_true e,decide_eq_false (fun h=>h e)];rfl
      rw[decide_eq_false e,decide_eq_true e];rfl
     have Xp:idxs (y.f4.take j)++(jI q).take (k+1)=(idxs (y.f4.take j)++(jI q).take k)++[q.f0+(k:Int)]:=by
      have hk2:k<(jI q).length:=by rw[HIL.out];exact hk
      have hg:(jI q)[k]'hk2=q.f0+(k:Int):=by simp[jI]
      rw[List.take_succ_eq_append_getElem hk2,hg,List.append_assoc]
     have hlk:0+(idxs (y.f4.take j)++(jI q).take k).length=N+k:=by rw[List.length_append,List.length_take,HIL.out,HN.out];omega
     rw[hlk] at hst;have HT1:=ah.mk Xp;have EZ:=HM.out
     cases hnb:newAt x y (N+k) (q.f0+(k:Int)) with
     | false=>
      rw[hnb] at hne hst;rw[if_neg aH] at hst;have Fj:=ah.mk HS2.out;rw[← hst,← Xp] at Fj
      have hne2:((strOfNums bo).toList == (strOfNums bn).toList)=true:=by
       cases h:((strOfNums bo).toList == (strOfNums bn).toList) with
       | true=>rfl
       | false=>rw[bne,h] at hne;cases hne
      clear hst Xp hlk hnw hnb aeL aeM
      go_wp2_with fail
      go_roundg (m - (k+1))
      case measure=>omega
      case rel=>exact⟨k+1,v6,v7,by omega,by first|rfl|(rw[← EZ];push_cast;rfl)|(congr 1;omega),by first|rfl|(push_cast;rfl)|(congr 1;omega),Fj⟩
     | true=>
      rw[hnb] at hne hst;rw[if_pos rfl] at hst
      have hne2:((strOfNums bo).toList == (strOfNums bn).toList)=false:=by
       cases h:((strOfNums bo).toList == (strOfNums bn).toList) with
       | true=>rw[bne,h] at hne;cases hne
       | false=>rfl
      have hlen:=qh x y (idxs (y.f4.take j)++(jI q).take k) 0 ([],[]);rw[show (idxs (y.f4.take j)++(jI q).take k).length=N+k by omega] at hlen
      obtain⟨st,hs0⟩:∃st,jv x y (idxs (y.f4.take j)++(jI q).take k) 0 ([],[])=st:=⟨_,rfl⟩
      rw[hs0] at hst hlen HS2;rw[hbn] at hst;rw[← Xp] at hst
      have hl1:st.1.length≤N+k:=by have:=hlen.1;simpa using this
      have hl2:st.2.length≤512*(N+k):=by have:=hlen.2;simpa using this
      have HST:=ah.mk hst;have aeN:=HBL.out;rw[hbn] at aeN;have HBN:=ah.mk aeN;have HBR:=ah.mk HBG.out;rw[hbn] at HBR
      obtain⟨AB,Zv⟩:∃AB,Y5.map (·.add M)=AB:=⟨_,rfl⟩
      rw[Zv] at HBR hcB
      try rw[Zv]
      obtain⟨aB,haB,_⟩:=Kd.gZ HBR.out 0 aj aj;subst haB;obtain⟨A7,c7,hv7⟩:=Kd.bP HS2.out.set;subst hv7;have u7:w2.cell? ⟨p,7,none⟩=some (.slice A7 st.1.length c7):=ak HS2.out.box 7;clear hst Xp hlk hnw hnb aeL aeM hlen hs0 aeN Zv hbn hbo
      go_upto_region 13 with (go_at_call 72;refine (PT.jO.calls (fun k=>(Value.slice A7 st.1.length c7).ownBlock=some k) _ st.1 (q.f0+(k:Int)) (qj st.1 (q.f0+(k:Int))) w _ HS2.out.low (nI HS2.out.set) (U5 st.1 _ aj aj aj)).mono ?_;rintro e w5 ⟨v8,rfl,Mk,Fe,EH⟩;have yU:=(EH.2 p (bG HS2.out.box) (fun hp=>Kd.uW HS2.out.set HS2.out.box aH hp.symm)).trans HS2.out.box;obtain⟨A8,c8,hv8⟩:=Kd.bP Mk;subst hv8;have Fj:=ah.mk (HS2.out.join Fe EH Mk);have u5:w5.cell? ⟨p,7,none⟩=some (.slice A7 st.1.length c7):=ak yU 7;have f7:=ay yU 7;have l5:=bG yU;clear Mk Fe EH yU u7)
      obtain⟨W6,hW6⟩:∃W6,w5.setCell ⟨p,7,none⟩ (.slice A8 (qj st.1 (q.f0+(k:Int))).length c8)=W6:=⟨_,rfl⟩
      rw[hW6] at Fj
      try rw[hW6]
      obtain⟨wo2,rfl⟩:∃wo2,wo2=wr:=⟨_,rfl⟩
      obtain⟨go2,rfl⟩:∃go2,go2=gk:=⟨_,rfl⟩
      clear hW6 u5 f7 l5 HS2 hcA hcB hne hne2 y4 y5 r1
      go_wp2_with fail
      go_loopg [11] 512 (fun g s11 wx=>∃(t:Nat) (v6:Value),t+g=512∧s11=.int .i64 t∧ah (U6 w p #[.int .i64 x.f0,.string x.f1,.string x.f2,.int .i64 x.f3,.slice X4 x.f4.length rZ,.slice X5 x.f5.length sj] #[.int .i64 y.f0,.string y.f1,.string y.f2,.int .i64 y.f3,.slice (some ad) y.f4.length kD,.slice Y5 y.f5.length lJ] y.f1 y.f3 (.slice (some ad) y.f4.length kD) v6 (.slice A8 (qj st.1 (q.f0+(k:Int))).length c8) (qj st.1 (q.f0+(k:Int)),st.2++bn.take t) wx))
      case atStart=>exact⟨0,v6,by omega,rfl,⟨by rw[List.take_zero,List.append_nil];exact Fj.out⟩⟩
      case round=>
       clear Fj;obtain⟨t,v6,htg,rfl,OM⟩:=hrel;by_cases ht:t<512
       ·have t1:decide ((t:Int)<512)=true:=decide_eq_true aj;have q0:(0≤(t:Int))=True:=eq_true aj;have q1:((t:Int)<512)=True:=eq_true aj;obtain⟨A6,n6,c6,hv6⟩:=fU OM.out.data;subst hv6;obtain⟨aB2,aeP,hcell⟩:=Kd.gZ HBR.out (t:Int) aj aj;rw[Int.toNat_natCast] at hcell;have HAB:=ah.mk (And.intro aeP hcell);obtain rfl:aB=aB2:=Option.some.inj aeP;clear aeP hcell
        go_wp2_with fail
        have hdr:=bf (Below.refl wr.heap.size wr)
        obtain⟨Wd,hWd⟩:∃Wd,wr.drew=Wd:=⟨_,rfl⟩
        rw[hWd] at hdr;have HSd:=ah.mk (OM.out.below hdr);have z6:Wd.cell? ⟨p,6,none⟩=some (.slice A6 n6 c6):=ak HSd.out.box 6;have zb:=au HSd.out.low HAB.out.2
        have hS:Wd.cell? ⟨p,6,none⟩=some (.slice A6 n6 c6)∧Wd.cell? (aB.add t)=some (.int .u8 (rd bn (t:Int))):=⟨z6,zb⟩
        clear hdr z6 zb OM;refine jJ (n:=12) (S:=fun w'=>w'.cell? ⟨p,6,none⟩=some (.slice A6 n6 c6)∧w'.cell? (aB.add t)=some (.int .u8 (rd bn (t:Int)))) (ds:=[8,11]) (aM 12 0) aD rfl rfl (by rw[hWd];exact hS) (fun hHeld=>?_);rw[hWd] at hHeld ⊢;clear hWd hS;refine bA 0 66 (aM 12 1) ?_;refine bA 1 67 (aM 12 3) ?_;refine gG 2 68 (aM 12 7) rfl hHeld (by rintro w' ⟨s6,sb⟩;go_simp;with_reducible rfl) ?_;refine bA 3 69 (aM 12 15) ?_;refine bA 4 70 (aM 12 31) ?_;refine bA 5 71 (aM 12 63) ?_;refine gG 6 72 (aM 12 127) rfl hHeld (by rintro w' ⟨s6,sb⟩;go_simp;with_reducible rfl) ?_;refine mD 7 (some 73) (aM 12 255) (fun K hK=>?_);refine pW (v:=.slice (some ⟨Wd.heap.size,0,none⟩) 1 1) (w1:=Wd.alloc (.cells #[.int .u8 (rd bn (t:Int))] 5)) (by rfl) rfl ?_ ?_
        ·go_simp
         try rfl
        have hal:=(Below.refl Wd.heap.size Wd).alloc (Nat.le_refl _) (.cells #[.int .u8 (rd bn (t:Int))] 5);refine hK.out _ _ ⟨au hal hHeld.1,au hal hHeld.2⟩ (fun hHeld=>?_);clear hK K hal;refine fH 73 ?_;refine kX (i:=8) (N:=some 74) (aM 12 511) rfl rfl aD aH (fun K hK=>?_);refine Kd.gU (Kd.int .u8) (w0:=w) w.heap.size (by rfl) (.tmp 68) (.tmp 73) 27 5 (.int .u8 0) 1 rfl Tryz.underlying27 info5 rfl aH aH (.slice A6 n6 c6) (st.2++bn.take t) (rd bn (t:Int)) [.int .u8 (rd bn (t:Int))] (fun _=>True) (fun _=>False) rfl rfl rfl (fun _ h=>h.elim) (fun _ _=>trivial) HSd.out.data HSd.out.low HSd.out.low.size (by rw[List.length_append,List.length_take];omega) ?_;intro v9 w9 Xq K7 U7 qd;have BI:=kM HSd.out.box U7 (Kd.uW HSd.out.data HSd.out.box aH);obtain⟨A9,c9,hv9⟩:=Kd.bP Xq;subst hv9;have HS6:=ah.mk (HSd.out.append K7 U7 Xq);have u9:w9.cell? ⟨p,6,none⟩=some (.slice A6 n6 c6):=ak BI 6;have f9:=ay BI 6;have l9:=bG BI;clear Xq K7 U7 BI qd;refine hK.out _ _ ?_;clear hK K hHeld;refine fH 74 ?_;refine bA 9 75 (aM 12 1023) ?_;refine bA 10 76 (aM 12 2047) ?_;refine kX (i:=11) (N:=none) (aM 12 4095) rfl rfl aD aH (fun K hK=>?_);refine rG (w1:=w9.setCell ⟨p,6,none⟩ (.slice A9 ((st.2++bn.take t)++[rd bn (t:Int)]).length c9)) (by rfl) rfl ?_ ?_
        ·go_simp
        refine hK.out _ _ ?_;clear hK K;refine jK aD ?_
        obtain⟨W9,V3⟩:∃W9,w9.setCell ⟨p,6,none⟩ (.slice A9 ((st.2++bn.take t)++[rd bn (t:Int)]).length c9)=W9:=⟨_,rfl⟩
        have hs6:=HS6.out;rw[V3,List.append_assoc,← aaj (show t<bn.length by have:=HBN.out;omega)] at hs6;have HS7:=ah.mk hs6
        try rw[V3]
        clear V3 hs6 HS6 u9 f9 l9 HAB
        go_wp2_with fail
        go_roundg (512 - (t+1))
        case measure=>omega
        case rel=>exact⟨t+1,_,by omega,by first|rfl|(push_cast;rfl)|simp,HS7⟩
       have t1:decide ((t:Int)<512)=false:=decide_eq_false aj;have hs6:=OM.out;rw[List.take_of_length_le (by have:=HBN.out;omega),← HST.out] at hs6;have HS7:=ah.mk hs6;clear hs6 OM
       go_wp2_with fail
       go_roundg (m - (k+1))
       case measure=>omega
       case rel=>exact⟨k+1,v6,_,by omega,by first|rfl|(rw[← EZ];push_cast;rfl)|(congr 1;omega),by first|rfl|(push_cast;rfl)|(congr 1;omega),HS7⟩
    obtain rfl:k=m:=by omega
    have e1:decide (q.f0+(k:Int)<q.f1)=false:=decide_eq_false aj;have hs:=HS.out;rw[List.take_of_length_le (l:=jI q) (by rw[HIL.out];omega),← HTK.out] at hs;have su:=ah.mk hs
    have hlen:(idxs (y.f4.take (j+1))).length=N+k:=by rw[HTK.out,List.length_append,HIL.out,HN.out]
    have Nq:=ah.mk hlen;clear HS hs hlen
    go_wp2_with fail
    go_roundg (y.f4.length - (j+1))
    case measure=>omega
    case rel=>exact⟨j+1,v6,v7,by omega,by rw[Nq.out],by first|rfl|(push_cast;rfl)|simp,su⟩
  obtain rfl:j=y.f4.length:=by omega
  have d1:decide ((y.f4.length:Int)<(y.f4.length:Int))=false:=decide_eq_false aj;have d2:decide (y.f4.length<y.f4.length)=false:=decide_eq_false hj;have hs:=HS.out;rw[List.take_length] at hs;have su:=ah.mk hs;clear HS hs
  go_wp2_with (first
   | (refine eX (.load 31 (.tmp 5)) rfl ?_;refine wpList_load_row rfl _ _ rfl p rfl 31 _ (0,0) _ su.out.box Tryz.underlying31 rfl aD ?_)
   | (refine eX (.store 31 (.tmp 4) (.tmp 79)) rfl ?_;refine wpList_store_row rfl 31 (.tmp 4) (.tmp 79) rfl (w.heap.size+2) #[.int .i64 3,.int .i64 1,.string y.f1,.string ⟨#[]⟩,.int .i64 y.f3,.slice Y4 y.f4.length kD,v6,v7] rfl rfl 31 _ su.out.res aD (by rfl) ?one ?_;(case one=>obtain⟨b6,d6,e6⟩:=Kd.bP su.out.data;obtain⟨b7,d7,e7⟩:=Kd.bP su.out.set;rw[e6,e7];simp[Value.oneCell'])))
  refine bodyPost_ret (results_cell_row rfl _ _ (w.heap.size+2) 31 #[.int .i64 3,.int .i64 1,.string y.f1,.string ⟨#[]⟩,.int .i64 y.f3,.slice Y4 y.f4.length kD,v6,v7] (0,0) _ rfl (setRow_heap _ _ _ _ _ _ su.out.res) Tryz.underlying31 rfl aD) rfl ⟨v6,v7,rfl,?_,?_,below_setRow su.out.low aj _⟩
  ·exact vD (Kd.nZ (yB su.out.data) (fun k ho _=>setRow_other _ _ _ _ (fun e=>Kd.uW su.out.data su.out.res aH (by rw[← e];exact ho.symm))))
  exact rC (Kd.nZ (nI su.out.set) (fun k ho _=>setRow_other _ _ _ _ (fun e=>Kd.uW su.out.set su.out.res aH (by rw[← e];exact ho.symm))))
end Go.Proofs.YtknihldkhedpkaaGreatDoor
end
section
namespace Go.Proofs.YtknihldkhedpkaaGreatDoor
open Go.RowKit Go.Lib
open Go.Proofs.YtknihldkhedpkaaGreatDoorW.PrintWords Go.Proofs.YtknihldkhedpkaaGreatDoorW.PrintLast Go.Proofs.YtknihldkhedpkaaGreatDoor.PT
def jl.f (a0:ByteArray):Option ByteArray:=if a0.size≤140737488351232 then some (bY 47 0 a0) else none
theorem jl.calls (a0:ByteArray) (r:ByteArray) (w:World) (h:jl.f a0=some r):Calls Tryz.prog 107 #[.string a0] w fun e w'=>e=.returned (.string r)∧Below w.heap.size w w':=by
 unfold jl.f at h;split at h
 ·rename_i hs;obtain rfl:=Option.some.inj h;exact yu a0 hs w
 cases h
end Go.Proofs.YtknihldkhedpkaaGreatDoor
end
section
namespace Go.Proofs.YtknihldkhedpkaaGreatDoor.PT
open Go.RowKit Go.Proofs.YtknihldkhedpkaaGreatDoorW.PrintWords Go.Proofs.YtknihldkhedpkaaGreatDoorW.PrintLast Go.Proofs.YtknihldkhedpkaaGreatDoorW.PrintMore
attribute [local go_sem] kI kJ mI mJ jE jF kK kL
def bK.f (a0:ByteArray):Option (ByteArray):=(jl.f a0).bind fun U8=>(some U8)
theorem bK.calls (a0:ByteArray) (r:ByteArray) (w:World) (h:bK.f a0=some r) :
  Calls Tryz.prog 68 #[.string a0] w fun e w'=>e=.returned (.string r)∧Below w.heap.size w w':=by
 have HB:=ah.mk (Below.refl w.heap.size w);have H:((jl.f a0).bind fun U8=>(some U8))=some r:=h;clear h;replace H:=Option.bind_eq_some_iff.mp H;obtain⟨U8,WM,H⟩:=H;replace H:(some U8)=some r:=H;have A2:=ah.mk WM;clear WM;obtain rfl:=Option.some.inj H
 go_enter Tryz.func68,Tryz.ntmps68
 go_wp2_with (first|((with_reducible refine fM (f:=107) rfl ?_);refine oh (some 4) rfl rfl Tryz.func107 aD rfl #[.string a0] rfl qw ?_;(with_reducible refine (jl.calls a0 U8 _ A2.out).mono ?_);rintro e w3 ⟨rfl,hb⟩;refine⟨_,rfl,?_⟩;have dM:=ah.mk (bM dG hb);clear HB;have HB:=dM;clear dM;(try clear hb);(try clear hb2);(try clear hk);(try clear hi)))
 go_ret
 exact⟨by first|rfl|(simp[aY,aZ] <;> rfl)|(simp[*,aY,aZ] <;> rfl),by repeat (first|(with_reducible first|exact HB.out|apply aG|apply av|apply aK)|exact HB.out)⟩
end Go.Proofs.YtknihldkhedpkaaGreatDoor.PT
end
