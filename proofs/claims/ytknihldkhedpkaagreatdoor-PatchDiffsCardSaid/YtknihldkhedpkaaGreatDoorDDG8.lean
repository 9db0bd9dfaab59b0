import Derived.Test.YtknihldkhedpkaaGreatDoorDDG6
import Derived.Test.YtknihldkhedpkaaGreatDoorDDG3
import Derived.Test.YtknihldkhedpkaaGreatDoorDDW
import Derived.Maps.OwnOps
import Derived.Deep.RegionLaw
import Derived.Lib.LastIndexByte
import Derived.Deep.QuietTactic
import Derived.BigQuiet
import Derived.WalkSpells
import Derived.WalkKit
import Derived.Test.YtknihldkhedpkaaGreatDoorDDG1
import Derived.OneCell
import Derived.ArgAppend
import Derived.Lib.SlBytesConst
import Derived.RowKit3
set_option linter.all false
set_option maxHeartbeats 16000000
set_option maxRecDepth 100000
section
namespace Go.Proofs.YtknihldkhedpkaaGreatDoor
open Go.RowKit Go.Lib Go.Maps Go.WideAt Go.WideMaps
open Go.Proofs.YtknihldkhedpkaaGreatDoorW.PrintWords Go.Proofs.YtknihldkhedpkaaGreatDoorW.PrintLast Go.Proofs.YtknihldkhedpkaaGreatDoor.PT
def om:List (ByteArray × Int)→ByteArray→Int
 | [],_=>0
 | (q,n)::l,p=>if q=p then n else om l p
def zu (p:ByteArray):ByteArray:=p.extract 0 (Lib.lastIndexByte p 47).toNat
def iy (x:It):Bool:=decide (x.f3=0) && decide (x.f4.length=0) && decide (x.f5.length=0)
def eT (K:List (ByteArray × Int)) (x:It):Bool :=
 if x.f0=1 then decide (x.f2.size=0) && dW x.f3 x.f4 x.f5
 else if x.f0=2 then iy x && decide (x.f2.size=0)
 else if x.f0=3 then iy x && (decide (x.f2.size≠0) && (decide (x.f2.size≤255) && decide (Lib.indexByte (bs x.f2) 0<0)))
 else if x.f0=4 then iy x && decide (om K x.f2=1)
 else false
def gL:List (ByteArray × Int)→Option (List ByteArray)→List It→Bool
 | _,_,[]=>true
 | K,before,x::l=>(iW x.f1).2 && (before.all fun b=>lY b (iW x.f1).1) && decide (om K (zu x.f1)=2) && eT K x && gL ((x.f1,x.f0)::K) (some (iW x.f1).1) l
def lZ (l:List It):Bool:=gL [(⟨#[]⟩,2)] none l
structure Fit (x:It):Prop where
 p:x.f1.size≤140737488351232
 t:x.f2.size≤140737488351232
 r:x.f4.length≤140737488351232
 d:x.f5.length≤140737488351232
 b:∀n∈x.f5,0≤n∧n≤255
theorem Yy:Keyed Tryz.prog 9:=string_keyed Tryz.underlying9
theorem ajL:∀w:World,(zeroValue 3).run Tryz.prog w=.ok (.int .i64 0) w:=fun w=>by kernel_rfl
def LY (p:ByteArray):Lit:=.string p.data.toList
theorem af8 (p:ByteArray) (h:p.size≤140737488351232):keyOf Tryz.prog 9 (.string p)=some (LY p):=keyOf_string_mk Tryz.underlying9 (by unfold maxLen;omega)
def zB (w:World) (b n:Nat) (K:List (ByteArray × Int)):Prop :=
 ∃D:DataW Unit,w.ownsMap Tryz.prog 9 (plainElem Tryz.prog 3) b n D∧∀p:ByteArray,D.atKey (LY p) (.lit (.int .i64 0))=.lit (.int .i64 (om K p))
theorem CJ {H:Type} {P:Program} (w:World) {ops:Array Oper} {rest:List Oper} {o:Oper} {a:Act} {Q:Exit→Act→World→Prop}
  (hg:o.guard=none) (m x v:Operand) (t:TypeId) (hop:o.op=Op.insert t m x v)
  (k e:TypeId) (K:Keyed P k) (ht:P.underlying t=some (.map k e)) (R:Value→Option (DataW H × List MemPlace)) (b n:Nat) (D:DataW H)
  (hm:a.eval m=.map (some b)) (hown:w.ownsMap P k R b n D) (hn:n<maxLen) (key val:Value) (kl:Lit) (hx:a.eval x=key) (hv:a.eval v=val) (hkey:keyOf P k key=some kl)
  (d:DataW H) (ps:List MemPlace) (hval:R val=some (d,ps))
  (hK:∀w',w'.ownsMap P k R b (n+1) (D.put kl d)→w.grownBy w' (some b)→wpList P ops Q rest (a.put o.dst undef) w') :
  wpList P ops Q (o::rest) a w:=by
 refine wpList_plain hg fun K' hK'=>?_
 obtain⟨w',hrun,r1,r2⟩:=hown.update K ht hn hkey hval;unfold Oper.wp;simp[execOp,hop,hm,hx,hv,hrun,Result.andThen];exact hK' _ _ (hK w' r1 r2)
theorem YU {p q:ByteArray} (h:LY p=LY q):p=q:=by
 unfold LY at h
 injection h with h
 exact nY h
theorem adL (n:Int) (h0 : -9223372036854775808≤n) (h1:n≤9223372036854775807):plainElem (H:=Unit) Tryz.prog 3 (.int .i64 n)=some (.lit (.int .i64 n),[]):=plainElem_int Tryz.underlying3 (WalkArith.wf_i64 ⟨h0,h1⟩)
theorem Ki {w:World} {b n:Nat} {K:List (ByteArray × Int)} {D:DataW Unit} {p:ByteArray} {v:Int} (h:w.ownsMap Tryz.prog 9 (plainElem Tryz.prog 3) b n (D.put (LY p) (.lit (.int .i64 v))))
  (hD:IsMap D) (hat:∀p:ByteArray,D.atKey (LY p) (.lit (.int .i64 0))=.lit (.int .i64 (om K p))):zB w b n ((p,v)::K):=by
 refine⟨_,h,fun q=>?_⟩;by_cases e:p=q
 ·subst e;rw[atKey_put_same hD (by exact trivial)];simp[om]
 rw[atKey_put_other (fun h=>e (YU h).symm),hat,om,if_neg e]
theorem VB:IsMap (.map []:DataW Unit):=⟨[],rfl⟩
theorem zB.below {w w1:World} {b n:Nat} {K:List (ByteArray × Int)} (h:zB w b n K) (hb:Below w.heap.size w w1):zB w1 b n K:=by
 obtain⟨D,⟨es,clock,h1,F,hs,hD⟩,hat⟩:=h;exact⟨D,⟨es,clock,aJ h1 hb,F,hs,hD⟩,hat⟩
theorem zB.look {w:World} {b n:Nat} {K:List (ByteArray × Int)} (h:zB w b n K) (p:ByteArray) (hp:p.size≤140737488351232) :
  (Instr.lookup 156 (.map (some b)) (.string p) false).run Tryz.prog w=.ok (.int .i64 (om K p)) w:=by
 obtain⟨D,hown,hat⟩:=h;obtain⟨c,hrun,hc,_⟩:=hown.lookup_int Yy Tryz.underlying156 Tryz.underlying3 (ajL w) (af8 p hp);rw[hat p] at hc;have hc2:=(Lit.int.inj (DataW.lit.inj hc)).2;rw[hc2];exact hrun
theorem zB.drewN {w:World} {b n:Nat} {K:List (ByteArray × Int)} (h:zB w b n K) (m:Nat):zB (w.drewN m) b n K:=h.below (av (Below.refl _ _) m)
theorem uE {s:ByteArray} {l:List ByteArray} (h:iW s=(l,true)):s.size≤1023∧fP s=true∧l=dP s∧(dP s).all fQ=true:=by
 unfold iW at h;split at h
 ·rename_i hc
  injection h with h _
  exact⟨hc.1,hc.2.1,h.symm,hc.2.2⟩
 cases h
theorem Sb {s:ByteArray} (h:fP s=true):∃i:Nat,Lib.lastIndexByte s 47=i∧i<s.size:=by
 have hs:=lg h
 rcases Lib.lastIndexByte_spec s 47 with⟨_,hn⟩|⟨i,hi,e,_⟩
 ·exfalso;have h:=of_decide_eq_true h;have h0:=hn 0 aj
  cases hb:bs s with
  | nil=>rw[hb] at h;cases h
  | cons a l=>
   rw[hb] at h
   injection h with h
   subst h;apply h0
   have:s=mkB (47::l):=by rw[← hb,R8]
   rw[this];rfl
 exact⟨i,e,hi⟩
def af9 (v:Value) (w:World) (before:Option (List ByteArray)):Prop :=
 (before=none∧v=.slice none 0 0)∨∃A b c,before=some b∧v=.slice (some A) b.length c∧b.length≤c∧b.length≤1024∧Kd.C Kd.string w (some A) b.length b
theorem io1 {K:List (ByteArray × Int)} {x:It} (h:x.f0=1) (hs:x.f2.size=0):eT K x=dW x.f3 x.f4 x.f5:=by
 unfold eT;rw[if_pos h,decide_eq_true hs,Bool.true_and]
theorem apf {K:List (ByteArray × Int)} {x:It} (h:x.f0=1) (hs:¬x.f2.size=0):eT K x=false:=by
 unfold eT;rw[if_pos h,decide_eq_false hs,Bool.false_and]
theorem io2 {K:List (ByteArray × Int)} {x:It} (h1:¬x.f0=1) (h:x.f0=2):eT K x=(iy x && decide (x.f2.size=0)):=by
 unfold eT;rw[if_neg h1,if_pos h]
theorem io3 {K:List (ByteArray × Int)} {x:It} (h1:¬x.f0=1) (h2:¬x.f0=2) (h:x.f0=3):eT K x=(iy x && (decide (x.f2.size≠0) && (decide (x.f2.size≤255) && decide (Lib.indexByte (bs x.f2) 0<0)))):=by
 unfold eT;rw[if_neg h1,if_neg h2,if_pos h]
theorem io4 {K:List (ByteArray × Int)} {x:It} (h1:¬x.f0=1) (h2:¬x.f0=2) (h3:¬x.f0=3) (h:x.f0=4):eT K x=(iy x && decide (om K x.f2=1)):=by
 unfold eT;rw[if_neg h1,if_neg h2,if_neg h3,if_pos h]
theorem io5 {K:List (ByteArray × Int)} {x:It} (h1:¬x.f0=1) (h2:¬x.f0=2) (h3:¬x.f0=3) (h:¬x.f0=4):eT K x=false:=by
 unfold eT;rw[if_neg h1,if_neg h2,if_neg h3,if_neg h]
theorem xO {K:List (ByteArray × Int)} {x:It} (h:eT K x=true):1≤x.f0∧x.f0≤4:=by
 unfold eT at h;by_cases h1:x.f0=1
 ·omega
 by_cases h2:x.f0=2
 ·omega
 by_cases h3:x.f0=3
 ·omega
 by_cases h4:x.f0=4
 ·omega
 rw[if_neg h1,if_neg h2,if_neg h3,if_neg h4] at h;cases h
theorem YV {w w':World} {A:Option Addr} {n N:Nat} {xs:List ByteArray} {es:Array MapEntry} {cl:Nat} (h:Kd.C Kd.string w A n xs) (hm:w.heap[N]?=some (.map es cl)) (hg:w.grownBy w' (some N)):Kd.C Kd.string w' A n xs:=by
 obtain⟨h1,h2,h3⟩:=h;refine⟨h1,h2,fun hn=>?_⟩;obtain⟨ad,rfl,hc⟩:=h3 hn;refine⟨ad,rfl,fun j p hj=>?_⟩;obtain⟨c,e1,e2,e3⟩:=hc j p hj;refine⟨c,e1,e2,fun i u hi=>?_⟩;have hcell:=e3 i u hi;have hlt:=World.block_lt_of_cell? w _ hcell
 have hne:(ad.add (j*Kd.string.sz+i)).block≠N:=by
  intro e;unfold World.cell? at hcell;rw[e,hm] at hcell;simp at hcell
 rw[← hcell];unfold World.cell?;rw[hg.block _ hlt (fun e=>hne (Option.some.inj e))]
theorem VD (A0:Option Addr) (c0:Nat) (l:List It) (w:World) (hr:Kd.C mV w A0 l.length l) (hc:l.length≤c0) (hf:∀x∈l,Fit x) (hl:l.length≤1048576) :
  Calls Tryz.prog 83 #[.slice A0 l.length c0] w fun e w'=>e=.returned (.bool (lZ l))∧Below w.heap.size w w':=by
 have HR:=ah.mk hr;have HF:=ah.mk hf;have hmm:=@run_makeMap Tryz.prog;clear hr hf
 go_enter Tryz.func83,Tryz.ntmps83
 go_wp2_with (refine CJ _ rfl (.tmp 10) (.const (.string ⟨#[]⟩)) (.const (.int .i64 2)) 156 rfl 9 3 Yy Tryz.underlying156 (plainElem (H:=Unit) Tryz.prog 3) w.heap.size 0 _ rfl (World.ownsMap_made _ _ _ _) (by unfold maxLen;omega) _ _ (LY ⟨#[]⟩) rfl rfl (af8 _ aH) (.lit (.int .i64 2)) [] (adL 2 aH aH) ?_;intro w1 hm1 hg1;clear hmm)
 have xX:=ah.mk (Ki (K:=[]) hm1 VB (fun p=>by rfl));have HB1:=ah.mk (show Below w.heap.size w w1 from ((Below.refl w.heap.size w).alloc (Nat.le_refl _) _).grown hg1 bB (fun k e=>by cases e;exact Nat.le_refl _));clear hm1 hg1
 go_loopg [4,14] l.length (fun g s4 s14 wx=>∃(i:Nat) (K:List (ByteArray × Int)) (before:Option (List ByteArray)) (vb:Value),i+g=l.length∧s14=.int .i64 i∧vb=s4∧ah (gL K before (l.drop i)=lZ l)∧ah (af9 vb wx before)∧ah (zB wx w.heap.size (i+1) K)∧ah (Below w.heap.size w wx))
 case atStart=>exact⟨0,_,none,_,by omega,rfl,rfl,⟨by rw[List.drop_zero];rfl⟩,⟨.inl ⟨rfl,rfl⟩⟩,xX,HB1⟩
 case round=>
  clear xX HB1;obtain⟨i,K,before,vb,hig,rfl,rfl,HG,HV,HM,HB⟩:=hrel;by_cases hi:i<l.length
  ·have hd:decide ((i:Int)<(l.length:Int))=true:=decide_eq_true aj;have hd2:decide (i<l.length)=true:=decide_eq_true hi;obtain⟨ad,A4,c4,A5,c5,hA,r0,r1,r2,r3,r4,r5,l4,g4,l5,g5⟩:=jh (Kd.aC HR.out HB.out) (i:Int) aj aj;rw[Int.toNat_natCast] at r0 r1 r2 r3 r4 r5
   have hrd:aI l (i:Int)=l[i]'hi:=by simp[aI,hi]
   have ZC:=ah.mk (HF.out (l[i]'hi) (List.getElem_mem hi));have hg0:=HG.out;rw[List.drop_eq_getElem_cons hi] at hg0
   obtain⟨x,hx⟩:∃x,l[i]'hi=x:=⟨_,rfl⟩
   rw[hrd,hx] at r0 r1 r2 r3 r4 r5 l4 g4 l5 g5;rw[hx] at hg0 ZC;have HG:=ah.mk hg0;have IL:=ah.mk g4;have IQ:=ah.mk g5;have HA:=ah.mk hA;subst hA;clear hrd hx hg0 g4 g5;obtain⟨kc,hkc⟩:=Ev.rounds (af2 x.f1)
   obtain⟨cp,hcp⟩:∃cp,iW x.f1=cp:=⟨_,rfl⟩
   obtain⟨pts,okc⟩:=cp;rw[hcp] at hkc;have HKC:=ah.mk hkc;have HCP:=ah.mk hcp;clear hkc hcp;have hbx:=bF wr (.cells #[.int .i64 x.f0,.string x.f1,.string x.f2,.int .i64 x.f3,.slice A4 x.f4.length c4,.slice A5 x.f5.length c5] 29);have zh:=ah.mk hbx;clear hbx
   go_wp2_with fail
   refine (dS.calls kc x.f1 pts okc _ HKC.out).mono ?_;rintro e w2 ⟨v2,rfl,hr2,hb2⟩;have hba:=(Below.refl wr.heap.size wr).alloc (Nat.le_refl _) (.cells #[.int .i64 x.f0,.string x.f1,.string x.f2,.int .i64 x.f3,.slice A4 x.f4.length c4,.slice A5 x.f5.length c5] 29);have hbw:Below wr.heap.size wr w2:=hba.trans (hb2.mono hba.size);have HB2:=ah.mk (HB.out.trans (hbw.mono HB.out.size));have ajN:=ah.mk (aJ zh.out hb2);have EZ:=ah.mk (HM.out.below hbw);have IL:=ah.mk (Kd.aC IL.out hbw);have IQ:=ah.mk (Kd.aC IQ.out hbw)
   have wU:ah (af9 vb w2 before):=⟨by
    rcases HV.out with⟨e1,e2⟩|⟨A,b,c,e1,e2,e3,e4,e5⟩
    ·exact .inl ⟨e1,e2⟩
    exact .inr ⟨A,b,c,e1,e2,e3,e4,Kd.aC e5 hbw⟩⟩
   obtain⟨Ap,cpp,ev2,hcap2,YW⟩:=Kd.sK hr2;subst ev2;have HRP:=ah.mk YW;clear hba hbw hr2 hb2 YW HB HM HV zh r0 r1 r2 r3 r4 r5
   go_upto_region 7 with (fail)
   go_cut [35] (fun v35 wc=>v35=.bool (!(okc && (before.all fun b=>lY b pts)))∧ah (bI w2 wc))
   case first=>
    cases okc with
    | false=>
     go_wp2_with fail
     go_meet
     case rel=>exact⟨rfl,⟨bI.refl _⟩⟩
    | true=>
     rcases wU.out with⟨rfl,rfl⟩|⟨A,b,c,rfl,rfl,e3,e4,e5⟩
     ·have hne:=run_neq_slice_nil_any (P:=Tryz.prog) w2 73 9 none 0 0 0 0 Tryz.underlying73
      go_wp2_with fail
      go_meet
      case rel=>exact⟨rfl,⟨bI.refl _⟩⟩
     have hne:=run_neq_slice_nil_any (P:=Tryz.prog) w2 73 9 (some A) b.length c 0 0 Tryz.underlying73;obtain⟨ka,hka⟩:=Ev.rounds (YP b pts aj)
     obtain⟨ra,hra⟩:∃r,lY b pts=r:=⟨_,rfl⟩
     rw[hra] at hka;have HKA:=ah.mk hka;have HRA:=ah.mk hra;have HE5:=ah.mk e5;clear hka hra e5
     go_wp2_with fail
     refine (dD.calls ka (some A) c b Ap cpp pts ra w2 HE5.out e3 HRP.out hcap2 HKA.out).mono ?_;rintro e w3 ⟨rfl,hdr⟩;have HDR:=ah.mk hdr;clear hdr
     go_wp2_with fail
     go_meet
     case rel=>exact⟨by rw[Option.all_some,HRA.out];rfl,HDR⟩
   case rest=>
    obtain⟨rfl,HWC⟩:=hcut;have hwc:=HWC.out.below;have HB:=ah.mk (HB2.out.trans (hwc.mono HB2.out.size));have hbx:=aJ ajN.out hwc;have zh:=ah.mk hbx;have HM:=ah.mk (EZ.out.below hwc);have IL:=ah.mk (Kd.aC IL.out hwc);have IQ:=ah.mk (Kd.aC IQ.out hwc);have YX:=ah.mk (Kd.aC HRP.out hwc);clear hwc HB2 ajN EZ HRP wU HWC
    have d0:wc.cell? ⟨wr.heap.size,0,none⟩=some (.int .i64 x.f0):=by rw[ak hbx];rfl
    have d1:wc.cell? ⟨wr.heap.size,1,none⟩=some (.string x.f1):=by rw[ak hbx];rfl
    have d2:wc.cell? ⟨wr.heap.size,2,none⟩=some (.string x.f2):=by rw[ak hbx];rfl
    have d3:wc.cell? ⟨wr.heap.size,3,none⟩=some (.int .i64 x.f3):=by rw[ak hbx];rfl
    have d4:wc.cell? ⟨wr.heap.size,4,none⟩=some (.slice A4 x.f4.length c4):=by rw[ak hbx];rfl
    have d5:wc.cell? ⟨wr.heap.size,5,none⟩=some (.slice A5 x.f5.length c5):=by rw[ak hbx];rfl
    have hzx:=bG hbx;clear hbx
    obtain⟨pass,YZ⟩:∃p,(okc && (before.all fun b=>lY b pts))=p:=⟨_,rfl⟩
    rw[YZ];have HPS:=ah.mk YZ;clear YZ
    cases pass with
    | false=>
     go_wp2_with fail
     go_ret
     refine⟨?_,HB.out⟩;have h:=HG.out;rw[gL,HCP.out] at h;have h2:(okc && (before.all fun b=>lY b pts))=false:=HPS.out;simp only[h2,Bool.false_and] at h;rw[← h];rfl
    | true=>
     have hps:(okc && (before.all fun b=>lY b pts))=true:=HPS.out;have hok:okc=true:=(Bool.and_eq_true_iff.1 hps).1;subst hok;obtain⟨hsz,hsl,acA,_⟩:=uE HCP.out;obtain⟨li,hli,hlt⟩:=Sb hsl
     have ajO:zu x.f1=x.f1.extract 0 li:=by unfold zu;rw[hli];rfl
     have hlk:=(HM.out.below (bf (Below.refl _ _))).look (x.f1.extract 0 li) (by rw[ByteArray.size_extract];omega)
     obtain⟨kd,hkd⟩:∃c,om K (x.f1.extract 0 li)=c:=⟨_,rfl⟩
     rw[hkd] at hlk;have HKD:=ah.mk hkd;clear hkd;have ajP:=ah.mk ajO
     have c1:(0:Int)≤(li:Int):=by omega
     have c2:(li:Int)≤(x.f1.size:Int):=by omega
     have hcl:∀W:World,Calls Tryz.prog 115 #[.string x.f1,.int .u8 47] W fun e w'=>e=.returned (.int .i64 li)∧w'=W:=fun W=>by
      have c:=Tryz.strings_LastIndexByte x.f1 47 aj W;rw[hli] at c;exact c
     have OG:=ah.mk hcl;clear hcl hli;clear hps hsl acA ajO
     go_wp2_with fail
     obtain⟨wa,rfl⟩:∃wa,wa=wc:=⟨_,rfl⟩
     go_cut [45] (fun v45 wd=>v45=.bool (kd != 2)∧ah (bI wa wd))
     case first=>
      go_region_with (go_at_call 115;refine (OG.out _).mono ?_;rintro e w' ⟨rfl,rfl⟩)
      all_goals (
       go_wp2_with fail
       go_meet
       case rel=>exact⟨rfl,⟨⟨1,rfl⟩⟩⟩)
     case rest=>
      obtain⟨rfl,HWD⟩:=hcut;have hwd:=HWD.out.below;have HB1:=ah.mk (HB.out.trans (hwd.mono HB.out.size));have hbx:=aJ zh.out hwd;have ajQ:=ah.mk hbx;have xX:=ah.mk (HM.out.below hwd);have IL:=ah.mk (Kd.aC IL.out hwd);have IQ:=ah.mk (Kd.aC IQ.out hwd);have ajR:=ah.mk (Kd.aC YX.out hwd);clear hwd HB zh HM YX HWD d0 d1 d2 d3 d4 d5 hzx OG hlk
      have d0:wc.cell? ⟨wr.heap.size,0,none⟩=some (.int .i64 x.f0):=by rw[ak hbx];rfl
      have d1:wc.cell? ⟨wr.heap.size,1,none⟩=some (.string x.f1):=by rw[ak hbx];rfl
      have d2:wc.cell? ⟨wr.heap.size,2,none⟩=some (.string x.f2):=by rw[ak hbx];rfl
      have d3:wc.cell? ⟨wr.heap.size,3,none⟩=some (.int .i64 x.f3):=by rw[ak hbx];rfl
      have d4:wc.cell? ⟨wr.heap.size,4,none⟩=some (.slice A4 x.f4.length c4):=by rw[ak hbx];rfl
      have d5:wc.cell? ⟨wr.heap.size,5,none⟩=some (.slice A5 x.f5.length c5):=by rw[ak hbx];rfl
      have hzx:=bG hbx;clear hbx;by_cases hk2:kd=2
      ·have apj:(kd != 2)=false:=by rw[hk2];rfl
       have jG:=ah.mk hk2;clear hk2
       obtain⟨wb,rfl⟩:∃wb,wb=wc:=⟨_,rfl⟩
       go_upto_region 12 with (fail)
       go_cut [9] (fun v9 wd=>v9=.bool (iy x)∧ah (wd=wb))
       case first=>
        by_cases b3:x.f3=0
        ·have b3b:(x.f3 == 0)=true:=beq_iff_eq.2 b3;have H3:=ah.mk b3;clear b3;by_cases b4:x.f4.length=0
         ·have b4b:((x.f4.length:Int) == 0)=true:=beq_iff_eq.2 aj;have H4:=ah.mk b4;clear b4;by_cases b5:x.f5.length=0
          ·have b5b:((x.f5.length:Int) == 0)=true:=beq_iff_eq.2 aj;have H5:=ah.mk b5;clear b5
           go_wp2_with fail
           go_meet
           case rel=>exact⟨by unfold iy;rw[decide_eq_true H3.out,decide_eq_true H4.out,decide_eq_true H5.out];rfl,⟨rfl⟩⟩
          have b5b:((x.f5.length:Int) == 0)=false:=beq_eq_false_iff_ne.2 aj;have H5:=ah.mk b5;clear b5
          go_wp2_with fail
          go_meet
          case rel=>exact⟨by unfold iy;rw[decide_eq_true H3.out,decide_eq_true H4.out,decide_eq_false H5.out];rfl,⟨rfl⟩⟩
         have b4b:((x.f4.length:Int) == 0)=false:=beq_eq_false_iff_ne.2 aj;have H4:=ah.mk b4;clear b4
         go_wp2_with fail
         go_meet
         case rel=>exact⟨by unfold iy;rw[decide_eq_true H3.out,decide_eq_false H4.out];rfl,⟨rfl⟩⟩
        have b3b:(x.f3 == 0)=false:=beq_eq_false_iff_ne.2 b3;have H3:=ah.mk b3;clear b3
        go_wp2_with fail
        go_meet
        case rel=>exact⟨by unfold iy;rw[decide_eq_false H3.out];rfl,⟨rfl⟩⟩
       case rest=>
        obtain⟨rfl,Pb⟩:=hcut;have hwb:=Pb.out;subst hwb
        obtain⟨wb,rfl⟩:∃wb,wb=wc:=⟨_,rfl⟩
        obtain⟨bb,hbb⟩:∃bb,iy x=bb:=⟨_,rfl⟩
        rw[hbb];have AQ:=ah.mk hbb;clear hbb
        go_upto_block 2 with (fail)
        go_cut [8] (fun v8 wd=>v8=.bool (eT K x)∧ah (Below wb.heap.size wb wd))
        case first=>
         have hz1:x.f2.size=0→x.f2.toList=[]:=fun h=>by
          rw[Lib.toList_data];exact List.eq_nil_of_length_eq_zero (by rw[gI];exact h)
         have hz2:x.f2.size≠0→x.f2.toList.isEmpty=false:=fun h=>by
          cases hc:x.f2.toList with
          | nil=>rw[Lib.toList_data] at hc;have:=gI x.f2;rw[hc] at this;exact absurd this.symm h
          | cons _ _=>rfl
         have HZ1:=ah.mk hz1;have HZ2:=ah.mk hz2;have qD:=ah.mk (Below.refl wb.heap.size wb);clear hz1 hz2;by_cases k1:x.f0=1
         ·have t1:(x.f0 == 1)=true:=beq_iff_eq.2 k1;have jH:=ah.mk k1;clear k1;by_cases hs:x.f2.size=0
          ·have h1:=HZ1.out hs
           have h2:x.f2.toList.isEmpty=true:=by rw[h1];rfl
           have hE:=io1 (K:=K) jH.out hs;obtain⟨kf,hkf⟩:=Ev.rounds (VA x.f0 x.f1 x.f2 x.f3 x.f4 x.f5 (by have:=ZC.out.r;omega) (by have:=ZC.out.d;omega))
           obtain⟨rf,hrf⟩:∃r,dW x.f3 x.f4 x.f5=r:=⟨_,rfl⟩
           rw[hrf] at hkf hE;have HE:=ah.mk hE;clear hE;have HKF:=ah.mk hkf;clear hs h1 hkf hrf
           go_wp2_with fail
           refine (bJ.calls kf x.f0 x.f1 x.f2 x.f3 A4 c4 x.f4 A5 c5 x.f5 rf wb IL.out l4 IQ.out l5 HKF.out).mono ?_;rintro e w3 ⟨rfl,hb3⟩;have HB3:=ah.mk hb3;clear hb3
           go_wp2_with fail
           go_meet
           case rel=>exact⟨by rw[HE.out],HB3⟩
          have h2:=HZ2.out hs;have HE:=ah.mk (apf (K:=K) jH.out hs);clear hs
          go_wp2_with fail
          go_meet
          case rel=>exact⟨by rw[HE.out],qD⟩
         have t1:(x.f0 == 1)=false:=beq_eq_false_iff_ne.2 k1;have EB:=ah.mk k1;clear k1;by_cases k2:x.f0=2
         ·have t2:(x.f0 == 2)=true:=beq_iff_eq.2 k2;have HE2:=ah.mk (io2 (K:=K) EB.out k2);clear k2
          cases bb with
          | false=>
           have HE:=ah.mk (show eT K x=false by rw[HE2.out,AQ.out];rfl)
           go_wp2_with fail
           go_meet
           case rel=>exact⟨by rw[HE.out],qD⟩
          | true=>
           by_cases hs:x.f2.size=0
           ·have h1:=HZ1.out hs
            have h2:x.f2.toList.isEmpty=true:=by rw[h1];rfl
            have HE:=ah.mk (show eT K x=true by rw[HE2.out,AQ.out,decide_eq_true hs];rfl);clear hs h1
            go_wp2_with fail
            go_meet
            case rel=>exact⟨by rw[HE.out],qD⟩
           have h2:=HZ2.out hs;have HE:=ah.mk (show eT K x=false by rw[HE2.out,AQ.out,decide_eq_false hs];rfl);clear hs
           go_wp2_with fail
           go_meet
           case rel=>exact⟨by rw[HE.out],qD⟩
         have t2:(x.f0 == 2)=false:=beq_eq_false_iff_ne.2 k2;have FT:=ah.mk k2;clear k2;by_cases k3:x.f0=3
         ·have t3:(x.f0 == 3)=true:=beq_iff_eq.2 k3;have HE2:=ah.mk (io3 (K:=K) EB.out FT.out k3);clear k3
          cases bb with
          | false=>
           have HE:=ah.mk (show eT K x=false by rw[HE2.out,AQ.out];rfl)
           go_wp2_with fail
           go_meet
           case rel=>exact⟨by rw[HE.out],qD⟩
          | true=>
           by_cases hs:x.f2.size=0
           ·have h1:=HZ1.out hs
            have h2:x.f2.toList.isEmpty=true:=by rw[h1];rfl
            have HE:=ah.mk (show eT K x=false by rw[HE2.out,AQ.out,decide_eq_false (fun h=>h hs)];rfl);clear hs h1
            go_wp2_with fail
            go_meet
            case rel=>exact⟨by rw[HE.out],qD⟩
           have h2:=HZ2.out hs;have HS:=ah.mk hs;clear hs;by_cases Wx:x.f2.size≤255
           ·have Wy:decide ((x.f2.size:Int)≤255)=true:=decide_eq_true aj;have ZE:=ah.mk Wx
            obtain⟨ib,hib⟩:∃r,Lib.indexByte (bs x.f2) 0=r:=⟨_,rfl⟩
            have hcl:∀W:World,Calls Tryz.prog 117 #[.string x.f2,.int .u8 0] W fun e w'=>e=.returned (.int .i64 ib)∧w'=W:=fun W=>by
             have c:=Tryz.strings_IndexByte x.f2 0 W;rw[show Lib.indexByte x.f2.data.toList (Int.toNat 0).toUInt8=ib from hib] at c;exact c
            have HIB:=ah.mk hib;have OG:=ah.mk hcl;clear hib hcl
            go_wp2_with fail
            refine (OG.out _).mono ?_;rintro e w' ⟨rfl,rfl⟩;by_cases ajS:ib<0
            ·have hd0:decide (ib<0)=true:=decide_eq_true ajS;have HE:=ah.mk (show eT K x=decide (ib<0) by rw[HE2.out,AQ.out,decide_eq_true HS.out,decide_eq_true ZE.out,HIB.out];rfl);have HE:=ah.mk (HE.out.trans hd0)
             go_wp2_with fail
             go_meet
             case rel=>exact⟨by rw[HE.out],qD⟩
            have hd0:decide (ib<0)=false:=decide_eq_false ajS;have HE:=ah.mk (show eT K x=decide (ib<0) by rw[HE2.out,AQ.out,decide_eq_true HS.out,decide_eq_true ZE.out,HIB.out];rfl);have HE:=ah.mk (HE.out.trans hd0)
            go_wp2_with fail
            go_meet
            case rel=>exact⟨by rw[HE.out],qD⟩
           have Wy:decide ((x.f2.size:Int)≤255)=false:=decide_eq_false aj;have HE:=ah.mk (show eT K x=false by rw[HE2.out,AQ.out,decide_eq_true HS.out,decide_eq_false Wx];rfl)
           go_wp2_with fail
           go_meet
           case rel=>exact⟨by rw[HE.out],qD⟩
         have t3:(x.f0 == 3)=false:=beq_eq_false_iff_ne.2 k3;have HN3:=ah.mk k3;clear k3;by_cases k4:x.f0=4
         ·have t4:(x.f0 == 4)=true:=beq_iff_eq.2 k4;have HE2:=ah.mk (io4 (K:=K) EB.out FT.out HN3.out k4);clear k4
          cases bb with
          | false=>
           have HE:=ah.mk (show eT K x=false by rw[HE2.out,AQ.out];rfl)
           go_wp2_with fail
           go_meet
           case rel=>exact⟨by rw[HE.out],qD⟩
          | true=>
           have hlk:=xX.out.look x.f2 ZC.out.t
           obtain⟨kt,hkt⟩:∃c,om K x.f2=c:=⟨_,rfl⟩
           rw[hkt] at hlk;have HE3:=ah.mk (show eT K x=decide (kt=1) by rw[HE2.out,AQ.out,hkt];rfl);clear hkt;by_cases h1:kt=1
           ·have h1b:(kt == 1)=true:=beq_iff_eq.2 h1;have HE:=ah.mk (HE3.out.trans (decide_eq_true h1));clear h1
            go_wp2_with fail
            go_meet
            case rel=>exact⟨by rw[HE.out],qD⟩
           have h1b:(kt == 1)=false:=beq_eq_false_iff_ne.2 h1;have HE:=ah.mk (HE3.out.trans (decide_eq_false h1));clear h1
           go_wp2_with fail
           go_meet
           case rel=>exact⟨by rw[HE.out],qD⟩
         have t4:(x.f0 == 4)=false:=beq_eq_false_iff_ne.2 k4;have HE:=ah.mk (io5 (K:=K) EB.out FT.out HN3.out k4);clear k4
         go_wp2_with fail
         go_meet
         case rel=>exact⟨by rw[HE.out],qD⟩
        case rest=>
         obtain⟨rfl,Pb⟩:=hcut;have hwb:=Pb.out;have HB3:=ah.mk (HB1.out.trans (hwb.mono HB1.out.size));have hbx:=aJ ajQ.out hwb;have hm3:=xX.out.below hwb;have YX:=ah.mk (Kd.aC ajR.out hwb)
         have d0:wc.cell? ⟨wr.heap.size,0,none⟩=some (.int .i64 x.f0):=by rw[ak hbx];rfl
         have d1:wc.cell? ⟨wr.heap.size,1,none⟩=some (.string x.f1):=by rw[ak hbx];rfl
         have hzx:=bG hbx;have Ky:=ah.mk hm3;clear hwb hbx hm3 HB1 ajQ xX ajR Pb
         obtain⟨io,hio⟩:∃b,eT K x=b:=⟨_,rfl⟩
         rw[hio];have HIO:=ah.mk hio;clear hio
         cases io with
         | false=>
          go_wp2_with fail
          go_ret
          refine⟨?_,HB3.out⟩;have h:=HG.out;rw[gL,HIO.out] at h;simp only[Bool.and_false,Bool.false_and] at h;rw[← h];rfl
         | true=>
          have hkind:=xO HIO.out;obtain⟨auj,apm,acA,_⟩:=uE HCP.out;have hpl:=vw x.f1;rw[← acA] at hpl;obtain⟨ap,hap,_⟩:=YX.out.2.2 aj;subst hap;have hp1:=hpl.2
          have hp2:pts.length≤1024:=by omega
          have hk1:=hkind.1;have hk2:=hkind.2
          have hib:i+1≤1048577:=by omega
          clear hkind acA apm hpl;obtain⟨D,hown,hat⟩:=Ky.out
          have ajT:IsMap D:=by
           obtain⟨es,cl,_,_,_,hD⟩:=hown;exact⟨_,hD⟩
          have HOW:=ah.mk hown;have HAT:=ah.mk hat;have HIS:=ah.mk ajT;clear hown hat ajT Ky
          go_wp2_with (at_mapUpdate;refine wpList_mapUpdate_own _ rfl (.tmp 112) (.tmp 114) (.tmp 116) 156 rfl 9 3 Yy Tryz.underlying156 (plainElem (H:=Unit) Tryz.prog 3) w.heap.size (i+1) D rfl HOW.out (by unfold maxLen;omega) _ _ (LY x.f1) rfl rfl (af8 _ aj) (.lit (.int .i64 x.f0)) [] (adL x.f0 aj aj) ?_;intro w4 hm4 hg4)
          have hHV:af9 (.slice (some ap) pts.length cpp) w4 (some pts):=by
           obtain⟨es,cl,hmap,_⟩:=HOW.out;exact .inr ⟨ap,pts,cpp,rfl,rfl,hcap2,hp2,YV YX.out hmap hg4⟩
          have hHM:=Ki hm4 HIS.out HAT.out;have hHB:Below w.heap.size w w4:=HB3.out.grown hg4 HB3.out.size (fun k e=>by cases e;exact Nat.le_refl _)
          have hHG:gL ((x.f1,x.f0)::K) (some pts) (l.drop (i+1))=lZ l:=by
           have h:=HG.out;rw[gL,HIO.out,HCP.out,ajP.out,HKD.out,decide_eq_true jG.out] at h;have h2:(true && (before.all fun b=>lY b pts))=true:=HPS.out;rw[Bool.true_and] at h2;simp only[h2,Bool.true_and] at h;exact h
          have HHV:=ah.mk hHV;have HHM:=ah.mk hHM;have HHB:=ah.mk hHB;have HHG:=ah.mk hHG;clear hHV hHM hHB hHG hm4 hg4
          go_wp2_with fail
          go_roundg (l.length - (i+1))
          case measure=>omega
          case rel=>exact⟨i+1,_,_,_,by omega,by first|rfl|simp,rfl,HHG,HHV,HHM,HHB⟩
      have apj:(kd != 2)=true:=bne_iff_ne.2 hk2;have jG:=ah.mk hk2;clear hk2
      go_wp2_with fail
      go_ret
      refine⟨?_,HB1.out⟩;have h:=HG.out;rw[gL,HCP.out,ajP.out,HKD.out,decide_eq_false jG.out] at h;simp only[Bool.and_false,Bool.false_and] at h;rw[← h];rfl
  have hd:decide ((i:Int)<(l.length:Int))=false:=decide_eq_false aj;have hd2:decide (i<l.length)=false:=decide_eq_false hi;have hE:l.drop i=[]:=List.drop_of_length_le aj;have hg:=HG.out;rw[hE,gL] at hg;have HG:=ah.mk hg;clear hg hE HV HM
  go_wp2_with fail
  go_ret
  exact⟨by rw[← HG.out];rfl,HB.out⟩
end Go.Proofs.YtknihldkhedpkaaGreatDoor
end
section
namespace Go.Proofs.YtknihldkhedpkaaGreatDoor
open Go.RowKit
open Go.Proofs.YtknihldkhedpkaaGreatDoorW.PrintWords Go.Proofs.YtknihldkhedpkaaGreatDoorW.PrintLast
def zx:List Int:=[0,274646895,549293790,820201905,1098587580,1361435347,1640403810,1905808397,2197175160,2460548119,2722870694,2987750089,3280807620,3553878443,3811616794,4084100981]
def Ip:Array Value:=(zx.map (Value.int .u32)).toArray
theorem Sc (w:World):Calls Tryz.prog 106 #[] w fun e w'=>e=.returned (.agg Ip)∧Below w.heap.size w w':=by
 have hu:=Tryz.underlying151
 go_enter Tryz.func106,Tryz.ntmps106
 go_wp2
 exact bodyPost_ret (v:=.agg Ip) (by simp[results,Tryz.results106,go_sem,Ip,zx]) rfl ⟨rfl,(Below.refl _ _).alloc (Nat.le_refl _) _⟩
def vX (reg:Int):Int:=Go.bits .xor .u32 (reg / 16) (rd zx (Go.bits .and .u32 reg 15))
def nV (reg x:Int):Int:=vX (vX (Go.bits .xor .u32 reg x))
def oo (l:List Int):Int:=l.foldl nV 4294967295
def kQ (l:List Int):Int:=Go.bits .xor .u32 IntKind.u32.max (oo l)
theorem VE (i:Int) (h0:0≤i) (h1:i<16):Ip[i.toNat]?=some (.int .u32 (rd zx i)):=by
 have h:∀k:Nat,k<16→Ip[k]?=some (.int .u32 (rd zx k)):=by
  intro k hk
  have hc:k=0∨k=1∨k=2∨k=3∨k=4∨k=5∨k=6∨k=7∨k=8∨k=9∨k=10∨k=11∨k=12∨k=13∨k=14∨k=15:=by omega
  rcases hc with rfl|rfl|rfl|rfl|rfl|rfl|rfl|rfl|rfl|rfl|rfl|rfl|rfl|rfl|rfl|rfl <;> rfl
 have h:=h i.toNat aj
 rwa [show ((i.toNat:Nat):Int)=i by omega] at h
theorem LZ (n:Int):0≤IntKind.u32.wrap n∧IntKind.u32.wrap n<4294967296:=by rw[IntKind.wrap_u32];omega
theorem ow (a b:Int):0≤Go.bits .xor .u32 a b∧Go.bits .xor .u32 a b<4294967296:=LZ _
theorem X7 (x:Int) (h0:0≤x) (h1:x<4294967296):Go.bits .and .u32 x 15=x % 16 :=
 bits_mask .u32 32 aH (fun n h0 h1=>by rw[IntKind.wrap_u32];omega) 4 aH x h0 h1
theorem Jb (a:Int):0≤vX a∧vX a<4294967296:=ow _ _
theorem zC (a x:Int):0≤nV a x∧nV a x<4294967296:=Jb _
theorem vY (l:List Int):0≤oo l∧oo l<4294967296:=by
 unfold oo
 have:∀(l:List Int) (r:Int),0≤r→r<4294967296→0≤l.foldl nV r∧l.foldl nV r<4294967296:=by
  intro l
  induction l with
  | nil=>exact fun r h0 h1=>⟨h0,h1⟩
  | cons x l ih=>exact fun r _ _=>ih _ (zC r x).1 (zC r x).2
 exact this l _ aH aH
theorem Om (l:List Int) (k:Nat) (h:k<l.length):oo (l.take (k+1))=nV (oo (l.take k)) (rd l k):=by
 unfold oo;rw[List.take_succ_eq_append_getElem h,List.foldl_append];simp[rd,h]
def TabAt (B:Nat) (w:World):Prop:=w.heap[B]?=some (.cells Ip 151 (0,0))
theorem TabAt.cell {B:Nat} {w:World} (h:TabAt B w) (i:Int) (h0:0≤i) (h1:i<16):w.cell? ⟨B,i.toNat,none⟩=some (.int .u32 (rd zx i)):=by
 rw[ak h];exact VE i h0 h1
theorem Sv (A0:Option Addr) (c0:Nat) (l:List Int) (w:World) (hr:Kd.C (Kd.int .u8) w A0 l.length l) (hc:l.length≤c0) (hwf:∀x∈l,0≤x∧x≤255) :
  Calls Tryz.prog 66 #[.slice A0 l.length c0] w fun e w'=>e=.returned (.int .i64 (kQ l))∧Below w.heap.size w w':=by
 have hu:=Tryz.underlying151;have HR:=ah.mk hr;have hlen:=hr.2.1;have HW:=ah.mk hwf;clear hr hwf
 go_enter Tryz.func66,Tryz.ntmps66
 go_wp2_with (go_at_call 106;refine (Sc _).mono ?_;rintro e w1 ⟨rfl,hb⟩;have HB:=ah.mk hb;have HR1:=ah.mk (Kd.aC HR.out hb);clear hb HR;unfold Ip zx;simp only[List.map_cons,List.map_nil])
 go_loopg [4,10] l.length (fun g v4 v10 wx=>∃k:Nat,k+g=l.length∧v10=.int .i64 k∧v4=.int .u32 (oo (l.take k))∧ah (TabAt w1.heap.size wx)∧ah (Kd.C (Kd.int .u8) wx A0 l.length l)∧ah (Below w.heap.size w wx))
 case atStart=>exact⟨0,by omega,rfl,rfl,⟨bF w1 _⟩,⟨Kd.aC HR1.out (aG (Below.refl _ _) _)⟩,⟨HB.out.alloc HB.out.size _⟩⟩
 case round=>
  clear HR1 HB;obtain⟨k,hkg,rfl,rfl,HT,HR,HB⟩:=hrel;by_cases hk:k<l.length
  ·obtain⟨ad,hA,hcell⟩:=Kd.gZ HR.out (k:Int) aj aj;rw[Int.toNat_natCast] at hcell;have hx:=HW.out (rd l k) (by unfold rd;simp[hk]);have hsn:=Om l k hk
   obtain⟨reg,Oo⟩:∃reg,oo (l.take k)=reg:=⟨_,rfl⟩
   have hrr:=vY (l.take k);rw[Oo] at hsn hrr;rw[Oo]
   obtain⟨x,hxe⟩:∃x,rd l k=x:=⟨_,rfl⟩
   rw[hxe] at hsn hcell hx;have HS:=ah.mk hsn;subst hA;clear hsn Oo hxe;have hx0:=hx.1;have hx1:=hx.2
   obtain⟨r1,hr1⟩:∃r,Go.bits .xor .u32 reg x=r:=⟨_,rfl⟩
   have VF:=ow reg x;rw[hr1] at VF;have ha1:=X7 r1 VF.1 VF.2;have hc1:=HT.out.cell (r1 % 16) aj aj
   obtain⟨r2,hr2⟩:∃r,Go.bits .xor .u32 (r1 / 16) (rd zx (r1 % 16))=r:=⟨_,rfl⟩
   have VG:=ow (r1 / 16) (rd zx (r1 % 16));rw[hr2] at VG;have ha2:=X7 r2 VG.1 VG.2;have hc2:=HT.out.cell (r2 % 16) aj aj;have b1:=VF.1;have b2:=VF.2;have b3:=VG.1;have b4:=VG.2;have hd1:decide ((k:Int)<(l.length:Int))=true:=decide_eq_true aj;clear hx VF VG
   go_wp2
   go_roundg (l.length - (k+1))
   case measure=>omega
   case rel=>exact⟨k+1,by omega,by first|rfl|simp,by rw[HS.out,nV,hr1];unfold vX;rw[ha1,hr2,ha2],HT,HR,HB⟩
  have hd0:decide ((k:Int)<(l.length:Int))=false:=decide_eq_false aj
  have hkl:k=l.length:=by omega
  have hrr:=vY (l.take k)
  have hE:l.take k=l:=by rw[hkl];exact List.take_length
  rw[hE] at hrr;rw[hE]
  obtain⟨reg,Oo⟩:∃reg,oo l=reg:=⟨_,rfl⟩
  rw[Oo] at hrr;rw[Oo];have b1:=hrr.1;have b2:=hrr.2;have HG:=ah.mk Oo;clear Oo hE hkl hrr;have aun:IntKind.u32.signed=false:=rfl;have hw:=ow IntKind.u32.max reg
  have hw2:wrap64 (Go.bits .xor .u32 IntKind.u32.max reg)=Go.bits .xor .u32 IntKind.u32.max reg:=by unfold wrap64;omega
  clear hw
  go_wp2
  go_ret
  exact⟨by unfold kQ;rw[HG.out];first|rfl|exact congrArg (fun n=>Ending.returned (.int .i64 n)) hw2,HB.out⟩
end Go.Proofs.YtknihldkhedpkaaGreatDoor
end
section
namespace Go.Proofs.YtknihldkhedpkaaGreatDoor
open Go.RowKit Go.Lib
open Go.Proofs.YtknihldkhedpkaaGreatDoorW.PrintWords Go.Proofs.YtknihldkhedpkaaGreatDoorW.PrintLast Go.Proofs.YtknihldkhedpkaaGreatDoor.PT
structure Pk (B:Nat) (w:World) (g:Nat) (v:Value) (out:List Int) (n:Int):Prop where
 blk:w.heap[g]?=some (.cells #[v,.int .i64 n] 128 (0,0))
 row:Kd.R (Kd.int .u8) 5 w B (fun _=>True) v out
 low:B≤g
theorem Pk.lt {B g:Nat} {w:World} {v:Value} {out:List Int} {n:Int} (H:Pk B w g v out n):g<w.heap.size:=bG H.blk
theorem Pk.below {B g:Nat} {w w1:World} {v:Value} {out:List Int} {n:Int} (H:Pk B w g v out n) (hb:Below w.heap.size w w1):Pk B w1 g v out n:=⟨aJ H.blk hb,Kd.bO H.row hb,H.low⟩
theorem Pk.ne {B g:Nat} {w:World} {v:Value} {out:List Int} {n:Int} (H:Pk B w g v out n):some g≠v.ownBlock:=Kd.uW H.row H.blk aH
theorem Pk.slice {B g:Nat} {w:World} {v:Value} {out:List Int} {n:Int} (H:Pk B w g v out n):∃A c,v=.slice A out.length c:=Kd.bP H.row
theorem Pk.cell {B g:Nat} {w:World} {v:Value} {out:List Int} {n:Int} (H:Pk B w g v out n):w.cell? ⟨g,0,none⟩=some v:=by rw[ak H.blk];rfl
theorem Pk.put {B g:Nat} {w w1:World} {v v1:Value} {out pY:List Int} {n:Int} (H:Pk B w g v out n) (hg:w.grownBy w1 v.ownBlock) (ho:Kd.R (Kd.int .u8) 5 w1 B (fun _=>True) v1 pY) :
  Pk B (w1.setCell ⟨g,0,none⟩ v1) g v1 pY n:=by
 have hb:=kM H.blk hg H.ne;exact⟨by have:=gB hb 0 v1;simpa using this,Kd.oK ho hb (by intro q hq;simp[Kd.int,Kd.scalar] at hq;subst hq;decide) 0 v1,H.low⟩
theorem Pk.cells {B g:Nat} {w w1:World} {v:Value} {out:List Int} {n:Int} (H:Pk B w g v out n) (hg:w.grownBy w1 v.ownBlock) :
  w1.cell? ⟨g,0,none⟩=some v∧w1.frozen? ⟨g,0,none⟩=false∧g<w1.heap.size:=by
 have hb:=kM H.blk hg H.ne;exact⟨by rw[ak hb];rfl,ay hb 0,bG hb⟩
structure Fr (g:Nat) (w w':World):Prop where
 size:w.heap.size≤w'.heap.size
 same:∀(k:Nat) (o:Obj),w.heap[k]?=some o→k≠g→(∀cs fr,o≠.cells cs 5 fr)→w'.heap[k]?=some o
theorem Fr.refl (g:Nat) (w:World):Fr g w w:=⟨Nat.le_refl _,fun _ _ h _ _=>h⟩
theorem Fr.trans {g:Nat} {a b c:World} (h:Fr g a b) (k:Fr g b c):Fr g a c:=⟨Nat.le_trans h.size k.size,fun i o hi hg ht=>k.same i o (h.same i o hi hg ht) hg ht⟩
theorem Fr.of_below {g:Nat} {a b:World} (h:Below a.heap.size a b):Fr g a b:=⟨h.size,fun _ _ hi _ _=>aJ hi h⟩
theorem Fr.set {g:Nat} (w:World) (i:Nat) (u:Value):Fr g w (w.setCell ⟨g,i,none⟩ u) :=
 ⟨by show w.heap.size≤(w.heap.modify _ _).size;rw[Array.size_modify];exact Nat.le_refl _,fun k o hk hg _=>(Below.heap_setCell w ⟨g,i,none⟩ u k hg).trans hk⟩
theorem Fr.grown {B g:Nat} {w w1:World} {v:Value} {out:List Int} {n:Int} (H:Pk B w g v out n) (hg:w.grownBy w1 v.ownBlock):Fr g w w1 :=
 ⟨hg.size,fun k o hk _ ht=>(hg.block k (bG hk) (fun e=>by
  obtain⟨inner,ho⟩:=Kd.F4 H.row;obtain⟨cs,hc⟩:=mM ho k e.symm;rw[hk] at hc
  injection hc with hc
  exact ht _ _ hc)).trans hk⟩
theorem Fr.cell {g:Nat} {w w1:World} (h:Fr g w w1) {k:Nat} {cs:Array Value} {t:TypeId} {fr:Nat × Nat} (hk:w.heap[k]?=some (.cells cs t fr)) (hg:k≠g) (ht:t≠5):w1.heap[k]?=some (.cells cs t fr) :=
 h.same k _ hk hg (fun cs' fr' e=>by injection e with _ e;exact ht e)
def leB:Nat→Int→List Int
 | 0,_=>[]
 | m+1,x=>x % 256::leB m (x / 256)
theorem aU:∀(m:Nat) (x:Int),(leB m x).length=m
 | 0,_=>rfl
 | m+1,x=>by rw[leB,List.length_cons,aU m]
theorem eP:∀(m:Nat) (x:Int),∀b∈leB m x,0≤b∧b≤255
 | 0,_=>by simp[leB]
 | m+1,x=>by
  intro b hb
  rcases List.mem_cons.1 hb with rfl|hb
  ·omega
  exact eP m _ b hb
theorem tO (w0 w:World) (g:Nat) (v:Value) (out:List Int) (n x:Int) (m:Nat) (H:Pk w0.heap.size w g v out n) (hb:Below w0.heap.size w0 w) (hm:m≤8) (hl:out.length≤1099511627776) :
  Calls Tryz.prog 118 #[.pointer (some ⟨g,0,none⟩),.int .i64 x,.int .i64 m] w fun e w'=>e=.returned (.tuple #[])∧(∃v',Pk w0.heap.size w' g v' (out++leB m x) n)∧Below w0.heap.size w0 w'∧Fr g w w':=by
 have HP:=ah.mk H;have HB:=ah.mk hb;clear H hb
 go_enter Tryz.func118,Tryz.ntmps118
 go_wp2
 go_loopg [1,7] m (fun gk s1 s7 wx=>∃(i:Nat) (y:Int) (v1:Value) (pY:List Int),i+gk=m∧s7=.int .i64 i∧s1=.int .i64 y∧ah (pY++leB gk y=out++leB m x)∧ah (pY.length=out.length+i)∧ah (Pk w0.heap.size wx g v1 pY n)∧ah (Below w0.heap.size w0 wx)∧ah (Fr g w wx))
 case atStart=>exact⟨0,x,v,out,by omega,rfl,rfl,⟨rfl⟩,⟨rfl⟩,HP,HB,⟨Fr.refl _ _⟩⟩
 case round=>
  clear HP HB;obtain⟨i,y,v1,pY,hig,rfl,rfl,HE,hlen,HP,HB,HF⟩:=hrel
  cases gk with
  | zero=>
   have hd:decide ((i:Int)<(m:Int))=false:=decide_eq_false aj;have hd2:decide (i<m)=false:=decide_eq_false aj
   go_wp2
   go_end0
   have h:=HE.out;rw[leB,List.append_nil] at h;exact⟨rfl,⟨v1,by rw[← h];exact HP.out⟩,HB.out,HF.out⟩
  | succ gk=>
   have hd:decide ((i:Int)<(m:Int))=true:=decide_eq_true aj;have hd2:decide (i<m)=true:=decide_eq_true aj
   have hl1:pY.length≤1099511627786:=by have:=hlen.out;omega
   obtain⟨A,c,hv⟩:=HP.out.slice;subst hv;have c0:=HP.out.cell
   go_wp2_with ((with_reducible refine bQ (b:=.append) (xs:=#[.tmp 13,.tmp 16]) rfl ?_);at_builtin;refine Kd.gJ (Kd.int .u8) (w0:=w0) w0.heap.size rfl (.tmp 13) (.tmp 16) 27 5 (.int .u8 0) 1 rfl Tryz.underlying27 info5 rfl aH aj (.slice A pY.length c) pY (y % 256) [.int .u8 (y % 256)] (fun _=>True) (fun _=>False) rfl rfl ?aP (fun _ hk=>hk.elim) (fun _ _=>trivial) ?aO ?aB ?aS ?aL ?_;(case aP=>exact rfl);(case aB=>exact HB.out);(case aO=>exact HP.out.row);(case aS=>exact HB.out.size);(case aL=>omega);intro v2 w2 ho hb hg _h;have HO:=ah.mk ho;have HG:=ah.mk hg;have HB1:=ah.mk hb;obtain⟨cF,fF,lF⟩:=HP.out.cells hg;clear ho hb hg _h;obtain⟨A2,c2,hv2⟩:=Kd.bP HO.out;subst hv2)
   have hO:=HO.out;simp only[List.length_append,List.length_cons,List.length_nil,Nat.zero_add] at hO;have HO:=ah.mk hO;clear hO
   go_roundg gk
   case measure=>omega
   case rel=>exact⟨i+1,y / 256,_,pY++[y % 256],by omega,by first|rfl|simp,by first|rfl|simp,⟨by rw[← HE.out,leB,List.append_assoc];rfl⟩,⟨by rw[List.length_append,hlen.out];simp;omega⟩,⟨HP.out.put HG.out HO.out⟩,⟨HB1.out.setCell HP.out.low _⟩,⟨HF.out.trans ((Fr.grown HP.out HG.out).trans (Fr.set _ _ _))⟩⟩
theorem AZ {w:World} {B:Nat} {v:Value} {xs:List Int} (h:Kd.R (Kd.int .u8) 5 w B (fun _=>True) v xs):w.ownsRow B 5 1 v xs.length (nums .u8 xs):=Kd.xW h
theorem Ba {w:World} {B:Nat} {v:Value} {xs:List Int} (h:w.ownsRow B 5 1 v xs.length (nums .u8 xs)):Kd.R (Kd.int .u8) 5 w B (fun _=>True) v xs:=Kd.qm h (fun _ _=>trivial)
theorem Oq (w0 w:World) (g:Nat) (v:Value) (out:List Int) (n:Int) (s:ByteArray) (H:Pk w0.heap.size w g v out n) (hb:Below w0.heap.size w0 w) (hl:out.length≤549755813888) (hs:s.size≤549755813888) :
  Calls Tryz.prog 119 #[.pointer (some ⟨g,0,none⟩),.string s] w fun e w'=>e=.returned (.tuple #[])∧(∃v',Pk w0.heap.size w' g v' (out++leB 2 s.size++bytesOf s) n)∧Below w0.heap.size w0 w'∧Fr g w w':=by
 have HP:=ah.mk H;have HB:=ah.mk hb;have hc:=tO w0 w g v out n s.size 2 H hb aH aj
 have hl2:(out++leB 2 (s.size:Int)).length=out.length+2:=by rw[List.length_append,aU]
 obtain⟨o1,ho1⟩:∃o,out++leB 2 (s.size:Int)=o:=⟨_,rfl⟩
 rw[ho1] at hc hl2;rw[ho1];have HL:=ah.mk hl2;clear H hb hl2 ho1
 go_enter Tryz.func119,Tryz.ntmps119
 go_wp2_with (first
  | (go_at_call 118;refine hc.mono ?_;rintro e w1 ⟨rfl,⟨v1,h1⟩,hb1,hf1⟩;have wT:=ah.mk h1;have HB1:=ah.mk hb1;have UK:=ah.mk hf1;have c0:=h1.cell;obtain⟨A,c,hv⟩:=h1.slice;clear h1 hb1 hf1 hc;subst hv)
  | ((with_reducible refine bQ (b:=.append) (xs:=#[.tmp 12,.tmp 13]) rfl ?_);at_builtin;refine uD (w0:=w0) w0.heap.size rfl (.tmp 12) (.tmp 13) 27 9 5 rfl Tryz.underlying27 Tryz.underlying9 info5 _ o1 s rfl rfl (AZ wT.out.row) HB1.out HB1.out.size (by have:=HL.out;omega) ?_;intro v2 w2 ho hb hg;have HO:=ah.mk (Ba ho);have HG:=ah.mk hg;have HB2:=ah.mk hb;obtain⟨cF,fF,lF⟩:=wT.out.cells hg;clear ho hb hg;obtain⟨A2,c2,hv2⟩:=Kd.bP HO.out;subst hv2))
 have hO:=HO.out;simp only[List.length_append] at hO
 go_end0
 exact⟨rfl,⟨_,wT.out.put HG.out hO⟩,HB2.out.setCell wT.out.low _,UK.out.trans ((Fr.grown wT.out HG.out).trans (Fr.set _ _ _))⟩
def jA:List Int:=[118,108,109,97,114,99,104,1]
structure Pf (B:Nat) (w:World) (g b:Nat) (n:Int):Prop where
 blk:w.heap[g]?=some (.cells #[.slice (some ⟨b,0,none⟩) 8 8,.int .i64 n] 128 (0,0))
 arr:w.heap[b]?=some (.cells (nums .u8 jA).toArray 5 (8,9))
 low:B≤g
theorem Pf.below {B g b:Nat} {w w1:World} {n:Int} (H:Pf B w g b n) (hb:Below w.heap.size w w1):Pf B w1 g b n:=⟨aJ H.blk hb,aJ H.arr hb,H.low⟩
theorem Jc (w:World):Calls Tryz.prog 84 #[] w fun e w'=>∃g b,e=.returned (.pointer (some ⟨g,0,none⟩))∧Pf w.heap.size w' g b 0∧Below w.heap.size w w':=by
 have kc:=fun (w:World) (C:Array Value) (n c:Nat)=>Lib.run_convert_bytes_const (P:=Tryz.prog) w 27 5 C n c Tryz.underlying27 Tryz.underlying5
 go_enter Tryz.func84,Tryz.ntmps84
 go_wp2
 go_ret
 exact⟨_,w.heap.size,rfl,⟨by have:=bF (w.alloc (.cells #[Value.int .u8 118,.int .u8 108,.int .u8 109,.int .u8 97,.int .u8 114,.int .u8 99,.int .u8 104,.int .u8 1] 5 (8,9))) (.cells #[.slice (some ⟨w.heap.size,0,none⟩) 8 8,.int .i64 0] 128);rwa [World.size_alloc] at this,aN (bF _ _) _,by simp⟩,(((Below.refl _ _).alloc (Nat.le_refl _) _).alloc bB _)⟩
theorem Ot {w:World} {b:Nat} (h:w.heap[b]?=some (.cells (nums .u8 jA).toArray 5 (8,9))) (o:Obj):∀b',some (⟨b,0,none⟩:Addr)=some b'→∀(j:Nat) u,(nums .u8 jA)[j]?=some u→(w.alloc o).cell? (b'.add j)=some u:=by
 intro b' hb' j u hj
 injection hb' with hb'
 subst hb';have h1:(w.alloc o).cell? ⟨b,j,none⟩=(nums .u8 jA).toArray[j]?:=cell_of_row _ b j _ 5 (8,9) (aN h o);rw[add_plain,h1,List.getElem?_toArray];exact hj
theorem Jp (w:World) (u0:Value) (e:TypeId):∀(j:Nat) u,[u0][j]?=some u→(w.alloc (.cells #[u0] e)).cell? ((⟨w.heap.size,0,none⟩:Addr).add j)=some u:=by
 intro j u hj;rw[add_plain,ak (bF w _)]
 simpa using hj
theorem xw {w w1:World} (h:w.grownBy w1 none):Below w.heap.size w w1:=⟨h.os,h.tape,h.output,h.size,fun k hk=>h.block k hk bB⟩
theorem VH (w0 w:World) (g b:Nat) (n x:Int) (H:Pf w0.heap.size w g b n) (hb:Below w0.heap.size w0 w) :
  Calls Tryz.prog 118 #[.pointer (some ⟨g,0,none⟩),.int .i64 x,.int .i64 1] w fun e w'=>e=.returned (.tuple #[])∧(∃v',Pk w0.heap.size w' g v' (jA++leB 1 x) n)∧Below w0.heap.size w0 w'∧Fr g w w':=by
 have HP:=ah.mk H;have HB:=ah.mk hb
 have c0:w.cell? ⟨g,0,none⟩=some (.slice (some ⟨b,0,none⟩) 8 8):=by rw[ak H.blk];rfl
 obtain⟨i0,hi,hz0,hz1,hz2⟩:=info_parts info5;have HI:=ah.mk (show _∧_∧_∧_ from⟨hi,hz0,hz1,hz2⟩);clear H hb hi hz0 hz1 hz2
 go_enter Tryz.func118,Tryz.ntmps118
 go_wp2
 refine wp_loop_rounds 2 ?_;rw[rounds_succ]
 go_wp2_with ((with_reducible refine bQ (b:=.append) (xs:=#[.tmp 13,.tmp 16]) rfl ?_);at_builtin;refine wpList_append_grows _ rfl (.tmp 13) (.tmp 16) 27 rfl 5 i0 (.int .u8 0) 1 1 Tryz.underlying27 HI.out.1 HI.out.2.1 HI.out.2.2.1 HI.out.2.2.2 rfl aH (some ⟨b,0,none⟩) 8 8 (nums .u8 jA) rfl (fun h=>by cases h) rfl ?hA ⟨w.heap.size,0,none⟩ 1 1 [.int .u8 (x % 256)] rfl rfl ?hN (by simp[Value.oneCell']) aH aH aH ?_;(case hA=>exact Ot HP.out.arr _);(case hN=>exact Jp w _ 5);intro v2 w2 ho hg;have HO:=ah.mk ho;have HG:=ah.mk hg;have hgb:=kM (aN HP.out.blk (.cells #[Value.int .u8 (x % 256)] 5)) hg bB;have cF:w2.cell? ⟨g,0,none⟩=some (.slice (some ⟨b,0,none⟩) 8 8):=(by rw[ak hgb];rfl);have fF:=ay hgb 0;have lF:=bG hgb;have HGB:=ah.mk hgb;clear ho hg hgb;obtain⟨A2,c2,hv2⟩:=Jq HO.out;subst hv2)
 rw[rounds_succ]
 go_wp2
 go_end0
 have hR:Kd.R (Kd.int .u8) 5 w2 w0.heap.size (fun _=>True) (.slice A2 9 c2) (jA++leB 1 x):=Kd.qm (uX HO.out (Nat.le_trans HB.out.size bB)) (fun _ _=>trivial);have hbel:Below w0.heap.size w0 w2:=xu (HB.out.alloc HB.out.size _) none (by rw[World.size_alloc];have:=HB.out.size;omega) HG.out bB;exact⟨rfl,⟨_,⟨by have:=gB HGB.out 0 (.slice A2 9 c2);simpa using this,Kd.oK hR HGB.out (by intro q hq;simp[Kd.int,Kd.scalar] at hq;subst hq;decide) 0 _,HP.out.low⟩⟩,hbel.setCell HP.out.low _,(Fr.of_below ((Below.refl _ _).alloc (Nat.le_refl _) _)).trans ((Fr.of_below (xw HG.out)).trans (Fr.set _ _ _))⟩
end Go.Proofs.YtknihldkhedpkaaGreatDoor
end
