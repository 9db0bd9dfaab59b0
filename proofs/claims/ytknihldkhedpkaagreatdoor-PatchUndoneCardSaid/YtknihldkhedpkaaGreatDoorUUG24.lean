import Derived.Test.YtknihldkhedpkaaGreatDoorUUG11
import Derived.Test.YtknihldkhedpkaaGreatDoorUUG16
import Derived.Test.YtknihldkhedpkaaGreatDoorUUG21
import Derived.Test.YtknihldkhedpkaaGreatDoorUUG13
import Derived.Outline
import Derived.Laws.Rows
set_option linter.all false
set_option maxHeartbeats 16000000
set_option maxRecDepth 100000
namespace Go.Proofs.YtknihldkhedpkaaGreatDoor
open Go.RowKit Go.Lib
open Go.Proofs.YtknihldkhedpkaaGreatDoorW.PrintWords Go.Proofs.YtknihldkhedpkaaGreatDoorW.PrintLast Go.Proofs.YtknihldkhedpkaaGreatDoor.PT
attribute [local go_sem] Oper.semAt_some
theorem BZ {l:List Int} (h:∀x∈l,0≤x∧x≤255) (i:Int):0≤rd l i∧rd l i≤255:=by
 unfold rd
 rcases Nat.lt_or_ge i.toNat l.length with hi|hi
 ·simp only[List.getElem?_eq_getElem hi,Option.getD_some,List.getD_eq_getElem?_getD];exact h _ (List.getElem_mem hi)
 simp only[List.getElem?_eq_none hi,Option.getD_none,List.getD_eq_getElem?_getD];omega
theorem qB {l:List Int} (h:∀x∈l,0≤x∧x≤255):0≤gV l∧gV l≤4294967295:=by
 unfold gV;have h1:=BZ h ((l.length:Int) - 1);have h2:=BZ h ((l.length:Int) - 2);have h3:=BZ h ((l.length:Int) - 3);have h4:=BZ h ((l.length:Int) - 4);omega
theorem gP.calls (A0:Option Addr) (c0:Nat) (l0:List It) (A1:Option Addr) (c1:Nat) (l1:List It) (r1:List Int) (r2:Int) (w:World)
  (hr0:Kd.C om w A0 l0.length l0) (hc0:l0.length≤c0) (hr1:Kd.C om w A1 l1.length l1) (hc1:l1.length≤c1)
  (h:gP.f l0 l1=some (r1,r2)) :
  Calls Tryz.prog 18 #[.slice A0 l0.length c0,.slice A1 l1.length c1] w fun e w'=>∃xq:Value,e=.returned (.tuple #[xq,.int .i64 r2])∧Kd.R (Kd.int .u8) 5 w' w.heap.size (fun _=>True) xq r1∧Below w.heap.size w w':=by
 unfold gP.f at h;by_cases hf:l0.all nO=true∧l1.all nO=true
 ·rw[if_pos hf] at h;have hm:=Option.some.inj h;obtain⟨f0,f1⟩:=hf;have HM:=ah.mk hm
  have P0:ah (∀W:World,Below w.heap.size w W→Calls Tryz.prog 48 #[.slice A0 l0.length c0] W fun e w'=>∃v,e=.returned (.tuple #[v,.int .i64 (bY l0).2])∧Kd.R (Kd.int .u8) 5 w' W.heap.size (fun _=>True) v (bY l0).1∧Below W.heap.size W w'):=⟨fun W hW=>iT.calls A0 c0 l0 (bY l0).1 (bY l0).2 W (Kd.aC hr0 hW) hc0 (by unfold iT.f;rw[if_pos f0])⟩
  have P1:ah (∀W:World,Below w.heap.size w W→Calls Tryz.prog 48 #[.slice A1 l1.length c1] W fun e w'=>∃v,e=.returned (.tuple #[v,.int .i64 (bY l1).2])∧Kd.R (Kd.int .u8) 5 w' W.heap.size (fun _=>True) v (bY l1).1∧Below W.heap.size W w'):=⟨fun W hW=>iT.calls A1 c1 l1 (bY l1).1 (bY l1).2 W (Kd.aC hr1 hW) hc1 (by unfold iT.f;rw[if_pos f1])⟩
  have HF:=ah.mk (And.intro f0 f1);have qP:=ah.mk hr0;have HR1:=ah.mk hr1;clear h hm f0 f1 hr0 hr1;refine (callsIn_wide (n:=3)).1 (callsIn_of_wp_marks Tryz.func18 rfl trivial ?_ rfl);simp only[Tryz.ntmps18,List.size_toArray,List.length_cons,List.length_nil,Nat.reduceSub,Nat.reduceAdd,Array.replicate_succ,Array.replicate_zero,List.push_toArray,List.append_toArray,List.nil_append,List.cons_append];refine wpIn_wide.2 ?_;by_cases hz0:(bY l0).2≠0
  ·have hp:=P0.out w (Below.refl _ _)
   obtain⟨e0,he0⟩:∃e,(bY l0).2=e:=⟨_,rfl⟩
   rw[he0] at hp hz0;have hb2:(e0 != 0)=true:=bne_iff_ne.2 hz0
   have HZ:ah (r1=[]∧r2=e0):=⟨by
    have hm:=HM.out;unfold kW at hm;rw[he0,if_pos hz0] at hm
    injection hm with a b
    exact⟨a.symm,b.symm⟩⟩
   have HP:=ah.mk hp;clear hp he0 hz0
   go_wp2_with (go_at_call 48;refine (HP.out).mono ?_;rintro e w2 ⟨v,rfl,_,hb⟩)
   refine⟨_,results_tmp2 rfl _ _ _,?_⟩;obtain⟨rfl,rfl⟩:=HZ.out;exact⟨_,rfl,Kd.eY _ _ _ _ _,hb⟩
  have hz0':(bY l0).2=0:=Decidable.not_not.1 hz0;have hp:=P0.out w (Below.refl _ _);rw[hz0'] at hp;have HP:=ah.mk hp;have HZ0:=ah.mk hz0';have hb0:=mJ hz0' HF.out.1
  obtain⟨a0,ha0⟩:∃e,(bY l0).1=e:=⟨_,rfl⟩
  rw[ha0] at HP hb0;have HA0:=ah.mk ha0;have HB0:=ah.mk hb0;clear hp hz0 hz0' ha0 hb0;by_cases hz1:(bY l1).2≠0
  ·have hp1:=fun W hW=>P1.out W hW
   obtain⟨e1,he1⟩:∃e,(bY l1).2=e:=⟨_,rfl⟩
   have wT:=ah.mk hp1;clear hp1;rw[he1] at wT hz1;have hb2:(e1 != 0)=true:=bne_iff_ne.2 hz1
   have HZ:ah (r1=[]∧r2=e1):=⟨by
    have hm:=HM.out;unfold kW at hm;rw[if_neg (fun h=>h HZ0.out),he1,if_pos hz1] at hm
    injection hm with a b
    exact⟨a.symm,b.symm⟩⟩
   clear he1 hz1
   have tok:ah True:=⟨trivial⟩
   go_wp2_with (first|(have _t:=tok;go_at_call 48;refine (HP.out).mono ?_;rintro e w2 ⟨v,rfl,_,hb⟩;have HB2:=ah.mk hb;clear hb tok)|(go_at_call 48;refine (wT.out _ HB2.out).mono ?_;rintro e w3 ⟨v3,rfl,_,hb3⟩))
   refine⟨_,results_tmp2 rfl _ _ _,?_⟩;obtain⟨rfl,rfl⟩:=HZ.out;exact⟨_,rfl,Kd.eY _ _ _ _ _,HB2.out.trans (hb3.mono HB2.out.size)⟩
  have hz1':(bY l1).2=0:=Decidable.not_not.1 hz1
  have hp1:=fun W hW=>P1.out W hW
  have wT:=ah.mk hp1;clear hp1;rw[hz1'] at wT;have HZ1:=ah.mk hz1';have hb1:=mJ hz1' HF.out.2
  obtain⟨a1,ha1⟩:∃e,(bY l1).1=e:=⟨_,rfl⟩
  rw[ha1] at wT hb1;have HA1:=ah.mk ha1;have HB1:=ah.mk hb1
  have yD:ah (iA (gV a0) (gV a1) (iY l0 l1)=(r1,r2)):=⟨by
   have hm:=HM.out;unfold kW at hm;rw[if_neg (fun h=>h HZ0.out),if_neg (fun h=>h HZ1.out),HA0.out,HA1.out] at hm
   exact hm⟩
  clear hz1 hz1' ha1 hb1 HM;have asI:=qp HZ0.out;have asJ:=qp HZ1.out
  have tok:ah True:=⟨trivial⟩
  have Xk:ah True:=⟨trivial⟩
  go_wp2_with (first
   | (have _t:=tok;go_at_call 48;refine (HP.out).mono ?_;rintro e w2 ⟨v2,rfl,hr2,hb2⟩;obtain⟨Av2,cv2,hv2⟩:=Kd.bG hr2;subst hv2;have HB2:=ah.mk hb2;have HR2:=ah.mk hr2;clear hb2 hr2 tok)
   | (have _t:=HB2;go_at_call 48;refine (wT.out _ HB2.out).mono ?_;rintro e w3 ⟨v3,rfl,hr3,hb3⟩;obtain⟨Av3,cv3,hv3⟩:=Kd.bG hr3;subst hv3;have HB3:=ah.mk (HB2.out.trans (hb3.mono HB2.out.size));have HR3:=ah.mk hr3;have JJ:=ah.mk (Kd.bT (Kd.dF HR2.out hb3));have HC3:=ah.mk (Kd.bT hr3);clear hb3 hr3 HB2)
   | (have _t:=Xk;go_at_call 49;refine (PT.dR.calls 5 _ cv2 a0 (gV a0) w3 JJ.out.2.2 JJ.out.2.1 (PL a0 HB0.out.1 (by have:=HB0.out.2.1;omega) HB0.out.2.2)).mono ?_;rintro e w4 ⟨rfl,⟨n4,rfl⟩⟩;clear Xk)
   | (go_at_call 49;refine (PT.dR.calls 5 _ cv3 a1 (gV a1) (w3.drewN n4) (Kd.dV HC3.out.2.2 n4) HC3.out.2.1 (PL a1 HB1.out.1 (by have:=HB1.out.2.1;omega) HB1.out.2.2)).mono ?_;rintro e w5 ⟨rfl,⟨n5,rfl⟩⟩)
   | (refine dX (.store 24 (.tmp 9) (.tmp 34)) rfl ?_;refine wpList_store_row rfl _ (.tmp 9) (.tmp 34) rfl w3.heap.size #[.int .i64 (gV a0),.int .i64 (gV a1),.slice none 0 0] rfl rfl 24 _ (by exact bJ w3 _) aA (by rfl) (by simp[Value.oneCell']) ?_)
   | (go_at_call 50;refine (AX _ _ _).mono ?_;rintro e w6 ⟨rfl,rfl⟩))
  obtain⟨wq,hwq⟩:∃wq,((w3.drewN (n4+n5)).alloc (.cells #[.int .i64 0,.int .i64 0,.slice none 0 0] 24)).setRow w3.heap.size #[.int .i64 (gV a0),.int .i64 (gV a1),.slice none 0 0]=wq:=⟨_,rfl⟩
  have ahu:wq.heap[w3.heap.size]?=some (.cells #[.int .i64 (gV a0),.int .i64 (gV a1),.slice none 0 0] 24 (0,0)):=by
   rw[← hwq];exact setRow_heap _ _ _ _ _ _ (by exact bJ w3 _)
  have hqs:wq.heap.size=w3.heap.size+1:=by
   rw[← hwq];simp
  have YD:Below w.heap.size w wq:=by
   rw[← hwq];have hd:=HB3.out.trans ((av (Below.refl w3.heap.size w3) (n4+n5)).mono HB3.out.size);exact below_setRow (hd.alloc hd.size _) HB3.out.size _
  obtain⟨w7,hw7⟩:∃w7,((wq.alloc (.cells #[.slice A0 l0.length c0,.slice A1 l1.length c1] 25)).alloc (.cells #[.func (.func 51) #[] #[]] 93)).alloc (.cells #[.slice (some ⟨w3.heap.size+1,0,none⟩) 2 2] 75)=w7:=⟨_,rfl⟩
  rw[hwq,hw7]
  have UO:w7.heap.size=w3.heap.size+4:=by
   rw[← hw7];simp[hqs]
  have CK:Below wq.heap.size wq w7:=by
   rw[← hw7];exact (((Below.refl _ _).alloc (Nat.le_refl _) _).alloc bK _).alloc (by simp;omega) _
  have hlow:Below w.heap.size w w7:=YD.trans (CK.mono YD.size)
  have Yx:Two.Am (lg l0 l1) (lg A0 A1) (lg c0 c1) w (w3.heap.size+1+1) (w3.heap.size+1+1+1) (w3.heap.size+1) w7:=by
   rw[← hw7];exact⟨by rw[hw7];exact hlow,aM (kN (by simp[hqs]) _) _,kN (by simp[hqs]) _,aM (aM (kN hqs _) _) _⟩
  have hI0:DI w w7.heap.size w3.heap.size (gV a0) (gV a1) [] w7:=⟨hlow,Nat.le_refl _,_,aG ahu CK,Kd.eY _ _ _ _ _⟩
  have hT:=Two.Jl (lg l0 l1) (lg A0 A1) (lg c0 c1) w w7 (w3.heap.size+1+1) (w3.heap.size+1+1+1) (w3.heap.size+1)
   (oO qP.out HR1.out) (oO hc0 hc1) (oO (by show l0.length≤_;omega) (by show l1.length≤_;omega))
   (oO (Fj HZ0.out) (Fj HZ1.out)) Yx hlow.size
  obtain⟨rs,hrs⟩:∃rs,Two.fI (lg l0 l1) (Two.kE (lg l0 l1) (fun _=>0)) (fun _=>0)=rs:=⟨_,rfl⟩
  rw[hrs] at hT;have Ak:w.heap.size≤w7.heap.size:=hlow.size;have hw3:w.heap.size≤w3.heap.size:=HB3.out.size
  have hrl:rs.length≤8192:=by
   have h1:=Two.length (L:=lg l0 l1) (Two.kE (lg l0 l1) (fun _=>0)) (fun _=>0);have h2:Two.kE (lg l0 l1) (fun _=>0)=l0.length+l1.length:=rfl;rw[hrs,h2] at h1;omega
  have HI0:=ah.mk hI0;have HT:=ah.mk hT;have Yn:=ah.mk hrs;clear hT hrs hI0 Yx hlow hwq ahu hqs YD hw7 CK HP wT P0 P1
  refine Rb (gf:=87) (lb:=#[.pointer (some ⟨w3.heap.size+1+1+1,0,none⟩),.pointer (some ⟨w3.heap.size+1+1,0,none⟩)]) ?hg (enters_of Tryz.func87 aA rfl) (encs:=Two.encR) (fun _=>rfl) HT.out.tells
   (fun pre W=>DI w w7.heap.size w3.heap.size (gV a0) (gV a1) ((pre.map Two.oG.rd).foldl kM []) W) ?a1 (fun _ _=>M7)
   (fun pre A B hi hs=>hi.kq (Kq.VQ hs) Ak aj)
   (fun pre W l o o' hi hl ho hc=>hi.kq (Kq.xu hl ho hc) Ak aj)
   (fun pre x W l o o' hgd hl ho hc=>Two.VW hgd ho hc)
   (fun A B l o o1 p o2 hl ho hc hk hp hpc=>acO Ak (fun k hk=>by omega) hl ho hc hk hp hpc)
   (fun o o'=>HI0.out.kq (Kq.below (((Below.refl _ _).alloc (Nat.le_refl _) _).alloc bK _)) Ak aj)
   ?assign ?body ?done
  case assign=>
   intro l x W K hK;dsimp only[Two.encR]
   gi_wp2
   exact hK
  case hg=>
   first|rfl|(go_simp;done)|simp[go_sem]
  case body=>
   rintro l pre x W hi hgd;refine wpIn_mono (Q:=fun e _ B=>zn w w7.heap.size w3.heap.size (w3.heap.size+1+1) (w3.heap.size+1+1+1) (w3.heap.size+1) (gV a0) (gV a1) (((pre++[x]).map Two.oG.rd).foldl kM []) W e B) ?_ (fun e a B h=>h);obtain⟨⟨rest,hrest⟩,p0,p1,hg,o0,o1⟩:=hgd
   have hmem:x.rd∈rs:=by rw[hrest];simp
   have GI:=Two.here (Yn.out▸hmem)
   have hml:((pre.map Two.oG.rd).foldl kM []).length+1≤8192:=by
    have h1:=AV (pre.map Two.oG.rd) [];have h2:=congrArg List.length hrest;simp only[List.length_append,List.length_map,List.length_cons,List.length_nil] at h1 h2;omega
   have FIN:=ah.mk (akS (S:=((pre++[x]).map Two.oG.rd).foldl kM []) hi hw3 UO)
   obtain⟨S0,hS0⟩:∃S0,(pre.map Two.oG.rd).foldl kM []=S0:=⟨_,rfl⟩
   rw[hS0] at hml hi;have Jm:=ah.mk hS0;have Q5:=ah.mk hml;have g0:W.cell? ⟨x.g,0,none⟩=some p0:=ak hg 0;have g1:W.cell? ⟨x.g,1,none⟩=some p1:=ak hg 1;have HI:=ah.mk hi;have O0:=ah.mk o0;have O1:=ah.mk o1;have HH:=ah.mk GI
   have hup:Tryz.prog.underlying 95=some (.pointer (Tryz.prog.pointee 95)):=by kernel_rfl
   have hq1:∀(p:Option Addr) (w:World),(binOp .eql 95 (.pointer p) (.pointer none)).run Tryz.prog w=.ok (.bool p.isNone) w:=fun p w=>run_eql_pointer_nil w _ p hup
   have hq2:∀(p:Option Addr) (w:World),(binOp .neq 95 (.pointer p) (.pointer none)).run Tryz.prog w=.ok (.bool p.isSome) w:=fun p w=>(run_neq_pointer_nil w _ p hup).trans (by cases p <;> rfl)
   have hu:=Tryz.underlying29;clear hup hi hg o0 o1 hmem GI hml hS0 hrest
   gi_wp2_with fail
   refine wpIn_region_quiet aA aA aA (by rintro⟨a,w',h⟩;exact Exit.noConfusion (zn.eq (show zn w w7.heap.size w3.heap.size (w3.heap.size+1+1) (w3.heap.size+1+1+1) (w3.heap.size+1) (gV a0) (gV a1) (((pre++[x]).map Two.oG.rd).foldl kM []) W Exit.outgrown w' from h))) ?_
   repeat (go_big_quiet_step (fail))
   refine wpQuiet_nil ?_;rintro _ ⟨nq,rfl⟩;clear g0 g1;have hwd:=av (Below.refl W.heap.size W) nq;have HD1:=ah.mk (HI.out.below hwd);have I8:=ah.mk (show kg w7.heap.size (fun k=>k=w3.heap.size) (fun q=>q=31) W (W.drewN nq) from kg.below hwd)
   obtain⟨W1,hW1⟩:∃W1,W.drewN nq=W1:=⟨_,rfl⟩
   rw[hW1] at HD1 I8;rw[hW1];clear hwd hW1 HI
   obtain⟨xa,hxa⟩:∃a,x.a=a:=⟨_,rfl⟩
   obtain⟨xb,hxb⟩:∃b,x.b=b:=⟨_,rfl⟩
   rw[hxa] at O0;rw[hxb] at O1
   have hsame:=fun (X:World) (hX:Below w.heap.size w X)=>Xl p0 p1 xa xb X (O0.out.below hX) (O1.out.below hX)
   have HXA:=ah.mk hxa;have HXB:=ah.mk hxb;have HHA:=ah.mk (fun y (h:xa=some y)=>HH.out.1 y (hxa.trans h));have HHB:=ah.mk (fun y (h:xb=some y)=>HH.out.2 y (hxb.trans h));clear hxa hxb HH
   cases hsm:JG xa xb with
   | true=>
    have HQ:ah (((pre++[x]).map Two.oG.rd).foldl kM []=S0):=⟨by rw[List.map_append,List.foldl_append,Jm.out];show S0++(lu x.a x.b).toList=_;rw[HXA.out,HXB.out];unfold lu;rw[if_pos hsm];simp⟩
    rw[hsm] at hsame;have UQ:=ah.mk hsame;clear hsm hsame
    gi_wp2_with (refine⟨trivial,rfl,?_⟩;gi_at_call 52;refine (CallsIn.inRound l (callsIn_wide.2 (UQ.out _ HD1.out.low))).mono ?_;rintro e w5 ⟨rfl,⟨nm,rfl⟩⟩)
    have hwd:=av (Below.refl W1.heap.size W1) nm;have yT:=ah.mk (HD1.out.below hwd);have D9:=ah.mk (I8.out.trans (kg.below hwd))
    obtain⟨Ws,hWs⟩:∃Ws,W1.drewN nm=Ws:=⟨_,rfl⟩
    rw[hWs] at yT D9
    try rw[hWs]
    clear hwd hWs HD1 I8 UQ;exact FIN.out _ (by rw[HQ.out];exact yT.out) D9.out
   | false=>
    rw[hsm] at hsame;have UQ:=ah.mk hsame;have Yt:=ah.mk hsm;clear hsame
    cases xb with
    | none=>
     cases xa with
     | none=>exact absurd hsm aD
     | some z=>
      obtain⟨ZQ,X4,DL,X5,DN,e1,hsx,hlx⟩:=O0.out.six;have ho1:p1=.pointer none:=O1.out;subst e1;subst ho1;have UR:=ah.mk hsx;clear hsx hlx hsm O0 O1
      have HQ:ah (((pre++[x]).map Two.oG.rd).foldl kM []=S0++[⟨1,⟨0,z.f1,⟨#[]⟩,0,[],[]⟩,[]⟩]):=⟨by rw[List.map_append,List.foldl_append,Jm.out];show S0++(lu x.a x.b).toList=_;rw[HXA.out,HXB.out];unfold lu;rw[if_neg (by rw[Yt.out];decide)];rfl⟩
      gi_wp2_with (refine⟨trivial,rfl,?_⟩;gi_at_call 52;refine (CallsIn.inRound l (callsIn_wide.2 (UQ.out _ HD1.out.low))).mono ?_;rintro e w5 ⟨rfl,⟨nm,rfl⟩⟩)
      have hwd:=av (Below.refl W1.heap.size W1) nm;have yT:=ah.mk (HD1.out.below hwd);have D9:=ah.mk (I8.out.trans (kg.below hwd))
      obtain⟨Ws,hWs⟩:∃Ws,W1.drewN nm=Ws:=⟨_,rfl⟩
      rw[hWs] at yT D9
      try rw[hWs]
      clear hwd hWs HD1 I8 UQ;have HSX:=ah.mk (UR.out.below yT.out.low);have hdr:=bA (Below.refl Ws.heap.size Ws)
      obtain⟨Wd,hWd⟩:∃Wd,Ws.drew=Wd:=⟨_,rfl⟩
      have hdb:Below Ws.heap.size Ws Wd:=hWd▸hdr;obtain⟨va,hva,hra⟩:=(yT.out.below hdb).box;obtain⟨Au,nu,cu,hvu⟩:=iB hra;subst hvu;have OE:=ah.mk hva;have yE:=ah.mk hra;have ZR:=ah.mk (yT.out.below hdb);have Jf:=ah.mk (D9.out.trans (kg.below hdb));have wP:=ah.mk (show w7.heap.size≤Wd.heap.size from (yT.out.below hdb).big);have z2:Wd.cell? ⟨w3.heap.size,2,none⟩=some (.slice Au nu cu):=ak hva 2;have HS:=ah.mk (show Wd.cell? ⟨w3.heap.size,2,none⟩=some (.slice Au nu cu)∧wN Wd ZQ z X4 DL X5 DN from⟨z2,HSX.out.below hdb⟩);have Jo:=ah.mk (show ∀W':World,(W'.cell? ⟨w3.heap.size,2,none⟩=some (.slice Au nu cu)∧wN W' ZQ z X4 DL X5 DN)→∀{W''},Below W'.heap.size W' W''→(W''.cell? ⟨w3.heap.size,2,none⟩=some (.slice Au nu cu)∧wN W'' ZQ z X4 DL X5 DN) from fun W' h W'' hb=>⟨au hb h.1,h.2.below hb⟩);clear hdr hva hra z2 hdb;have wm:=OE;have wX:=yE;have ZT:=ZR;have Q6:=Jf;have Q7:=wP;have Q9:=ah.mk (xw (w0:=w) (w:=Wd) (base:=w7.heap.size) (ok:=fun _=>False) (x:=⟨1,⟨0,z.f1,⟨#[]⟩,0,[],[]⟩,[]⟩) (Kd.pX (Kd.eY _ _ _ _ _)) (Kd.pX (Kd.eY _ _ _ _ _)) (Kd.pX (Kd.eY _ _ _ _ _)));refine nS (n:=12) (S:=fun w'=>w'.cell? ⟨w3.heap.size,2,none⟩=some (.slice Au nu cu)∧wN w' ZQ z X4 DL X5 DN) (ds:=[9,11]) (aQ 12 0) aA aA (by rintro⟨a,w',h⟩;exact Exit.noConfusion (zn.eq (show zn w w7.heap.size w3.heap.size (w3.heap.size+1+1) (w3.heap.size+1+1+1) (w3.heap.size+1) (gV a0) (gV a1) (((pre++[x]).map Two.oG.rd).foldl kM []) W Exit.outgrown w' from h))) rfl rfl (by rw[hWd];exact HS.out) (fun hHeld=>?_);rw[hWd] at hHeld ⊢;clear hWd;refine bR 0 63 (aQ 12 1) ?_;refine jv 1 64 (aQ 12 3) rfl hHeld (by rintro w' ⟨s,⟨y0,y1,y2,y3,y4,y5⟩⟩;go_simp;with_reducible rfl) ?_;refine bR 2 65 (aQ 12 7) ?_;refine bR 3 66 (aQ 12 15) ?_;refine bR 4 67 (aQ 12 31) ?_;refine jv 5 68 (aQ 12 63) rfl hHeld (by rintro w' ⟨s,⟨y0,y1,y2,y3,y4,y5⟩⟩;go_simp;with_reducible rfl) ?_;refine bR 6 69 (aQ 12 127) ?_;refine bR 7 70 (aQ 12 255) ?_;refine mG 8 (some 71) (aQ 12 511) (fun K hK=>?_);refine oN (v:=.slice (some ⟨Wd.heap.size,0,none⟩) 1 1) (w1:=Wd.alloc (.cells #[.int .i64 1,.int .i64 0,.string z.f1,.string ⟨#[]⟩,.int .i64 0,.slice none 0 0,.slice none 0 0,.slice none 0 0] 31)) (by rfl) rfl ?_ ?_
      ·go_simp
       try rfl
      have hal:=(Below.refl Wd.heap.size Wd).alloc (Nat.le_refl _) (.cells #[.int .i64 1,.int .i64 0,.string z.f1,.string ⟨#[]⟩,.int .i64 0,.slice none 0 0,.slice none 0 0,.slice none 0 0] 31);refine hK.out _ _ (Jo.out _ hHeld hal) (fun hHeld=>?_);clear hK K hal;refine fU 71 ?_;refine lS (i:=9) (N:=some 72) (aQ 12 1023) rfl rfl aA aD (fun K hK=>?_);refine Kd.kD (CU w) (w0:=Wd) w7.heap.size (by rfl) (.tmp 64) (.tmp 71) 22 31 (.agg #[.int .i64 0,.int .i64 0,.string ⟨#[]⟩,.string ⟨#[]⟩,.int .i64 0,.slice none 0 0,.slice none 0 0,.slice none 0 0]) 128 rfl Tryz.underlying22 CV rfl (by show 0<8;decide) aD (.slice Au nu cu) S0 ⟨1,⟨0,z.f1,⟨#[]⟩,0,[],[]⟩,[]⟩ [.int .i64 1,.int .i64 0,.string z.f1,.string ⟨#[]⟩,.int .i64 0,.slice none 0 0,.slice none 0 0,.slice none 0 0] (fun _=>True) (fun _=>False) rfl rfl Q9.out (fun _ h=>h.elim) (fun _ _=>trivial) wX.out (Below.refl _ _) Q7.out (by have:=Q5.out;omega) ?_;intro v1 w1 hr1 _hb hg1 uN;obtain⟨zo,GJ,zq,hv1⟩:=iB hr1;subst hv1;have hbx:=(hg1.block _ (bE wm.out) (jO wX.out wm.out (fun cs e=>by injection e with _ e;exact absurd e aD))).trans wm.out;have Y7:w1.cell? ⟨w3.heap.size,2,none⟩=some (.slice Au nu cu):=ak hbx 2;have f10:=ay hbx 2;have OG:=ah.mk (ZT.out.push wm.out wX.out hr1 hg1 Ak hw3);have Ra:=ah.mk (Q6.out.trans ((kg.grown (G:=fun k=>k=w3.heap.size) (T:=fun q=>q=31) wX.out (Nat.le_refl _) rfl hg1).trans (kg.set (G:=fun k=>k=w3.heap.size) rfl 2 (.slice zo GJ zq))));clear hr1 _hb hg1 uN hbx;refine hK.out _ _ ?_;clear hK K hHeld;refine fU 72 ?_;refine bR 10 73 (aQ 12 2047) ?_;refine lS (i:=11) (N:=none) (aQ 12 4095) rfl rfl aA aD (fun K hK=>?_);refine tZ (w1:=w1.setCell ⟨w3.heap.size,2,none⟩ (.slice zo GJ zq)) (by rfl) rfl ?_ ?_
      ·go_simp
      refine hK.out _ _ ?_;clear hK K;refine kK aA ?_;exact FIN.out _ (by rw[HQ.out];exact OG.out) Ra.out
    | some y=>
     obtain⟨EH,Y4,qE,Y5,qh,e2,hsy,Nb⟩:=O1.out.six;subst e2;have Rc:=ah.mk hsy;have ES:=ah.mk Nb;clear hsy Nb O1
     cases xa with
     | none=>
      have ho0:p0=.pointer none:=O0.out;subst ho0;clear O0 hsm
      have HQ:ah (((pre++[x]).map Two.oG.rd).foldl kM []=S0++[⟨2,y,[]⟩]):=⟨by rw[List.map_append,List.foldl_append,Jm.out];show S0++(lu x.a x.b).toList=_;rw[HXA.out,HXB.out];unfold lu;rw[if_neg (by rw[Yt.out];decide)];rfl⟩
      gi_wp2_with (refine⟨trivial,rfl,?_⟩;gi_at_call 52;refine (CallsIn.inRound l (callsIn_wide.2 (UQ.out _ HD1.out.low))).mono ?_;rintro e w5 ⟨rfl,⟨nm,rfl⟩⟩)
      have hwd:=av (Below.refl W1.heap.size W1) nm;have yT:=ah.mk (HD1.out.below hwd);have D9:=ah.mk (I8.out.trans (kg.below hwd))
      obtain⟨Ws,hWs⟩:∃Ws,W1.drewN nm=Ws:=⟨_,rfl⟩
      rw[hWs] at yT D9
      try rw[hWs]
      clear hwd hWs HD1 I8 UQ;have VF:=ah.mk (Rc.out.below yT.out.low);have hdr:=bA (Below.refl Ws.heap.size Ws)
      obtain⟨Wd,hWd⟩:∃Wd,Ws.drew=Wd:=⟨_,rfl⟩
      have hdb:Below Ws.heap.size Ws Wd:=hWd▸hdr;obtain⟨va,hva,hra⟩:=(yT.out.below hdb).box;obtain⟨Au,nu,cu,hvu⟩:=iB hra;subst hvu;have OE:=ah.mk hva;have yE:=ah.mk hra;have ZR:=ah.mk (yT.out.below hdb);have Jf:=ah.mk (D9.out.trans (kg.below hdb));have wP:=ah.mk (show w7.heap.size≤Wd.heap.size from (yT.out.below hdb).big);have z2:Wd.cell? ⟨w3.heap.size,2,none⟩=some (.slice Au nu cu):=ak hva 2;have HS:=ah.mk (show Wd.cell? ⟨w3.heap.size,2,none⟩=some (.slice Au nu cu)∧wN Wd EH y Y4 qE Y5 qh from⟨z2,VF.out.below hdb⟩);have Jo:=ah.mk (show ∀W':World,(W'.cell? ⟨w3.heap.size,2,none⟩=some (.slice Au nu cu)∧wN W' EH y Y4 qE Y5 qh)→∀{W''},Below W'.heap.size W' W''→(W''.cell? ⟨w3.heap.size,2,none⟩=some (.slice Au nu cu)∧wN W'' EH y Y4 qE Y5 qh) from fun W' h W'' hb=>⟨au hb h.1,h.2.below hb⟩);clear hdr hva hra z2 hdb;have wm:=OE;have wX:=yE;have ZT:=ZR;have Q6:=Jf;have Q7:=wP;have Q9:=ah.mk (xw (w0:=w) (w:=Wd) (base:=w7.heap.size) (ok:=fun _=>False) (x:=⟨2,y,[]⟩) (Kd.vF ES.out.l4 ES.out.g4) (Kd.vF ES.out.l5 ES.out.g5) (Kd.pX (Kd.eY _ _ _ _ _)));refine nS (n:=10) (S:=fun w'=>w'.cell? ⟨w3.heap.size,2,none⟩=some (.slice Au nu cu)∧wN w' EH y Y4 qE Y5 qh) (ds:=[7,9]) (aQ 10 0) aA aA (by rintro⟨a,w',h⟩;exact Exit.noConfusion (zn.eq (show zn w w7.heap.size w3.heap.size (w3.heap.size+1+1) (w3.heap.size+1+1+1) (w3.heap.size+1) (gV a0) (gV a1) (((pre++[x]).map Two.oG.rd).foldl kM []) W Exit.outgrown w' from h))) rfl rfl (by rw[hWd];exact HS.out) (fun hHeld=>?_);rw[hWd] at hHeld ⊢;clear hWd;refine bR 0 47 (aQ 10 1) ?_;refine jv 1 48 (aQ 10 3) rfl hHeld (by rintro w' ⟨s,⟨y0,y1,y2,y3,y4,y5⟩⟩;go_simp;with_reducible rfl) ?_;refine bR 2 49 (aQ 10 7) ?_;refine bR 3 50 (aQ 10 15) ?_;refine jv 4 51 (aQ 10 31) rfl hHeld (by rintro w' ⟨s,⟨y0,y1,y2,y3,y4,y5⟩⟩;go_simp;with_reducible rfl) ?_;refine bR 5 52 (aQ 10 63) ?_;refine mG 6 (some 53) (aQ 10 127) (fun K hK=>?_);refine oN (v:=.slice (some ⟨Wd.heap.size,0,none⟩) 1 1) (w1:=Wd.alloc (.cells #[.int .i64 2,.int .i64 y.f0,.string y.f1,.string y.f2,.int .i64 y.f3,.slice Y4 y.f4.length qE,.slice Y5 y.f5.length qh,.slice none 0 0] 31)) (by rfl) rfl ?_ ?_
      ·go_simp
       try rfl
      have hal:=(Below.refl Wd.heap.size Wd).alloc (Nat.le_refl _) (.cells #[.int .i64 2,.int .i64 y.f0,.string y.f1,.string y.f2,.int .i64 y.f3,.slice Y4 y.f4.length qE,.slice Y5 y.f5.length qh,.slice none 0 0] 31);refine hK.out _ _ (Jo.out _ hHeld hal) (fun hHeld=>?_);clear hK K hal;refine fU 53 ?_;refine lS (i:=7) (N:=some 54) (aQ 10 255) rfl rfl aA aD (fun K hK=>?_);refine Kd.kD (CU w) (w0:=Wd) w7.heap.size (by rfl) (.tmp 48) (.tmp 53) 22 31 (.agg #[.int .i64 0,.int .i64 0,.string ⟨#[]⟩,.string ⟨#[]⟩,.int .i64 0,.slice none 0 0,.slice none 0 0,.slice none 0 0]) 128 rfl Tryz.underlying22 CV rfl (by show 0<8;decide) aD (.slice Au nu cu) S0 ⟨2,y,[]⟩ [.int .i64 2,.int .i64 y.f0,.string y.f1,.string y.f2,.int .i64 y.f3,.slice Y4 y.f4.length qE,.slice Y5 y.f5.length qh,.slice none 0 0] (fun _=>True) (fun _=>False) rfl rfl Q9.out (fun _ h=>h.elim) (fun _ _=>trivial) wX.out (Below.refl _ _) Q7.out (by have:=Q5.out;omega) ?_;intro v1 w1 hr1 _hb hg1 uN;obtain⟨zo,GJ,zq,hv1⟩:=iB hr1;subst hv1;have hbx:=(hg1.block _ (bE wm.out) (jO wX.out wm.out (fun cs e=>by injection e with _ e;exact absurd e aD))).trans wm.out;have Y7:w1.cell? ⟨w3.heap.size,2,none⟩=some (.slice Au nu cu):=ak hbx 2;have f10:=ay hbx 2;have OG:=ah.mk (ZT.out.push wm.out wX.out hr1 hg1 Ak hw3);have Ra:=ah.mk (Q6.out.trans ((kg.grown (G:=fun k=>k=w3.heap.size) (T:=fun q=>q=31) wX.out (Nat.le_refl _) rfl hg1).trans (kg.set (G:=fun k=>k=w3.heap.size) rfl 2 (.slice zo GJ zq))));clear hr1 _hb hg1 uN hbx;refine hK.out _ _ ?_;clear hK K hHeld;refine fU 54 ?_;refine bR 8 55 (aQ 10 511) ?_;refine lS (i:=9) (N:=none) (aQ 10 1023) rfl rfl aA aD (fun K hK=>?_);refine tZ (w1:=w1.setCell ⟨w3.heap.size,2,none⟩ (.slice zo GJ zq)) (by rfl) rfl ?_ ?_
      ·go_simp
      refine hK.out _ _ ?_;clear hK K;refine kK aA ?_;exact FIN.out _ (by rw[HQ.out];exact OG.out) Ra.out
     | some z=>
      obtain⟨ZQ,X4,DL,X5,DN,e1,hsx,hlx⟩:=O0.out.six;subst e1;have UR:=ah.mk hsx;have HLX:=ah.mk hlx;clear hsx hlx O0 hsm;by_cases hz1:z.f0=1
      ·have b1:(z.f0 == 1)=true:=beq_iff_eq.2 hz1;by_cases hy1:y.f0=1
       ·have b2:(y.f0 == 1)=true:=beq_iff_eq.2 hy1;have HFX:=ah.mk (uQ HZ0.out HF.out.1 z (HHA.out z rfl) hz1);have HFY:=ah.mk (uQ HZ1.out HF.out.2 y (HHB.out y rfl) hy1)
        have HQ:ah (((pre++[x]).map Two.oG.rd).foldl kM []=S0++[rz z y]):=⟨by rw[List.map_append,List.foldl_append,Jm.out];show S0++(lu x.a x.b).toList=_;rw[HXA.out,HXB.out];unfold lu;rw[if_neg (by rw[Yt.out];decide)];dsimp only;rw[if_pos ⟨hz1,hy1⟩];rfl⟩
        clear hz1 hy1
        gi_wp2_with (refine⟨trivial,rfl,?_⟩;gi_at_call 52;refine (CallsIn.inRound l (callsIn_wide.2 (UQ.out _ HD1.out.low))).mono ?_;rintro e w5 ⟨rfl,⟨nm,rfl⟩⟩;have k1:=((UR.out.below HD1.out.low).below (av (Below.refl _ _) nm)).1;have k2:=((Rc.out.below HD1.out.low).below (av (Below.refl _ _) nm)).1)
        clear k1 k2;have hwd:=av (Below.refl W1.heap.size W1) nm;have yT:=ah.mk (HD1.out.below hwd);have D9:=ah.mk (I8.out.trans (kg.below hwd))
        obtain⟨Ws,hWs⟩:∃Ws,W1.drewN nm=Ws:=⟨_,rfl⟩
        rw[hWs] at yT D9
        try rw[hWs]
        clear hwd hWs HD1 I8 UQ;have HSX:=ah.mk (UR.out.below yT.out.low);have VF:=ah.mk (Rc.out.below yT.out.low);have hdr:=bA (Below.refl Ws.heap.size Ws)
        obtain⟨Wd,hWd⟩:∃Wd,Ws.drew=Wd:=⟨_,rfl⟩
        have hdb:Below Ws.heap.size Ws Wd:=hWd▸hdr;obtain⟨va,hva,hra⟩:=(yT.out.below hdb).box;obtain⟨Au,nu,cu,hvu⟩:=iB hra;subst hvu;have OE:=ah.mk hva;have yE:=ah.mk hra;have ZR:=ah.mk (yT.out.below hdb);have Jf:=ah.mk (D9.out.trans (kg.below hdb));have wP:=ah.mk (show w7.heap.size≤Wd.heap.size from (yT.out.below hdb).big);have z2:Wd.cell? ⟨w3.heap.size,2,none⟩=some (.slice Au nu cu):=ak hva 2;have HS:=ah.mk (show Wd.cell? ⟨w3.heap.size,2,none⟩=some (.slice Au nu cu)∧wN Wd ZQ z X4 DL X5 DN∧wN Wd EH y Y4 qE Y5 qh from⟨z2,HSX.out.below hdb,VF.out.below hdb⟩);have Jo:=ah.mk (show ∀W':World,(W'.cell? ⟨w3.heap.size,2,none⟩=some (.slice Au nu cu)∧wN W' ZQ z X4 DL X5 DN∧wN W' EH y Y4 qE Y5 qh)→∀{W''},Below W'.heap.size W' W''→(W''.cell? ⟨w3.heap.size,2,none⟩=some (.slice Au nu cu)∧wN W'' ZQ z X4 DL X5 DN∧wN W'' EH y Y4 qE Y5 qh) from fun W' h W'' hb=>⟨au hb h.1,h.2.1.below hb,h.2.2.below hb⟩);have EU:=ah.mk (show Below w.heap.size w Wd from (yT.out.below hdb).low);clear hdr hva hra z2 hdb;refine nS (n:=13) (S:=fun w'=>w'.cell? ⟨w3.heap.size,2,none⟩=some (.slice Au nu cu)∧wN w' ZQ z X4 DL X5 DN∧wN w' EH y Y4 qE Y5 qh) (ds:=[10,12]) (aQ 13 0) aA aA (by rintro⟨a,w',h⟩;exact Exit.noConfusion (zn.eq (show zn w w7.heap.size w3.heap.size (w3.heap.size+1+1) (w3.heap.size+1+1+1) (w3.heap.size+1) (gV a0) (gV a1) (((pre++[x]).map Two.oG.rd).foldl kM []) W Exit.outgrown w' from h))) rfl rfl (by rw[hWd];exact HS.out) (fun hHeld=>?_);rw[hWd] at hHeld ⊢;clear hWd;refine bR 0 91 (aQ 13 1) ?_;refine jv 1 92 (aQ 13 3) rfl hHeld (by rintro w' ⟨s,⟨x0,x1,x2,x3,x4,x5⟩,⟨y0,y1,y2,y3,y4,y5⟩⟩;go_simp;with_reducible rfl) ?_;refine bR 2 93 (aQ 13 7) ?_;refine bR 3 94 (aQ 13 15) ?_;refine jv 4 95 (aQ 13 31) rfl hHeld (by rintro w' ⟨s,⟨x0,x1,x2,x3,x4,x5⟩,⟨y0,y1,y2,y3,y4,y5⟩⟩;go_simp;with_reducible rfl) ?_;refine bR 5 96 (aQ 13 63) ?_;refine bR 6 97 (aQ 13 127) ?_;refine jv 7 98 (aQ 13 255) rfl hHeld (by rintro w' ⟨s,⟨x0,x1,x2,x3,x4,x5⟩,⟨y0,y1,y2,y3,y4,y5⟩⟩;go_simp;with_reducible rfl) ?_;refine mG 8 (some 99) (aQ 13 511) (fun K hK=>?_);refine qj Tryz.func53 #[.agg #[.int .i64 z.f0,.string z.f1,.string z.f2,.int .i64 z.f3,.slice X4 z.f4.length DL,.slice X5 z.f5.length DN],.agg #[.int .i64 y.f0,.string y.f1,.string y.f2,.int .i64 y.f3,.slice Y4 y.f4.length qE,.slice Y5 y.f5.length qh]] ?_;have hed:=Xm z y X4 DL X5 DN Y4 qE Y5 qh Wd HFX.out HFY.out HLX.out.l4 (Kd.aC HLX.out.g4 EU.out) HLX.out.l5 (Kd.aC HLX.out.g5 EU.out) ES.out.l4 (Kd.aC ES.out.g4 EU.out) ES.out.l5 (Kd.aC ES.out.g5 EU.out);refine hed.mono ?_;clear hed;rintro e Wz ⟨v5,v6,v7,rfl,h5,h6,h7,hbz⟩;refine⟨_,rfl,?_⟩;have wm:=ah.mk (aG OE.out hbz);have wX:=ah.mk (Kd.dF yE.out hbz);have ZT:=ah.mk (ZR.out.below hbz);have Q6:=ah.mk (Jf.out.trans (kg.below hbz));have Q7:=ah.mk (show w7.heap.size≤Wz.heap.size from Nat.le_trans wP.out hbz.size);have Q8:=ah.mk (show ∀k,Wd.heap.size≤k→True∧some k≠(Value.slice Au nu cu).ownBlock from fun k hk=>⟨trivial,fun e=>by have:=Kd.Jp yE.out k e.symm;omega⟩);have Q9:=ah.mk (xw (w0:=w) (w:=Wz) (base:=w7.heap.size) (ok:=fun k=>Wd.heap.size≤k) (x:=rz z y) (Kd.pX (Kd.fQ (Kd.dU (Kd.gM h5) (fun k hk=>hk.2.1)) wP.out)) (Kd.pX (Kd.fQ (Kd.dU (Kd.gM h6) (fun k hk=>hk.2.1)) wP.out)) (Kd.pX (Kd.fQ (Kd.dU (Kd.gM h7) (fun k hk=>hk.2.1)) wP.out)));refine hK.out _ _ (Jo.out _ hHeld hbz) (fun hHeld=>?_);clear hK K h5 h6 h7 hbz;refine fU 99 ?_;refine mG 9 (some 100) (aQ 13 1023) (fun K hK=>?_);refine oN (v:=.slice (some ⟨Wz.heap.size,0,none⟩) 1 1) (w1:=Wz.alloc (.cells #[.int .i64 3,.int .i64 1,.string y.f1,.string ⟨#[]⟩,.int .i64 y.f3,v5,v6,v7] 31)) (by rfl) rfl ?_ ?_
        ·go_simp
         try rfl
        have hal:=(Below.refl Wz.heap.size Wz).alloc (Nat.le_refl _) (.cells #[.int .i64 3,.int .i64 1,.string y.f1,.string ⟨#[]⟩,.int .i64 y.f3,v5,v6,v7] 31);refine hK.out _ _ (Jo.out _ hHeld hal) (fun hHeld=>?_);clear hK K hal;refine fU 100 ?_;refine lS (i:=10) (N:=some 101) (aQ 13 2047) rfl rfl aA aD (fun K hK=>?_);refine Kd.kD (CU w) (w0:=Wz) w7.heap.size (by rfl) (.tmp 92) (.tmp 100) 22 31 (.agg #[.int .i64 0,.int .i64 0,.string ⟨#[]⟩,.string ⟨#[]⟩,.int .i64 0,.slice none 0 0,.slice none 0 0,.slice none 0 0]) 128 rfl Tryz.underlying22 CV rfl (by show 0<8;decide) aD (.slice Au nu cu) S0 (rz z y) [.int .i64 3,.int .i64 1,.string y.f1,.string ⟨#[]⟩,.int .i64 y.f3,v5,v6,v7] (fun _=>True) (fun k=>Wd.heap.size≤k) rfl rfl Q9.out Q8.out (fun _ _=>trivial) wX.out (Below.refl _ _) Q7.out (by have:=Q5.out;omega) ?_;intro v1 w1 hr1 _hb hg1 uN;obtain⟨zo,GJ,zq,hv1⟩:=iB hr1;subst hv1;have hbx:=(hg1.block _ (bE wm.out) (jO wX.out wm.out (fun cs e=>by injection e with _ e;exact absurd e aD))).trans wm.out;have Y7:w1.cell? ⟨w3.heap.size,2,none⟩=some (.slice Au nu cu):=ak hbx 2;have f10:=ay hbx 2;have OG:=ah.mk (ZT.out.push wm.out wX.out hr1 hg1 Ak hw3);have Ra:=ah.mk (Q6.out.trans ((kg.grown (G:=fun k=>k=w3.heap.size) (T:=fun q=>q=31) wX.out (Nat.le_refl _) rfl hg1).trans (kg.set (G:=fun k=>k=w3.heap.size) rfl 2 (.slice zo GJ zq))));clear hr1 _hb hg1 uN hbx;refine hK.out _ _ ?_;clear hK K hHeld;refine fU 101 ?_;refine bR 11 102 (aQ 13 4095) ?_;refine lS (i:=12) (N:=none) (aQ 13 8191) rfl rfl aA aD (fun K hK=>?_);refine tZ (w1:=w1.setCell ⟨w3.heap.size,2,none⟩ (.slice zo GJ zq)) (by rfl) rfl ?_ ?_
        ·go_simp
        refine hK.out _ _ ?_;clear hK K;refine kK aA ?_;exact FIN.out _ (by rw[HQ.out];exact OG.out) Ra.out
       have b2:(y.f0 == 1)=false:=beq_eq_false_iff_ne.2 hy1
       have HQ:ah (((pre++[x]).map Two.oG.rd).foldl kM []=S0++[⟨2,y,[]⟩]):=⟨by rw[List.map_append,List.foldl_append,Jm.out];show S0++(lu x.a x.b).toList=_;rw[HXA.out,HXB.out];unfold lu;rw[if_neg (by rw[Yt.out];decide)];dsimp only;rw[if_neg (fun h=>hy1 h.2)];rfl⟩
       clear hz1 hy1
       gi_wp2_with (refine⟨trivial,rfl,?_⟩;gi_at_call 52;refine (CallsIn.inRound l (callsIn_wide.2 (UQ.out _ HD1.out.low))).mono ?_;rintro e w5 ⟨rfl,⟨nm,rfl⟩⟩;have k1:=((UR.out.below HD1.out.low).below (av (Below.refl _ _) nm)).1;have k2:=((Rc.out.below HD1.out.low).below (av (Below.refl _ _) nm)).1)
       clear k1 k2;have hwd:=av (Below.refl W1.heap.size W1) nm;have yT:=ah.mk (HD1.out.below hwd);have D9:=ah.mk (I8.out.trans (kg.below hwd))
       obtain⟨Ws,hWs⟩:∃Ws,W1.drewN nm=Ws:=⟨_,rfl⟩
       rw[hWs] at yT D9
       try rw[hWs]
       clear hwd hWs HD1 I8 UQ;have VF:=ah.mk (Rc.out.below yT.out.low);have hdr:=bA (Below.refl Ws.heap.size Ws)
       obtain⟨Wd,hWd⟩:∃Wd,Ws.drew=Wd:=⟨_,rfl⟩
       have hdb:Below Ws.heap.size Ws Wd:=hWd▸hdr;obtain⟨va,hva,hra⟩:=(yT.out.below hdb).box;obtain⟨Au,nu,cu,hvu⟩:=iB hra;subst hvu;have OE:=ah.mk hva;have yE:=ah.mk hra;have ZR:=ah.mk (yT.out.below hdb);have Jf:=ah.mk (D9.out.trans (kg.below hdb));have wP:=ah.mk (show w7.heap.size≤Wd.heap.size from (yT.out.below hdb).big);have z2:Wd.cell? ⟨w3.heap.size,2,none⟩=some (.slice Au nu cu):=ak hva 2;have HS:=ah.mk (show Wd.cell? ⟨w3.heap.size,2,none⟩=some (.slice Au nu cu)∧wN Wd EH y Y4 qE Y5 qh from⟨z2,VF.out.below hdb⟩);have Jo:=ah.mk (show ∀W':World,(W'.cell? ⟨w3.heap.size,2,none⟩=some (.slice Au nu cu)∧wN W' EH y Y4 qE Y5 qh)→∀{W''},Below W'.heap.size W' W''→(W''.cell? ⟨w3.heap.size,2,none⟩=some (.slice Au nu cu)∧wN W'' EH y Y4 qE Y5 qh) from fun W' h W'' hb=>⟨au hb h.1,h.2.below hb⟩);clear hdr hva hra z2 hdb;have wm:=OE;have wX:=yE;have ZT:=ZR;have Q6:=Jf;have Q7:=wP;have Q9:=ah.mk (xw (w0:=w) (w:=Wd) (base:=w7.heap.size) (ok:=fun _=>False) (x:=⟨2,y,[]⟩) (Kd.vF ES.out.l4 ES.out.g4) (Kd.vF ES.out.l5 ES.out.g5) (Kd.pX (Kd.eY _ _ _ _ _)));refine nS (n:=10) (S:=fun w'=>w'.cell? ⟨w3.heap.size,2,none⟩=some (.slice Au nu cu)∧wN w' EH y Y4 qE Y5 qh) (ds:=[7,9]) (aQ 10 0) aA aA (by rintro⟨a,w',h⟩;exact Exit.noConfusion (zn.eq (show zn w w7.heap.size w3.heap.size (w3.heap.size+1+1) (w3.heap.size+1+1+1) (w3.heap.size+1) (gV a0) (gV a1) (((pre++[x]).map Two.oG.rd).foldl kM []) W Exit.outgrown w' from h))) rfl rfl (by rw[hWd];exact HS.out) (fun hHeld=>?_);rw[hWd] at hHeld ⊢;clear hWd;refine bR 0 47 (aQ 10 1) ?_;refine jv 1 48 (aQ 10 3) rfl hHeld (by rintro w' ⟨s,⟨y0,y1,y2,y3,y4,y5⟩⟩;go_simp;with_reducible rfl) ?_;refine bR 2 49 (aQ 10 7) ?_;refine bR 3 50 (aQ 10 15) ?_;refine jv 4 51 (aQ 10 31) rfl hHeld (by rintro w' ⟨s,⟨y0,y1,y2,y3,y4,y5⟩⟩;go_simp;with_reducible rfl) ?_;refine bR 5 52 (aQ 10 63) ?_;refine mG 6 (some 53) (aQ 10 127) (fun K hK=>?_);refine oN (v:=.slice (some ⟨Wd.heap.size,0,none⟩) 1 1) (w1:=Wd.alloc (.cells #[.int .i64 2,.int .i64 y.f0,.string y.f1,.string y.f2,.int .i64 y.f3,.slice Y4 y.f4.length qE,.slice Y5 y.f5.length qh,.slice none 0 0] 31)) (by rfl) rfl ?_ ?_
       ·go_simp
        try rfl
       have hal:=(Below.refl Wd.heap.size Wd).alloc (Nat.le_refl _) (.cells #[.int .i64 2,.int .i64 y.f0,.string y.f1,.string y.f2,.int .i64 y.f3,.slice Y4 y.f4.length qE,.slice Y5 y.f5.length qh,.slice none 0 0] 31);refine hK.out _ _ (Jo.out _ hHeld hal) (fun hHeld=>?_);clear hK K hal;refine fU 53 ?_;refine lS (i:=7) (N:=some 54) (aQ 10 255) rfl rfl aA aD (fun K hK=>?_);refine Kd.kD (CU w) (w0:=Wd) w7.heap.size (by rfl) (.tmp 48) (.tmp 53) 22 31 (.agg #[.int .i64 0,.int .i64 0,.string ⟨#[]⟩,.string ⟨#[]⟩,.int .i64 0,.slice none 0 0,.slice none 0 0,.slice none 0 0]) 128 rfl Tryz.underlying22 CV rfl (by show 0<8;decide) aD (.slice Au nu cu) S0 ⟨2,y,[]⟩ [.int .i64 2,.int .i64 y.f0,.string y.f1,.string y.f2,.int .i64 y.f3,.slice Y4 y.f4.length qE,.slice Y5 y.f5.length qh,.slice none 0 0] (fun _=>True) (fun _=>False) rfl rfl Q9.out (fun _ h=>h.elim) (fun _ _=>trivial) wX.out (Below.refl _ _) Q7.out (by have:=Q5.out;omega) ?_;intro v1 w1 hr1 _hb hg1 uN;obtain⟨zo,GJ,zq,hv1⟩:=iB hr1;subst hv1;have hbx:=(hg1.block _ (bE wm.out) (jO wX.out wm.out (fun cs e=>by injection e with _ e;exact absurd e aD))).trans wm.out;have Y7:w1.cell? ⟨w3.heap.size,2,none⟩=some (.slice Au nu cu):=ak hbx 2;have f10:=ay hbx 2;have OG:=ah.mk (ZT.out.push wm.out wX.out hr1 hg1 Ak hw3);have Ra:=ah.mk (Q6.out.trans ((kg.grown (G:=fun k=>k=w3.heap.size) (T:=fun q=>q=31) wX.out (Nat.le_refl _) rfl hg1).trans (kg.set (G:=fun k=>k=w3.heap.size) rfl 2 (.slice zo GJ zq))));clear hr1 _hb hg1 uN hbx;refine hK.out _ _ ?_;clear hK K hHeld;refine fU 54 ?_;refine bR 8 55 (aQ 10 511) ?_;refine lS (i:=9) (N:=none) (aQ 10 1023) rfl rfl aA aD (fun K hK=>?_);refine tZ (w1:=w1.setCell ⟨w3.heap.size,2,none⟩ (.slice zo GJ zq)) (by rfl) rfl ?_ ?_
       ·go_simp
       refine hK.out _ _ ?_;clear hK K;refine kK aA ?_;exact FIN.out _ (by rw[HQ.out];exact OG.out) Ra.out
      have b1:(z.f0 == 1)=false:=beq_eq_false_iff_ne.2 hz1
      have HQ:ah (((pre++[x]).map Two.oG.rd).foldl kM []=S0++[⟨2,y,[]⟩]):=⟨by rw[List.map_append,List.foldl_append,Jm.out];show S0++(lu x.a x.b).toList=_;rw[HXA.out,HXB.out];unfold lu;rw[if_neg (by rw[Yt.out];decide)];dsimp only;rw[if_neg (fun h=>hz1 h.1)];rfl⟩
      clear hz1
      gi_wp2_with (refine⟨trivial,rfl,?_⟩;gi_at_call 52;refine (CallsIn.inRound l (callsIn_wide.2 (UQ.out _ HD1.out.low))).mono ?_;rintro e w5 ⟨rfl,⟨nm,rfl⟩⟩;have k1:=((UR.out.below HD1.out.low).below (av (Below.refl _ _) nm)).1;have k2:=((Rc.out.below HD1.out.low).below (av (Below.refl _ _) nm)).1)
      clear k1 k2;have hwd:=av (Below.refl W1.heap.size W1) nm;have yT:=ah.mk (HD1.out.below hwd);have D9:=ah.mk (I8.out.trans (kg.below hwd))
      obtain⟨Ws,hWs⟩:∃Ws,W1.drewN nm=Ws:=⟨_,rfl⟩
      rw[hWs] at yT D9
      try rw[hWs]
      clear hwd hWs HD1 I8 UQ;have VF:=ah.mk (Rc.out.below yT.out.low);have hdr:=bA (Below.refl Ws.heap.size Ws)
      obtain⟨Wd,hWd⟩:∃Wd,Ws.drew=Wd:=⟨_,rfl⟩
      have hdb:Below Ws.heap.size Ws Wd:=hWd▸hdr;obtain⟨va,hva,hra⟩:=(yT.out.below hdb).box;obtain⟨Au,nu,cu,hvu⟩:=iB hra;subst hvu;have OE:=ah.mk hva;have yE:=ah.mk hra;have ZR:=ah.mk (yT.out.below hdb);have Jf:=ah.mk (D9.out.trans (kg.below hdb));have wP:=ah.mk (show w7.heap.size≤Wd.heap.size from (yT.out.below hdb).big);have z2:Wd.cell? ⟨w3.heap.size,2,none⟩=some (.slice Au nu cu):=ak hva 2;have HS:=ah.mk (show Wd.cell? ⟨w3.heap.size,2,none⟩=some (.slice Au nu cu)∧wN Wd EH y Y4 qE Y5 qh from⟨z2,VF.out.below hdb⟩);have Jo:=ah.mk (show ∀W':World,(W'.cell? ⟨w3.heap.size,2,none⟩=some (.slice Au nu cu)∧wN W' EH y Y4 qE Y5 qh)→∀{W''},Below W'.heap.size W' W''→(W''.cell? ⟨w3.heap.size,2,none⟩=some (.slice Au nu cu)∧wN W'' EH y Y4 qE Y5 qh) from fun W' h W'' hb=>⟨au hb h.1,h.2.below hb⟩);clear hdr hva hra z2 hdb;have wm:=OE;have wX:=yE;have ZT:=ZR;have Q6:=Jf;have Q7:=wP;have Q9:=ah.mk (xw (w0:=w) (w:=Wd) (base:=w7.heap.size) (ok:=fun _=>False) (x:=⟨2,y,[]⟩) (Kd.vF ES.out.l4 ES.out.g4) (Kd.vF ES.out.l5 ES.out.g5) (Kd.pX (Kd.eY _ _ _ _ _)));refine nS (n:=10) (S:=fun w'=>w'.cell? ⟨w3.heap.size,2,none⟩=some (.slice Au nu cu)∧wN w' EH y Y4 qE Y5 qh) (ds:=[7,9]) (aQ 10 0) aA aA (by rintro⟨a,w',h⟩;exact Exit.noConfusion (zn.eq (show zn w w7.heap.size w3.heap.size (w3.heap.size+1+1) (w3.heap.size+1+1+1) (w3.heap.size+1) (gV a0) (gV a1) (((pre++[x]).map Two.oG.rd).foldl kM []) W Exit.outgrown w' from h))) rfl rfl (by rw[hWd];exact HS.out) (fun hHeld=>?_);rw[hWd] at hHeld ⊢;clear hWd;refine bR 0 47 (aQ 10 1) ?_;refine jv 1 48 (aQ 10 3) rfl hHeld (by rintro w' ⟨s,⟨y0,y1,y2,y3,y4,y5⟩⟩;go_simp;with_reducible rfl) ?_;refine bR 2 49 (aQ 10 7) ?_;refine bR 3 50 (aQ 10 15) ?_;refine jv 4 51 (aQ 10 31) rfl hHeld (by rintro w' ⟨s,⟨y0,y1,y2,y3,y4,y5⟩⟩;go_simp;with_reducible rfl) ?_;refine bR 5 52 (aQ 10 63) ?_;refine mG 6 (some 53) (aQ 10 127) (fun K hK=>?_);refine oN (v:=.slice (some ⟨Wd.heap.size,0,none⟩) 1 1) (w1:=Wd.alloc (.cells #[.int .i64 2,.int .i64 y.f0,.string y.f1,.string y.f2,.int .i64 y.f3,.slice Y4 y.f4.length qE,.slice Y5 y.f5.length qh,.slice none 0 0] 31)) (by rfl) rfl ?_ ?_
      ·go_simp
       try rfl
      have hal:=(Below.refl Wd.heap.size Wd).alloc (Nat.le_refl _) (.cells #[.int .i64 2,.int .i64 y.f0,.string y.f1,.string y.f2,.int .i64 y.f3,.slice Y4 y.f4.length qE,.slice Y5 y.f5.length qh,.slice none 0 0] 31);refine hK.out _ _ (Jo.out _ hHeld hal) (fun hHeld=>?_);clear hK K hal;refine fU 53 ?_;refine lS (i:=7) (N:=some 54) (aQ 10 255) rfl rfl aA aD (fun K hK=>?_);refine Kd.kD (CU w) (w0:=Wd) w7.heap.size (by rfl) (.tmp 48) (.tmp 53) 22 31 (.agg #[.int .i64 0,.int .i64 0,.string ⟨#[]⟩,.string ⟨#[]⟩,.int .i64 0,.slice none 0 0,.slice none 0 0,.slice none 0 0]) 128 rfl Tryz.underlying22 CV rfl (by show 0<8;decide) aD (.slice Au nu cu) S0 ⟨2,y,[]⟩ [.int .i64 2,.int .i64 y.f0,.string y.f1,.string y.f2,.int .i64 y.f3,.slice Y4 y.f4.length qE,.slice Y5 y.f5.length qh,.slice none 0 0] (fun _=>True) (fun _=>False) rfl rfl Q9.out (fun _ h=>h.elim) (fun _ _=>trivial) wX.out (Below.refl _ _) Q7.out (by have:=Q5.out;omega) ?_;intro v1 w1 hr1 _hb hg1 uN;obtain⟨zo,GJ,zq,hv1⟩:=iB hr1;subst hv1;have hbx:=(hg1.block _ (bE wm.out) (jO wX.out wm.out (fun cs e=>by injection e with _ e;exact absurd e aD))).trans wm.out;have Y7:w1.cell? ⟨w3.heap.size,2,none⟩=some (.slice Au nu cu):=ak hbx 2;have f10:=ay hbx 2;have OG:=ah.mk (ZT.out.push wm.out wX.out hr1 hg1 Ak hw3);have Ra:=ah.mk (Q6.out.trans ((kg.grown (G:=fun k=>k=w3.heap.size) (T:=fun q=>q=31) wX.out (Nat.le_refl _) rfl hg1).trans (kg.set (G:=fun k=>k=w3.heap.size) rfl 2 (.slice zo GJ zq))));clear hr1 _hb hg1 uN hbx;refine hK.out _ _ ?_;clear hK K hHeld;refine fU 54 ?_;refine bR 8 55 (aQ 10 511) ?_;refine lS (i:=9) (N:=none) (aQ 10 1023) rfl rfl aA aD (fun K hK=>?_);refine tZ (w1:=w1.setCell ⟨w3.heap.size,2,none⟩ (.slice zo GJ zq)) (by rfl) rfl ?_ ?_
      ·go_simp
      refine hK.out _ _ ?_;clear hK K;refine kK aA ?_;exact FIN.out _ (by rw[HQ.out];exact OG.out) Ra.out
  case done=>
   rintro xs W hxs hlt hi hd;have Xi:xs.map Two.oG.rd=rs:=hxs
   have hdf:(xs.map Two.oG.rd).foldl kM []=iY l0 l1:=by rw[Xi,← Yn.out];rfl
   rw[hdf] at hi;have hft:∀c∈iY l0 l1,uH c:=yH HZ0.out HZ1.out HF.out.1 HF.out.2 _ [] (fun r hr=>Two.here hr) bK;obtain⟨v,hv,ML⟩:=hi.box;have hmm:=yD.out
   obtain⟨D,hD⟩:∃D,iY l0 l1=D:=⟨_,rfl⟩
   rw[hD] at hi hft ML hmm;obtain⟨Av,cv,hvs⟩:=Kd.bG ML;subst hvs;obtain⟨_,hle,hcv⟩:=Kd.bT ML;have hC:Kd.C IW W Av D.length D:=Kd.adY (dm:=CU w) (d:=IW) rfl (fun x cs h=>Ui hi.low h) hcv;have hpk:=JZ (gV a0) (gV a1) Av cv D W hC hle hft (qB HB0.out.2.2).1 (qB HB0.out.2.2).2 (qB HB1.out.2.2).1 (qB HB1.out.2.2).2;rw[hmm] at hpk;have HPK:=ah.mk hpk;have HV:=ah.mk hv;have HDf:=ah.mk hd;have HL:=ah.mk hi.low;have HBG:=ah.mk hi.big;clear hxs Xi hdf hft hmm hv ML hcv hC hpk hd hi hD hle HT HI0
   go_wp2_with (first
    | (refine dX (.load 24 (.tmp 9)) rfl ?_;refine wpList_load_row rfl _ _ rfl w3.heap.size rfl 24 _ (0,0) _ HV.out Tryz.underlying24 rfl aA ?_)
    | (go_at_call 32;refine (HPK.out).mono ?_;rintro e w8 ⟨v8,rfl,MN,MP⟩;have YU:=ah.mk MN;have I7:=ah.mk MP;clear MN MP))
   have hd8:=aG HDf.out I7.out;rw[UO] at hd8 Ak;refine⟨by simp,.inl ⟨_,_,rfl,run_takeDeferred hd8,?_⟩⟩;have hkq:=Kq.xu (B:=w3.heap.size+4) (l:=w3.heap.size+4) (o':=.deferred none) (Nat.le_refl _) hd8 rfl;exact⟨_,results_tmp2 rfl _ _ _,_,rfl,Kd.fQ (hkq.row YU.out aD) HL.out.size,qw (HL.out.trans (I7.out.mono HL.out.size)) Ak (Nat.le_refl _) hd8 rfl⟩
 rw[if_neg hf] at h;cases h
end Go.Proofs.YtknihldkhedpkaaGreatDoor
