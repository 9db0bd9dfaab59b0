import Derived.Test.YtknihldkhedpkaaGreatDoorDDG10
import Derived.Test.YtknihldkhedpkaaGreatDoorDDG13
import Derived.Test.YtknihldkhedpkaaGreatDoorDDG24
import Derived.Test.YtknihldkhedpkaaGreatDoorDDG11
import Derived.Outline
import Derived.Laws.Rows
set_option linter.all false
set_option maxHeartbeats 16000000
set_option maxRecDepth 100000
namespace Go.Proofs.YtknihldkhedpkaaGreatDoor
open Go.RowKit Go.Lib
open Go.Proofs.YtknihldkhedpkaaGreatDoorW.PrintWords Go.Proofs.YtknihldkhedpkaaGreatDoorW.PrintLast Go.Proofs.YtknihldkhedpkaaGreatDoor.PT
attribute [local go_sem] Oper.semAt_some
theorem Cm {l:List Int} (h:∀x∈l,0≤x∧x≤255) (i:Int):0≤rd l i∧rd l i≤255:=by
 unfold rd
 rcases Nat.lt_or_ge i.toNat l.length with hi|hi
 ·simp only[List.getElem?_eq_getElem hi,Option.getD_some,List.getD_eq_getElem?_getD];exact h _ (List.getElem_mem hi)
 simp only[List.getElem?_eq_none hi,Option.getD_none,List.getD_eq_getElem?_getD];omega
theorem wm {l:List Int} (h:∀x∈l,0≤x∧x≤255):0≤ji l∧ji l≤4294967295:=by
 unfold ji;have h1:=Cm h ((l.length:Int) - 1);have h2:=Cm h ((l.length:Int) - 2);have h3:=Cm h ((l.length:Int) - 3);have h4:=Cm h ((l.length:Int) - 4);omega
theorem iO.calls (A0:Option Addr) (c0:Nat) (l0:List It) (A1:Option Addr) (c1:Nat) (l1:List It) (r1:List Int) (r2:Int) (w:World)
  (hr0:Kd.C mV w A0 l0.length l0) (hc0:l0.length≤c0) (hr1:Kd.C mV w A1 l1.length l1) (hc1:l1.length≤c1)
  (h:iO.f l0 l1=some (r1,r2)) :
  Calls Tryz.prog 18 #[.slice A0 l0.length c0,.slice A1 l1.length c1] w fun e w'=>∃wI:Value,e=.returned (.tuple #[wI,.int .i64 r2])∧Kd.R (Kd.int .u8) 5 w' w.heap.size (fun _=>True) wI r1∧Below w.heap.size w w':=by
 unfold iO.f at h;by_cases hf:l0.all rH=true∧l1.all rH=true
 ·rw[if_pos hf] at h;have hm:=Option.some.inj h;obtain⟨f0,f1⟩:=hf;have HM:=ah.mk hm
  have P0:ah (∀W:World,Below w.heap.size w W→Calls Tryz.prog 48 #[.slice A0 l0.length c0] W fun e w'=>∃v,e=.returned (.tuple #[v,.int .i64 (dI l0).2])∧Kd.R (Kd.int .u8) 5 w' W.heap.size (fun _=>True) v (dI l0).1∧Below W.heap.size W w'):=⟨fun W hW=>lW.calls A0 c0 l0 (dI l0).1 (dI l0).2 W (Kd.aC hr0 hW) hc0 (by unfold lW.f;rw[if_pos f0])⟩
  have P1:ah (∀W:World,Below w.heap.size w W→Calls Tryz.prog 48 #[.slice A1 l1.length c1] W fun e w'=>∃v,e=.returned (.tuple #[v,.int .i64 (dI l1).2])∧Kd.R (Kd.int .u8) 5 w' W.heap.size (fun _=>True) v (dI l1).1∧Below W.heap.size W w'):=⟨fun W hW=>lW.calls A1 c1 l1 (dI l1).1 (dI l1).2 W (Kd.aC hr1 hW) hc1 (by unfold lW.f;rw[if_pos f1])⟩
  have HF:=ah.mk (And.intro f0 f1);have nC:=ah.mk hr0;have HR1:=ah.mk hr1;clear h hm f0 f1 hr0 hr1;refine (callsIn_wide (n:=3)).1 (callsIn_of_wp_marks Tryz.func18 rfl trivial ?_ rfl);simp only[Tryz.ntmps18,List.size_toArray,List.length_cons,List.length_nil,Nat.reduceSub,Nat.reduceAdd,Array.replicate_succ,Array.replicate_zero,List.push_toArray,List.append_toArray,List.nil_append,List.cons_append];refine wpIn_wide.2 ?_;by_cases hz0:(dI l0).2≠0
  ·have hp:=P0.out w (Below.refl _ _)
   obtain⟨e0,he0⟩:∃e,(dI l0).2=e:=⟨_,rfl⟩
   rw[he0] at hp hz0;have hb2:(e0 != 0)=true:=bne_iff_ne.2 hz0
   have HZ:ah (r1=[]∧r2=e0):=⟨by
    have hm:=HM.out;unfold oI at hm;rw[he0,if_pos hz0] at hm
    injection hm with a b
    exact⟨a.symm,b.symm⟩⟩
   have HP:=ah.mk hp;clear hp he0 hz0
   go_wp2_with (go_at_call 48;refine (HP.out).mono ?_;rintro e w2 ⟨v,rfl,_,hb⟩)
   refine⟨_,results_tmp2 rfl _ _ _,?_⟩;obtain⟨rfl,rfl⟩:=HZ.out;exact⟨_,rfl,Kd.eD _ _ _ _ _,hb⟩
  have hz0':(dI l0).2=0:=Decidable.not_not.1 hz0;have hp:=P0.out w (Below.refl _ _);rw[hz0'] at hp;have HP:=ah.mk hp;have HZ0:=ah.mk hz0';have hb0:=sI hz0' HF.out.1
  obtain⟨a0,ha0⟩:∃e,(dI l0).1=e:=⟨_,rfl⟩
  rw[ha0] at HP hb0;have Zo:=ah.mk ha0;have HB0:=ah.mk hb0;clear hp hz0 hz0' ha0 hb0;by_cases hz1:(dI l1).2≠0
  ·have hp1:=fun W hW=>P1.out W hW
   obtain⟨e1,he1⟩:∃e,(dI l1).2=e:=⟨_,rfl⟩
   have wT:=ah.mk hp1;clear hp1;rw[he1] at wT hz1;have hb2:(e1 != 0)=true:=bne_iff_ne.2 hz1
   have HZ:ah (r1=[]∧r2=e1):=⟨by
    have hm:=HM.out;unfold oI at hm;rw[if_neg (fun h=>h HZ0.out),he1,if_pos hz1] at hm
    injection hm with a b
    exact⟨a.symm,b.symm⟩⟩
   clear he1 hz1
   have tok:ah True:=⟨trivial⟩
   go_wp2_with (first|(have _t:=tok;go_at_call 48;refine (HP.out).mono ?_;rintro e w2 ⟨v,rfl,_,hb⟩;have HB2:=ah.mk hb;clear hb tok)|(go_at_call 48;refine (wT.out _ HB2.out).mono ?_;rintro e w3 ⟨v3,rfl,_,hb3⟩))
   refine⟨_,results_tmp2 rfl _ _ _,?_⟩;obtain⟨rfl,rfl⟩:=HZ.out;exact⟨_,rfl,Kd.eD _ _ _ _ _,HB2.out.trans (hb3.mono HB2.out.size)⟩
  have hz1':(dI l1).2=0:=Decidable.not_not.1 hz1
  have hp1:=fun W hW=>P1.out W hW
  have wT:=ah.mk hp1;clear hp1;rw[hz1'] at wT;have HZ1:=ah.mk hz1';have hb1:=sI hz1' HF.out.2
  obtain⟨a1,ha1⟩:∃e,(dI l1).1=e:=⟨_,rfl⟩
  rw[ha1] at wT hb1;have HA1:=ah.mk ha1;have HB1:=ah.mk hb1
  have xX:ah (jC (ji a0) (ji a1) (qC l0 l1)=(r1,r2)):=⟨by
   have hm:=HM.out;unfold oI at hm;rw[if_neg (fun h=>h HZ0.out),if_neg (fun h=>h HZ1.out),Zo.out,HA1.out] at hm
   exact hm⟩
  clear hz1 hz1' ha1 hb1 HM;have asW:=iY HZ0.out;have asX:=iY HZ1.out
  have tok:ah True:=⟨trivial⟩
  have aiR:ah True:=⟨trivial⟩
  go_wp2_with (first
   | (have _t:=tok;go_at_call 48;refine (HP.out).mono ?_;rintro e w2 ⟨v2,rfl,hr2,hb2⟩;obtain⟨Av2,cv2,hv2⟩:=Kd.bP hr2;subst hv2;have HB2:=ah.mk hb2;have HR2:=ah.mk hr2;clear hb2 hr2 tok)
   | (have _t:=HB2;go_at_call 48;refine (wT.out _ HB2.out).mono ?_;rintro e w3 ⟨v3,rfl,hr3,hb3⟩;obtain⟨Av3,cv3,hv3⟩:=Kd.bP hr3;subst hv3;have HB3:=ah.mk (HB2.out.trans (hb3.mono HB2.out.size));have HR3:=ah.mk hr3;have OB:=ah.mk (Kd.bU (Kd.bO HR2.out hb3));have HC3:=ah.mk (Kd.bU hr3);clear hb3 hr3 HB2)
   | (have _t:=aiR;go_at_call 49;refine (PT.iC.calls 5 _ cv2 a0 (ji a0) w3 OB.out.2.2 OB.out.2.1 (OV a0 HB0.out.1 (by have:=HB0.out.2.1;omega) HB0.out.2.2)).mono ?_;rintro e w4 ⟨rfl,⟨n4,rfl⟩⟩;clear aiR)
   | (go_at_call 49;refine (PT.iC.calls 5 _ cv3 a1 (ji a1) (w3.drewN n4) (Kd.eB HC3.out.2.2 n4) HC3.out.2.1 (OV a1 HB1.out.1 (by have:=HB1.out.2.1;omega) HB1.out.2.2)).mono ?_;rintro e w5 ⟨rfl,⟨n5,rfl⟩⟩)
   | (refine eX (.store 24 (.tmp 9) (.tmp 34)) rfl ?_;refine wpList_store_row rfl _ (.tmp 9) (.tmp 34) rfl w3.heap.size #[.int .i64 (ji a0),.int .i64 (ji a1),.slice none 0 0] rfl rfl 24 _ (by exact bF w3 _) aD (by rfl) (by simp[Value.oneCell']) ?_)
   | (go_at_call 50;refine (AA _ _ _).mono ?_;rintro e w6 ⟨rfl,rfl⟩))
  obtain⟨wq,hwq⟩:∃wq,((w3.drewN (n4+n5)).alloc (.cells #[.int .i64 0,.int .i64 0,.slice none 0 0] 24)).setRow w3.heap.size #[.int .i64 (ji a0),.int .i64 (ji a1),.slice none 0 0]=wq:=⟨_,rfl⟩
  have aiS:wq.heap[w3.heap.size]?=some (.cells #[.int .i64 (ji a0),.int .i64 (ji a1),.slice none 0 0] 24 (0,0)):=by
   rw[← hwq];exact setRow_heap _ _ _ _ _ _ (by exact bF w3 _)
  have JN:wq.heap.size=w3.heap.size+1:=by
   rw[← hwq];simp
  have hqb:Below w.heap.size w wq:=by
   rw[← hwq];have hd:=HB3.out.trans ((av (Below.refl w3.heap.size w3) (n4+n5)).mono HB3.out.size);exact below_setRow (hd.alloc hd.size _) HB3.out.size _
  obtain⟨w7,hw7⟩:∃w7,((wq.alloc (.cells #[.slice A0 l0.length c0,.slice A1 l1.length c1] 25)).alloc (.cells #[.func (.func 51) #[] #[]] 93)).alloc (.cells #[.slice (some ⟨w3.heap.size+1,0,none⟩) 2 2] 75)=w7:=⟨_,rfl⟩
  rw[hwq,hw7]
  have Yh:w7.heap.size=w3.heap.size+4:=by
   rw[← hw7];simp[JN]
  have zQ:Below wq.heap.size wq w7:=by
   rw[← hw7];exact (((Below.refl _ _).alloc (Nat.le_refl _) _).alloc bB _).alloc (by simp;omega) _
  have hlow:Below w.heap.size w w7:=hqb.trans (zQ.mono hqb.size)
  have Zn:Two.Am (jw l0 l1) (jw A0 A1) (jw c0 c1) w (w3.heap.size+1+1) (w3.heap.size+1+1+1) (w3.heap.size+1) w7:=by
   rw[← hw7];exact⟨by rw[hw7];exact hlow,aN (lV (by simp[JN]) _) _,lV (by simp[JN]) _,aN (aN (lV JN _) _) _⟩
  have hI0:DI w w7.heap.size w3.heap.size (ji a0) (ji a1) [] w7:=⟨hlow,Nat.le_refl _,_,aJ aiS zQ,Kd.eD _ _ _ _ _⟩
  have hT:=Two.IY (jw l0 l1) (jw A0 A1) (jw c0 c1) w w7 (w3.heap.size+1+1) (w3.heap.size+1+1+1) (w3.heap.size+1)
   (oF nC.out HR1.out) (oF hc0 hc1) (oF (by show l0.length≤_;omega) (by show l1.length≤_;omega))
   (oF (Hy HZ0.out) (Hy HZ1.out)) Zn hlow.size
  obtain⟨rs,hrs⟩:∃rs,Two.eO (jw l0 l1) (Two.jL (jw l0 l1) (fun _=>0)) (fun _=>0)=rs:=⟨_,rfl⟩
  rw[hrs] at hT;have Er:w.heap.size≤w7.heap.size:=hlow.size;have hw3:w.heap.size≤w3.heap.size:=HB3.out.size
  have hrl:rs.length≤8192:=by
   have h1:=Two.length (L:=jw l0 l1) (Two.jL (jw l0 l1) (fun _=>0)) (fun _=>0);have h2:Two.jL (jw l0 l1) (fun _=>0)=l0.length+l1.length:=rfl;rw[hrs,h2] at h1;omega
  have HI0:=ah.mk hI0;have HT:=ah.mk hT;have Zd:=ah.mk hrs;clear hT hrs hI0 Zn hlow hwq aiS JN hqb hw7 zQ HP wT P0 P1
  refine QT (gf:=87) (lb:=#[.pointer (some ⟨w3.heap.size+1+1+1,0,none⟩),.pointer (some ⟨w3.heap.size+1+1,0,none⟩)]) ?hg (enters_of Tryz.func87 aD rfl) (encs:=Two.encR) (fun _=>rfl) HT.out.tells
   (fun pre W=>DI w w7.heap.size w3.heap.size (ji a0) (ji a1) ((pre.map Two.oJ.rd).foldl kN []) W) ?a1 (fun _ _=>N8)
   (fun pre A B hi hs=>hi.kq (Kq.Yi hs) Er aj)
   (fun pre W l o o' hi hl ho hc=>hi.kq (Kq.Ah hl ho hc) Er aj)
   (fun pre x W l o o' hgd hl ho hc=>Two.Wn hgd ho hc)
   (fun A B l o o1 p o2 hl ho hc hk hp hpc=>afz Er (fun k hk=>by omega) hl ho hc hk hp hpc)
   (fun o o'=>HI0.out.kq (Kq.below (((Below.refl _ _).alloc (Nat.le_refl _) _).alloc bB _)) Er aj)
   ?assign ?body ?done
  case assign=>
   intro l x W K hK;dsimp only[Two.encR]
   gi_wp2
   exact hK
  case hg=>
   first|rfl|(go_simp;done)|simp[go_sem]
  case body=>
   rintro l pre x W hi hgd;refine wpIn_mono (Q:=fun e _ B=>yP w w7.heap.size w3.heap.size (w3.heap.size+1+1) (w3.heap.size+1+1+1) (w3.heap.size+1) (ji a0) (ji a1) (((pre++[x]).map Two.oJ.rd).foldl kN []) W e B) ?_ (fun e a B h=>h);obtain⟨⟨rest,hrest⟩,p0,p1,hg,o0,o1⟩:=hgd
   have hmem:x.rd∈rs:=by rw[hrest];simp
   have Hz:=Two.here (Zd.out▸hmem)
   have hml:((pre.map Two.oJ.rd).foldl kN []).length+1≤8192:=by
    have h1:=Ko (pre.map Two.oJ.rd) [];have h2:=congrArg List.length hrest;simp only[List.length_append,List.length_map,List.length_cons,List.length_nil] at h1 h2;omega
   have FIN:=ah.mk (alW (S:=((pre++[x]).map Two.oJ.rd).foldl kN []) hi hw3 Yh)
   obtain⟨S0,hS0⟩:∃S0,(pre.map Two.oJ.rd).foldl kN []=S0:=⟨_,rfl⟩
   rw[hS0] at hml hi;have V5:=ah.mk hS0;have Nq:=ah.mk hml;have g0:W.cell? ⟨x.g,0,none⟩=some p0:=ak hg 0;have g1:W.cell? ⟨x.g,1,none⟩=some p1:=ak hg 1;have HI:=ah.mk hi;have O0:=ah.mk o0;have O1:=ah.mk o1;have HH:=ah.mk Hz
   have hup:Tryz.prog.underlying 95=some (.pointer (Tryz.prog.pointee 95)):=by kernel_rfl
   have hq1:∀(p:Option Addr) (w:World),(binOp .eql 95 (.pointer p) (.pointer none)).run Tryz.prog w=.ok (.bool p.isNone) w:=fun p w=>run_eql_pointer_nil w _ p hup
   have hq2:∀(p:Option Addr) (w:World),(binOp .neq 95 (.pointer p) (.pointer none)).run Tryz.prog w=.ok (.bool p.isSome) w:=fun p w=>(run_neq_pointer_nil w _ p hup).trans (by cases p <;> rfl)
   have hu:=Tryz.underlying29;clear hup hi hg o0 o1 hmem Hz hml hS0 hrest
   gi_wp2_with fail
   refine wpIn_region_quiet aD aD aD (by rintro⟨a,w',h⟩;exact Exit.noConfusion (yP.eq (show yP w w7.heap.size w3.heap.size (w3.heap.size+1+1) (w3.heap.size+1+1+1) (w3.heap.size+1) (ji a0) (ji a1) (((pre++[x]).map Two.oJ.rd).foldl kN []) W Exit.outgrown w' from h))) ?_
   repeat (go_big_quiet_step (fail))
   refine wpQuiet_nil ?_;rintro _ ⟨nq,rfl⟩;clear g0 g1;have hwd:=av (Below.refl W.heap.size W) nq;have HD1:=ah.mk (HI.out.below hwd);have Gr:=ah.mk (show ng w7.heap.size (fun k=>k=w3.heap.size) (fun q=>q=31) W (W.drewN nq) from ng.below hwd)
   obtain⟨W1,hW1⟩:∃W1,W.drewN nq=W1:=⟨_,rfl⟩
   rw[hW1] at HD1 Gr;rw[hW1];clear hwd hW1 HI
   obtain⟨xa,hxa⟩:∃a,x.a=a:=⟨_,rfl⟩
   obtain⟨xb,hxb⟩:∃b,x.b=b:=⟨_,rfl⟩
   rw[hxa] at O0;rw[hxb] at O1
   have hsame:=fun (X:World) (hX:Below w.heap.size w X)=>Yj p0 p1 xa xb X (O0.out.below hX) (O1.out.below hX)
   have HXA:=ah.mk hxa;have HXB:=ah.mk hxb;have HHA:=ah.mk (fun y (h:xa=some y)=>HH.out.1 y (hxa.trans h));have HHB:=ah.mk (fun y (h:xb=some y)=>HH.out.2 y (hxb.trans h));clear hxa hxb HH
   cases hsm:FE xa xb with
   | true=>
    have HQ:ah (((pre++[x]).map Two.oJ.rd).foldl kN []=S0):=⟨by rw[List.map_append,List.foldl_append,V5.out];show S0++(qB x.a x.b).toList=_;rw[HXA.out,HXB.out];unfold qB;rw[if_pos hsm];simp⟩
    rw[hsm] at hsame;have OP:=ah.mk hsame;clear hsm hsame
    gi_wp2_with (refine⟨trivial,rfl,?_⟩;gi_at_call 52;refine (CallsIn.inRound l (callsIn_wide.2 (OP.out _ HD1.out.low))).mono ?_;rintro e w5 ⟨rfl,⟨nm,rfl⟩⟩)
    have hwd:=av (Below.refl W1.heap.size W1) nm;have yE:=ah.mk (HD1.out.below hwd);have Lr:=ah.mk (Gr.out.trans (ng.below hwd))
    obtain⟨Ws,hWs⟩:∃Ws,W1.drewN nm=Ws:=⟨_,rfl⟩
    rw[hWs] at yE Lr
    try rw[hWs]
    clear hwd hWs HD1 Gr OP;exact FIN.out _ (by rw[HQ.out];exact yE.out) Lr.out
   | false=>
    rw[hsm] at hsame;have OP:=ah.mk hsame;have IJ:=ah.mk hsm;clear hsame
    cases xb with
    | none=>
     cases xa with
     | none=>exact absurd hsm aH
     | some z=>
      obtain⟨ad1,X4,rZ,X5,sj,e1,hsx,hlx⟩:=O0.out.six;have ho1:p1=.pointer none:=O1.out;subst e1;subst ho1;have Vl:=ah.mk hsx;clear hsx hlx hsm O0 O1
      have HQ:ah (((pre++[x]).map Two.oJ.rd).foldl kN []=S0++[⟨1,⟨0,z.f1,⟨#[]⟩,0,[],[]⟩,[]⟩]):=⟨by rw[List.map_append,List.foldl_append,V5.out];show S0++(qB x.a x.b).toList=_;rw[HXA.out,HXB.out];unfold qB;rw[if_neg (by rw[IJ.out];decide)];rfl⟩
      gi_wp2_with (refine⟨trivial,rfl,?_⟩;gi_at_call 52;refine (CallsIn.inRound l (callsIn_wide.2 (OP.out _ HD1.out.low))).mono ?_;rintro e w5 ⟨rfl,⟨nm,rfl⟩⟩)
      have hwd:=av (Below.refl W1.heap.size W1) nm;have yE:=ah.mk (HD1.out.below hwd);have Lr:=ah.mk (Gr.out.trans (ng.below hwd))
      obtain⟨Ws,hWs⟩:∃Ws,W1.drewN nm=Ws:=⟨_,rfl⟩
      rw[hWs] at yE Lr
      try rw[hWs]
      clear hwd hWs HD1 Gr OP;have HSX:=ah.mk (Vl.out.below yE.out.low);have hdr:=bf (Below.refl Ws.heap.size Ws)
      obtain⟨Wd,hWd⟩:∃Wd,Ws.drew=Wd:=⟨_,rfl⟩
      have hdb:Below Ws.heap.size Ws Wd:=hWd▸hdr;obtain⟨va,hva,hra⟩:=(yE.out.below hdb).box;obtain⟨Au,nu,cu,hvu⟩:=fU hra;subst hvu;have Yk:=ah.mk hva;have CW:=ah.mk hra;have Ml:=ah.mk (yE.out.below hdb);have UG:=ah.mk (Lr.out.trans (ng.below hdb));have Dj:=ah.mk (show w7.heap.size≤Wd.heap.size from (yE.out.below hdb).big);have z2:Wd.cell? ⟨w3.heap.size,2,none⟩=some (.slice Au nu cu):=ak hva 2;have HS:=ah.mk (show Wd.cell? ⟨w3.heap.size,2,none⟩=some (.slice Au nu cu)∧yO Wd ad1 z X4 rZ X5 sj from⟨z2,HSX.out.below hdb⟩);have IZ:=ah.mk (show ∀W':World,(W'.cell? ⟨w3.heap.size,2,none⟩=some (.slice Au nu cu)∧yO W' ad1 z X4 rZ X5 sj)→∀{W''},Below W'.heap.size W' W''→(W''.cell? ⟨w3.heap.size,2,none⟩=some (.slice Au nu cu)∧yO W'' ad1 z X4 rZ X5 sj) from fun W' h W'' hb=>⟨au hb h.1,h.2.below hb⟩);clear hdr hva hra z2 hdb;have qA:=Yk;have rE:=CW;have DU:=Ml;have Yl:=UG;have Ym:=Dj;have Ls:=ah.mk (oH (w0:=w) (w:=Wd) (base:=w7.heap.size) (ok:=fun _=>False) (x:=⟨1,⟨0,z.f1,⟨#[]⟩,0,[],[]⟩,[]⟩) (Kd.jr (Kd.eD _ _ _ _ _)) (Kd.jr (Kd.eD _ _ _ _ _)) (Kd.jr (Kd.eD _ _ _ _ _)));refine uw (n:=12) (S:=fun w'=>w'.cell? ⟨w3.heap.size,2,none⟩=some (.slice Au nu cu)∧yO w' ad1 z X4 rZ X5 sj) (ds:=[9,11]) (aM 12 0) aD aD (by rintro⟨a,w',h⟩;exact Exit.noConfusion (yP.eq (show yP w w7.heap.size w3.heap.size (w3.heap.size+1+1) (w3.heap.size+1+1+1) (w3.heap.size+1) (ji a0) (ji a1) (((pre++[x]).map Two.oJ.rd).foldl kN []) W Exit.outgrown w' from h))) rfl rfl (by rw[hWd];exact HS.out) (fun hHeld=>?_);rw[hWd] at hHeld ⊢;clear hWd;refine bA 0 63 (aM 12 1) ?_;refine gG 1 64 (aM 12 3) rfl hHeld (by rintro w' ⟨s,⟨y0,y1,y2,y3,y4,y5⟩⟩;go_simp;with_reducible rfl) ?_;refine bA 2 65 (aM 12 7) ?_;refine bA 3 66 (aM 12 15) ?_;refine bA 4 67 (aM 12 31) ?_;refine gG 5 68 (aM 12 63) rfl hHeld (by rintro w' ⟨s,⟨y0,y1,y2,y3,y4,y5⟩⟩;go_simp;with_reducible rfl) ?_;refine bA 6 69 (aM 12 127) ?_;refine bA 7 70 (aM 12 255) ?_;refine mD 8 (some 71) (aM 12 511) (fun K hK=>?_);refine pW (v:=.slice (some ⟨Wd.heap.size,0,none⟩) 1 1) (w1:=Wd.alloc (.cells #[.int .i64 1,.int .i64 0,.string z.f1,.string ⟨#[]⟩,.int .i64 0,.slice none 0 0,.slice none 0 0,.slice none 0 0] 31)) (by rfl) rfl ?_ ?_
      ·go_simp
       try rfl
      have hal:=(Below.refl Wd.heap.size Wd).alloc (Nat.le_refl _) (.cells #[.int .i64 1,.int .i64 0,.string z.f1,.string ⟨#[]⟩,.int .i64 0,.slice none 0 0,.slice none 0 0,.slice none 0 0] 31);refine hK.out _ _ (IZ.out _ hHeld hal) (fun hHeld=>?_);clear hK K hal;refine fH 71 ?_;refine kX (i:=9) (N:=some 72) (aM 12 1023) rfl rfl aD aH (fun K hK=>?_);refine Kd.gU (uj w) (w0:=Wd) w7.heap.size (by rfl) (.tmp 64) (.tmp 71) 22 31 (.agg #[.int .i64 0,.int .i64 0,.string ⟨#[]⟩,.string ⟨#[]⟩,.int .i64 0,.slice none 0 0,.slice none 0 0,.slice none 0 0]) 128 rfl Tryz.underlying22 tX rfl (by show 0<8;decide) aH (.slice Au nu cu) S0 ⟨1,⟨0,z.f1,⟨#[]⟩,0,[],[]⟩,[]⟩ [.int .i64 1,.int .i64 0,.string z.f1,.string ⟨#[]⟩,.int .i64 0,.slice none 0 0,.slice none 0 0,.slice none 0 0] (fun _=>True) (fun _=>False) rfl rfl Ls.out (fun _ h=>h.elim) (fun _ _=>trivial) rE.out (Below.refl _ _) Ym.out (by have:=Nq.out;omega) ?_;intro v1 w1 hr1 _hb hg1 qd;obtain⟨wP,DV,wQ,hv1⟩:=fU hr1;subst hv1;have hbx:=(hg1.block _ (bG qA.out) (gX rE.out qA.out (fun cs e=>by injection e with _ e;exact absurd e aH))).trans qA.out;have QU:w1.cell? ⟨w3.heap.size,2,none⟩=some (.slice Au nu cu):=ak hbx 2;have f10:=ay hbx 2;have ER:=ah.mk (DU.out.push qA.out rE.out hr1 hg1 Er hw3);have Yn:=ah.mk (Yl.out.trans ((ng.grown (G:=fun k=>k=w3.heap.size) (T:=fun q=>q=31) rE.out (Nat.le_refl _) rfl hg1).trans (ng.set (G:=fun k=>k=w3.heap.size) rfl 2 (.slice wP DV wQ))));clear hr1 _hb hg1 qd hbx;refine hK.out _ _ ?_;clear hK K hHeld;refine fH 72 ?_;refine bA 10 73 (aM 12 2047) ?_;refine kX (i:=11) (N:=none) (aM 12 4095) rfl rfl aD aH (fun K hK=>?_);refine rG (w1:=w1.setCell ⟨w3.heap.size,2,none⟩ (.slice wP DV wQ)) (by rfl) rfl ?_ ?_
      ·go_simp
      refine hK.out _ _ ?_;clear hK K;refine jK aD ?_;exact FIN.out _ (by rw[HQ.out];exact ER.out) Yn.out
    | some y=>
     obtain⟨EC,Y4,kD,Y5,lJ,e2,hsy,hly⟩:=O1.out.six;subst e2;have QV:=ah.mk hsy;have OQ:=ah.mk hly;clear hsy hly O1
     cases xa with
     | none=>
      have ho0:p0=.pointer none:=O0.out;subst ho0;clear O0 hsm
      have HQ:ah (((pre++[x]).map Two.oJ.rd).foldl kN []=S0++[⟨2,y,[]⟩]):=⟨by rw[List.map_append,List.foldl_append,V5.out];show S0++(qB x.a x.b).toList=_;rw[HXA.out,HXB.out];unfold qB;rw[if_neg (by rw[IJ.out];decide)];rfl⟩
      gi_wp2_with (refine⟨trivial,rfl,?_⟩;gi_at_call 52;refine (CallsIn.inRound l (callsIn_wide.2 (OP.out _ HD1.out.low))).mono ?_;rintro e w5 ⟨rfl,⟨nm,rfl⟩⟩)
      have hwd:=av (Below.refl W1.heap.size W1) nm;have yE:=ah.mk (HD1.out.below hwd);have Lr:=ah.mk (Gr.out.trans (ng.below hwd))
      obtain⟨Ws,hWs⟩:∃Ws,W1.drewN nm=Ws:=⟨_,rfl⟩
      rw[hWs] at yE Lr
      try rw[hWs]
      clear hwd hWs HD1 Gr OP;have HSY:=ah.mk (QV.out.below yE.out.low);have hdr:=bf (Below.refl Ws.heap.size Ws)
      obtain⟨Wd,hWd⟩:∃Wd,Ws.drew=Wd:=⟨_,rfl⟩
      have hdb:Below Ws.heap.size Ws Wd:=hWd▸hdr;obtain⟨va,hva,hra⟩:=(yE.out.below hdb).box;obtain⟨Au,nu,cu,hvu⟩:=fU hra;subst hvu;have Yk:=ah.mk hva;have CW:=ah.mk hra;have Ml:=ah.mk (yE.out.below hdb);have UG:=ah.mk (Lr.out.trans (ng.below hdb));have Dj:=ah.mk (show w7.heap.size≤Wd.heap.size from (yE.out.below hdb).big);have z2:Wd.cell? ⟨w3.heap.size,2,none⟩=some (.slice Au nu cu):=ak hva 2;have HS:=ah.mk (show Wd.cell? ⟨w3.heap.size,2,none⟩=some (.slice Au nu cu)∧yO Wd EC y Y4 kD Y5 lJ from⟨z2,HSY.out.below hdb⟩);have IZ:=ah.mk (show ∀W':World,(W'.cell? ⟨w3.heap.size,2,none⟩=some (.slice Au nu cu)∧yO W' EC y Y4 kD Y5 lJ)→∀{W''},Below W'.heap.size W' W''→(W''.cell? ⟨w3.heap.size,2,none⟩=some (.slice Au nu cu)∧yO W'' EC y Y4 kD Y5 lJ) from fun W' h W'' hb=>⟨au hb h.1,h.2.below hb⟩);clear hdr hva hra z2 hdb;have qA:=Yk;have rE:=CW;have DU:=Ml;have Yl:=UG;have Ym:=Dj;have Ls:=ah.mk (oH (w0:=w) (w:=Wd) (base:=w7.heap.size) (ok:=fun _=>False) (x:=⟨2,y,[]⟩) (Kd.mH OQ.out.l4 OQ.out.g4) (Kd.mH OQ.out.l5 OQ.out.g5) (Kd.jr (Kd.eD _ _ _ _ _)));refine uw (n:=10) (S:=fun w'=>w'.cell? ⟨w3.heap.size,2,none⟩=some (.slice Au nu cu)∧yO w' EC y Y4 kD Y5 lJ) (ds:=[7,9]) (aM 10 0) aD aD (by rintro⟨a,w',h⟩;exact Exit.noConfusion (yP.eq (show yP w w7.heap.size w3.heap.size (w3.heap.size+1+1) (w3.heap.size+1+1+1) (w3.heap.size+1) (ji a0) (ji a1) (((pre++[x]).map Two.oJ.rd).foldl kN []) W Exit.outgrown w' from h))) rfl rfl (by rw[hWd];exact HS.out) (fun hHeld=>?_);rw[hWd] at hHeld ⊢;clear hWd;refine bA 0 47 (aM 10 1) ?_;refine gG 1 48 (aM 10 3) rfl hHeld (by rintro w' ⟨s,⟨y0,y1,y2,y3,y4,y5⟩⟩;go_simp;with_reducible rfl) ?_;refine bA 2 49 (aM 10 7) ?_;refine bA 3 50 (aM 10 15) ?_;refine gG 4 51 (aM 10 31) rfl hHeld (by rintro w' ⟨s,⟨y0,y1,y2,y3,y4,y5⟩⟩;go_simp;with_reducible rfl) ?_;refine bA 5 52 (aM 10 63) ?_;refine mD 6 (some 53) (aM 10 127) (fun K hK=>?_);refine pW (v:=.slice (some ⟨Wd.heap.size,0,none⟩) 1 1) (w1:=Wd.alloc (.cells #[.int .i64 2,.int .i64 y.f0,.string y.f1,.string y.f2,.int .i64 y.f3,.slice Y4 y.f4.length kD,.slice Y5 y.f5.length lJ,.slice none 0 0] 31)) (by rfl) rfl ?_ ?_
      ·go_simp
       try rfl
      have hal:=(Below.refl Wd.heap.size Wd).alloc (Nat.le_refl _) (.cells #[.int .i64 2,.int .i64 y.f0,.string y.f1,.string y.f2,.int .i64 y.f3,.slice Y4 y.f4.length kD,.slice Y5 y.f5.length lJ,.slice none 0 0] 31);refine hK.out _ _ (IZ.out _ hHeld hal) (fun hHeld=>?_);clear hK K hal;refine fH 53 ?_;refine kX (i:=7) (N:=some 54) (aM 10 255) rfl rfl aD aH (fun K hK=>?_);refine Kd.gU (uj w) (w0:=Wd) w7.heap.size (by rfl) (.tmp 48) (.tmp 53) 22 31 (.agg #[.int .i64 0,.int .i64 0,.string ⟨#[]⟩,.string ⟨#[]⟩,.int .i64 0,.slice none 0 0,.slice none 0 0,.slice none 0 0]) 128 rfl Tryz.underlying22 tX rfl (by show 0<8;decide) aH (.slice Au nu cu) S0 ⟨2,y,[]⟩ [.int .i64 2,.int .i64 y.f0,.string y.f1,.string y.f2,.int .i64 y.f3,.slice Y4 y.f4.length kD,.slice Y5 y.f5.length lJ,.slice none 0 0] (fun _=>True) (fun _=>False) rfl rfl Ls.out (fun _ h=>h.elim) (fun _ _=>trivial) rE.out (Below.refl _ _) Ym.out (by have:=Nq.out;omega) ?_;intro v1 w1 hr1 _hb hg1 qd;obtain⟨wP,DV,wQ,hv1⟩:=fU hr1;subst hv1;have hbx:=(hg1.block _ (bG qA.out) (gX rE.out qA.out (fun cs e=>by injection e with _ e;exact absurd e aH))).trans qA.out;have QU:w1.cell? ⟨w3.heap.size,2,none⟩=some (.slice Au nu cu):=ak hbx 2;have f10:=ay hbx 2;have ER:=ah.mk (DU.out.push qA.out rE.out hr1 hg1 Er hw3);have Yn:=ah.mk (Yl.out.trans ((ng.grown (G:=fun k=>k=w3.heap.size) (T:=fun q=>q=31) rE.out (Nat.le_refl _) rfl hg1).trans (ng.set (G:=fun k=>k=w3.heap.size) rfl 2 (.slice wP DV wQ))));clear hr1 _hb hg1 qd hbx;refine hK.out _ _ ?_;clear hK K hHeld;refine fH 54 ?_;refine bA 8 55 (aM 10 511) ?_;refine kX (i:=9) (N:=none) (aM 10 1023) rfl rfl aD aH (fun K hK=>?_);refine rG (w1:=w1.setCell ⟨w3.heap.size,2,none⟩ (.slice wP DV wQ)) (by rfl) rfl ?_ ?_
      ·go_simp
      refine hK.out _ _ ?_;clear hK K;refine jK aD ?_;exact FIN.out _ (by rw[HQ.out];exact ER.out) Yn.out
     | some z=>
      obtain⟨ad1,X4,rZ,X5,sj,e1,hsx,hlx⟩:=O0.out.six;subst e1;have Vl:=ah.mk hsx;have HLX:=ah.mk hlx;clear hsx hlx O0 hsm;by_cases hz1:z.f0=1
      ·have b1:(z.f0 == 1)=true:=beq_iff_eq.2 hz1;by_cases hy1:y.f0=1
       ·have b2:(y.f0 == 1)=true:=beq_iff_eq.2 hy1;have P8:=ah.mk (um HZ0.out HF.out.1 z (HHA.out z rfl) hz1);have HFY:=ah.mk (um HZ1.out HF.out.2 y (HHB.out y rfl) hy1)
        have HQ:ah (((pre++[x]).map Two.oJ.rd).foldl kN []=S0++[uh z y]):=⟨by rw[List.map_append,List.foldl_append,V5.out];show S0++(qB x.a x.b).toList=_;rw[HXA.out,HXB.out];unfold qB;rw[if_neg (by rw[IJ.out];decide)];dsimp only;rw[if_pos ⟨hz1,hy1⟩];rfl⟩
        clear hz1 hy1
        gi_wp2_with (refine⟨trivial,rfl,?_⟩;gi_at_call 52;refine (CallsIn.inRound l (callsIn_wide.2 (OP.out _ HD1.out.low))).mono ?_;rintro e w5 ⟨rfl,⟨nm,rfl⟩⟩;have k1:=((Vl.out.below HD1.out.low).below (av (Below.refl _ _) nm)).1;have k2:=((QV.out.below HD1.out.low).below (av (Below.refl _ _) nm)).1)
        clear k1 k2;have hwd:=av (Below.refl W1.heap.size W1) nm;have yE:=ah.mk (HD1.out.below hwd);have Lr:=ah.mk (Gr.out.trans (ng.below hwd))
        obtain⟨Ws,hWs⟩:∃Ws,W1.drewN nm=Ws:=⟨_,rfl⟩
        rw[hWs] at yE Lr
        try rw[hWs]
        clear hwd hWs HD1 Gr OP;have HSX:=ah.mk (Vl.out.below yE.out.low);have HSY:=ah.mk (QV.out.below yE.out.low);have hdr:=bf (Below.refl Ws.heap.size Ws)
        obtain⟨Wd,hWd⟩:∃Wd,Ws.drew=Wd:=⟨_,rfl⟩
        have hdb:Below Ws.heap.size Ws Wd:=hWd▸hdr;obtain⟨va,hva,hra⟩:=(yE.out.below hdb).box;obtain⟨Au,nu,cu,hvu⟩:=fU hra;subst hvu;have Yk:=ah.mk hva;have CW:=ah.mk hra;have Ml:=ah.mk (yE.out.below hdb);have UG:=ah.mk (Lr.out.trans (ng.below hdb));have Dj:=ah.mk (show w7.heap.size≤Wd.heap.size from (yE.out.below hdb).big);have z2:Wd.cell? ⟨w3.heap.size,2,none⟩=some (.slice Au nu cu):=ak hva 2;have HS:=ah.mk (show Wd.cell? ⟨w3.heap.size,2,none⟩=some (.slice Au nu cu)∧yO Wd ad1 z X4 rZ X5 sj∧yO Wd EC y Y4 kD Y5 lJ from⟨z2,HSX.out.below hdb,HSY.out.below hdb⟩);have IZ:=ah.mk (show ∀W':World,(W'.cell? ⟨w3.heap.size,2,none⟩=some (.slice Au nu cu)∧yO W' ad1 z X4 rZ X5 sj∧yO W' EC y Y4 kD Y5 lJ)→∀{W''},Below W'.heap.size W' W''→(W''.cell? ⟨w3.heap.size,2,none⟩=some (.slice Au nu cu)∧yO W'' ad1 z X4 rZ X5 sj∧yO W'' EC y Y4 kD Y5 lJ) from fun W' h W'' hb=>⟨au hb h.1,h.2.1.below hb,h.2.2.below hb⟩);have HLD:=ah.mk (show Below w.heap.size w Wd from (yE.out.below hdb).low);clear hdr hva hra z2 hdb;refine uw (n:=13) (S:=fun w'=>w'.cell? ⟨w3.heap.size,2,none⟩=some (.slice Au nu cu)∧yO w' ad1 z X4 rZ X5 sj∧yO w' EC y Y4 kD Y5 lJ) (ds:=[10,12]) (aM 13 0) aD aD (by rintro⟨a,w',h⟩;exact Exit.noConfusion (yP.eq (show yP w w7.heap.size w3.heap.size (w3.heap.size+1+1) (w3.heap.size+1+1+1) (w3.heap.size+1) (ji a0) (ji a1) (((pre++[x]).map Two.oJ.rd).foldl kN []) W Exit.outgrown w' from h))) rfl rfl (by rw[hWd];exact HS.out) (fun hHeld=>?_);rw[hWd] at hHeld ⊢;clear hWd;refine bA 0 91 (aM 13 1) ?_;refine gG 1 92 (aM 13 3) rfl hHeld (by rintro w' ⟨s,⟨x0,x1,x2,x3,x4,x5⟩,⟨y0,y1,y2,y3,y4,y5⟩⟩;go_simp;with_reducible rfl) ?_;refine bA 2 93 (aM 13 7) ?_;refine bA 3 94 (aM 13 15) ?_;refine gG 4 95 (aM 13 31) rfl hHeld (by rintro w' ⟨s,⟨x0,x1,x2,x3,x4,x5⟩,⟨y0,y1,y2,y3,y4,y5⟩⟩;go_simp;with_reducible rfl) ?_;refine bA 5 96 (aM 13 63) ?_;refine bA 6 97 (aM 13 127) ?_;refine gG 7 98 (aM 13 255) rfl hHeld (by rintro w' ⟨s,⟨x0,x1,x2,x3,x4,x5⟩,⟨y0,y1,y2,y3,y4,y5⟩⟩;go_simp;with_reducible rfl) ?_;refine mD 8 (some 99) (aM 13 511) (fun K hK=>?_);refine mW Tryz.func53 #[.agg #[.int .i64 z.f0,.string z.f1,.string z.f2,.int .i64 z.f3,.slice X4 z.f4.length rZ,.slice X5 z.f5.length sj],.agg #[.int .i64 y.f0,.string y.f1,.string y.f2,.int .i64 y.f3,.slice Y4 y.f4.length kD,.slice Y5 y.f5.length lJ]] ?_;have hed:=Yo z y X4 rZ X5 sj Y4 kD Y5 lJ Wd P8.out HFY.out HLX.out.l4 (Kd.aC HLX.out.g4 HLD.out) HLX.out.l5 (Kd.aC HLX.out.g5 HLD.out) OQ.out.l4 (Kd.aC OQ.out.g4 HLD.out) OQ.out.l5 (Kd.aC OQ.out.g5 HLD.out);refine hed.mono ?_;clear hed;rintro e Wz ⟨v5,v6,v7,rfl,h5,h6,h7,hbz⟩;refine⟨_,rfl,?_⟩;have qA:=ah.mk (aJ Yk.out hbz);have rE:=ah.mk (Kd.bO CW.out hbz);have DU:=ah.mk (Ml.out.below hbz);have Yl:=ah.mk (UG.out.trans (ng.below hbz));have Ym:=ah.mk (show w7.heap.size≤Wz.heap.size from Nat.le_trans Dj.out hbz.size);have Yp:=ah.mk (show ∀k,Wd.heap.size≤k→True∧some k≠(Value.slice Au nu cu).ownBlock from fun k hk=>⟨trivial,fun e=>by have:=Kd.H7 CW.out k e.symm;omega⟩);have Ls:=ah.mk (oH (w0:=w) (w:=Wz) (base:=w7.heap.size) (ok:=fun k=>Wd.heap.size≤k) (x:=uh z y) (Kd.jr (Kd.gD (Kd.dX (Kd.ig h5) (fun k hk=>hk.2.1)) Dj.out)) (Kd.jr (Kd.gD (Kd.dX (Kd.ig h6) (fun k hk=>hk.2.1)) Dj.out)) (Kd.jr (Kd.gD (Kd.dX (Kd.ig h7) (fun k hk=>hk.2.1)) Dj.out)));refine hK.out _ _ (IZ.out _ hHeld hbz) (fun hHeld=>?_);clear hK K h5 h6 h7 hbz;refine fH 99 ?_;refine mD 9 (some 100) (aM 13 1023) (fun K hK=>?_);refine pW (v:=.slice (some ⟨Wz.heap.size,0,none⟩) 1 1) (w1:=Wz.alloc (.cells #[.int .i64 3,.int .i64 1,.string y.f1,.string ⟨#[]⟩,.int .i64 y.f3,v5,v6,v7] 31)) (by rfl) rfl ?_ ?_
        ·go_simp
         try rfl
        have hal:=(Below.refl Wz.heap.size Wz).alloc (Nat.le_refl _) (.cells #[.int .i64 3,.int .i64 1,.string y.f1,.string ⟨#[]⟩,.int .i64 y.f3,v5,v6,v7] 31);refine hK.out _ _ (IZ.out _ hHeld hal) (fun hHeld=>?_);clear hK K hal;refine fH 100 ?_;refine kX (i:=10) (N:=some 101) (aM 13 2047) rfl rfl aD aH (fun K hK=>?_);refine Kd.gU (uj w) (w0:=Wz) w7.heap.size (by rfl) (.tmp 92) (.tmp 100) 22 31 (.agg #[.int .i64 0,.int .i64 0,.string ⟨#[]⟩,.string ⟨#[]⟩,.int .i64 0,.slice none 0 0,.slice none 0 0,.slice none 0 0]) 128 rfl Tryz.underlying22 tX rfl (by show 0<8;decide) aH (.slice Au nu cu) S0 (uh z y) [.int .i64 3,.int .i64 1,.string y.f1,.string ⟨#[]⟩,.int .i64 y.f3,v5,v6,v7] (fun _=>True) (fun k=>Wd.heap.size≤k) rfl rfl Ls.out Yp.out (fun _ _=>trivial) rE.out (Below.refl _ _) Ym.out (by have:=Nq.out;omega) ?_;intro v1 w1 hr1 _hb hg1 qd;obtain⟨wP,DV,wQ,hv1⟩:=fU hr1;subst hv1;have hbx:=(hg1.block _ (bG qA.out) (gX rE.out qA.out (fun cs e=>by injection e with _ e;exact absurd e aH))).trans qA.out;have QU:w1.cell? ⟨w3.heap.size,2,none⟩=some (.slice Au nu cu):=ak hbx 2;have f10:=ay hbx 2;have ER:=ah.mk (DU.out.push qA.out rE.out hr1 hg1 Er hw3);have Yn:=ah.mk (Yl.out.trans ((ng.grown (G:=fun k=>k=w3.heap.size) (T:=fun q=>q=31) rE.out (Nat.le_refl _) rfl hg1).trans (ng.set (G:=fun k=>k=w3.heap.size) rfl 2 (.slice wP DV wQ))));clear hr1 _hb hg1 qd hbx;refine hK.out _ _ ?_;clear hK K hHeld;refine fH 101 ?_;refine bA 11 102 (aM 13 4095) ?_;refine kX (i:=12) (N:=none) (aM 13 8191) rfl rfl aD aH (fun K hK=>?_);refine rG (w1:=w1.setCell ⟨w3.heap.size,2,none⟩ (.slice wP DV wQ)) (by rfl) rfl ?_ ?_
        ·go_simp
        refine hK.out _ _ ?_;clear hK K;refine jK aD ?_;exact FIN.out _ (by rw[HQ.out];exact ER.out) Yn.out
       have b2:(y.f0 == 1)=false:=beq_eq_false_iff_ne.2 hy1
       have HQ:ah (((pre++[x]).map Two.oJ.rd).foldl kN []=S0++[⟨2,y,[]⟩]):=⟨by rw[List.map_append,List.foldl_append,V5.out];show S0++(qB x.a x.b).toList=_;rw[HXA.out,HXB.out];unfold qB;rw[if_neg (by rw[IJ.out];decide)];dsimp only;rw[if_neg (fun h=>hy1 h.2)];rfl⟩
       clear hz1 hy1
       gi_wp2_with (refine⟨trivial,rfl,?_⟩;gi_at_call 52;refine (CallsIn.inRound l (callsIn_wide.2 (OP.out _ HD1.out.low))).mono ?_;rintro e w5 ⟨rfl,⟨nm,rfl⟩⟩;have k1:=((Vl.out.below HD1.out.low).below (av (Below.refl _ _) nm)).1;have k2:=((QV.out.below HD1.out.low).below (av (Below.refl _ _) nm)).1)
       clear k1 k2;have hwd:=av (Below.refl W1.heap.size W1) nm;have yE:=ah.mk (HD1.out.below hwd);have Lr:=ah.mk (Gr.out.trans (ng.below hwd))
       obtain⟨Ws,hWs⟩:∃Ws,W1.drewN nm=Ws:=⟨_,rfl⟩
       rw[hWs] at yE Lr
       try rw[hWs]
       clear hwd hWs HD1 Gr OP;have HSY:=ah.mk (QV.out.below yE.out.low);have hdr:=bf (Below.refl Ws.heap.size Ws)
       obtain⟨Wd,hWd⟩:∃Wd,Ws.drew=Wd:=⟨_,rfl⟩
       have hdb:Below Ws.heap.size Ws Wd:=hWd▸hdr;obtain⟨va,hva,hra⟩:=(yE.out.below hdb).box;obtain⟨Au,nu,cu,hvu⟩:=fU hra;subst hvu;have Yk:=ah.mk hva;have CW:=ah.mk hra;have Ml:=ah.mk (yE.out.below hdb);have UG:=ah.mk (Lr.out.trans (ng.below hdb));have Dj:=ah.mk (show w7.heap.size≤Wd.heap.size from (yE.out.below hdb).big);have z2:Wd.cell? ⟨w3.heap.size,2,none⟩=some (.slice Au nu cu):=ak hva 2;have HS:=ah.mk (show Wd.cell? ⟨w3.heap.size,2,none⟩=some (.slice Au nu cu)∧yO Wd EC y Y4 kD Y5 lJ from⟨z2,HSY.out.below hdb⟩);have IZ:=ah.mk (show ∀W':World,(W'.cell? ⟨w3.heap.size,2,none⟩=some (.slice Au nu cu)∧yO W' EC y Y4 kD Y5 lJ)→∀{W''},Below W'.heap.size W' W''→(W''.cell? ⟨w3.heap.size,2,none⟩=some (.slice Au nu cu)∧yO W'' EC y Y4 kD Y5 lJ) from fun W' h W'' hb=>⟨au hb h.1,h.2.below hb⟩);clear hdr hva hra z2 hdb;have qA:=Yk;have rE:=CW;have DU:=Ml;have Yl:=UG;have Ym:=Dj;have Ls:=ah.mk (oH (w0:=w) (w:=Wd) (base:=w7.heap.size) (ok:=fun _=>False) (x:=⟨2,y,[]⟩) (Kd.mH OQ.out.l4 OQ.out.g4) (Kd.mH OQ.out.l5 OQ.out.g5) (Kd.jr (Kd.eD _ _ _ _ _)));refine uw (n:=10) (S:=fun w'=>w'.cell? ⟨w3.heap.size,2,none⟩=some (.slice Au nu cu)∧yO w' EC y Y4 kD Y5 lJ) (ds:=[7,9]) (aM 10 0) aD aD (by rintro⟨a,w',h⟩;exact Exit.noConfusion (yP.eq (show yP w w7.heap.size w3.heap.size (w3.heap.size+1+1) (w3.heap.size+1+1+1) (w3.heap.size+1) (ji a0) (ji a1) (((pre++[x]).map Two.oJ.rd).foldl kN []) W Exit.outgrown w' from h))) rfl rfl (by rw[hWd];exact HS.out) (fun hHeld=>?_);rw[hWd] at hHeld ⊢;clear hWd;refine bA 0 47 (aM 10 1) ?_;refine gG 1 48 (aM 10 3) rfl hHeld (by rintro w' ⟨s,⟨y0,y1,y2,y3,y4,y5⟩⟩;go_simp;with_reducible rfl) ?_;refine bA 2 49 (aM 10 7) ?_;refine bA 3 50 (aM 10 15) ?_;refine gG 4 51 (aM 10 31) rfl hHeld (by rintro w' ⟨s,⟨y0,y1,y2,y3,y4,y5⟩⟩;go_simp;with_reducible rfl) ?_;refine bA 5 52 (aM 10 63) ?_;refine mD 6 (some 53) (aM 10 127) (fun K hK=>?_);refine pW (v:=.slice (some ⟨Wd.heap.size,0,none⟩) 1 1) (w1:=Wd.alloc (.cells #[.int .i64 2,.int .i64 y.f0,.string y.f1,.string y.f2,.int .i64 y.f3,.slice Y4 y.f4.length kD,.slice Y5 y.f5.length lJ,.slice none 0 0] 31)) (by rfl) rfl ?_ ?_
       ·go_simp
        try rfl
       have hal:=(Below.refl Wd.heap.size Wd).alloc (Nat.le_refl _) (.cells #[.int .i64 2,.int .i64 y.f0,.string y.f1,.string y.f2,.int .i64 y.f3,.slice Y4 y.f4.length kD,.slice Y5 y.f5.length lJ,.slice none 0 0] 31);refine hK.out _ _ (IZ.out _ hHeld hal) (fun hHeld=>?_);clear hK K hal;refine fH 53 ?_;refine kX (i:=7) (N:=some 54) (aM 10 255) rfl rfl aD aH (fun K hK=>?_);refine Kd.gU (uj w) (w0:=Wd) w7.heap.size (by rfl) (.tmp 48) (.tmp 53) 22 31 (.agg #[.int .i64 0,.int .i64 0,.string ⟨#[]⟩,.string ⟨#[]⟩,.int .i64 0,.slice none 0 0,.slice none 0 0,.slice none 0 0]) 128 rfl Tryz.underlying22 tX rfl (by show 0<8;decide) aH (.slice Au nu cu) S0 ⟨2,y,[]⟩ [.int .i64 2,.int .i64 y.f0,.string y.f1,.string y.f2,.int .i64 y.f3,.slice Y4 y.f4.length kD,.slice Y5 y.f5.length lJ,.slice none 0 0] (fun _=>True) (fun _=>False) rfl rfl Ls.out (fun _ h=>h.elim) (fun _ _=>trivial) rE.out (Below.refl _ _) Ym.out (by have:=Nq.out;omega) ?_;intro v1 w1 hr1 _hb hg1 qd;obtain⟨wP,DV,wQ,hv1⟩:=fU hr1;subst hv1;have hbx:=(hg1.block _ (bG qA.out) (gX rE.out qA.out (fun cs e=>by injection e with _ e;exact absurd e aH))).trans qA.out;have QU:w1.cell? ⟨w3.heap.size,2,none⟩=some (.slice Au nu cu):=ak hbx 2;have f10:=ay hbx 2;have ER:=ah.mk (DU.out.push qA.out rE.out hr1 hg1 Er hw3);have Yn:=ah.mk (Yl.out.trans ((ng.grown (G:=fun k=>k=w3.heap.size) (T:=fun q=>q=31) rE.out (Nat.le_refl _) rfl hg1).trans (ng.set (G:=fun k=>k=w3.heap.size) rfl 2 (.slice wP DV wQ))));clear hr1 _hb hg1 qd hbx;refine hK.out _ _ ?_;clear hK K hHeld;refine fH 54 ?_;refine bA 8 55 (aM 10 511) ?_;refine kX (i:=9) (N:=none) (aM 10 1023) rfl rfl aD aH (fun K hK=>?_);refine rG (w1:=w1.setCell ⟨w3.heap.size,2,none⟩ (.slice wP DV wQ)) (by rfl) rfl ?_ ?_
       ·go_simp
       refine hK.out _ _ ?_;clear hK K;refine jK aD ?_;exact FIN.out _ (by rw[HQ.out];exact ER.out) Yn.out
      have b1:(z.f0 == 1)=false:=beq_eq_false_iff_ne.2 hz1
      have HQ:ah (((pre++[x]).map Two.oJ.rd).foldl kN []=S0++[⟨2,y,[]⟩]):=⟨by rw[List.map_append,List.foldl_append,V5.out];show S0++(qB x.a x.b).toList=_;rw[HXA.out,HXB.out];unfold qB;rw[if_neg (by rw[IJ.out];decide)];dsimp only;rw[if_neg (fun h=>hz1 h.1)];rfl⟩
      clear hz1
      gi_wp2_with (refine⟨trivial,rfl,?_⟩;gi_at_call 52;refine (CallsIn.inRound l (callsIn_wide.2 (OP.out _ HD1.out.low))).mono ?_;rintro e w5 ⟨rfl,⟨nm,rfl⟩⟩;have k1:=((Vl.out.below HD1.out.low).below (av (Below.refl _ _) nm)).1;have k2:=((QV.out.below HD1.out.low).below (av (Below.refl _ _) nm)).1)
      clear k1 k2;have hwd:=av (Below.refl W1.heap.size W1) nm;have yE:=ah.mk (HD1.out.below hwd);have Lr:=ah.mk (Gr.out.trans (ng.below hwd))
      obtain⟨Ws,hWs⟩:∃Ws,W1.drewN nm=Ws:=⟨_,rfl⟩
      rw[hWs] at yE Lr
      try rw[hWs]
      clear hwd hWs HD1 Gr OP;have HSY:=ah.mk (QV.out.below yE.out.low);have hdr:=bf (Below.refl Ws.heap.size Ws)
      obtain⟨Wd,hWd⟩:∃Wd,Ws.drew=Wd:=⟨_,rfl⟩
      have hdb:Below Ws.heap.size Ws Wd:=hWd▸hdr;obtain⟨va,hva,hra⟩:=(yE.out.below hdb).box;obtain⟨Au,nu,cu,hvu⟩:=fU hra;subst hvu;have Yk:=ah.mk hva;have CW:=ah.mk hra;have Ml:=ah.mk (yE.out.below hdb);have UG:=ah.mk (Lr.out.trans (ng.below hdb));have Dj:=ah.mk (show w7.heap.size≤Wd.heap.size from (yE.out.below hdb).big);have z2:Wd.cell? ⟨w3.heap.size,2,none⟩=some (.slice Au nu cu):=ak hva 2;have HS:=ah.mk (show Wd.cell? ⟨w3.heap.size,2,none⟩=some (.slice Au nu cu)∧yO Wd EC y Y4 kD Y5 lJ from⟨z2,HSY.out.below hdb⟩);have IZ:=ah.mk (show ∀W':World,(W'.cell? ⟨w3.heap.size,2,none⟩=some (.slice Au nu cu)∧yO W' EC y Y4 kD Y5 lJ)→∀{W''},Below W'.heap.size W' W''→(W''.cell? ⟨w3.heap.size,2,none⟩=some (.slice Au nu cu)∧yO W'' EC y Y4 kD Y5 lJ) from fun W' h W'' hb=>⟨au hb h.1,h.2.below hb⟩);clear hdr hva hra z2 hdb;have qA:=Yk;have rE:=CW;have DU:=Ml;have Yl:=UG;have Ym:=Dj;have Ls:=ah.mk (oH (w0:=w) (w:=Wd) (base:=w7.heap.size) (ok:=fun _=>False) (x:=⟨2,y,[]⟩) (Kd.mH OQ.out.l4 OQ.out.g4) (Kd.mH OQ.out.l5 OQ.out.g5) (Kd.jr (Kd.eD _ _ _ _ _)));refine uw (n:=10) (S:=fun w'=>w'.cell? ⟨w3.heap.size,2,none⟩=some (.slice Au nu cu)∧yO w' EC y Y4 kD Y5 lJ) (ds:=[7,9]) (aM 10 0) aD aD (by rintro⟨a,w',h⟩;exact Exit.noConfusion (yP.eq (show yP w w7.heap.size w3.heap.size (w3.heap.size+1+1) (w3.heap.size+1+1+1) (w3.heap.size+1) (ji a0) (ji a1) (((pre++[x]).map Two.oJ.rd).foldl kN []) W Exit.outgrown w' from h))) rfl rfl (by rw[hWd];exact HS.out) (fun hHeld=>?_);rw[hWd] at hHeld ⊢;clear hWd;refine bA 0 47 (aM 10 1) ?_;refine gG 1 48 (aM 10 3) rfl hHeld (by rintro w' ⟨s,⟨y0,y1,y2,y3,y4,y5⟩⟩;go_simp;with_reducible rfl) ?_;refine bA 2 49 (aM 10 7) ?_;refine bA 3 50 (aM 10 15) ?_;refine gG 4 51 (aM 10 31) rfl hHeld (by rintro w' ⟨s,⟨y0,y1,y2,y3,y4,y5⟩⟩;go_simp;with_reducible rfl) ?_;refine bA 5 52 (aM 10 63) ?_;refine mD 6 (some 53) (aM 10 127) (fun K hK=>?_);refine pW (v:=.slice (some ⟨Wd.heap.size,0,none⟩) 1 1) (w1:=Wd.alloc (.cells #[.int .i64 2,.int .i64 y.f0,.string y.f1,.string y.f2,.int .i64 y.f3,.slice Y4 y.f4.length kD,.slice Y5 y.f5.length lJ,.slice none 0 0] 31)) (by rfl) rfl ?_ ?_
      ·go_simp
       try rfl
      have hal:=(Below.refl Wd.heap.size Wd).alloc (Nat.le_refl _) (.cells #[.int .i64 2,.int .i64 y.f0,.string y.f1,.string y.f2,.int .i64 y.f3,.slice Y4 y.f4.length kD,.slice Y5 y.f5.length lJ,.slice none 0 0] 31);refine hK.out _ _ (IZ.out _ hHeld hal) (fun hHeld=>?_);clear hK K hal;refine fH 53 ?_;refine kX (i:=7) (N:=some 54) (aM 10 255) rfl rfl aD aH (fun K hK=>?_);refine Kd.gU (uj w) (w0:=Wd) w7.heap.size (by rfl) (.tmp 48) (.tmp 53) 22 31 (.agg #[.int .i64 0,.int .i64 0,.string ⟨#[]⟩,.string ⟨#[]⟩,.int .i64 0,.slice none 0 0,.slice none 0 0,.slice none 0 0]) 128 rfl Tryz.underlying22 tX rfl (by show 0<8;decide) aH (.slice Au nu cu) S0 ⟨2,y,[]⟩ [.int .i64 2,.int .i64 y.f0,.string y.f1,.string y.f2,.int .i64 y.f3,.slice Y4 y.f4.length kD,.slice Y5 y.f5.length lJ,.slice none 0 0] (fun _=>True) (fun _=>False) rfl rfl Ls.out (fun _ h=>h.elim) (fun _ _=>trivial) rE.out (Below.refl _ _) Ym.out (by have:=Nq.out;omega) ?_;intro v1 w1 hr1 _hb hg1 qd;obtain⟨wP,DV,wQ,hv1⟩:=fU hr1;subst hv1;have hbx:=(hg1.block _ (bG qA.out) (gX rE.out qA.out (fun cs e=>by injection e with _ e;exact absurd e aH))).trans qA.out;have QU:w1.cell? ⟨w3.heap.size,2,none⟩=some (.slice Au nu cu):=ak hbx 2;have f10:=ay hbx 2;have ER:=ah.mk (DU.out.push qA.out rE.out hr1 hg1 Er hw3);have Yn:=ah.mk (Yl.out.trans ((ng.grown (G:=fun k=>k=w3.heap.size) (T:=fun q=>q=31) rE.out (Nat.le_refl _) rfl hg1).trans (ng.set (G:=fun k=>k=w3.heap.size) rfl 2 (.slice wP DV wQ))));clear hr1 _hb hg1 qd hbx;refine hK.out _ _ ?_;clear hK K hHeld;refine fH 54 ?_;refine bA 8 55 (aM 10 511) ?_;refine kX (i:=9) (N:=none) (aM 10 1023) rfl rfl aD aH (fun K hK=>?_);refine rG (w1:=w1.setCell ⟨w3.heap.size,2,none⟩ (.slice wP DV wQ)) (by rfl) rfl ?_ ?_
      ·go_simp
      refine hK.out _ _ ?_;clear hK K;refine jK aD ?_;exact FIN.out _ (by rw[HQ.out];exact ER.out) Yn.out
  case done=>
   rintro xs W hxs hlt hi hd;have Yq:xs.map Two.oJ.rd=rs:=hxs
   have hdf:(xs.map Two.oJ.rd).foldl kN []=qC l0 l1:=by rw[Yq,← Zd.out];rfl
   rw[hdf] at hi;have hft:∀c∈qC l0 l1,wX c:=xY HZ0.out HZ1.out HF.out.1 HF.out.2 _ [] (fun r hr=>Two.here hr) bB;obtain⟨v,hv,FI⟩:=hi.box;have hmm:=xX.out
   obtain⟨D,hD⟩:∃D,qC l0 l1=D:=⟨_,rfl⟩
   rw[hD] at hi hft FI hmm;obtain⟨Av,cv,hvs⟩:=Kd.bP FI;subst hvs;obtain⟨_,hle,hcv⟩:=Kd.bU FI;have hC:Kd.C EA W Av D.length D:=Kd.Yr (dm:=uj w) (d:=EA) rfl (fun x cs h=>Ji hi.low h) hcv;have hpk:=Jv (ji a0) (ji a1) Av cv D W hC hle hft (wm HB0.out.2.2).1 (wm HB0.out.2.2).2 (wm HB1.out.2.2).1 (wm HB1.out.2.2).2;rw[hmm] at hpk;have Ya:=ah.mk hpk;have HV:=ah.mk hv;have HDf:=ah.mk hd;have HL:=ah.mk hi.low;have HBG:=ah.mk hi.big;clear hxs Yq hdf hft hmm hv FI hcv hC hpk hd hi hD hle HT HI0
   go_wp2_with (first
    | (refine eX (.load 24 (.tmp 9)) rfl ?_;refine wpList_load_row rfl _ _ rfl w3.heap.size rfl 24 _ (0,0) _ HV.out Tryz.underlying24 rfl aD ?_)
    | (go_at_call 32;refine (Ya.out).mono ?_;rintro e w8 ⟨v8,rfl,Mk,Fe⟩;have HR8:=ah.mk Mk;have Ec:=ah.mk Fe;clear Mk Fe))
   have hd8:=aJ HDf.out Ec.out;rw[Yh] at hd8 Er;refine⟨by simp,.inl ⟨_,_,rfl,run_takeDeferred hd8,?_⟩⟩;have hkq:=Kq.Ah (B:=w3.heap.size+4) (l:=w3.heap.size+4) (o':=.deferred none) (Nat.le_refl _) hd8 rfl;exact⟨_,results_tmp2 rfl _ _ _,_,rfl,Kd.gD (hkq.row HR8.out aH) HL.out.size,rA (HL.out.trans (Ec.out.mono HL.out.size)) Er (Nat.le_refl _) hd8 rfl⟩
 rw[if_neg hf] at h;cases h
end Go.Proofs.YtknihldkhedpkaaGreatDoor
