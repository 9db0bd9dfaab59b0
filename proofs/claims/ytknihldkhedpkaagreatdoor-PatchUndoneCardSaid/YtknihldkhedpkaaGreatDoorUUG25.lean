import Derived.Test.YtknihldkhedpkaaGreatDoorUUG23
import Derived.Test.YtknihldkhedpkaaGreatDoorUUG18
import Derived.Test.YtknihldkhedpkaaGreatDoorUUG24
import Derived.Test.YtknihldkhedpkaaGreatDoorUUG1
import Derived.Test.YtknihldkhedpkaaGreatDoorUUG2
import Derived.Test.YtknihldkhedpkaaGreatDoorUUG19
import Derived.Test.YtknihldkhedpkaaGreatDoorUUG20
import Derived.ChangeArms
set_option linter.all false
set_option maxHeartbeats 16000000
set_option maxRecDepth 100000
section
namespace Go.Proofs.YtknihldkhedpkaaGreatDoor
open Go.RowKit Go.Lib
open Go.Proofs.YtknihldkhedpkaaGreatDoorW.PrintWords Go.Proofs.YtknihldkhedpkaaGreatDoorW.PrintLast Go.Proofs.YtknihldkhedpkaaGreatDoor.PT
theorem oD {fn:Func} {P:Program} {p0 p1 p2:Tmp} {t1:TypeId} (h:fn.results=#[.tmp p0,.cell p1 t1,.tmp p2]) (tmps:Array Value) (w:World) (b1:Nat) (cs:Array Value) (d:TypeDesc)
  (h1:tmps.getD p1 undef=.pointer (some ⟨b1,0,none⟩)) (g1:w.heap[b1]?=some (.cells cs t1 (0,0)))
  (hu:P.underlying t1=some d) (hd:(match d with|.struct _|.array _ _=>true|_=>false)=true) (hi:(P.info? t1).map (·.size)=some cs.size) :
  (results fn tmps).run P w=.ok (.tuple #[tmps.getD p0 undef,.agg cs,tmps.getD p2 undef]) w:=by
 have h1':tmps[p1]?.getD undef=.pointer (some ⟨b1,0,none⟩):=by simpa using h1
 have e1:=run_loadVar_row w b1 t1 t1 cs (0,0) d g1 hu hd hi;simp only[results,h];simp[h1',asAddr,e1,Result.andThen,Sem.run_bind]
theorem UU {l:List It} (h:jN l=true):∀x∈l,x.f1.size≤1023∧x.f4.length≤16523∧x.f5.length≤8459776:=fun x hx=>by
 have h1:=xk l _ _ (by intro q hq;simp at hq;subst hq;show (0:Nat)≤1023;omega) h x hx;omega
theorem Xn {old l:List It} {r1:List Int} {r2:Int} (h:kW old l=(r1,r2)) (hf:old.all nO=true) (hl:l.all nO=true) (hz:(bY old).2=0):∀x∈r1,0≤x∧x≤255:=by
 unfold kW at h;rw[if_neg (fun hh=>hh hz)] at h;split at h
 ·injection h with h _
  subst h;intro x hx;cases hx
 rename_i h1;have h1:(bY l).2=0:=Decidable.not_not.1 h1;have hft:∀c∈iY old l,uH c:=yH hz h1 hf hl _ [] (fun r hr=>Two.here hr) bK;have hw:=FT (b:=gV (bY old).1) (g:=gV (bY l).1) hft;rw[h] at hw;exact hw
theorem yh {α:Type} {d:Kd α} {e base:Nat} {v:Value} {xs:List α} {W:World} {b:Nat} {cs:Array Value} {t:TypeId} (h:Kd.S d e W base (fun _=>True) v xs) (hb:W.heap[b]?=some (.cells cs t (0,0))) (hE:∀q,q∈e::d.E→q≠t) (cs2:Array Value):Kd.S d e (W.setRow b cs2) base (fun _=>True) v xs :=
 Kd.sS (Kd.Rf (Kd.TA h hb hE) (fun k hk hlt=>setRow_other _ _ _ _ hk.2)) (fun k hk=>hk.1)
def anl (w:World) (o:Option (List It × Int × Int × List Ch) × Int) (e:Ending) (w':World):Prop:=Below w.heap.size w w'∧match o with
 | (none,n)=>e=.returned (.tuple #[.slice none 0 0,.agg #[.int .i64 0,.int .i64 0,.slice none 0 0],.int .i64 n])
 | (some (l,b0,g0,cs),n)=>∃v vp,e=.returned (.tuple #[v,.agg #[.int .i64 b0,.int .i64 g0,vp],.int .i64 n])∧Kd.S om 29 w' w.heap.size (fun _=>True) v l∧Kd.R IW 31 w' w.heap.size (fun _=>True) vp cs
theorem Ea (A0:Option Addr) (c0:Nat) (old:List It) (A1:Option Addr) (c1:Nat) (b:List Int) (w:World) (hr:Kd.C om w A0 old.length old) (hc:old.length≤c0) (hr1:Kd.C (Kd.int .u8) w A1 b.length b) (hc1:b.length≤c1) (hf:old.all nO=true) (hb:By b) :
  Calls Tryz.prog 55 #[.slice A0 old.length c0,.slice A1 b.length c1] w fun e w'=>anl w (jw old b) e w':=by
 obtain⟨o,ho⟩:∃o,jw old b=o:=⟨_,rfl⟩
 rw[ho];unfold jw at ho
 obtain⟨w1,hw1⟩:∃w1,(w.alloc (.cells #[.int .i64 0,.int .i64 0,.slice none 0 0] 24))=w1:=⟨_,rfl⟩
 have hb1:=(Below.refl w.heap.size w).alloc (Nat.le_refl _) (.cells #[.int .i64 0,.int .i64 0,.slice none 0 0] 24);have hk1:=bJ w (.cells #[.int .i64 0,.int .i64 0,.slice none 0 0] 24);rw[hw1] at hb1 hk1;have HB1:=ah.mk hb1;have jY:=ah.mk hk1;have HR:=ah.mk hr;have HR1:=ah.mk hr1;have HF:=ah.mk hf;have hp:=iT.calls A0 c0 old (bY old).1 (bY old).2 w1 (Kd.aC hr hb1) hc (by unfold iT.f;rw[if_pos hf]);clear hb1 hk1 hr hr1 hf;by_cases hz:(bY old).2≠0
 ·rw[if_pos hz] at ho
  obtain⟨e0,he0⟩:∃e,(bY old).2=e:=⟨_,rfl⟩
  rw[he0] at hp hz ho;have hb2:(e0 != 0)=true:=bne_iff_ne.2 hz;have HO:=ah.mk ho.symm;have HP:=ah.mk hp;clear hp he0 hz ho
  go_enter Tryz.func55,Tryz.ntmps55
  go_upto_region 1 with (fail)
  clear hw1
  go_wp2_with (first|(go_at_call 48;refine HP.out.mono ?_;rintro e w2 ⟨v,rfl,_,hbw⟩;have HB2:=ah.mk (HB1.out.trans (hbw.mono HB1.out.size));have jG:=ah.mk (aG jY.out hbw);clear hbw)|(refine dX (.store 24 (.tmp 5) (.tmp 20)) rfl ?_;refine wpList_store_row rfl 24 (.tmp 5) (.tmp 20) rfl w.heap.size #[.int .i64 0,.int .i64 0,.slice none 0 0] rfl rfl 24 _ jG.out aA (by rfl) (by simp[Value.oneCell']) ?_))
  rw[HO.out];refine bodyPost_ret (oD rfl _ _ w.heap.size #[.int .i64 0,.int .i64 0,.slice none 0 0] _ rfl (setRow_heap _ _ _ _ _ _ jG.out) Tryz.underlying24 rfl aA) rfl ⟨below_setRow HB2.out (Nat.le_refl _) _,?_⟩;rfl
 rw[if_neg hz] at ho;have hz0:(bY old).2=0:=Decidable.not_not.1 hz;rw[hz0] at hp;have HZ:=ah.mk hz0;have ha0:=mJ hz0 HF.out
 obtain⟨a0,ha⟩:∃a,(bY old).1=a:=⟨_,rfl⟩
 rw[ha] at hp ha0 ho;have HA0:=ah.mk ha0;have HP:=ah.mk hp
 have hl:=fun (W:World) (hW:Below w.heap.size w W)=>NK A1 c1 b W (Kd.aC HR1.out hW) hc1 hb
 clear hp hz hz0 ha ha0
 obtain⟨q,hq⟩:∃q,vk b=q:=⟨_,rfl⟩
 rw[hq] at hl ho;obtain⟨q,en⟩:=q
 cases q with
 | none=>
  dsimp only at ho
  have hen:en≠0:=by rcases Gb hq with h|h <;> rw[h] <;> decide
  have hbn:(en != 0)=true:=bne_iff_ne.2 hen;have HO:=ah.mk ho.symm;have HL:=ah.mk hl;clear ho hl hq hen
  go_enter Tryz.func55,Tryz.ntmps55
  go_upto_region 1 with (fail)
  clear hw1
  go_upto_region 4 with (go_at_call 48;refine HP.out.mono ?_;rintro e w2 ⟨v,rfl,hr2,hbw⟩;have HB2:=ah.mk (HB1.out.trans (hbw.mono HB1.out.size));have jG:=ah.mk (aG jY.out hbw);clear hbw hr2)
  go_upto_region 5 with (first|(go_at_call 31;refine (HL.out _ HB2.out).mono ?_;rintro e w3 ⟨hb3,rfl⟩;have HB3:=ah.mk (HB2.out.trans (hb3.mono HB2.out.size));have qQ:=ah.mk (aG jG.out hb3);clear hb3)|(refine dX (.store 24 (.tmp 9) (.tmp 25)) rfl ?_;refine wpList_store_row rfl 24 (.tmp 9) (.tmp 25) rfl _ #[.int .i64 0,.int .i64 0,.slice none 0 0] rfl rfl 24 _ (bJ _ _) aA (by rfl) (by simp[Value.oneCell']) ?_))
  clear HB2 jG HL;have hba:=(Below.refl w3.heap.size w3).alloc (Nat.le_refl _) (.cells #[.int .i64 0,.int .i64 0,.slice none 0 0] 24);have hbs:=below_setRow hba (Nat.le_refl _) #[.int .i64 0,.int .i64 0,.slice none 0 0];have hbx:=setRow_heap (w3.alloc (.cells #[.int .i64 0,.int .i64 0,.slice none 0 0] 24)) w3.heap.size #[.int .i64 0,.int .i64 0,.slice none 0 0] #[.int .i64 0,.int .i64 0,.slice none 0 0] 24 (0,0) (bJ _ _)
  obtain⟨W5,Ul⟩:∃W5,(w3.alloc (.cells #[.int .i64 0,.int .i64 0,.slice none 0 0] 24)).setRow w3.heap.size #[.int .i64 0,.int .i64 0,.slice none 0 0]=W5:=⟨_,rfl⟩
  rw[Ul] at hbs hbx
  try rw[Ul]
  obtain⟨k9,hk9⟩:∃k,w3.heap.size=k:=⟨_,rfl⟩
  have kH:=ah.mk (HB3.out.trans (hbs.mono HB3.out.size));have sP:=ah.mk (aG qQ.out hbs);have HBS:=ah.mk hbs
  have anm:w.heap.size<k9:=by have:=bE qQ.out;omega
  rw[hk9] at hbx
  try rw[hk9]
  have I4:=ah.mk hbx;clear hba hbs hbx Ul HB3 qQ
  go_wp2_with (refine dX (.store 24 (.tmp 5) (.tmp 29)) rfl ?_;refine wpList_store_row rfl 24 (.tmp 5) (.tmp 29) rfl w.heap.size #[.int .i64 0,.int .i64 0,.slice none 0 0] rfl rfl 24 _ sP.out aA (by rfl) (by simp[Value.oneCell']) ?_)
  rw[HO.out];refine bodyPost_ret (oD rfl _ _ w.heap.size #[.int .i64 0,.int .i64 0,.slice none 0 0] _ rfl (setRow_heap _ _ _ _ _ _ sP.out) Tryz.underlying24 rfl aA) rfl ⟨below_setRow kH.out (Nat.le_refl _) _,?_⟩;rfl
 | some q=>
  obtain⟨b0,g0,cs⟩:=q;obtain⟨hen,hbl,hpar,Uv,ano⟩:=Ga hq;subst hen;dsimp only at ho;have hfit:=(vW hpar hb).2.2;have ahw:=Kh Uv hfit;have hcl:=(xP Uv).1;have HFC:=ah.mk hfit;have HCB:=ah.mk ahw;have HL:=ah.mk hl;have HOO:=ah.mk ho;clear ho hl hq hpar Uv ano hfit ahw
  go_enter Tryz.func55,Tryz.ntmps55
  go_upto_region 1 with (fail)
  clear hw1
  go_upto_region 4 with (go_at_call 48;refine HP.out.mono ?_;rintro e w2 ⟨v,rfl,hr2,hbw⟩;obtain⟨Av2,cv2,hv2⟩:=Kd.bG hr2;subst hv2;have HB2:=ah.mk (HB1.out.trans (hbw.mono HB1.out.size));have jG:=ah.mk (aG jY.out hbw);have Ew:=ah.mk (Kd.bT hr2).2.2;have HVC:=(Kd.bT hr2).2.1;clear hbw hr2)
  go_upto_region 5 with (first|(go_at_call 31;refine (HL.out _ HB2.out).mono ?_;rintro e w3 ⟨hb3,v3,rfl,hr3⟩;have HB3:=ah.mk (HB2.out.trans (hb3.mono HB2.out.size));have qQ:=ah.mk (aG jG.out hb3);obtain⟨Ac,cc,hvc⟩:=Kd.bG hr3;subst hvc;have HR3:=ah.mk hr3;have TB:=ah.mk (Kd.aC Ew.out hb3);clear hr3;clear hb3)|(refine dX (.store 24 (.tmp 9) (.tmp 25)) rfl ?_;refine wpList_store_row rfl 24 (.tmp 9) (.tmp 25) rfl _ #[.int .i64 b0,.int .i64 g0,.slice Ac cs.length cc] rfl rfl 24 _ (bJ _ _) aA (by rfl) (by simp[Value.oneCell']) ?_))
  have hba:=(Below.refl w3.heap.size w3).alloc (Nat.le_refl _) (.cells #[.int .i64 0,.int .i64 0,.slice none 0 0] 24);have hbs:=below_setRow hba (Nat.le_refl _) #[.int .i64 b0,.int .i64 g0,.slice Ac cs.length cc];have hbx:=setRow_heap (w3.alloc (.cells #[.int .i64 0,.int .i64 0,.slice none 0 0] 24)) w3.heap.size #[.int .i64 0,.int .i64 0,.slice none 0 0] #[.int .i64 b0,.int .i64 g0,.slice Ac cs.length cc] 24 (0,0) (bJ _ _)
  obtain⟨W5,Ul⟩:∃W5,(w3.alloc (.cells #[.int .i64 0,.int .i64 0,.slice none 0 0] 24)).setRow w3.heap.size #[.int .i64 b0,.int .i64 g0,.slice Ac cs.length cc]=W5:=⟨_,rfl⟩
  rw[Ul] at hbs hbx
  try rw[Ul]
  obtain⟨k9,hk9⟩:∃k,w3.heap.size=k:=⟨_,rfl⟩
  have kH:=ah.mk (HB3.out.trans (hbs.mono HB3.out.size));have sP:=ah.mk (aG qQ.out hbs);have HBS:=ah.mk hbs
  have anm:w.heap.size<k9:=by have:=bE qQ.out;omega
  rw[hk9] at hbx
  try rw[hk9]
  have I4:=ah.mk hbx;clear hba hbs hbx Ul HB3 qQ;have HV5:=ah.mk (Kd.aC TB.out HBS.out);have nD:=ah.mk (Kd.dF HR3.out HBS.out);have anp:=HB2.out.size;clear HR3 TB Ew HBS HL HB2 jG
  go_wp2_with fail
  have hdr:=bA (Below.refl W5.heap.size W5);have hS:W5.drew.cell? ⟨k9,0,none⟩=some (.int .i64 b0):=au hdr (ak I4.out 0)
  obtain⟨Wd,hWd⟩:∃Wd,W5.drew=Wd:=⟨_,rfl⟩
  have hdb:Below W5.heap.size W5 Wd:=hWd▸hdr;have HVd:=ah.mk (Kd.aC HV5.out hdb);have HDB:=ah.mk hdb;clear hdr hdb;refine kY (n:=5) (S:=fun w'=>w'.cell? ⟨k9,0,none⟩=some (.int .i64 b0)) (ds:=[]) (aQ 5 0) aA rfl rfl hS (fun hHeld=>?_);rw[hWd] at hHeld ⊢;clear hWd hS;refine bR 0 31 (aQ 5 1) ?_;refine jv 1 32 (aQ 5 3) rfl hHeld (by rintro w' s0;go_simp;with_reducible rfl) ?_;refine bR 2 33 (aQ 5 7) ?_;refine mG 3 (some 34) (aQ 5 15) (fun K hK=>?_);refine qj Tryz.func49 #[.slice Av2 a0.length cv2] ?_;refine (PT.dR.calls 5 Av2 cv2 a0 (gV a0) Wd HVd.out HVC (PL a0 HA0.out.1 (by have:=HA0.out.2.1;omega) HA0.out.2.2)).mono ?_;rintro e Ws ⟨rfl,⟨n4,rfl⟩⟩;refine⟨_,rfl,hK.out _ _ (au (av (Below.refl _ _) n4) hHeld) (fun hHeld=>?_)⟩;clear hK K;refine fU 34 ?_;refine bR 4 35 (aQ 5 31) ?_;refine kK aA ?_;have HD6:=ah.mk (HDB.out.trans ((av (Below.refl Wd.heap.size Wd) n4).mono HDB.out.size))
  obtain⟨W6,YO⟩:∃W6,Wd.drewN n4=W6:=⟨_,rfl⟩
  rw[YO] at HD6 ⊢;have CP:=ah.mk (aG sP.out HD6.out);have HX6:=ah.mk (aG I4.out HD6.out);have sQ:=ah.mk (kH.out.trans (HD6.out.mono kH.out.size));have uj:=ah.mk (Kd.dF nD.out HD6.out);clear hHeld YO HVd HDB HD6 sP I4 kH nD HV5;by_cases hbe:b0=gV a0
  ·have hbb:(b0 != gV a0)=false:=by rw[hbe];simp
   have ho2:=HOO.out;rw[if_neg (fun h=>h hbe)] at ho2;have hz0:=qp HZ.out;have hsm:=UU hz0.2;have hrd:=Kd.bT uj.out;have hou:=OD A0 c0 old Ac cc b0 g0 cs W6 (Kd.aC HR.out sQ.out) hc hz0.1 hrd.2.2 hrd.2.1 hcl (fun x hx=>(hsm x hx).1) (fun c hx=>(HCB.out c hx).p) (fun x hx=>by have:=hsm x hx;omega) (fun c hx=>by have h1:=(HCB.out c hx).r;have h2:=(HCB.out c hx).d;omega) (uQ HZ.out HF.out) (fun c hx=>(HCB.out c hx).e)
   obtain⟨ol,hol⟩:∃q,qG old cs=q:=⟨_,rfl⟩
   rw[hol] at hou ho2;have HOU:=ah.mk hou;clear hrd hou hbe HOO
   cases ol with
   | none=>
    have HO:=ah.mk ho2.symm;clear ho2 hol hsm hz0
    go_upto_region 10 with (first|(refine dX (.load 24 (.tmp 9)) rfl ?_;refine wpList_load_row rfl _ _ rfl k9 rfl 24 #[.int .i64 b0,.int .i64 g0,.slice Ac cs.length cc] (0,0) _ HX6.out Tryz.underlying24 rfl aA ?_)|(go_at_call 93;refine HOU.out.mono ?_;rintro e w7 ⟨CK,rfl⟩;have Nq:=ah.mk (aG CP.out CK);have Ep:=ah.mk (sQ.out.trans (CK.mono sQ.out.size));clear CK))
    go_wp2_with (refine dX (.store 24 (.tmp 5) (.tmp 45)) rfl ?_;refine wpList_store_row rfl 24 (.tmp 5) (.tmp 45) rfl w.heap.size #[.int .i64 0,.int .i64 0,.slice none 0 0] rfl rfl 24 _ Nq.out aA (by rfl) (by simp[Value.oneCell']) ?_)
    rw[HO.out];refine bodyPost_ret (oD rfl _ _ w.heap.size #[.int .i64 0,.int .i64 0,.slice none 0 0] _ rfl (setRow_heap _ _ _ _ _ _ Nq.out) Tryz.underlying24 rfl aA) rfl ⟨below_setRow Ep.out (Nat.le_refl _) _,?_⟩;rfl
   | some l=>
    have hfl:=D5 HF.out HFC.out HCB.out hol;have hdm:=ah.mk hfl;dsimp only at ho2;clear hol hsm hz0 hfl
    go_upto_region 10 with (first|(refine dX (.load 24 (.tmp 9)) rfl ?_;refine wpList_load_row rfl _ _ rfl k9 rfl 24 #[.int .i64 b0,.int .i64 g0,.slice Ac cs.length cc] (0,0) _ HX6.out Tryz.underlying24 rfl aA ?_)|(go_at_call 93;refine HOU.out.mono ?_;rintro e w7 ⟨CK,v7,rfl,Yl⟩;obtain⟨Al,cl,hvl⟩:=Kd.lG Yl;subst hvl;have HL7:=ah.mk Yl;have Nq:=ah.mk (aG CP.out CK);have HX7:=ah.mk (aG HX6.out CK);have Ep:=ah.mk (sQ.out.trans (CK.mono sQ.out.size));have HR7:=ah.mk (Kd.dF uj.out CK);clear CK Yl))
    have hrd:=Kd.fq HL7.out
    obtain⟨⟨r1,r2⟩,hdf⟩:∃q,kW old l=q:=⟨_,rfl⟩
    rw[hdf] at ho2;dsimp only at ho2;have hdc:=gP.calls A0 c0 old Al cl l r1 r2 w7 (Kd.aC HR.out Ep.out) hc hrd.2.2 hrd.2.1 (by unfold gP.f;rw[if_pos ⟨HF.out,hdm.out⟩,hdf]);have HDC:=ah.mk hdc;clear hrd hdc HOU
    go_upto_region 13 with (go_at_call 18;refine HDC.out.mono ?_;rintro e w8 ⟨v8,rfl,MN,MP⟩;obtain⟨A8,c8,hv8⟩:=Kd.bG MN;subst hv8;have YU:=ah.mk (Kd.bT MN);have Nr:=ah.mk (aG Nq.out MP);have HX8:=ah.mk (aG HX7.out MP);have I7:=ah.mk (Ep.out.trans (MP.mono Ep.out.size));have ahz:=ah.mk (Kd.dF HR7.out MP);have HL8:=ah.mk (Kd.nk HL7.out MP);clear MP MN)
    clear Nq HX7 HR7 HL7 HDC CP HX6 uj;by_cases he2:r2=0
    ·have heb:(r2 != 0)=false:=by rw[he2];rfl
     rw[if_neg (fun h=>h he2)] at ho2;have hby:∀x∈r1,0≤x∧x≤255:=Xn (hdf.trans rfl) HF.out hdm.out HZ.out;have heq:=PT.bytes_Equal.calls A8 c8 r1 A1 c1 b (decide (r1=b)) w8 YU.out.2.2 YU.out.2.1 (Kd.aC HR1.out I7.out) hc1 (by unfold PT.bytes_Equal.f;rw[uW hby hb.2]);by_cases hq:r1=b
     ·rw[if_pos hq] at ho2;rw[decide_eq_true hq] at heq;have HO:=ah.mk ho2.symm;have Py:=ah.mk heq;clear ho2 heq he2 hq hby hdf
      go_upto_region 15 with (go_at_call 62;refine Py.out.mono ?_;rintro e w9 ⟨rfl,⟨n9,rfl⟩⟩)
      obtain⟨W9,hW9⟩:∃W9,w8.drewN n9=W9:=⟨_,rfl⟩
      have Yy:Below w8.heap.size w8 W9:=hW9▸av (Below.refl _ _) n9;rw[hW9];have Jd:=ah.mk (aG Nr.out Yy);have HX9:=ah.mk (aG HX8.out Yy);have FB:=ah.mk (I7.out.trans (Yy.mono I7.out.size));have VA:=ah.mk (Kd.dF ahz.out Yy);have HL9:=ah.mk (Kd.nk HL8.out Yy);clear Yy hW9 Nr HX8 ahz HL8 YU Py;have hdr:=bA (Below.refl W9.heap.size W9)
      have hS:W9.drew.cell? ⟨k9,0,none⟩=some (.int .i64 b0)∧W9.drew.cell? ⟨k9,1,none⟩=some (.int .i64 g0)∧W9.drew.cell? ⟨k9,2,none⟩=some (.slice Ac cs.length cc):=⟨au hdr (ak HX9.out 0),au hdr (ak HX9.out 1),au hdr (ak HX9.out 2)⟩
      obtain⟨Wd,hWd⟩:∃Wd,W9.drew=Wd:=⟨_,rfl⟩
      have hdb:Below W9.heap.size W9 Wd:=hWd▸hdr;have MO:=ah.mk (aG Jd.out hdb);have VB:=ah.mk (FB.out.trans (hdb.mono FB.out.size));have Yo:=ah.mk (Kd.dF VA.out hdb);have HLd:=ah.mk (Kd.nk HL9.out hdb);clear hdr hdb;refine kY (n:=5) (S:=fun w'=>w'.cell? ⟨k9,0,none⟩=some (.int .i64 b0)∧w'.cell? ⟨k9,1,none⟩=some (.int .i64 g0)∧w'.cell? ⟨k9,2,none⟩=some (.slice Ac cs.length cc)) (ds:=[3]) (aQ 5 0) aA rfl rfl hS (fun hHeld=>?_);rw[hWd] at hHeld ⊢;clear hWd hS;refine bR 0 61 (aQ 5 1) ?_;refine jv 1 62 (aQ 5 3) rfl hHeld (by rintro w' ⟨s0,s1,s2⟩;go_simp;with_reducible rfl) ?_;refine bR 2 4 (aQ 5 7) ?_;refine lS (i:=3) (N:=none) (aQ 5 15) rfl rfl aA aD (fun K hK=>?_);rw[if_pos (by rfl)];refine wp_store_row 24 (.tmp 5) (.tmp 62) rfl w.heap.size #[.int .i64 b0,.int .i64 g0,.slice Ac cs.length cc] rfl rfl 24 _ MO.out aA (by rfl) (by simp[Value.oneCell']) ?_;refine hK.out _ _ ?_;clear hK K;refine JH (a':=?_) ?_ ?_;rotate_left
      ·show Act.put _ none _=_
       simp only[Act.put];rfl
      refine bR 4 6 (aQ 5 31) ?_;refine kK aA ?_
      go_wp2_with fail
      rw[HO.out];have h2w:=anp;have h6w:=sQ.out.size;refine bodyPost_ret (oD rfl _ _ w.heap.size #[.int .i64 b0,.int .i64 g0,.slice Ac cs.length cc] _ rfl (setRow_heap _ _ _ _ _ _ MO.out) Tryz.underlying24 rfl aA) rfl ⟨below_setRow VB.out (Nat.le_refl _) _,_,_,rfl,?_,?_⟩
      ·exact yh (Kd.BF HLd.out h6w) MO.out aD _
      exact ku (J2 Yo.out h2w) MO.out aD _
     rw[if_neg hq] at ho2;rw[decide_eq_false hq] at heq;have HO:=ah.mk ho2.symm;have Py:=ah.mk heq;clear ho2 heq he2 hq hby hdf
     go_upto_region 14 with (go_at_call 62;refine Py.out.mono ?_;rintro e w9 ⟨rfl,⟨n9,rfl⟩⟩)
     have Yy:Below w8.heap.size w8 (w8.drewN n9):=av (Below.refl _ _) n9;have Jd:=ah.mk (aG Nr.out Yy);have FB:=ah.mk (I7.out.trans (Yy.mono I7.out.size));clear Yy
     go_wp2_with (refine dX (.store 24 (.tmp 5) (.tmp 60)) rfl ?_;refine wpList_store_row rfl 24 (.tmp 5) (.tmp 60) rfl w.heap.size #[.int .i64 0,.int .i64 0,.slice none 0 0] rfl rfl 24 _ Jd.out aA (by rfl) (by simp[Value.oneCell']) ?_)
     rw[HO.out];refine bodyPost_ret (oD rfl _ _ w.heap.size #[.int .i64 0,.int .i64 0,.slice none 0 0] _ rfl (setRow_heap _ _ _ _ _ _ Jd.out) Tryz.underlying24 rfl aA) rfl ⟨below_setRow FB.out (Nat.le_refl _) _,?_⟩;rfl
    have heb:(r2 != 0)=true:=bne_iff_ne.2 he2;rw[if_pos he2] at ho2;have HO:=ah.mk ho2.symm;clear ho2 he2 hdf
    go_upto_region 14 with (fail)
    go_wp2_with (refine dX (.store 24 (.tmp 5) (.tmp 60)) rfl ?_;refine wpList_store_row rfl 24 (.tmp 5) (.tmp 60) rfl w.heap.size #[.int .i64 0,.int .i64 0,.slice none 0 0] rfl rfl 24 _ Nr.out aA (by rfl) (by simp[Value.oneCell']) ?_)
    rw[HO.out];refine bodyPost_ret (oD rfl _ _ w.heap.size #[.int .i64 0,.int .i64 0,.slice none 0 0] _ rfl (setRow_heap _ _ _ _ _ _ Nr.out) Tryz.underlying24 rfl aA) rfl ⟨below_setRow I7.out (Nat.le_refl _) _,?_⟩;rfl
  have hbb:(b0 != gV a0)=true:=bne_iff_ne.2 hbe;have ho2:=HOO.out;rw[if_pos hbe] at ho2;have HO:=ah.mk ho2.symm;clear ho2 hbe
  go_wp2_with (refine dX (.store 24 (.tmp 5) (.tmp 36)) rfl ?_;refine wpList_store_row rfl 24 (.tmp 5) (.tmp 36) rfl w.heap.size #[.int .i64 0,.int .i64 0,.slice none 0 0] rfl rfl 24 _ CP.out aA (by rfl) (by simp[Value.oneCell']) ?_)
  rw[HO.out];refine bodyPost_ret (oD rfl _ _ w.heap.size #[.int .i64 0,.int .i64 0,.slice none 0 0] _ rfl (setRow_heap _ _ _ _ _ _ CP.out) Tryz.underlying24 rfl aA) rfl ⟨below_setRow sQ.out (Nat.le_refl _) _,?_⟩;rfl
def byB (l:List Int):Bool:=decide (l.length≤1073741824) && l.all fun x=>decide (0≤x) && decide (x≤255)
theorem Xo {l:List Int} (h:byB l=true):By l:=by
 unfold byB at h;simp only[Bool.and_eq_true,decide_eq_true_eq,List.all_eq_true] at h;exact h
theorem of_by {l:List Int} (h:By l):byB l=true:=by
 unfold byB;simp only[Bool.and_eq_true,decide_eq_true_eq,List.all_eq_true];exact h
def wu (old:List It) (b:List Int):List It × Int:=match jw old b with
 | (none,n)=>([],n)
 | (some (l,_,_,_),n)=>(l,n)
def Kt (old:List It) (b:List Int):List Int × Int:=match jw old b with
 | (none,n)=>([],n)
 | (some (l,_,_,_),_)=>kW l old
def fu.f (l0:List It) (l1:List Int):Option (List It × Int):=if l0.all nO=true∧byB l1=true then some (wu l0 l1) else none
def jq.f (l0:List It) (l1:List Int):Option (List Int × Int):=if l0.all nO=true∧byB l1=true then some (Kt l0 l1) else none
theorem zJ {old:List It} {b:List Int} {n:Int} (h:jw old b=(none,n)):n≠0∧((bY old).2=0→n=7∨n=180∨n=181):=by
 unfold jw at h;split at h
 ·rename_i h1
  injection h with _ h
  subst h;exact⟨h1,fun h=>absurd h h1⟩
 split at h
 ·rename_i e hl
  injection h with _ h
  subst h
  rcases Gb hl with rfl|rfl
  ·exact⟨by decide,fun _=>.inl rfl⟩
  exact⟨by decide,fun _=>.inr (.inl rfl)⟩
 split at h
 ·injection h with _ h
  subst h;exact⟨by decide,fun _=>.inr (.inr rfl)⟩
 split at h
 ·injection h with _ h
  subst h;exact⟨by decide,fun _=>.inr (.inl rfl)⟩
 split at h
 ·injection h with _ h
  subst h;exact⟨by decide,fun _=>.inr (.inl rfl)⟩
 split at h
 ·injection h with h
  cases h
 injection h with _ h
 subst h;exact⟨by decide,fun _=>.inr (.inl rfl)⟩
theorem zK {old l:List It} {b:List Int} {b0 g0 n:Int} {cs:List Ch} (h:jw old b=(some (l,b0,g0,cs),n)):n=0∧(bY old).2=0∧(∃e,vk b=(some (b0,g0,cs),e))∧qG old cs=some l∧kW old l=(b,0):=by
 unfold jw at h;split at h
 ·injection h with h;cases h
 rename_i h1;split at h
 ·injection h with h;cases h
 rename_i b1 g1 cs1 e hl;split at h
 ·injection h with h;cases h
 split at h
 ·injection h with h;cases h
 rename_i l1 ho;split at h
 ·injection h with h;cases h
 rename_i h2;split at h
 ·rename_i h3
  injection h with h h4
  injection h with h
  injection h with e1 h
  injection h with e2 h
  injection h with e3 e4
  subst e1 e2 e3 e4;exact⟨h4.symm,Decidable.not_not.1 h1,⟨_,hl⟩,ho,by rw[← h3,← Decidable.not_not.1 h2]⟩
 injection h with h;cases h
theorem LY {old l:List It} {b:List Int} {b0 g0 n:Int} {cs:List Ch} (h:jw old b=(some (l,b0,g0,cs),n)) (hf:old.all nO=true) (hb:By b):l.all nO=true:=by
 obtain⟨_,_,⟨e,hl⟩,ho,_⟩:=zK h;obtain⟨_,_,hp,hk,_⟩:=Ga hl;exact D5 hf (vW hp hb).2.2 (Kh hk (vW hp hb).2.2) ho
theorem fu.calls (A0:Option Addr) (c0:Nat) (l0:List It) (A1:Option Addr) (c1:Nat) (l1:List Int) (r1:List It) (r2:Int) (w:World) (hr0:Kd.C om w A0 l0.length l0) (hc0:l0.length≤c0) (hr1:Kd.C (Kd.int .u8) w A1 l1.length l1) (hc1:l1.length≤c1)
  (h:fu.f l0 l1=some (r1,r2)) :
  Calls Tryz.prog 22 #[.slice A0 l0.length c0,.slice A1 l1.length c1] w fun e w'=>∃xq:Value,e=.returned (.tuple #[xq,.int .i64 r2])∧Kd.S om 29 w' w.heap.size (fun _=>True) xq r1∧Below w.heap.size w w':=by
 unfold fu.f at h;by_cases hf:l0.all nO=true∧byB l1=true
 ·rw[if_pos hf] at h;have hm:=Option.some.inj h;unfold wu at hm;have hap:=Ea A0 c0 l0 A1 c1 l1 w hr0 hc0 hr1 hc1 hf.1 (Xo hf.2)
  obtain⟨⟨q,n⟩,hq⟩:∃q,jw l0 l1=q:=⟨_,rfl⟩
  rw[hq] at hm hap;have HP:=ah.mk hap
  cases q with
  | none=>
   injection hm with e1 e2
   subst e1 e2;clear h hf hap hq
   go_enter Tryz.func22,Tryz.ntmps22
   go_wp2_with (first|(go_at_call 55;refine HP.out.mono ?_;rintro e w2 ⟨hb2,rfl⟩;have HB2:=ah.mk hb2;clear hb2)|(refine dX (.store 24 (.tmp 7) (.tmp 14)) rfl ?_;refine wpList_store_row rfl 24 (.tmp 7) (.tmp 14) rfl _ #[.int .i64 0,.int .i64 0,.slice none 0 0] rfl rfl 24 _ (bJ _ _) aA (by rfl) (by simp[Value.oneCell']) ?_))
   go_ret2
   exact⟨_,rfl,Kd.Gd _ _ _ _ _,below_setRow (HB2.out.alloc HB2.out.size _) HB2.out.size _⟩
  | some q=>
   obtain⟨l,b0,g0,cs⟩:=q
   injection hm with e1 e2
   subst e1 e2;clear h hf hap hq
   go_enter Tryz.func22,Tryz.ntmps22
   go_wp2_with (first|(go_at_call 55;refine HP.out.mono ?_;rintro e w2 ⟨hb2,v,vp,rfl,hv,hvp⟩;obtain⟨Av,cv,hvs⟩:=Kd.lG hv;obtain⟨Ap,cp,adZ⟩:=Kd.bG hvp;subst hvs adZ;have HB2:=ah.mk hb2;have HV:=ah.mk hv;clear hb2 hv hvp)|(refine dX (.store 24 (.tmp 7) (.tmp 14)) rfl ?_;refine wpList_store_row rfl 24 (.tmp 7) (.tmp 14) rfl _ #[.int .i64 b0,.int .i64 g0,.slice Ap cs.length cp] rfl rfl 24 _ (bJ _ _) aA (by rfl) (by simp[Value.oneCell']) ?_))
   go_ret2
   exact⟨_,rfl,yh (Kd.mq HV.out _) (bJ _ _) aD _,below_setRow (HB2.out.alloc HB2.out.size _) HB2.out.size _⟩
 rw[if_neg hf] at h;cases h
theorem jq.calls (A0:Option Addr) (c0:Nat) (l0:List It) (A1:Option Addr) (c1:Nat) (l1:List Int) (r1:List Int) (r2:Int) (w:World) (hr0:Kd.C om w A0 l0.length l0) (hc0:l0.length≤c0) (hr1:Kd.C (Kd.int .u8) w A1 l1.length l1) (hc1:l1.length≤c1)
  (h:jq.f l0 l1=some (r1,r2)) :
  Calls Tryz.prog 30 #[.slice A0 l0.length c0,.slice A1 l1.length c1] w fun e w'=>∃xq:Value,e=.returned (.tuple #[xq,.int .i64 r2])∧Kd.R (Kd.int .u8) 5 w' w.heap.size (fun _=>True) xq r1∧Below w.heap.size w w':=by
 unfold jq.f at h;by_cases hf:l0.all nO=true∧byB l1=true
 ·rw[if_pos hf] at h;have hm:=Option.some.inj h;unfold Kt at hm;have hap:=Ea A0 c0 l0 A1 c1 l1 w hr0 hc0 hr1 hc1 hf.1 (Xo hf.2)
  obtain⟨⟨q,n⟩,hq⟩:∃q,jw l0 l1=q:=⟨_,rfl⟩
  rw[hq] at hm hap;have HP:=ah.mk hap
  cases q with
  | none=>
   injection hm with e1 e2
   subst e1 e2;have hbn:(n != 0)=true:=bne_iff_ne.2 (zJ hq).1;clear h hf hap hq
   go_enter Tryz.func30,Tryz.ntmps30
   go_wp2_with (first|(go_at_call 55;refine HP.out.mono ?_;rintro e w2 ⟨hb2,rfl⟩;have HB2:=ah.mk hb2;clear hb2)|(refine dX (.store 24 (.tmp 7) (.tmp 14)) rfl ?_;refine wpList_store_row rfl 24 (.tmp 7) (.tmp 14) rfl _ #[.int .i64 0,.int .i64 0,.slice none 0 0] rfl rfl 24 _ (bJ _ _) aA (by rfl) (by simp[Value.oneCell']) ?_))
   go_ret2
   exact⟨_,rfl,Kd.eY _ _ _ _ _,below_setRow (HB2.out.alloc HB2.out.size _) HB2.out.size _⟩
  | some q=>
   obtain⟨l,b0,g0,cs⟩:=q;have hn:=(zK hq).1;subst hn;dsimp only at hm;have hlf:=LY hq hf.1 (Xo hf.2);have HM:=ah.mk hm;have HF:=ah.mk (And.intro hlf hf.1);have qP:=ah.mk hr0;clear h hf hap hq hm hlf hr0
   go_enter Tryz.func30,Tryz.ntmps30
   go_upto_region 2 with (first|(go_at_call 55;refine HP.out.mono ?_;rintro e w2 ⟨hb2,v,vp,rfl,hv,hvp⟩;obtain⟨Av,cv,hvs⟩:=Kd.lG hv;obtain⟨Ap,cp,adZ⟩:=Kd.bG hvp;subst hvs adZ;have HB2:=ah.mk hb2;have HV:=ah.mk hv;clear hb2 hv hvp)|(refine dX (.store 24 (.tmp 7) (.tmp 14)) rfl ?_;refine wpList_store_row rfl 24 (.tmp 7) (.tmp 14) rfl _ #[.int .i64 b0,.int .i64 g0,.slice Ap cs.length cp] rfl rfl 24 _ (bJ _ _) aA (by rfl) (by simp[Value.oneCell']) ?_))
   obtain⟨W3,hW3⟩:∃W3,(w2.alloc (.cells #[.int .i64 0,.int .i64 0,.slice none 0 0] 24)).setRow w2.heap.size #[.int .i64 b0,.int .i64 g0,.slice Ap cs.length cp]=W3:=⟨_,rfl⟩
   have hv3:Kd.S om 29 W3 w.heap.size (fun _=>True) (.slice Av l.length cv) l:=hW3▸yh (Kd.mq HV.out _) (bJ _ _) aD _;have hb3:Below w.heap.size w W3:=hW3▸below_setRow (HB2.out.alloc HB2.out.size _) HB2.out.size _
   try rw[hW3]
   have hrd:=Kd.fq hv3;have hdc:=gP.calls Av cv l A0 c0 l0 r1 r2 W3 hrd.2.2 hrd.2.1 (Kd.aC qP.out hb3) hc0 (by unfold gP.f;rw[if_pos HF.out,HM.out]);have HDC:=ah.mk hdc;have HB3:=ah.mk hb3;clear hW3 hv3 hb3 hrd hdc HV HB2
   go_wp2_with (go_at_call 18;refine HDC.out.mono ?_;rintro e w4 ⟨v4,rfl,hr4,hb4⟩;have HR4:=ah.mk hr4;have kJ:=ah.mk hb4;clear hr4 hb4)
   go_ret2
   exact⟨_,rfl,Kd.fQ HR4.out HB3.out.size,HB3.out.trans (kJ.out.mono HB3.out.size)⟩
 rw[if_neg hf] at h;cases h
end Go.Proofs.YtknihldkhedpkaaGreatDoor
end
section
namespace Go.Proofs.YtknihldkhedpkaaGreatDoor.PT
open Go.RowKit Go.Proofs.YtknihldkhedpkaaGreatDoorW.PrintWords Go.Proofs.YtknihldkhedpkaaGreatDoorW.PrintLast Go.Proofs.YtknihldkhedpkaaGreatDoorW.PrintMore
attribute [local go_sem] oJ oK rC rD mW mX oL oM
def fK.f (k:Nat)  : Option (Bool):=(gP.f ([]:List (nI)) (([(⟨2,(⟨#[47,100]⟩:ByteArray),(⟨#[]⟩:ByteArray),0,([]:List (dI)),([]:List Int)⟩:nI)]:List (nI)))).bind fun yj=>((aV.f k yj.1).bind fun Ca=>((fu.f ([]:List (nI)) Ca).bind fun dZ=>((bL.f yj.2).bind fun tX=>(if tX=0 then ((dH.f yj.1 (([118,108,112,97,116,99,104,1,248,16,120,206,14,116,215,206,2,2,2,0,47,100,0,1,0,0,0,24,215,104,152]:List Int))).bind fun wz=>(if wz=true then ((bL.f dZ.2).bind fun t206=>(if t206=0 then (if (dZ.1.length:Int)=1 then (if 0<(dZ.1.length:Int) then ((bM.f ((aJ dZ.1 0).f0) ((aJ dZ.1 0).f1) ((aJ dZ.1 0).f2) ((aJ dZ.1 0).f3) ((aJ dZ.1 0).f4) ((aJ dZ.1 0).f5) 2 (⟨#[47,100]⟩:ByteArray) (⟨#[]⟩:ByteArray) 0 ([]:List (dI)) ([]:List Int)).bind fun t208=>(some t208)) else (none)) else (some false)) else (some false))) else (some false))) else (some false)))))
theorem fK.mono:∀k,bW (fK.f k ) (fK.f (k+1) ):=by
 intro  k;unfold fK.f
 repeat' first
   | (with_reducible exact aV.mono _ _)
   | (with_reducible exact bW.refl _)
   | (with_reducible exact bW.none _)
   | (with_reducible refine bW.ite ?_ ?_)
   | (with_reducible refine bW.bind ?_ (fun _=>?_))
   | exact aV.mono _ _
   | exact bW.none _
   | refine bW.ite ?_ ?_
   | refine bW.bind ?_ (fun _=>?_)
theorem fK.calls (k:Nat)  (w:World) (h:fK.f k=some true) :
  Calls Tryz.prog 11 #[] w fun e w'=>e=.returned (.bool true)∧Below w.heap.size w w':=by
 have Qq:=Tryz.underlying29;have HB:=ah.mk (Below.refl w.heap.size w);have H:((gP.f ([]:List (nI)) (([(⟨2,(⟨#[47,100]⟩:ByteArray),(⟨#[]⟩:ByteArray),0,([]:List (dI)),([]:List Int)⟩:nI)]:List (nI)))).bind fun yj=>((aV.f k yj.1).bind fun Ca=>((fu.f ([]:List (nI)) Ca).bind fun dZ=>((bL.f yj.2).bind fun tX=>(if tX=0 then ((dH.f yj.1 (([118,108,112,97,116,99,104,1,248,16,120,206,14,116,215,206,2,2,2,0,47,100,0,1,0,0,0,24,215,104,152]:List Int))).bind fun wz=>(if wz=true then ((bL.f dZ.2).bind fun t206=>(if t206=0 then (if (dZ.1.length:Int)=1 then (if 0<(dZ.1.length:Int) then ((bM.f ((aJ dZ.1 0).f0) ((aJ dZ.1 0).f1) ((aJ dZ.1 0).f2) ((aJ dZ.1 0).f3) ((aJ dZ.1 0).f4) ((aJ dZ.1 0).f5) 2 (⟨#[47,100]⟩:ByteArray) (⟨#[]⟩:ByteArray) 0 ([]:List (dI)) ([]:List Int)).bind fun t208=>(some t208)) else (none)) else (some false)) else (some false))) else (some false))) else (some false))))))=some true:=h;clear h
 obtain⟨ad4,OH⟩:∃y_:List (nI),y_=(([(⟨2,(⟨#[47,100]⟩:ByteArray),(⟨#[]⟩:ByteArray),0,([]:List (dI)),([]:List Int)⟩:nI)]:List (nI))):=⟨_,rfl⟩
 replace H:((gP.f ([]:List (nI)) ad4).bind fun yj=>((aV.f k yj.1).bind fun Ca=>((fu.f ([]:List (nI)) Ca).bind fun dZ=>((bL.f yj.2).bind fun tX=>(if tX=0 then ((dH.f yj.1 (([118,108,112,97,116,99,104,1,248,16,120,206,14,116,215,206,2,2,2,0,47,100,0,1,0,0,0,24,215,104,152]:List Int))).bind fun wz=>(if wz=true then ((bL.f dZ.2).bind fun t206=>(if t206=0 then (if (dZ.1.length:Int)=1 then (if 0<(dZ.1.length:Int) then ((bM.f ((aJ dZ.1 0).f0) ((aJ dZ.1 0).f1) ((aJ dZ.1 0).f2) ((aJ dZ.1 0).f3) ((aJ dZ.1 0).f4) ((aJ dZ.1 0).f5) 2 (⟨#[47,100]⟩:ByteArray) (⟨#[]⟩:ByteArray) 0 ([]:List (dI)) ([]:List Int)).bind fun t208=>(some t208)) else (none)) else (some false)) else (some false))) else (some false))) else (some false))))))=some true:=by first|(rw[OH];with_reducible exact H)|(have Ai:=(Option.bind_some _ _).symm.trans H;rw[OH];with_reducible exact Ai)|(have Ai:=(Option.bind_some _ _).symm.trans H;with_reducible exact Ai)|with_reducible exact H|(rw[OH];exact H)|exact H
 have acf:=ah.mk OH;clear OH;replace H:=Option.bind_eq_some_iff.mp H;obtain⟨⟨GK,Rh⟩,A10,H⟩:=H;replace H:((aV.f k GK).bind fun Ca=>((fu.f ([]:List (nI)) Ca).bind fun dZ=>((bL.f Rh).bind fun tX=>(if tX=0 then ((dH.f GK (([118,108,112,97,116,99,104,1,248,16,120,206,14,116,215,206,2,2,2,0,47,100,0,1,0,0,0,24,215,104,152]:List Int))).bind fun wz=>(if wz=true then ((bL.f dZ.2).bind fun t206=>(if t206=0 then (if (dZ.1.length:Int)=1 then (if 0<(dZ.1.length:Int) then ((bM.f ((aJ dZ.1 0).f0) ((aJ dZ.1 0).f1) ((aJ dZ.1 0).f2) ((aJ dZ.1 0).f3) ((aJ dZ.1 0).f4) ((aJ dZ.1 0).f5) 2 (⟨#[47,100]⟩:ByteArray) (⟨#[]⟩:ByteArray) 0 ([]:List (dI)) ([]:List Int)).bind fun t208=>(some t208)) else (none)) else (some false)) else (some false))) else (some false))) else (some false)))))=some true:=H;have A1:=ah.mk A10;clear A10
 obtain⟨Xp,OJ⟩:∃y_:List Int,y_=(([118,108,112,97,116,99,104,1,248,16,120,206,14,116,215,206,2,2,2,0,47,100,0,1,0,0,0,24,215,104,152]:List Int)):=⟨_,rfl⟩
 replace H:((aV.f k GK).bind fun Ca=>((fu.f ([]:List (nI)) Ca).bind fun dZ=>((bL.f Rh).bind fun tX=>(if tX=0 then ((dH.f GK Xp).bind fun wz=>(if wz=true then ((bL.f dZ.2).bind fun t206=>(if t206=0 then (if (dZ.1.length:Int)=1 then (if 0<(dZ.1.length:Int) then ((bM.f ((aJ dZ.1 0).f0) ((aJ dZ.1 0).f1) ((aJ dZ.1 0).f2) ((aJ dZ.1 0).f3) ((aJ dZ.1 0).f4) ((aJ dZ.1 0).f5) 2 (⟨#[47,100]⟩:ByteArray) (⟨#[]⟩:ByteArray) 0 ([]:List (dI)) ([]:List Int)).bind fun t208=>(some t208)) else (none)) else (some false)) else (some false))) else (some false))) else (some false)))))=some true:=by first|(rw[OJ];with_reducible exact H)|(have Ai:=(Option.bind_some _ _).symm.trans H;rw[OJ];with_reducible exact Ai)|(have Ai:=(Option.bind_some _ _).symm.trans H;with_reducible exact Ai)|with_reducible exact H|(rw[OJ];exact H)|exact H
 have acg:=ah.mk OJ;clear OJ;replace H:=Option.bind_eq_some_iff.mp H;obtain⟨Ca,Sz,H⟩:=H;replace H:((fu.f ([]:List (nI)) Ca).bind fun dZ=>((bL.f Rh).bind fun tX=>(if tX=0 then ((dH.f GK Xp).bind fun wz=>(if wz=true then ((bL.f dZ.2).bind fun t206=>(if t206=0 then (if (dZ.1.length:Int)=1 then (if 0<(dZ.1.length:Int) then ((bM.f ((aJ dZ.1 0).f0) ((aJ dZ.1 0).f1) ((aJ dZ.1 0).f2) ((aJ dZ.1 0).f3) ((aJ dZ.1 0).f4) ((aJ dZ.1 0).f5) 2 (⟨#[47,100]⟩:ByteArray) (⟨#[]⟩:ByteArray) 0 ([]:List (dI)) ([]:List Int)).bind fun t208=>(some t208)) else (none)) else (some false)) else (some false))) else (some false))) else (some false))))=some true:=H;have A2:=ah.mk Sz;clear Sz;replace H:=Option.bind_eq_some_iff.mp H;obtain⟨⟨iF,t201⟩,SB,H⟩:=H;replace H:((bL.f Rh).bind fun tX=>(if tX=0 then ((dH.f GK Xp).bind fun wz=>(if wz=true then ((bL.f t201).bind fun t206=>(if t206=0 then (if (iF.length:Int)=1 then (if 0<(iF.length:Int) then ((bM.f ((aJ iF 0).f0) ((aJ iF 0).f1) ((aJ iF 0).f2) ((aJ iF 0).f3) ((aJ iF 0).f4) ((aJ iF 0).f5) 2 (⟨#[47,100]⟩:ByteArray) (⟨#[]⟩:ByteArray) 0 ([]:List (dI)) ([]:List Int)).bind fun t208=>(some t208)) else (none)) else (some false)) else (some false))) else (some false))) else (some false)))=some true:=H;have A3:=ah.mk SB;clear SB;replace H:=Option.bind_eq_some_iff.mp H;obtain⟨tX,SQ,H⟩:=H;replace H:(if tX=0 then ((dH.f GK Xp).bind fun wz=>(if wz=true then ((bL.f t201).bind fun t206=>(if t206=0 then (if (iF.length:Int)=1 then (if 0<(iF.length:Int) then ((bM.f ((aJ iF 0).f0) ((aJ iF 0).f1) ((aJ iF 0).f2) ((aJ iF 0).f3) ((aJ iF 0).f4) ((aJ iF 0).f5) 2 (⟨#[47,100]⟩:ByteArray) (⟨#[]⟩:ByteArray) 0 ([]:List (dI)) ([]:List Int)).bind fun t208=>(some t208)) else (none)) else (some false)) else (some false))) else (some false))) else (some false))=some true:=H;have A4:=ah.mk SQ;clear SQ;by_cases c5:tX=0
 ·rw[if_pos c5] at H;have Gc:(tX == 0)=true:=beq_iff_eq.mpr c5;have Zf:(tX != 0)=false:=bne_eq_false_iff_eq.mpr c5;clear c5;replace H:=Option.bind_eq_some_iff.mp H;obtain⟨wz,A60,H⟩:=H;replace H:(if wz=true then ((bL.f t201).bind fun t206=>(if t206=0 then (if (iF.length:Int)=1 then (if 0<(iF.length:Int) then ((bM.f ((aJ iF 0).f0) ((aJ iF 0).f1) ((aJ iF 0).f2) ((aJ iF 0).f3) ((aJ iF 0).f4) ((aJ iF 0).f5) 2 (⟨#[47,100]⟩:ByteArray) (⟨#[]⟩:ByteArray) 0 ([]:List (dI)) ([]:List Int)).bind fun t208=>(some t208)) else (none)) else (some false)) else (some false))) else (some false))=some true:=H;have A6:=ah.mk A60;clear A60;by_cases c7:wz=true
  ·subst c7
   have H1:((bL.f t201).bind fun t206=>(if t206=0 then (if (iF.length:Int)=1 then (if 0<(iF.length:Int) then ((bM.f ((aJ iF 0).f0) ((aJ iF 0).f1) ((aJ iF 0).f2) ((aJ iF 0).f3) ((aJ iF 0).f4) ((aJ iF 0).f5) 2 (⟨#[47,100]⟩:ByteArray) (⟨#[]⟩:ByteArray) 0 ([]:List (dI)) ([]:List Int)).bind fun t208=>(some t208)) else (none)) else (some false)) else (some false)))=some true:=by rw[if_pos rfl] at H;exact H
   clear H;have H:=H1;clear H1;replace H:=Option.bind_eq_some_iff.mp H;obtain⟨t206,A80,H⟩:=H;replace H:(if t206=0 then (if (iF.length:Int)=1 then (if 0<(iF.length:Int) then ((bM.f ((aJ iF 0).f0) ((aJ iF 0).f1) ((aJ iF 0).f2) ((aJ iF 0).f3) ((aJ iF 0).f4) ((aJ iF 0).f5) 2 (⟨#[47,100]⟩:ByteArray) (⟨#[]⟩:ByteArray) 0 ([]:List (dI)) ([]:List Int)).bind fun t208=>(some t208)) else (none)) else (some false)) else (some false))=some true:=H;have A8:=ah.mk A80;clear A80;by_cases c9:t206=0
   ·rw[if_pos c9] at H;have LZ:(t206 == 0)=true:=beq_iff_eq.mpr c9;have ad5:(t206 != 0)=false:=bne_eq_false_iff_eq.mpr c9;clear c9;by_cases c10:(iF.length:Int)=1
    ·rw[if_pos c10] at H;have GL:((iF.length:Int) == 1)=true:=beq_iff_eq.mpr c10;have ahB:((iF.length:Int) != 1)=false:=bne_eq_false_iff_eq.mpr c10;clear c10
     by_cases c11:0<(iF.length:Int)
     ·rw[if_pos c11] at H;have Xq:decide (0<(iF.length:Int))=true:=decide_eq_true c11;have ap6:decide (0<iF.length)=true:=decide_eq_true aj;clear c11;replace H:=Option.bind_eq_some_iff.mp H;obtain⟨t208,ahC,H⟩:=H;replace H:(some t208)=some true:=H;have A12:=ah.mk ahC;clear ahC;have HQ_:=ah.mk (Option.some.inj H)
      go_enter Tryz.func11,Tryz.ntmps11
      go_wp2_with (first|((with_reducible refine fJ (N:=8) rfl ?_);(try (refine GN (by rfl) ?_;dsimp only));refine Kd.ahD om _ 29 ?hg (N:=8) ?hd (xs:=([(⟨2,(⟨#[47,100]⟩:ByteArray),(⟨#[]⟩:ByteArray),0,([]:List (dI)),([]:List Int)⟩:nI)]:List (nI))) (inner:=[.int .i64 2,.string (⟨#[47,100]⟩:ByteArray),.string (⟨#[]⟩:ByteArray),.int .i64 0,.slice none 0 0,.slice none 0 0]) (ok:=fun _=>True) (vG:=fun _=>True) ?hr ?hp (fun _ hk=>hk) trivial (Below.refl _ _) (Nat.le_refl _) bK ?_;(case hd=>rfl);(case hg=>rfl);(case hr=>first|(go_simp;done)|(go_simp;rfl));(case hp=>exact (dO.c6 (show Kd.M om _ _ _ (⟨2,(⟨#[47,100]⟩:ByteArray),(⟨#[]⟩:ByteArray),0,([]:List (dI)),([]:List Int)⟩:nI) [.int .i64 2,.string (⟨#[47,100]⟩:ByteArray),.string (⟨#[]⟩:ByteArray),.int .i64 0,.slice none 0 0,.slice none 0 0] from (vM _ _ _ (⟨2,(⟨#[47,100]⟩:ByteArray),(⟨#[]⟩:ByteArray),0,([]:List (dI)),([]:List Int)⟩:nI) (Kd.eY _ _ _ _ _) (Kd.eY _ _ _ _ _))) (dO.none _ _)));intro asT w13 Xr hb hg_ Xt;clear hg_ Xt;(first|rw[← acf.out] at Xr|(simp only[Int.reduceToNat] at Xr;rw[← acf.out] at Xr));have fD:=ah.mk (Kd.BF Xr (bB dL));have gy:=ah.mk (bO dL hb);clear HB;have pY:=fD;have HB:=gy;clear fD gy;clear hb Xr;obtain⟨anx,anz,anA⟩:=Kd.lG pY.out;subst anA)|((with_reducible refine gu (f:=18) rfl ?_);refine oz (some 9) rfl rfl Tryz.func18 aA rfl #[.slice none 0 0,.slice anx ad4.length anz] rfl nT ?_;(refine (gP.calls _ _ ([]:List (nI)) _ _ ad4 GK Rh _ ?jy ?jA ?tF ?tH A1.out).mono ?_);(case jy=>exact Kd.OL _ _);(case jA=>exact Nat.le_refl _);(case tF=>repeat (first|exact (Kd.fq pY.out).2.2|(with_reducible refine Kd.eO ?_ _)|(with_reducible refine Kd.dV ?_ _)|(with_reducible refine Kd.gL ?_)));(case tH=>exact (Kd.fq pY.out).2.1);rintro e w16 ⟨asU,rfl,ho0,hb⟩;refine⟨_,rfl,?_⟩;have fD:=ah.mk (Kd.xW (by (with_reducible repeat (first|apply Kd.mq|apply Kd.nY|apply Kd.qW));exact pY.out) (Kd.sV ho0) hb);have gy:=ah.mk (Kd.fQ ho0 (bB dL));have iE:=ah.mk (bO dL hb);clear pY;clear HB;have pY:=fD;have oI:=gy;have HB:=iE;clear fD gy iE;(try clear hb);(try clear hb2);(try clear hk);(try clear hi);(try clear ho0))|((with_reducible refine fJ (N:=12) rfl ?_);(try (refine GN (by rfl) ?_;dsimp only));refine Kd.ach (Kd.int .u8) _ 5 ?hg (N:=12) ?hd (xs:=([118,108,112,97,116,99,104,1,248,16,120,206,14,116,215,206,2,2,2,0,47,100,0,1,0,0,0,24,215,104,152]:List Int)) (inner:=[.int .u8 118,.int .u8 108,.int .u8 112,.int .u8 97,.int .u8 116,.int .u8 99,.int .u8 104,.int .u8 1,.int .u8 248,.int .u8 16,.int .u8 120,.int .u8 206,.int .u8 14,.int .u8 116,.int .u8 215,.int .u8 206,.int .u8 2,.int .u8 2,.int .u8 2,.int .u8 0,.int .u8 47,.int .u8 100,.int .u8 0,.int .u8 1,.int .u8 0,.int .u8 0,.int .u8 0,.int .u8 24,.int .u8 215,.int .u8 104,.int .u8 152]) (ok:=fun _=>True) (vG:=fun _=>True) ?hr ?hp (fun _ hk=>hk) trivial (Below.refl _ _) (Nat.le_refl _) bK ?_;(case hd=>rfl);(case hg=>rfl);(case hr=>first|(go_simp;done)|(go_simp;rfl));(case hp=>exact (dO.one (show Kd.M (Kd.int .u8) _ _ _ 118 [.int .u8 118] from rfl) (dO.one (show Kd.M (Kd.int .u8) _ _ _ 108 [.int .u8 108] from rfl) (dO.one (show Kd.M (Kd.int .u8) _ _ _ 112 [.int .u8 112] from rfl) (dO.one (show Kd.M (Kd.int .u8) _ _ _ 97 [.int .u8 97] from rfl) (dO.one (show Kd.M (Kd.int .u8) _ _ _ 116 [.int .u8 116] from rfl) (dO.one (show Kd.M (Kd.int .u8) _ _ _ 99 [.int .u8 99] from rfl) (dO.one (show Kd.M (Kd.int .u8) _ _ _ 104 [.int .u8 104] from rfl) (dO.one (show Kd.M (Kd.int .u8) _ _ _ 1 [.int .u8 1] from rfl) (dO.one (show Kd.M (Kd.int .u8) _ _ _ 248 [.int .u8 248] from rfl) (dO.one (show Kd.M (Kd.int .u8) _ _ _ 16 [.int .u8 16] from rfl) (dO.one (show Kd.M (Kd.int .u8) _ _ _ 120 [.int .u8 120] from rfl) (dO.one (show Kd.M (Kd.int .u8) _ _ _ 206 [.int .u8 206] from rfl) (dO.one (show Kd.M (Kd.int .u8) _ _ _ 14 [.int .u8 14] from rfl) (dO.one (show Kd.M (Kd.int .u8) _ _ _ 116 [.int .u8 116] from rfl) (dO.one (show Kd.M (Kd.int .u8) _ _ _ 215 [.int .u8 215] from rfl) (dO.one (show Kd.M (Kd.int .u8) _ _ _ 206 [.int .u8 206] from rfl) (dO.one (show Kd.M (Kd.int .u8) _ _ _ 2 [.int .u8 2] from rfl) (dO.one (show Kd.M (Kd.int .u8) _ _ _ 2 [.int .u8 2] from rfl) (dO.one (show Kd.M (Kd.int .u8) _ _ _ 2 [.int .u8 2] from rfl) (dO.one (show Kd.M (Kd.int .u8) _ _ _ 0 [.int .u8 0] from rfl) (dO.one (show Kd.M (Kd.int .u8) _ _ _ 47 [.int .u8 47] from rfl) (dO.one (show Kd.M (Kd.int .u8) _ _ _ 100 [.int .u8 100] from rfl) (dO.one (show Kd.M (Kd.int .u8) _ _ _ 0 [.int .u8 0] from rfl) (dO.one (show Kd.M (Kd.int .u8) _ _ _ 1 [.int .u8 1] from rfl) (dO.one (show Kd.M (Kd.int .u8) _ _ _ 0 [.int .u8 0] from rfl) (dO.one (show Kd.M (Kd.int .u8) _ _ _ 0 [.int .u8 0] from rfl) (dO.one (show Kd.M (Kd.int .u8) _ _ _ 0 [.int .u8 0] from rfl) (dO.one (show Kd.M (Kd.int .u8) _ _ _ 24 [.int .u8 24] from rfl) (dO.one (show Kd.M (Kd.int .u8) _ _ _ 215 [.int .u8 215] from rfl) (dO.one (show Kd.M (Kd.int .u8) _ _ _ 104 [.int .u8 104] from rfl) (dO.one (show Kd.M (Kd.int .u8) _ _ _ 152 [.int .u8 152] from rfl) (dO.none _ _)))))))))))))))))))))))))))))))));intro asV w17 Ri hb hg_ Xt;clear hg_ Xt;(first|rw[← acg.out] at Ri|(simp only[Int.reduceToNat] at Ri;rw[← acg.out] at Ri));have fD:=ah.mk (Kd.xW (by (with_reducible repeat (first|apply Kd.mq|apply Kd.nY|apply Kd.qW));exact pY.out) (Kd.sV Ri) hb);have gy:=ah.mk (Kd.Cb (by (with_reducible repeat (first|apply Kd.dJ|apply Kd.dK|apply Kd.dY));exact oI.out) (Kd.sV Ri) hb);have iE:=ah.mk (Kd.fQ (Kd.L6 Ri (Kd.Jp (by (with_reducible repeat (first|apply Kd.dJ|apply Kd.dK|apply Kd.dY));exact oI.out))) (bB dL));have jS:=ah.mk (bO dL hb);clear pY;clear oI;clear HB;have pY:=fD;have oI:=gy;have uw:=iE;have HB:=jS;clear fD gy iE jS;clear hb Ri;obtain⟨anB,anC,anD⟩:=Kd.bG oI.out;subst anD)|((with_reducible refine gu (f:=23) rfl ?_);refine oz (some 15) rfl rfl Tryz.func23 aA rfl #[.slice anB GK.length anC] rfl nT ?_;(with_reducible refine (aV.calls k _ _ GK Ca _ ?jy ?jA A2.out).mono ?_);(case jy=>repeat (first|exact (Kd.bT oI.out).2.2|(with_reducible refine Kd.eO ?_ _)|(with_reducible refine Kd.dV ?_ _)|(with_reducible refine Kd.gL ?_)));(case jA=>exact (Kd.bT oI.out).2.1);rintro e w20 ⟨v198,rfl,ho0,hb⟩;refine⟨_,rfl,?_⟩;have fD:=ah.mk (Kd.xW (by (with_reducible repeat (first|apply Kd.mq|apply Kd.nY|apply Kd.qW));exact pY.out) (Kd.sV ho0) hb);have gy:=ah.mk (Kd.Cb (by (with_reducible repeat (first|apply Kd.dJ|apply Kd.dK|apply Kd.dY));exact oI.out) (Kd.sV ho0) hb);have iE:=ah.mk (Kd.Cb (by (with_reducible repeat (first|apply Kd.dJ|apply Kd.dK|apply Kd.dY));exact uw.out) (Kd.sV ho0) hb);have jS:=ah.mk (Kd.fQ (Kd.L6 (Kd.L6 ho0 (Kd.Jp (by (with_reducible repeat (first|apply Kd.dJ|apply Kd.dK|apply Kd.dY));exact oI.out))) (Kd.Jp (by (with_reducible repeat (first|apply Kd.dJ|apply Kd.dK|apply Kd.dY));exact uw.out))) (bB dL));have vB:=ah.mk (bO dL hb);clear pY;clear oI;clear uw;clear HB;have pY:=fD;have oI:=gy;have uw:=iE;have zL:=jS;have HB:=vB;clear fD gy iE jS vB;(try clear hb);(try clear hb2);(try clear hk);(try clear hi);(try clear ho0);obtain⟨anE,anF,anG⟩:=Kd.bG zL.out;subst anG)|((with_reducible refine gu (f:=22) rfl ?_);refine oz (some 16) rfl rfl Tryz.func22 aA rfl #[.slice none 0 0,.slice anE Ca.length anF] rfl nT ?_;(refine (fu.calls _ _ ([]:List (nI)) _ _ Ca iF t201 _ ?jy ?jA ?tF ?tH A3.out).mono ?_);(case jy=>exact Kd.OL _ _);(case jA=>exact Nat.le_refl _);(case tF=>repeat (first|exact (Kd.bT zL.out).2.2|(with_reducible refine Kd.eO ?_ _)|(with_reducible refine Kd.dV ?_ _)|(with_reducible refine Kd.gL ?_)));(case tH=>exact (Kd.bT zL.out).2.1);rintro e w22 ⟨asY,rfl,ho0,hb⟩;refine⟨_,rfl,?_⟩;have fD:=ah.mk (Kd.xW (by (with_reducible repeat (first|apply Kd.mq|apply Kd.nY|apply Kd.qW));exact pY.out) (Kd.Xg ho0) hb);have gy:=ah.mk (Kd.dF (by (with_reducible repeat (first|apply Kd.dJ|apply Kd.dK|apply Kd.dY));exact oI.out) hb);have iE:=ah.mk (Kd.dF (by (with_reducible repeat (first|apply Kd.dJ|apply Kd.dK|apply Kd.dY));exact uw.out) hb);have jS:=ah.mk (Kd.dF (by (with_reducible repeat (first|apply Kd.dJ|apply Kd.dK|apply Kd.dY));exact zL.out) hb);have vB:=ah.mk (Kd.BF (Kd.L8 (Kd.L8 (Kd.L8 (Kd.L8 ho0 (Kd.ZP (by (with_reducible repeat (first|apply Kd.mq|apply Kd.nY|apply Kd.qW));exact pY.out))) (Kd.Jp (by (with_reducible repeat (first|apply Kd.dJ|apply Kd.dK|apply Kd.dY));exact oI.out))) (Kd.Jp (by (with_reducible repeat (first|apply Kd.dJ|apply Kd.dK|apply Kd.dY));exact uw.out))) (Kd.Jp (by (with_reducible repeat (first|apply Kd.dJ|apply Kd.dK|apply Kd.dY));exact zL.out))) (bB dL));have zF:=ah.mk (bO dL hb);clear pY;clear oI;clear uw;clear zL;clear HB;have pY:=fD;have oI:=gy;have uw:=iE;have zL:=jS;have GQ:=vB;have HB:=zF;clear fD gy iE jS vB zF;(try clear hb);(try clear hb2);(try clear hk);(try clear hi);(try clear ho0))|((with_reducible refine gu (f:=21) rfl ?_);refine oz (some 20) rfl rfl Tryz.func21 aA rfl #[.int .i64 Rh] rfl nT ?_;(with_reducible refine (bL.calls Rh tX _ A4.out).mono ?_);rintro e w' ⟨rfl,⟨nd,rfl⟩⟩;refine⟨_,rfl,?_⟩;obtain⟨asZ,as0,anH⟩:=Kd.bG uw.out;subst anH)|(go_at_call 25;(with_reducible refine (dH.calls _ _ GK _ _ Xp true _ ?jy ?jA ?tF ?tH A6.out).mono ?_);(case jy=>repeat (first|exact (Kd.bT oI.out).2.2|(with_reducible refine Kd.eO ?_ _)|(with_reducible refine Kd.dV ?_ _)|(with_reducible refine Kd.gL ?_)));(case jA=>exact (Kd.bT oI.out).2.1);(case tF=>repeat (first|exact (Kd.bT uw.out).2.2|(with_reducible refine Kd.eO ?_ _)|(with_reducible refine Kd.dV ?_ _)|(with_reducible refine Kd.gL ?_)));(case tH=>exact (Kd.bT uw.out).2.1);rintro e w' ⟨rfl,⟨nd,rfl⟩⟩)|(go_at_call 21;(with_reducible refine (bL.calls t201 t206 _ A8.out).mono ?_);rintro e w' ⟨rfl,⟨nd,rfl⟩⟩;obtain⟨as1,as2,anI⟩:=Kd.lG GQ.out;subst anI;have ZU:0≤(0:Int):=aj;have ZV:0<(iF.length:Int):=of_decide_eq_true bS;obtain⟨ap8,anJ,anK,anL,anM,e207,L9,Ma,Mc,Md,EW,EX,TD,TF,TG,TH⟩:=oo (Kd.fq GQ.out).2.2 0 ZU ZV;cases e207;obtain⟨ap9,ad7,ad8,Rj⟩:=Kd.ahE GQ.out z29 0 ZU (by first|exact ZV|exact of_decide_eq_true bS|(have e_:=(Kd.fq GQ.out).1;omega));obtain⟨ajR,ajS,rfl,Me,Mf⟩:=JE ad8;have Cc:=Rj 4 _ rfl;rw[iR _ _ 4 aj] at Cc;replace Cc:=Option.some.inj (Cc.symm.trans EW);rw[Cc] at Me;have Mg:=ah.mk (show Kd.R dB 117 _ _ _ _ ((aJ iF 0).f4) from Me);clear Cc Me;have Ce:=Rj 5 _ rfl;rw[iR _ _ 5 aj] at Ce;replace Ce:=Option.some.inj (Ce.symm.trans EX);rw[Ce] at Mf;have Mh:=ah.mk (show Kd.R (Kd.int .u8) 5 _ _ _ _ ((aJ iF 0).f5) from Mf);clear Ce Mf;clear Rj ad7;have aqa:(0<iF.length)=True:=eq_true aj;(try rw[show ((0:Int)).toNat=0 from rfl] at L9);(try rw[show 0*6=0 from rfl] at L9);(try rw[Addr.add_zero'] at L9);(try rw[show ((0:Int)).toNat=0 from rfl] at Ma);(try rw[show 0*6=0 from rfl] at Ma);(try rw[Addr.add_zero'] at Ma);(try rw[show ((0:Int)).toNat=0 from rfl] at Mc);(try rw[show 0*6=0 from rfl] at Mc);(try rw[Addr.add_zero'] at Mc);(try rw[show ((0:Int)).toNat=0 from rfl] at Md);(try rw[show 0*6=0 from rfl] at Md);(try rw[Addr.add_zero'] at Md);(try rw[show ((0:Int)).toNat=0 from rfl] at EW);(try rw[show 0*6=0 from rfl] at EW);(try rw[Addr.add_zero'] at EW);(try rw[show ((0:Int)).toNat=0 from rfl] at EX);(try rw[show 0*6=0 from rfl] at EX);(try rw[Addr.add_zero'] at EX);have yU:=ah.mk TF;have ZW:=ah.mk TD;clear TF TD;have yV:=ah.mk TH;have ZX:=ah.mk TG;clear TH TG;replace ZU:=eq_true ZU;replace ZV:=eq_true ZV)|(go_at_call 34;(refine (bM.calls ((aJ iF 0).f0) ((aJ iF 0).f1) ((aJ iF 0).f2) ((aJ iF 0).f3) _ _ ((aJ iF 0).f4) _ _ ((aJ iF 0).f5) 2 (⟨#[47,100]⟩:ByteArray) (⟨#[]⟩:ByteArray) 0 _ _ ([]:List (dI)) _ _ ([]:List Int) t208 _ ?jy ?jA ?tF ?tH ?Gh ?Gi ?Gj ?Gl A12.out).mono ?_);(case jy=>repeat (first|exact (by repeat (first|(with_reducible exact yU.out)|(with_reducible refine Kd.eO ?_ _)|(with_reducible refine Kd.dV ?_ _)|(with_reducible refine Kd.gL ?_)|exact yU.out))|(with_reducible refine Kd.eO ?_ _)|(with_reducible refine Kd.dV ?_ _)|(with_reducible refine Kd.gL ?_)));(case jA=>exact ZW.out);(case tF=>repeat (first|exact (by repeat (first|(with_reducible exact yV.out)|(with_reducible refine Kd.eO ?_ _)|(with_reducible refine Kd.dV ?_ _)|(with_reducible refine Kd.gL ?_)|exact yV.out))|(with_reducible refine Kd.eO ?_ _)|(with_reducible refine Kd.dV ?_ _)|(with_reducible refine Kd.gL ?_)));(case tH=>exact ZX.out);(case Gh=>exact Kd.OL _ _);(case Gi=>exact Nat.le_refl _);(case Gj=>exact Kd.OL _ _);(case Gl=>exact Nat.le_refl _);rintro e Xu ⟨rfl,hb⟩;have fD:=ah.mk (Kd.nk (by (with_reducible repeat (first|apply Kd.mq|apply Kd.nY|apply Kd.qW));exact pY.out) hb);have gy:=ah.mk (Kd.dF (by (with_reducible repeat (first|apply Kd.dJ|apply Kd.dK|apply Kd.dY));exact oI.out) hb);have iE:=ah.mk (Kd.dF (by (with_reducible repeat (first|apply Kd.dJ|apply Kd.dK|apply Kd.dY));exact uw.out) hb);have jS:=ah.mk (Kd.dF (by (with_reducible repeat (first|apply Kd.dJ|apply Kd.dK|apply Kd.dY));exact zL.out) hb);have vB:=ah.mk (Kd.nk (by (with_reducible repeat (first|apply Kd.mq|apply Kd.nY|apply Kd.qW));exact GQ.out) hb);have zF:=ah.mk (Kd.dF (by (with_reducible repeat (first|apply Kd.dJ|apply Kd.dK|apply Kd.dY));exact Mg.out) hb);have BA:=ah.mk (Kd.dF (by (with_reducible repeat (first|apply Kd.dJ|apply Kd.dK|apply Kd.dY));exact Mh.out) hb);have n7_:=ah.mk (Kd.aC (by repeat (first|(with_reducible exact yU.out)|(with_reducible refine Kd.eO ?_ _)|(with_reducible refine Kd.dV ?_ _)|(with_reducible refine Kd.gL ?_)|exact yU.out)) hb);have n8_:=ah.mk (Kd.aC (by repeat (first|(with_reducible exact yV.out)|(with_reducible refine Kd.eO ?_ _)|(with_reducible refine Kd.dV ?_ _)|(with_reducible refine Kd.gL ?_)|exact yV.out)) hb);have n9_:=ah.mk (bO dL hb);clear pY;clear oI;clear uw;clear zL;clear GQ;clear Mg;clear Mh;clear yU;clear yV;clear HB;have pY:=fD;have oI:=gy;have uw:=iE;have zL:=jS;have GQ:=vB;have Mg:=zF;have Mh:=BA;have yU:=n7_;have yV:=n8_;have HB:=n9_;clear fD gy iE jS vB zF BA n7_ n8_ n9_;(try clear hb);(try clear hb2);(try clear hk);(try clear hi)))
      go_ret
      have hq_:=HQ_.out;clear HQ_;subst hq_;exact⟨by first|rfl|(simp[aX,aY] <;> rfl)|(simp[*,aX,aY] <;> rfl),by repeat (first|(with_reducible first|exact HB.out|apply aH|apply av|apply aI)|exact HB.out)⟩
     rw[if_neg c11] at H;exact absurd H bK
    rw[if_neg c10] at H;have GL:((iF.length:Int) == 1)=false:=beq_eq_false_iff_ne.mpr c10;have ahB:((iF.length:Int) != 1)=true:=bne_iff_ne.mpr c10;exact absurd H bK
   rw[if_neg c9] at H;have LZ:(t206 == 0)=false:=beq_eq_false_iff_ne.mpr c9;have ad5:(t206 != 0)=true:=bne_iff_ne.mpr c9;exact absurd H bK
  replace c7:=Bool.eq_false_iff.mpr c7;subst c7
  have H1:(some false)=some true:=by rw[if_neg (show ¬(false=true) by decide)] at H;exact H
  clear H;have H:=H1;clear H1;exact absurd H bK
 rw[if_neg c5] at H;have Gc:(tX == 0)=false:=beq_eq_false_iff_ne.mpr c5;have Zf:(tX != 0)=true:=bne_iff_ne.mpr c5;exact absurd H bK
end Go.Proofs.YtknihldkhedpkaaGreatDoor.PT
end
section
namespace Go.Proofs.YtknihldkhedpkaaGreatDoor
open Go.RowKit Go.Lib
open Go.Proofs.YtknihldkhedpkaaGreatDoorW.PrintWords Go.Proofs.YtknihldkhedpkaaGreatDoorW.PrintLast Go.Proofs.YtknihldkhedpkaaGreatDoor.PT
theorem qC {A:Option Addr} {c:Nat} {l:List It} {w:World} (hr:Kd.C om w A l.length l) (hc:l.length≤c) (h:Came l):Calls Tryz.prog 19 #[.slice A l.length c] w fun e w'=>∃v,e=.returned v∧Kd.S om 29 w' w.heap.size (fun _=>True) v l∧Below w.heap.size w w' :=
 let ⟨k,hk⟩:=Ev.rounds (Oy l h)
 bC.calls k A c l l w hr hc hk
theorem vH {A:Option Addr} {c:Nat} {l:List Int} {w:World} (hr:Kd.C (Kd.int .u8) w A l.length l) (hc:l.length≤c) (h:l.length<140737488355328):Calls Tryz.prog 23 #[.slice A l.length c] w fun e w'=>∃v,e=.returned v∧Kd.R (Kd.int .u8) 5 w' w.heap.size (fun _=>True) v l∧Below w.heap.size w w' :=
 let ⟨k,hk⟩:=Ev.rounds (LU l h)
 aV.calls k A c l l w hr hc hk
theorem yt {A:Option Addr} {c:Nat} {l:List It} {w:World} (hr:Kd.C om w A l.length l) (hc:l.length≤c) (h:Came l):Calls Tryz.prog 20 #[.slice A l.length c] w fun e w'=>e=.returned (.bool ((bY l).2 == 0))∧Below w.heap.size w w' :=
 let ⟨k,hk⟩:=Ev.rounds (UG h)
 gB.calls k A c l _ w hr hc hk
theorem UW {A A1:Option Addr} {c c1:Nat} {l:List It} {w:World} (hr:Kd.C om w A l.length l) (hc:l.length≤c) (hr1:Kd.C om w A1 l.length l) (hc1:l.length≤c1) (h:l.length<9223372036854775807):Calls Tryz.prog 24 #[.slice A l.length c,.slice A1 l.length c1] w fun e w'=>e=.returned (.bool true)∧Below w.heap.size w w' :=
 let ⟨k,hk⟩:=Ev.rounds (LV l h)
 aN.calls k A c l A1 c1 l true w hr hc hr1 hc1 hk
theorem UY {A A1:Option Addr} {c c1:Nat} {l:List Int} {w:World} (hr:Kd.C (Kd.int .u8) w A l.length l) (hc:l.length≤c) (hr1:Kd.C (Kd.int .u8) w A1 l.length l) (hc1:l.length≤c1):Calls Tryz.prog 25 #[.slice A l.length c,.slice A1 l.length c1] w fun e w'=>e=.returned (.bool true)∧Below w.heap.size w w' :=
 (dH.calls A c l A1 c1 l true w hr hc hr1 hc1 (by unfold dH.f;simp)).mono fun e w' ⟨h,n,hn⟩=>⟨h,hn▸av (Below.refl _ _) n⟩
theorem mU (n:Int) (w:World):Calls Tryz.prog 21 #[.int .i64 n] w fun e w'=>e=.returned (.int .i64 n)∧Below w.heap.size w w' :=
 (bL.calls n n w rfl).mono fun e w' ⟨h,n,hn⟩=>⟨h,hn▸av (Below.refl _ _) n⟩
end Go.Proofs.YtknihldkhedpkaaGreatDoor
end
section
namespace Go.Proofs.YtknihldkhedpkaaGreatDoor
open Go.RowKit Go.ChangeShapes Go.WideShapes
open Go.Proofs.YtknihldkhedpkaaGreatDoorW.PrintWords Go.Proofs.YtknihldkhedpkaaGreatDoorW.PrintLast Go.Proofs.YtknihldkhedpkaaGreatDoor.PT
theorem ahF:zk Tryz.prog 117 dB (fun _=>True) :=
 (zk.struct (fun x:dI=>(x.f0,x.f1)) (fun y=>⟨⟨y.1,y.2⟩,rfl⟩) Tryz.underlying117 aA
  (MS.cons rfl aA (zk.int Tryz.underlying3) (MS.last rfl aA (zk.int Tryz.underlying3)))).good (fun _ _=>trivial)
theorem wf_u8 {n:Int} (h:(Lit.int .u8 n).wf=true):0≤n∧n≤255:=by
 simp[Lit.wf,IntKind.min,IntKind.max,IntKind.signed,IntKind.bits] at h;omega
theorem ad9:zk Tryz.prog 29 om (fun x=>Fit x∧x.f4.length<8796093022208):=by
 have b1:Tryz.prog.bytesOf 117=16:=by kernel_rfl
 have b2:Tryz.prog.bytesOf 5=1:=by kernel_rfl
 refine (zk.struct (fun x:nI=>(x.f0,x.f1,x.f2,x.f3,x.f4,x.f5)) (fun y=>⟨⟨y.1,y.2.1,y.2.2.1,y.2.2.2.1,y.2.2.2.2.1,y.2.2.2.2.2⟩,rfl⟩) Tryz.underlying29 aA
  (MS.cons rfl aA (zk.int Tryz.underlying3) (MS.cons rfl aA (zk.string Tryz.underlying9) (MS.cons rfl aA (zk.string Tryz.underlying9) (MS.cons rfl aA (zk.int Tryz.underlying3)
   (MS.cons rfl aA (zk.slice 117 Tryz.underlying26 aA ahF) (MS.last rfl aA (zk.slice 5 Tryz.underlying27 aA (zk.int Tryz.underlying5))))))))).good ?_
 rintro x ⟨_,h1,h2,_,⟨h4,_⟩,h5,h6⟩;dsimp only at h1 h2 h4 h5 h6;rw[b1] at h4;rw[b2] at h5;unfold reachBytes at h1 h2 h4 h5;exact⟨⟨by omega,by omega,by omega,by omega,fun n hn=>wf_u8 (h6 n hn)⟩,by omega⟩
theorem Mi:zk Tryz.prog 25 (Kd.slice 29 om) Came:=by
 have b1:Tryz.prog.bytesOf 29=96:=by kernel_rfl
 refine (zk.slice 29 Tryz.underlying25 aA ad9).good ?_;rintro l ⟨h1,h2⟩;rw[b1] at h1;unfold reachBytes at h1;exact⟨by omega,fun x hx=>(h2 x hx).2,fun x hx=>(h2 x hx).1⟩
theorem zk.bool {P:Program} {t:TypeId} (ht:P.underlying t=some .bool):zk P t Kd.bool (fun _=>True):=by
 intro H enc W base spare held fuel cs dd ps h _;obtain⟨b,rfl,_⟩:=DataW.trod_bool ht h;exact⟨b,rfl,trivial⟩
end Go.Proofs.YtknihldkhedpkaaGreatDoor
end
