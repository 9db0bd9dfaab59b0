import Derived.Test.YtknihldkhedpkaaGreatDoorYYG25
import Derived.Test.YtknihldkhedpkaaGreatDoorYYG19
import Derived.Test.YtknihldkhedpkaaGreatDoorYYG26
import Derived.Test.YtknihldkhedpkaaGreatDoorYYG1
import Derived.Test.YtknihldkhedpkaaGreatDoorYYG2
import Derived.Test.YtknihldkhedpkaaGreatDoorYYG20
set_option linter.all false
set_option maxHeartbeats 16000000
set_option maxRecDepth 100000
section
namespace Go.Proofs.YtknihldkhedpkaaGreatDoor
open Go.RowKit Go.Lib
open Go.Proofs.YtknihldkhedpkaaGreatDoorW.PrintWords Go.Proofs.YtknihldkhedpkaaGreatDoorW.PrintLast Go.Proofs.YtknihldkhedpkaaGreatDoor.PT
theorem nK {fn:Func} {P:Program} {p0 p1 p2:Tmp} {t1:TypeId} (h:fn.results=#[.tmp p0,.cell p1 t1,.tmp p2]) (tmps:Array Value) (w:World) (b1:Nat) (cs:Array Value) (d:TypeDesc)
  (h1:tmps.getD p1 undef=.pointer (some ⟨b1,0,none⟩)) (g1:w.heap[b1]?=some (.cells cs t1 (0,0)))
  (hu:P.underlying t1=some d) (hd:(match d with|.struct _|.array _ _=>true|_=>false)=true) (hi:(P.info? t1).map (·.size)=some cs.size) :
  (results fn tmps).run P w=.ok (.tuple #[tmps.getD p0 undef,.agg cs,tmps.getD p2 undef]) w:=by
 have h1':tmps[p1]?.getD undef=.pointer (some ⟨b1,0,none⟩):=by simpa using h1
 have e1:=run_loadVar_row w b1 t1 t1 cs (0,0) d g1 hu hd hi;simp only[results,h];simp[h1',asAddr,e1,Result.andThen,Sem.run_bind]
theorem Jr {l:List It} (h:jJ l=true):∀x∈l,x.f1.size≤1023∧x.f4.length≤16523∧x.f5.length≤8459776:=fun x hx=>by
 have h1:=vZ l _ _ (by intro q hq;simp at hq;subst hq;show (0:Nat)≤1023;omega) h x hx;omega
theorem Vs {old l:List It} {r1:List Int} {r2:Int} (h:jg old l=(r1,r2)) (hf:old.all lW=true) (hl:l.all lW=true) (hz:(cK old).2=0):∀x∈r1,0≤x∧x≤255:=by
 unfold jg at h;rw[if_neg (fun hh=>hh hz)] at h;split at h
 ·injection h with h _
  subst h;intro x hx;cases hx
 ·rename_i h1;have h1:(cK l).2=0:=Decidable.not_not.1 h1;have hft:∀c∈jw old l,tH c:=xD hz h1 hf hl _ [] (fun r hr=>Two.here hr) (by simp);have hw:=EC (b:=jl (cK old).1) (g:=jl (cK l).1) hft;rw[h] at hw;exact hw
theorem wZ {α:Type} {d:Kd α} {e base:Nat} {v:Value} {xs:List α} {W:World} {b:Nat} {cs:Array Value} {t:TypeId} (h:Kd.S d e W base (fun _=>True) v xs) (hb:W.heap[b]?=some (.cells cs t (0,0))) (hE:∀q,q∈e::d.E→q≠t) (cs2:Array Value):Kd.S d e (W.setRow b cs2) base (fun _=>True) v xs :=
 Kd.rP (Kd.PL (Kd.Ry h hb hE) (fun k hk hlt=>setRow_other _ _ _ _ hk.2)) (fun k hk=>hk.1)
def akT (w:World) (o:Option (List It × Int × Int × List Ch) × Int) (e:Ending) (w':World):Prop:=Below w.heap.size w w'∧match o with
 | (none,n)=>e=.returned (.tuple #[.slice none 0 0,.agg #[.int .i64 0,.int .i64 0,.slice none 0 0],.int .i64 n])
 | (some (l,b0,g0,cs),n)=>∃v vp,e=.returned (.tuple #[v,.agg #[.int .i64 b0,.int .i64 g0,vp],.int .i64 n])∧Kd.S oW 29 w' w.heap.size (fun _=>True) v l∧Kd.R GZ 31 w' w.heap.size (fun _=>True) vp cs
theorem C8 (A0:Option Addr) (c0:Nat) (old:List It) (A1:Option Addr) (c1:Nat) (b:List Int) (w:World) (hr:Kd.C oW w A0 old.length old) (hc:old.length≤c0) (hr1:Kd.C (Kd.int .u8) w A1 b.length b) (hc1:b.length≤c1) (hf:old.all lW=true) (hb:By b) :
  Calls Tryz.prog 55 #[.slice A0 old.length c0,.slice A1 b.length c1] w fun e w'=>akT w (jG old b) e w':=by
 obtain⟨o,ho⟩:∃o,jG old b=o:=⟨_,rfl⟩
 rw[ho];unfold jG at ho
 obtain⟨w1,hw1⟩:∃w1,(w.alloc (.cells #[.int .i64 0,.int .i64 0,.slice none 0 0] 24))=w1:=⟨_,rfl⟩
 have hb1:=(Below.refl w.heap.size w).alloc (Nat.le_refl _) (.cells #[.int .i64 0,.int .i64 0,.slice none 0 0] 24);have hk1:=bK w (.cells #[.int .i64 0,.int .i64 0,.slice none 0 0] 24);rw[hw1] at hb1 hk1;have HB1:=ah.mk hb1;have jC:=ah.mk hk1;have HR:=ah.mk hr;have HR1:=ah.mk hr1;have HF:=ah.mk hf;have hp:=iy.calls A0 c0 old (cK old).1 (cK old).2 w1 (Kd.aC hr hb1) hc (by unfold iy.f;rw[if_pos hf]);clear hb1 hk1 hr hr1 hf;by_cases hz:(cK old).2≠0
 ·rw[if_pos hz] at ho
  obtain⟨e0,he0⟩:∃e,(cK old).2=e:=⟨_,rfl⟩
  rw[he0] at hp hz ho;have hb2:(e0 != 0)=true:=bne_iff_ne.2 hz;have HO:=ah.mk ho.symm;have HP:=ah.mk hp;clear hp he0 hz ho
  go_enter Tryz.func55,Tryz.ntmps55
  go_upto_region 1 with (fail)
  clear hw1
  go_wp2_with (first|(go_at_call 48;refine HP.out.mono ?_;rintro e w2 ⟨v,rfl,_,hbw⟩;have HB2:=ah.mk (HB1.out.trans (hbw.mono HB1.out.size));have iK:=ah.mk (aD jC.out hbw);clear hbw)|(refine dR (.store 24 (.tmp 5) (.tmp 20)) rfl ?_;refine wpList_store_row rfl 24 (.tmp 5) (.tmp 20) rfl w.heap.size #[.int .i64 0,.int .i64 0,.slice none 0 0] rfl rfl 24 _ iK.out (by kernel_rfl) (by rfl) (by simp[Value.oneCell']) ?_))
  rw[HO.out];refine bodyPost_ret (nK rfl _ _ w.heap.size #[.int .i64 0,.int .i64 0,.slice none 0 0] _ rfl (setRow_heap _ _ _ _ _ _ iK.out) Tryz.underlying24 rfl (by kernel_rfl)) rfl ⟨below_setRow HB2.out (Nat.le_refl _) _,?_⟩;rfl
 ·rw[if_neg hz] at ho;have hz0:(cK old).2=0:=Decidable.not_not.1 hz;rw[hz0] at hp;have HZ:=ah.mk hz0;have ha0:=nM hz0 HF.out
  obtain⟨a0,ha⟩:∃a,(cK old).1=a:=⟨_,rfl⟩
  rw[ha] at hp ha0 ho;have HA0:=ah.mk ha0;have HP:=ah.mk hp
  have hl:=fun (W:World) (hW:Below w.heap.size w W)=>UH A1 c1 b W (Kd.aC HR1.out hW) hc1 hb
  clear hp hz hz0 ha ha0
  obtain⟨q,hq⟩:∃q,vM b=q:=⟨_,rfl⟩
  rw[hq] at hl ho;obtain⟨q,en⟩:=q
  cases q with
  | none=>
   dsimp only at ho
   have hen:en≠0:=by rcases EP hq with h|h <;> rw[h] <;> decide
   have hbn:(en != 0)=true:=bne_iff_ne.2 hen;have HO:=ah.mk ho.symm;have HL:=ah.mk hl;clear ho hl hq hen
   go_enter Tryz.func55,Tryz.ntmps55
   go_upto_region 1 with (fail)
   clear hw1
   go_upto_region 4 with (go_at_call 48;refine HP.out.mono ?_;rintro e w2 ⟨v,rfl,hr2,hbw⟩;have HB2:=ah.mk (HB1.out.trans (hbw.mono HB1.out.size));have iK:=ah.mk (aD jC.out hbw);clear hbw hr2)
   go_upto_region 5 with (first|(go_at_call 31;refine (HL.out _ HB2.out).mono ?_;rintro e w3 ⟨hb3,rfl⟩;have HB3:=ah.mk (HB2.out.trans (hb3.mono HB2.out.size));have qg:=ah.mk (aD iK.out hb3);clear hb3)|(refine dR (.store 24 (.tmp 9) (.tmp 25)) rfl ?_;refine wpList_store_row rfl 24 (.tmp 9) (.tmp 25) rfl _ #[.int .i64 0,.int .i64 0,.slice none 0 0] rfl rfl 24 _ (bK _ _) (by kernel_rfl) (by rfl) (by simp[Value.oneCell']) ?_))
   clear HB2 iK HL;have hba:=(Below.refl w3.heap.size w3).alloc (Nat.le_refl _) (.cells #[.int .i64 0,.int .i64 0,.slice none 0 0] 24);have hbs:=below_setRow hba (Nat.le_refl _) #[.int .i64 0,.int .i64 0,.slice none 0 0];have hbx:=setRow_heap (w3.alloc (.cells #[.int .i64 0,.int .i64 0,.slice none 0 0] 24)) w3.heap.size #[.int .i64 0,.int .i64 0,.slice none 0 0] #[.int .i64 0,.int .i64 0,.slice none 0 0] 24 (0,0) (bK _ _)
   obtain⟨W5,Sb⟩:∃W5,(w3.alloc (.cells #[.int .i64 0,.int .i64 0,.slice none 0 0] 24)).setRow w3.heap.size #[.int .i64 0,.int .i64 0,.slice none 0 0]=W5:=⟨_,rfl⟩
   rw[Sb] at hbs hbx
   try rw[Sb]
   obtain⟨k9,hk9⟩:∃k,w3.heap.size=k:=⟨_,rfl⟩
   have iV:=ah.mk (HB3.out.trans (hbs.mono HB3.out.size));have oV:=ah.mk (aD qg.out hbs);have HBS:=ah.mk hbs
   have akU:w.heap.size<k9:=by have:=bD qg.out;omega
   rw[hk9] at hbx
   try rw[hk9]
   have He:=ah.mk hbx;clear hba hbs hbx Sb HB3 qg
   go_wp2_with (refine dR (.store 24 (.tmp 5) (.tmp 29)) rfl ?_;refine wpList_store_row rfl 24 (.tmp 5) (.tmp 29) rfl w.heap.size #[.int .i64 0,.int .i64 0,.slice none 0 0] rfl rfl 24 _ oV.out (by kernel_rfl) (by rfl) (by simp[Value.oneCell']) ?_)
   rw[HO.out];refine bodyPost_ret (nK rfl _ _ w.heap.size #[.int .i64 0,.int .i64 0,.slice none 0 0] _ rfl (setRow_heap _ _ _ _ _ _ oV.out) Tryz.underlying24 rfl (by kernel_rfl)) rfl ⟨below_setRow iV.out (Nat.le_refl _) _,?_⟩;rfl
  | some q=>
   obtain⟨b0,g0,cs⟩:=q;obtain⟨hen,hbl,hpar,Sr,akV⟩:=EO hq;subst hen;dsimp only at ho;have hfit:=(vk hpar hb).2.2;have afD:=Jg Sr hfit;have hcl:=(wO Sr).1;have HFC:=ah.mk hfit;have HCB:=ah.mk afD;have HL:=ah.mk hl;have HOO:=ah.mk ho;clear ho hl hq hpar Sr akV hfit afD
   go_enter Tryz.func55,Tryz.ntmps55
   go_upto_region 1 with (fail)
   clear hw1
   go_upto_region 4 with (go_at_call 48;refine HP.out.mono ?_;rintro e w2 ⟨v,rfl,hr2,hbw⟩;obtain⟨Av2,cv2,hv2⟩:=Kd.bH hr2;subst hv2;have HB2:=ah.mk (HB1.out.trans (hbw.mono HB1.out.size));have iK:=ah.mk (aD jC.out hbw);have HV2:=ah.mk (Kd.dB hr2).2.2;have HVC:=(Kd.dB hr2).2.1;clear hbw hr2)
   go_upto_region 5 with (first|(go_at_call 31;refine (HL.out _ HB2.out).mono ?_;rintro e w3 ⟨hb3,v3,rfl,hr3⟩;have HB3:=ah.mk (HB2.out.trans (hb3.mono HB2.out.size));have qg:=ah.mk (aD iK.out hb3);obtain⟨Ac,cc,hvc⟩:=Kd.bH hr3;subst hvc;have HR3:=ah.mk hr3;have HV3:=ah.mk (Kd.aC HV2.out hb3);clear hr3;clear hb3)|(refine dR (.store 24 (.tmp 9) (.tmp 25)) rfl ?_;refine wpList_store_row rfl 24 (.tmp 9) (.tmp 25) rfl _ #[.int .i64 b0,.int .i64 g0,.slice Ac cs.length cc] rfl rfl 24 _ (bK _ _) (by kernel_rfl) (by rfl) (by simp[Value.oneCell']) ?_))
   have hba:=(Below.refl w3.heap.size w3).alloc (Nat.le_refl _) (.cells #[.int .i64 0,.int .i64 0,.slice none 0 0] 24);have hbs:=below_setRow hba (Nat.le_refl _) #[.int .i64 b0,.int .i64 g0,.slice Ac cs.length cc];have hbx:=setRow_heap (w3.alloc (.cells #[.int .i64 0,.int .i64 0,.slice none 0 0] 24)) w3.heap.size #[.int .i64 0,.int .i64 0,.slice none 0 0] #[.int .i64 b0,.int .i64 g0,.slice Ac cs.length cc] 24 (0,0) (bK _ _)
   obtain⟨W5,Sb⟩:∃W5,(w3.alloc (.cells #[.int .i64 0,.int .i64 0,.slice none 0 0] 24)).setRow w3.heap.size #[.int .i64 b0,.int .i64 g0,.slice Ac cs.length cc]=W5:=⟨_,rfl⟩
   rw[Sb] at hbs hbx
   try rw[Sb]
   obtain⟨k9,hk9⟩:∃k,w3.heap.size=k:=⟨_,rfl⟩
   have iV:=ah.mk (HB3.out.trans (hbs.mono HB3.out.size));have oV:=ah.mk (aD qg.out hbs);have HBS:=ah.mk hbs
   have akU:w.heap.size<k9:=by have:=bD qg.out;omega
   rw[hk9] at hbx
   try rw[hk9]
   have He:=ah.mk hbx;clear hba hbs hbx Sb HB3 qg;have HV5:=ah.mk (Kd.aC HV3.out HBS.out);have kE:=ah.mk (Kd.dh HR3.out HBS.out);have akW:=HB2.out.size;clear HR3 HV3 HV2 HBS HL HB2 iK
   go_wp2_with fail
   have hdr:=bC (Below.refl W5.heap.size W5);have hS:W5.drew.cell? ⟨k9,0,none⟩=some (.int .i64 b0):=aj hdr (ak He.out 0)
   obtain⟨Wd,hWd⟩:∃Wd,W5.drew=Wd:=⟨_,rfl⟩
   have hdb:Below W5.heap.size W5 Wd:=hWd▸hdr;have HVd:=ah.mk (Kd.aC HV5.out hdb);have HDB:=ah.mk hdb;clear hdr hdb;refine kW (n:=5) (S:=fun w'=>w'.cell? ⟨k9,0,none⟩=some (.int .i64 b0)) (ds:=[]) #[false,false,false,false,false] (by kernel_rfl) rfl rfl hS (fun hHeld=>?_);rw[hWd] at hHeld ⊢;clear hWd hS;refine bA (i:=0) (N:=some 31) (v:=?_) (a':=?_) #[true,false,false,false,false] rfl rfl (by kernel_rfl) (fun _ _ _ h=>h) (Or.inl ⟨by rfl,?_⟩) ?_ ?_;rotate_left
   ·intro w'
    go_simp
    with_reducible rfl
   rotate_left
   ·simp only[Act.put,aYa,aYb,aYc,aG,aH];rfl
   refine dM (i:=1) (N:=some 32) (v:=?_) (a':=?_) #[true,true,false,false,false] rfl rfl (by kernel_rfl) (fun _ _ _ h=>h) (Or.inl ⟨by rfl,?_⟩) hHeld ?_ ?_;rotate_left
   ·rintro w' s0
    go_simp
    with_reducible rfl
   rotate_left
   ·simp only[Act.put,aYa,aYb,aYc,aG,aH];rfl
   refine bA (i:=2) (N:=some 33) (v:=?_) (a':=?_) #[true,true,true,false,false] rfl rfl (by kernel_rfl) (fun _ _ _ h=>h) (Or.inl ⟨by rfl,?_⟩) ?_ ?_;rotate_left
   ·intro w'
    go_simp
    with_reducible rfl
   rotate_left
   ·simp only[Act.put,aYa,aYb,aYc,aG,aH];rfl
   refine kg (i:=3) (N:=some 34) #[true,true,true,true,false] rfl rfl (by kernel_rfl) (by decide) (fun K hK=>?_);refine mq Tryz.func49 (by kernel_rfl) rfl #[.slice Av2 a0.length cv2] (by rfl) rfl rfl (by (try simp only[List.map_toArray,List.map_cons,List.map_nil]);first|done|rfl) ?_;refine (PT.dH.calls 5 Av2 cv2 a0 (jl a0) Wd HVd.out HVC (NW a0 HA0.out.1 (by have:=HA0.out.2.1;omega) HA0.out.2.2)).mono ?_;rintro e Ws ⟨rfl,⟨n4,rfl⟩⟩;refine⟨_,rfl,hK.out _ _ (aj (au (Below.refl _ _) n4) hHeld) (fun hHeld=>?_)⟩;clear hK K;refine eB (a':=?_) ?_ ?_;rotate_left
   ·show Act.put _ (some 34) _=_
    simp only[Act.put,aYa,aYb,aYc,aG,aH];rfl
   refine bA (i:=4) (N:=some 35) (v:=?_) (a':=?_) #[true,true,true,true,true] rfl rfl (by kernel_rfl) (fun _ _ _ h=>h) (Or.inl ⟨by rfl,?_⟩) ?_ ?_;rotate_left
   ·intro w'
    go_simp
    with_reducible rfl
   rotate_left
   ·simp only[Act.put,aYa,aYb,aYc,aG,aH];rfl
   refine ku (by kernel_rfl) ?_;have HD6:=ah.mk (HDB.out.trans ((au (Below.refl Wd.heap.size Wd) n4).mono HDB.out.size))
   obtain⟨W6,Xa⟩:∃W6,Wd.drewN n4=W6:=⟨_,rfl⟩
   rw[Xa] at HD6 ⊢;have zF:=ah.mk (aD oV.out HD6.out);have HX6:=ah.mk (aD He.out HD6.out);have qd:=ah.mk (iV.out.trans (HD6.out.mono iV.out.size));have sF:=ah.mk (Kd.dh kE.out HD6.out);clear hHeld Xa HVd HDB HD6 oV He iV kE HV5;by_cases hbe:b0=jl a0
   ·have hbb:(b0 != jl a0)=false:=by rw[hbe];simp
    have ho2:=HOO.out;rw[if_neg (fun h=>h hbe)] at ho2;have hz0:=lX HZ.out;have hsm:=Jr hz0.2;have hrd:=Kd.dB sF.out;have hou:=M7 A0 c0 old Ac cc b0 g0 cs W6 (Kd.aC HR.out qd.out) hc hz0.1 hrd.2.2 hrd.2.1 hcl (fun x hx=>(hsm x hx).1) (fun c hx=>(HCB.out c hx).p) (fun x hx=>by have:=hsm x hx;omega) (fun c hx=>by have h1:=(HCB.out c hx).r;have h2:=(HCB.out c hx).d;omega) (tY HZ.out HF.out) (fun c hx=>(HCB.out c hx).e)
    obtain⟨ol,hol⟩:∃q,pU old cs=q:=⟨_,rfl⟩
    rw[hol] at hou ho2;have HOU:=ah.mk hou;clear hrd hou hbe HOO
    cases ol with
    | none=>
     have HO:=ah.mk ho2.symm;clear ho2 hol hsm hz0
     go_upto_region 10 with (first|(refine dR (.load 24 (.tmp 9)) rfl ?_;refine wpList_load_row rfl _ _ rfl k9 rfl 24 #[.int .i64 b0,.int .i64 g0,.slice Ac cs.length cc] (0,0) _ HX6.out Tryz.underlying24 rfl (by kernel_rfl) ?_)|(go_at_call 93;refine HOU.out.mono ?_;rintro e w7 ⟨qG,rfl⟩;have LP:=ah.mk (aD zF.out qG);have yh:=ah.mk (qd.out.trans (qG.mono qd.out.size));clear qG))
     go_wp2_with (refine dR (.store 24 (.tmp 5) (.tmp 45)) rfl ?_;refine wpList_store_row rfl 24 (.tmp 5) (.tmp 45) rfl w.heap.size #[.int .i64 0,.int .i64 0,.slice none 0 0] rfl rfl 24 _ LP.out (by kernel_rfl) (by rfl) (by simp[Value.oneCell']) ?_)
     rw[HO.out];refine bodyPost_ret (nK rfl _ _ w.heap.size #[.int .i64 0,.int .i64 0,.slice none 0 0] _ rfl (setRow_heap _ _ _ _ _ _ LP.out) Tryz.underlying24 rfl (by kernel_rfl)) rfl ⟨below_setRow yh.out (Nat.le_refl _) _,?_⟩;rfl
    | some l=>
     have hfl:=CV HF.out HFC.out HCB.out hol;have hdm:=ah.mk hfl;dsimp only at ho2;clear hol hsm hz0 hfl
     go_upto_region 10 with (first|(refine dR (.load 24 (.tmp 9)) rfl ?_;refine wpList_load_row rfl _ _ rfl k9 rfl 24 #[.int .i64 b0,.int .i64 g0,.slice Ac cs.length cc] (0,0) _ HX6.out Tryz.underlying24 rfl (by kernel_rfl) ?_)|(go_at_call 93;refine HOU.out.mono ?_;rintro e w7 ⟨qG,v7,rfl,Ww⟩;obtain⟨Al,cl,hvl⟩:=Kd.lC Ww;subst hvl;have HL7:=ah.mk Ww;have LP:=ah.mk (aD zF.out qG);have HX7:=ah.mk (aD HX6.out qG);have yh:=ah.mk (qd.out.trans (qG.mono qd.out.size));have HR7:=ah.mk (Kd.dh sF.out qG);clear qG Ww))
     have hrd:=Kd.iw HL7.out
     obtain⟨⟨r1,r2⟩,hdf⟩:∃q,jg old l=q:=⟨_,rfl⟩
     rw[hdf] at ho2;dsimp only at ho2;have hdc:=eU.calls A0 c0 old Al cl l r1 r2 w7 (Kd.aC HR.out yh.out) hc hrd.2.2 hrd.2.1 (by unfold eU.f;rw[if_pos ⟨HF.out,hdm.out⟩,hdf]);have HDC:=ah.mk hdc;clear hrd hdc HOU
     go_upto_region 13 with (go_at_call 18;refine HDC.out.mono ?_;rintro e w8 ⟨v8,rfl,Le,xK⟩;obtain⟨A8,c8,Na⟩:=Kd.bH Le;subst Na;have Xg:=ah.mk (Kd.dB Le);have LQ:=ah.mk (aD LP.out xK);have HX8:=ah.mk (aD HX7.out xK);have Cz:=ah.mk (yh.out.trans (xK.mono yh.out.size));have afF:=ah.mk (Kd.dh HR7.out xK);have HL8:=ah.mk (Kd.jI HL7.out xK);clear xK Le)
     clear LP HX7 HR7 HL7 HDC zF HX6 sF;by_cases he2:r2=0
     ·have heb:(r2 != 0)=false:=by rw[he2];rfl
      rw[if_neg (fun h=>h he2)] at ho2;have hby:∀x∈r1,0≤x∧x≤255:=Vs (hdf.trans rfl) HF.out hdm.out HZ.out;have heq:=PT.bytes_Equal.calls A8 c8 r1 A1 c1 b (decide (r1=b)) w8 Xg.out.2.2 Xg.out.2.1 (Kd.aC HR1.out Cz.out) hc1 (by unfold PT.bytes_Equal.f;rw[um hby hb.2]);by_cases hq:r1=b
      ·rw[if_pos hq] at ho2;rw[decide_eq_true hq] at heq;have HO:=ah.mk ho2.symm;have NP:=ah.mk heq;clear ho2 heq he2 hq hby hdf
       go_upto_region 15 with (go_at_call 62;refine NP.out.mono ?_;rintro e w9 ⟨rfl,⟨n9,rfl⟩⟩)
       obtain⟨W9,hW9⟩:∃W9,w8.drewN n9=W9:=⟨_,rfl⟩
       have WH:Below w8.heap.size w8 W9:=hW9▸au (Below.refl _ _) n9;rw[hW9];have Hw:=ah.mk (aD LQ.out WH);have HX9:=ah.mk (aD HX8.out WH);have zM:=ah.mk (Cz.out.trans (WH.mono Cz.out.size));have TP:=ah.mk (Kd.dh afF.out WH);have HL9:=ah.mk (Kd.jI HL8.out WH);clear WH hW9 LQ HX8 afF HL8 Xg NP;have hdr:=bC (Below.refl W9.heap.size W9)
       have hS:W9.drew.cell? ⟨k9,0,none⟩=some (.int .i64 b0)∧W9.drew.cell? ⟨k9,1,none⟩=some (.int .i64 g0)∧W9.drew.cell? ⟨k9,2,none⟩=some (.slice Ac cs.length cc):=⟨aj hdr (ak HX9.out 0),aj hdr (ak HX9.out 1),aj hdr (ak HX9.out 2)⟩
       obtain⟨Wd,hWd⟩:∃Wd,W9.drew=Wd:=⟨_,rfl⟩
       have hdb:Below W9.heap.size W9 Wd:=hWd▸hdr;have Hy:=ah.mk (aD Hw.out hdb);have TQ:=ah.mk (zM.out.trans (hdb.mono zM.out.size));have Si:=ah.mk (Kd.dh TP.out hdb);have HLd:=ah.mk (Kd.jI HL9.out hdb);clear hdr hdb;refine kW (n:=5) (S:=fun w'=>w'.cell? ⟨k9,0,none⟩=some (.int .i64 b0)∧w'.cell? ⟨k9,1,none⟩=some (.int .i64 g0)∧w'.cell? ⟨k9,2,none⟩=some (.slice Ac cs.length cc)) (ds:=[3]) #[false,false,false,false,false] (by kernel_rfl) rfl rfl hS (fun hHeld=>?_);rw[hWd] at hHeld ⊢;clear hWd hS;refine bA (i:=0) (N:=some 61) (v:=?_) (a':=?_) #[true,false,false,false,false] rfl rfl (by kernel_rfl) (fun _ _ _ h=>h) (Or.inl ⟨by rfl,?_⟩) ?_ ?_;rotate_left
       ·intro w'
        go_simp
        with_reducible rfl
       rotate_left
       ·simp only[Act.put,aYa,aYb,aYc,aG,aH];rfl
       refine dM (i:=1) (N:=some 62) (v:=?_) (a':=?_) #[true,true,false,false,false] rfl rfl (by kernel_rfl) (fun _ _ _ h=>h) (Or.inl ⟨by rfl,?_⟩) hHeld ?_ ?_;rotate_left
       ·rintro w' ⟨s0,s1,s2⟩
        go_simp
        with_reducible rfl
       rotate_left
       ·simp only[Act.put,aYa,aYb,aYc,aG,aH];rfl
       refine bA (i:=2) (N:=some 4) (v:=?_) (a':=?_) #[true,true,true,false,false] rfl rfl (by kernel_rfl) (fun _ _ _ h=>h) (Or.inl ⟨by rfl,?_⟩) ?_ ?_;rotate_left
       ·intro w'
        go_simp
        with_reducible rfl
       rotate_left
       ·simp only[Act.put,aYa,aYb,aYc,aG,aH];rfl
       refine kC (i:=3) (N:=none) #[true,true,true,true,false] rfl rfl (by kernel_rfl) (by decide) (fun K hK=>?_);rw[if_pos (by rfl)];refine wp_store_row 24 (.tmp 5) (.tmp 62) rfl w.heap.size #[.int .i64 b0,.int .i64 g0,.slice Ac cs.length cc] rfl rfl 24 _ Hy.out (by kernel_rfl) (by rfl) (by simp[Value.oneCell']) ?_;refine hK.out _ _ ?_;clear hK K;refine eB (a':=?_) ?_ ?_;rotate_left
       ·show Act.put _ none _=_
        simp only[Act.put];rfl
       refine bA (i:=4) (N:=some 6) (v:=?_) (a':=?_) #[true,true,true,true,true] rfl rfl (by kernel_rfl) (fun _ _ _ h=>h) (Or.inl ⟨by rfl,?_⟩) ?_ ?_;rotate_left
       ·intro w'
        go_simp
        with_reducible rfl
       rotate_left
       ·simp only[Act.put,aYa,aYb,aYc,aG,aH];rfl
       refine ku (by kernel_rfl) ?_
       go_wp2_with fail
       rw[HO.out];have h2w:=akW;have h6w:=qd.out.size;refine bodyPost_ret (nK rfl _ _ w.heap.size #[.int .i64 b0,.int .i64 g0,.slice Ac cs.length cc] _ rfl (setRow_heap _ _ _ _ _ _ Hy.out) Tryz.underlying24 rfl (by kernel_rfl)) rfl ⟨below_setRow TQ.out (Nat.le_refl _) _,_,_,rfl,?_,?_⟩
       ·exact wZ (Kd.Ak HLd.out h6w) Hy.out (by decide) _
       ·exact jM (I6 Si.out h2w) Hy.out (by decide) _
      ·rw[if_neg hq] at ho2;rw[decide_eq_false hq] at heq;have HO:=ah.mk ho2.symm;have NP:=ah.mk heq;clear ho2 heq he2 hq hby hdf
       go_upto_region 14 with (go_at_call 62;refine NP.out.mono ?_;rintro e w9 ⟨rfl,⟨n9,rfl⟩⟩)
       have WH:Below w8.heap.size w8 (w8.drewN n9):=au (Below.refl _ _) n9;have Hw:=ah.mk (aD LQ.out WH);have zM:=ah.mk (Cz.out.trans (WH.mono Cz.out.size));clear WH
       go_wp2_with (refine dR (.store 24 (.tmp 5) (.tmp 60)) rfl ?_;refine wpList_store_row rfl 24 (.tmp 5) (.tmp 60) rfl w.heap.size #[.int .i64 0,.int .i64 0,.slice none 0 0] rfl rfl 24 _ Hw.out (by kernel_rfl) (by rfl) (by simp[Value.oneCell']) ?_)
       rw[HO.out];refine bodyPost_ret (nK rfl _ _ w.heap.size #[.int .i64 0,.int .i64 0,.slice none 0 0] _ rfl (setRow_heap _ _ _ _ _ _ Hw.out) Tryz.underlying24 rfl (by kernel_rfl)) rfl ⟨below_setRow zM.out (Nat.le_refl _) _,?_⟩;rfl
     ·have heb:(r2 != 0)=true:=bne_iff_ne.2 he2;rw[if_pos he2] at ho2;have HO:=ah.mk ho2.symm;clear ho2 he2 hdf
      go_upto_region 14 with (fail)
      go_wp2_with (refine dR (.store 24 (.tmp 5) (.tmp 60)) rfl ?_;refine wpList_store_row rfl 24 (.tmp 5) (.tmp 60) rfl w.heap.size #[.int .i64 0,.int .i64 0,.slice none 0 0] rfl rfl 24 _ LQ.out (by kernel_rfl) (by rfl) (by simp[Value.oneCell']) ?_)
      rw[HO.out];refine bodyPost_ret (nK rfl _ _ w.heap.size #[.int .i64 0,.int .i64 0,.slice none 0 0] _ rfl (setRow_heap _ _ _ _ _ _ LQ.out) Tryz.underlying24 rfl (by kernel_rfl)) rfl ⟨below_setRow Cz.out (Nat.le_refl _) _,?_⟩;rfl
   ·have hbb:(b0 != jl a0)=true:=bne_iff_ne.2 hbe;have ho2:=HOO.out;rw[if_pos hbe] at ho2;have HO:=ah.mk ho2.symm;clear ho2 hbe
    go_wp2_with (refine dR (.store 24 (.tmp 5) (.tmp 36)) rfl ?_;refine wpList_store_row rfl 24 (.tmp 5) (.tmp 36) rfl w.heap.size #[.int .i64 0,.int .i64 0,.slice none 0 0] rfl rfl 24 _ zF.out (by kernel_rfl) (by rfl) (by simp[Value.oneCell']) ?_)
    rw[HO.out];refine bodyPost_ret (nK rfl _ _ w.heap.size #[.int .i64 0,.int .i64 0,.slice none 0 0] _ rfl (setRow_heap _ _ _ _ _ _ zF.out) Tryz.underlying24 rfl (by kernel_rfl)) rfl ⟨below_setRow qd.out (Nat.le_refl _) _,?_⟩;rfl
def byB (l:List Int):Bool:=decide (l.length≤1073741824) && l.all fun x=>decide (0≤x) && decide (x≤255)
theorem Vt {l:List Int} (h:byB l=true):By l:=by
 unfold byB at h;simp only[Bool.and_eq_true,decide_eq_true_eq,List.all_eq_true] at h;exact h
theorem of_by {l:List Int} (h:By l):byB l=true:=by
 unfold byB;simp only[Bool.and_eq_true,decide_eq_true_eq,List.all_eq_true];exact h
def mP (old:List It) (b:List Int):List It × Int:=match jG old b with
 | (none,n)=>([],n)
 | (some (l,_,_,_),n)=>(l,n)
def aaD (old:List It) (b:List Int):List Int × Int:=match jG old b with
 | (none,n)=>([],n)
 | (some (l,_,_,_),_)=>jg l old
def d9.f (l0:List It) (l1:List Int):Option (List It × Int):=if l0.all lW=true∧byB l1=true then some (mP l0 l1) else none
def zn.f (l0:List It) (l1:List Int):Option (List Int × Int):=if l0.all lW=true∧byB l1=true then some (aaD l0 l1) else none
theorem yI {old:List It} {b:List Int} {n:Int} (h:jG old b=(none,n)):n≠0∧((cK old).2=0→n=7∨n=180∨n=181):=by
 unfold jG at h;split at h
 ·rename_i h1
  injection h with _ h
  subst h;exact⟨h1,fun h=>absurd h h1⟩
 ·split at h
  ·rename_i e hl
   injection h with _ h
   subst h
   rcases EP hl with rfl|rfl
   ·exact⟨by decide,fun _=>.inl rfl⟩
   ·exact⟨by decide,fun _=>.inr (.inl rfl)⟩
  ·split at h
   ·injection h with _ h
    subst h;exact⟨by decide,fun _=>.inr (.inr rfl)⟩
   ·split at h
    ·injection h with _ h
     subst h;exact⟨by decide,fun _=>.inr (.inl rfl)⟩
    ·split at h
     ·injection h with _ h
      subst h;exact⟨by decide,fun _=>.inr (.inl rfl)⟩
     ·split at h
      ·injection h with h
       cases h
      ·injection h with _ h
       subst h;exact⟨by decide,fun _=>.inr (.inl rfl)⟩
theorem tQ {old l:List It} {b:List Int} {b0 g0 n:Int} {cs:List Ch} (h:jG old b=(some (l,b0,g0,cs),n)):n=0∧(cK old).2=0∧(∃e,vM b=(some (b0,g0,cs),e))∧pU old cs=some l∧jg old l=(b,0):=by
 unfold jG at h;split at h
 ·injection h with h;cases h
 ·rename_i h1;split at h
  ·injection h with h;cases h
  ·rename_i b1 g1 cs1 e hl;split at h
   ·injection h with h;cases h
   ·split at h
    ·injection h with h;cases h
    ·rename_i l1 ho;split at h
     ·injection h with h;cases h
     ·rename_i h2;split at h
      ·rename_i h3
       injection h with h h4
       injection h with h
       injection h with e1 h
       injection h with e2 h
       injection h with e3 e4
       subst e1 e2 e3 e4;exact⟨h4.symm,Decidable.not_not.1 h1,⟨_,hl⟩,ho,by rw[← h3,← Decidable.not_not.1 h2]⟩
      ·injection h with h;cases h
theorem AY {old l:List It} {b:List Int} {b0 g0 n:Int} {cs:List Ch} (h:jG old b=(some (l,b0,g0,cs),n)) (hf:old.all lW=true) (hb:By b):l.all lW=true:=by
 obtain⟨_,_,⟨e,hl⟩,ho,_⟩:=tQ h;obtain⟨_,_,hp,hk,_⟩:=EO hl;exact CV hf (vk hp hb).2.2 (Jg hk (vk hp hb).2.2) ho
theorem d9.calls (A0:Option Addr) (c0:Nat) (l0:List It) (A1:Option Addr) (c1:Nat) (l1:List Int) (r1:List It) (r2:Int) (w:World) (hr0:Kd.C oW w A0 l0.length l0) (hc0:l0.length≤c0) (hr1:Kd.C (Kd.int .u8) w A1 l1.length l1) (hc1:l1.length≤c1)
  (h:d9.f l0 l1=some (r1,r2)) :
  Calls Tryz.prog 22 #[.slice A0 l0.length c0,.slice A1 l1.length c1] w fun e w'=>∃wm:Value,e=.returned (.tuple #[wm,.int .i64 r2])∧Kd.S oW 29 w' w.heap.size (fun _=>True) wm r1∧Below w.heap.size w w':=by
 unfold d9.f at h;by_cases hf:l0.all lW=true∧byB l1=true
 ·rw[if_pos hf] at h;have hm:=Option.some.inj h;unfold mP at hm;have hap:=C8 A0 c0 l0 A1 c1 l1 w hr0 hc0 hr1 hc1 hf.1 (Vt hf.2)
  obtain⟨⟨q,n⟩,hq⟩:∃q,jG l0 l1=q:=⟨_,rfl⟩
  rw[hq] at hm hap;have HP:=ah.mk hap
  cases q with
  | none=>
   injection hm with e1 e2
   subst e1 e2;clear h hf hap hq
   go_enter Tryz.func22,Tryz.ntmps22
   go_wp2_with (first|(go_at_call 55;refine HP.out.mono ?_;rintro e w2 ⟨hb2,rfl⟩;have HB2:=ah.mk hb2;clear hb2)|(refine dR (.store 24 (.tmp 7) (.tmp 14)) rfl ?_;refine wpList_store_row rfl 24 (.tmp 7) (.tmp 14) rfl _ #[.int .i64 0,.int .i64 0,.slice none 0 0] rfl rfl 24 _ (bK _ _) (by kernel_rfl) (by rfl) (by simp[Value.oneCell']) ?_))
   go_ret2
   exact⟨_,rfl,Kd.ET _ _ _ _ _,below_setRow (HB2.out.alloc HB2.out.size _) HB2.out.size _⟩
  | some q=>
   obtain⟨l,b0,g0,cs⟩:=q
   injection hm with e1 e2
   subst e1 e2;clear h hf hap hq
   go_enter Tryz.func22,Tryz.ntmps22
   go_wp2_with (first|(go_at_call 55;refine HP.out.mono ?_;rintro e w2 ⟨hb2,v,vp,rfl,hv,hvp⟩;obtain⟨Av,cv,hvs⟩:=Kd.lC hv;obtain⟨Ap,cp,acy⟩:=Kd.bH hvp;subst hvs acy;have HB2:=ah.mk hb2;have HV:=ah.mk hv;clear hb2 hv hvp)|(refine dR (.store 24 (.tmp 7) (.tmp 14)) rfl ?_;refine wpList_store_row rfl 24 (.tmp 7) (.tmp 14) rfl _ #[.int .i64 b0,.int .i64 g0,.slice Ap cs.length cp] rfl rfl 24 _ (bK _ _) (by kernel_rfl) (by rfl) (by simp[Value.oneCell']) ?_))
   go_ret2
   exact⟨_,rfl,wZ (Kd.lu HV.out _) (bK _ _) (by decide) _,below_setRow (HB2.out.alloc HB2.out.size _) HB2.out.size _⟩
 ·rw[if_neg hf] at h;cases h
theorem zn.calls (A0:Option Addr) (c0:Nat) (l0:List It) (A1:Option Addr) (c1:Nat) (l1:List Int) (r1:List Int) (r2:Int) (w:World) (hr0:Kd.C oW w A0 l0.length l0) (hc0:l0.length≤c0) (hr1:Kd.C (Kd.int .u8) w A1 l1.length l1) (hc1:l1.length≤c1)
  (h:zn.f l0 l1=some (r1,r2)) :
  Calls Tryz.prog 30 #[.slice A0 l0.length c0,.slice A1 l1.length c1] w fun e w'=>∃wm:Value,e=.returned (.tuple #[wm,.int .i64 r2])∧Kd.R (Kd.int .u8) 5 w' w.heap.size (fun _=>True) wm r1∧Below w.heap.size w w':=by
 unfold zn.f at h;by_cases hf:l0.all lW=true∧byB l1=true
 ·rw[if_pos hf] at h;have hm:=Option.some.inj h;unfold aaD at hm;have hap:=C8 A0 c0 l0 A1 c1 l1 w hr0 hc0 hr1 hc1 hf.1 (Vt hf.2)
  obtain⟨⟨q,n⟩,hq⟩:∃q,jG l0 l1=q:=⟨_,rfl⟩
  rw[hq] at hm hap;have HP:=ah.mk hap
  cases q with
  | none=>
   injection hm with e1 e2
   subst e1 e2;have hbn:(n != 0)=true:=bne_iff_ne.2 (yI hq).1;clear h hf hap hq
   go_enter Tryz.func30,Tryz.ntmps30
   go_wp2_with (first|(go_at_call 55;refine HP.out.mono ?_;rintro e w2 ⟨hb2,rfl⟩;have HB2:=ah.mk hb2;clear hb2)|(refine dR (.store 24 (.tmp 7) (.tmp 14)) rfl ?_;refine wpList_store_row rfl 24 (.tmp 7) (.tmp 14) rfl _ #[.int .i64 0,.int .i64 0,.slice none 0 0] rfl rfl 24 _ (bK _ _) (by kernel_rfl) (by rfl) (by simp[Value.oneCell']) ?_))
   go_ret2
   exact⟨_,rfl,Kd.fA _ _ _ _ _,below_setRow (HB2.out.alloc HB2.out.size _) HB2.out.size _⟩
  | some q=>
   obtain⟨l,b0,g0,cs⟩:=q;have hn:=(tQ hq).1;subst hn;dsimp only at hm;have hlf:=AY hq hf.1 (Vt hf.2);have HM:=ah.mk hm;have HF:=ah.mk (And.intro hlf hf.1);have pQ:=ah.mk hr0;clear h hf hap hq hm hlf hr0
   go_enter Tryz.func30,Tryz.ntmps30
   go_upto_region 2 with (first|(go_at_call 55;refine HP.out.mono ?_;rintro e w2 ⟨hb2,v,vp,rfl,hv,hvp⟩;obtain⟨Av,cv,hvs⟩:=Kd.lC hv;obtain⟨Ap,cp,acy⟩:=Kd.bH hvp;subst hvs acy;have HB2:=ah.mk hb2;have HV:=ah.mk hv;clear hb2 hv hvp)|(refine dR (.store 24 (.tmp 7) (.tmp 14)) rfl ?_;refine wpList_store_row rfl 24 (.tmp 7) (.tmp 14) rfl _ #[.int .i64 b0,.int .i64 g0,.slice Ap cs.length cp] rfl rfl 24 _ (bK _ _) (by kernel_rfl) (by rfl) (by simp[Value.oneCell']) ?_))
   obtain⟨W3,hW3⟩:∃W3,(w2.alloc (.cells #[.int .i64 0,.int .i64 0,.slice none 0 0] 24)).setRow w2.heap.size #[.int .i64 b0,.int .i64 g0,.slice Ap cs.length cp]=W3:=⟨_,rfl⟩
   have hv3:Kd.S oW 29 W3 w.heap.size (fun _=>True) (.slice Av l.length cv) l:=hW3▸wZ (Kd.lu HV.out _) (bK _ _) (by decide) _;have hb3:Below w.heap.size w W3:=hW3▸below_setRow (HB2.out.alloc HB2.out.size _) HB2.out.size _
   try rw[hW3]
   have hrd:=Kd.iw hv3;have hdc:=eU.calls Av cv l A0 c0 l0 r1 r2 W3 hrd.2.2 hrd.2.1 (Kd.aC pQ.out hb3) hc0 (by unfold eU.f;rw[if_pos HF.out,HM.out]);have HDC:=ah.mk hdc;have HB3:=ah.mk hb3;clear hW3 hv3 hb3 hrd hdc HV HB2
   go_wp2_with (go_at_call 18;refine HDC.out.mono ?_;rintro e w4 ⟨v4,rfl,hr4,hb4⟩;have HR4:=ah.mk hr4;have mH:=ah.mk hb4;clear hr4 hb4)
   go_ret2
   exact⟨_,rfl,Kd.fC HR4.out HB3.out.size,HB3.out.trans (mH.out.mono HB3.out.size)⟩
 ·rw[if_neg hf] at h;cases h
end Go.Proofs.YtknihldkhedpkaaGreatDoor
end
section
namespace Go.Proofs.YtknihldkhedpkaaGreatDoor.PT
open Go.RowKit Go.Proofs.YtknihldkhedpkaaGreatDoorW.PrintWords Go.Proofs.YtknihldkhedpkaaGreatDoorW.PrintLast Go.Proofs.YtknihldkhedpkaaGreatDoorW.PrintMore
attribute [local go_sem] nQ nR qz qA lU lV nS nT
def fq.f (k:Nat)  : Option (Bool):=(eU.f ([]:List (mG)) (([(⟨2,(⟨#[47,100]⟩:ByteArray),(⟨#[]⟩:ByteArray),0,([]:List (dx)),([]:List Int)⟩:mG)]:List (mG)))).bind fun xg=>((aR.f k xg.1).bind fun AZ=>((d9.f ([]:List (mG)) AZ).bind fun dP=>((bI.f xg.2).bind fun sJ=>(if sJ=0 then ((dw.f xg.1 (([118,108,112,97,116,99,104,1,248,16,120,206,14,116,215,206,2,2,2,0,47,100,0,1,0,0,0,24,215,104,152]:List Int))).bind fun vD=>(if vD=true then ((bI.f dP.2).bind fun t206=>(if t206=0 then (if (dP.1.length:Int)=1 then (if 0<(dP.1.length:Int) then ((bJ.f ((aI dP.1 0).f0) ((aI dP.1 0).f1) ((aI dP.1 0).f2) ((aI dP.1 0).f3) ((aI dP.1 0).f4) ((aI dP.1 0).f5) 2 (⟨#[47,100]⟩:ByteArray) (⟨#[]⟩:ByteArray) 0 ([]:List (dx)) ([]:List Int)).bind fun t208=>(some t208)) else (none)) else (some false)) else (some false))) else (some false))) else (some false)))))
theorem fq.mono:∀k,bQ (fq.f k ) (fq.f (k+1) ):=by
 intro  k;unfold fq.f
 repeat' first
   | (with_reducible exact aR.mono _ _)
   | (with_reducible exact bQ.refl _)
   | (with_reducible exact bQ.none _)
   | (with_reducible refine bQ.ite ?_ ?_)
   | (with_reducible refine bQ.bind ?_ (fun _=>?_))
   | exact aR.mono _ _
   | exact bQ.none _
   | refine bQ.ite ?_ ?_
   | refine bQ.bind ?_ (fun _=>?_)
theorem fq.calls (k:Nat)  (w:World) (h:fq.f k=some true) :
  Calls Tryz.prog 11 #[] w fun e w'=>e=.returned (.bool true)∧Below w.heap.size w w':=by
 have OT:=Tryz.underlying29;have HB:=ah.mk (Below.refl w.heap.size w);have H:((eU.f ([]:List (mG)) (([(⟨2,(⟨#[47,100]⟩:ByteArray),(⟨#[]⟩:ByteArray),0,([]:List (dx)),([]:List Int)⟩:mG)]:List (mG)))).bind fun xg=>((aR.f k xg.1).bind fun AZ=>((d9.f ([]:List (mG)) AZ).bind fun dP=>((bI.f xg.2).bind fun sJ=>(if sJ=0 then ((dw.f xg.1 (([118,108,112,97,116,99,104,1,248,16,120,206,14,116,215,206,2,2,2,0,47,100,0,1,0,0,0,24,215,104,152]:List Int))).bind fun vD=>(if vD=true then ((bI.f dP.2).bind fun t206=>(if t206=0 then (if (dP.1.length:Int)=1 then (if 0<(dP.1.length:Int) then ((bJ.f ((aI dP.1 0).f0) ((aI dP.1 0).f1) ((aI dP.1 0).f2) ((aI dP.1 0).f3) ((aI dP.1 0).f4) ((aI dP.1 0).f5) 2 (⟨#[47,100]⟩:ByteArray) (⟨#[]⟩:ByteArray) 0 ([]:List (dx)) ([]:List Int)).bind fun t208=>(some t208)) else (none)) else (some false)) else (some false))) else (some false))) else (some false))))))=some true:=h;clear h
 obtain⟨acz,Nb⟩:∃y_:List (mG),y_=(([(⟨2,(⟨#[47,100]⟩:ByteArray),(⟨#[]⟩:ByteArray),0,([]:List (dx)),([]:List Int)⟩:mG)]:List (mG))):=⟨_,rfl⟩
 replace H:((eU.f ([]:List (mG)) acz).bind fun xg=>((aR.f k xg.1).bind fun AZ=>((d9.f ([]:List (mG)) AZ).bind fun dP=>((bI.f xg.2).bind fun sJ=>(if sJ=0 then ((dw.f xg.1 (([118,108,112,97,116,99,104,1,248,16,120,206,14,116,215,206,2,2,2,0,47,100,0,1,0,0,0,24,215,104,152]:List Int))).bind fun vD=>(if vD=true then ((bI.f dP.2).bind fun t206=>(if t206=0 then (if (dP.1.length:Int)=1 then (if 0<(dP.1.length:Int) then ((bJ.f ((aI dP.1 0).f0) ((aI dP.1 0).f1) ((aI dP.1 0).f2) ((aI dP.1 0).f3) ((aI dP.1 0).f4) ((aI dP.1 0).f5) 2 (⟨#[47,100]⟩:ByteArray) (⟨#[]⟩:ByteArray) 0 ([]:List (dx)) ([]:List Int)).bind fun t208=>(some t208)) else (none)) else (some false)) else (some false))) else (some false))) else (some false))))))=some true:=by first|(rw[Nb];with_reducible exact H)|(have zk:=(Option.bind_some _ _).symm.trans H;rw[Nb];with_reducible exact zk)|(have zk:=(Option.bind_some _ _).symm.trans H;with_reducible exact zk)|with_reducible exact H|(rw[Nb];exact H)|exact H
 have aaE:=ah.mk Nb;clear Nb;replace H:=Option.bind_eq_some_iff.mp H;obtain⟨⟨FD,PN⟩,A10,H⟩:=H;replace H:((aR.f k FD).bind fun AZ=>((d9.f ([]:List (mG)) AZ).bind fun dP=>((bI.f PN).bind fun sJ=>(if sJ=0 then ((dw.f FD (([118,108,112,97,116,99,104,1,248,16,120,206,14,116,215,206,2,2,2,0,47,100,0,1,0,0,0,24,215,104,152]:List Int))).bind fun vD=>(if vD=true then ((bI.f dP.2).bind fun t206=>(if t206=0 then (if (dP.1.length:Int)=1 then (if 0<(dP.1.length:Int) then ((bJ.f ((aI dP.1 0).f0) ((aI dP.1 0).f1) ((aI dP.1 0).f2) ((aI dP.1 0).f3) ((aI dP.1 0).f4) ((aI dP.1 0).f5) 2 (⟨#[47,100]⟩:ByteArray) (⟨#[]⟩:ByteArray) 0 ([]:List (dx)) ([]:List Int)).bind fun t208=>(some t208)) else (none)) else (some false)) else (some false))) else (some false))) else (some false)))))=some true:=H;have A1:=ah.mk A10;clear A10
 obtain⟨Vu,Nc⟩:∃y_:List Int,y_=(([118,108,112,97,116,99,104,1,248,16,120,206,14,116,215,206,2,2,2,0,47,100,0,1,0,0,0,24,215,104,152]:List Int)):=⟨_,rfl⟩
 replace H:((aR.f k FD).bind fun AZ=>((d9.f ([]:List (mG)) AZ).bind fun dP=>((bI.f PN).bind fun sJ=>(if sJ=0 then ((dw.f FD Vu).bind fun vD=>(if vD=true then ((bI.f dP.2).bind fun t206=>(if t206=0 then (if (dP.1.length:Int)=1 then (if 0<(dP.1.length:Int) then ((bJ.f ((aI dP.1 0).f0) ((aI dP.1 0).f1) ((aI dP.1 0).f2) ((aI dP.1 0).f3) ((aI dP.1 0).f4) ((aI dP.1 0).f5) 2 (⟨#[47,100]⟩:ByteArray) (⟨#[]⟩:ByteArray) 0 ([]:List (dx)) ([]:List Int)).bind fun t208=>(some t208)) else (none)) else (some false)) else (some false))) else (some false))) else (some false)))))=some true:=by first|(rw[Nc];with_reducible exact H)|(have zk:=(Option.bind_some _ _).symm.trans H;rw[Nc];with_reducible exact zk)|(have zk:=(Option.bind_some _ _).symm.trans H;with_reducible exact zk)|with_reducible exact H|(rw[Nc];exact H)|exact H
 have aaF:=ah.mk Nc;clear Nc;replace H:=Option.bind_eq_some_iff.mp H;obtain⟨AZ,Q0,H⟩:=H;replace H:((d9.f ([]:List (mG)) AZ).bind fun dP=>((bI.f PN).bind fun sJ=>(if sJ=0 then ((dw.f FD Vu).bind fun vD=>(if vD=true then ((bI.f dP.2).bind fun t206=>(if t206=0 then (if (dP.1.length:Int)=1 then (if 0<(dP.1.length:Int) then ((bJ.f ((aI dP.1 0).f0) ((aI dP.1 0).f1) ((aI dP.1 0).f2) ((aI dP.1 0).f3) ((aI dP.1 0).f4) ((aI dP.1 0).f5) 2 (⟨#[47,100]⟩:ByteArray) (⟨#[]⟩:ByteArray) 0 ([]:List (dx)) ([]:List Int)).bind fun t208=>(some t208)) else (none)) else (some false)) else (some false))) else (some false))) else (some false))))=some true:=H;have A2:=ah.mk Q0;clear Q0;replace H:=Option.bind_eq_some_iff.mp H;obtain⟨⟨gP,t201⟩,Q5,H⟩:=H;replace H:((bI.f PN).bind fun sJ=>(if sJ=0 then ((dw.f FD Vu).bind fun vD=>(if vD=true then ((bI.f t201).bind fun t206=>(if t206=0 then (if (gP.length:Int)=1 then (if 0<(gP.length:Int) then ((bJ.f ((aI gP 0).f0) ((aI gP 0).f1) ((aI gP 0).f2) ((aI gP 0).f3) ((aI gP 0).f4) ((aI gP 0).f5) 2 (⟨#[47,100]⟩:ByteArray) (⟨#[]⟩:ByteArray) 0 ([]:List (dx)) ([]:List Int)).bind fun t208=>(some t208)) else (none)) else (some false)) else (some false))) else (some false))) else (some false)))=some true:=H;have A3:=ah.mk Q5;clear Q5;replace H:=Option.bind_eq_some_iff.mp H;obtain⟨sJ,Rh,H⟩:=H;replace H:(if sJ=0 then ((dw.f FD Vu).bind fun vD=>(if vD=true then ((bI.f t201).bind fun t206=>(if t206=0 then (if (gP.length:Int)=1 then (if 0<(gP.length:Int) then ((bJ.f ((aI gP 0).f0) ((aI gP 0).f1) ((aI gP 0).f2) ((aI gP 0).f3) ((aI gP 0).f4) ((aI gP 0).f5) 2 (⟨#[47,100]⟩:ByteArray) (⟨#[]⟩:ByteArray) 0 ([]:List (dx)) ([]:List Int)).bind fun t208=>(some t208)) else (none)) else (some false)) else (some false))) else (some false))) else (some false))=some true:=H;have A4:=ah.mk Rh;clear Rh;by_cases c5:sJ=0
 ·rw[if_pos c5] at H;have ER:(sJ == 0)=true:=beq_iff_eq.mpr c5;have XI:(sJ != 0)=false:=bne_eq_false_iff_eq.mpr c5;clear c5;replace H:=Option.bind_eq_some_iff.mp H;obtain⟨vD,A60,H⟩:=H;replace H:(if vD=true then ((bI.f t201).bind fun t206=>(if t206=0 then (if (gP.length:Int)=1 then (if 0<(gP.length:Int) then ((bJ.f ((aI gP 0).f0) ((aI gP 0).f1) ((aI gP 0).f2) ((aI gP 0).f3) ((aI gP 0).f4) ((aI gP 0).f5) 2 (⟨#[47,100]⟩:ByteArray) (⟨#[]⟩:ByteArray) 0 ([]:List (dx)) ([]:List Int)).bind fun t208=>(some t208)) else (none)) else (some false)) else (some false))) else (some false))=some true:=H;have A6:=ah.mk A60;clear A60;by_cases c7:vD=true
  ·subst c7
   have H1:((bI.f t201).bind fun t206=>(if t206=0 then (if (gP.length:Int)=1 then (if 0<(gP.length:Int) then ((bJ.f ((aI gP 0).f0) ((aI gP 0).f1) ((aI gP 0).f2) ((aI gP 0).f3) ((aI gP 0).f4) ((aI gP 0).f5) 2 (⟨#[47,100]⟩:ByteArray) (⟨#[]⟩:ByteArray) 0 ([]:List (dx)) ([]:List Int)).bind fun t208=>(some t208)) else (none)) else (some false)) else (some false)))=some true:=by rw[if_pos rfl] at H;exact H
   clear H;have H:=H1;clear H1;replace H:=Option.bind_eq_some_iff.mp H;obtain⟨t206,A80,H⟩:=H;replace H:(if t206=0 then (if (gP.length:Int)=1 then (if 0<(gP.length:Int) then ((bJ.f ((aI gP 0).f0) ((aI gP 0).f1) ((aI gP 0).f2) ((aI gP 0).f3) ((aI gP 0).f4) ((aI gP 0).f5) 2 (⟨#[47,100]⟩:ByteArray) (⟨#[]⟩:ByteArray) 0 ([]:List (dx)) ([]:List Int)).bind fun t208=>(some t208)) else (none)) else (some false)) else (some false))=some true:=H;have A8:=ah.mk A80;clear A80;by_cases c9:t206=0
   ·rw[if_pos c9] at H;have KI:(t206 == 0)=true:=beq_iff_eq.mpr c9;have acA:(t206 != 0)=false:=bne_eq_false_iff_eq.mpr c9;clear c9;by_cases c10:(gP.length:Int)=1
    ·rw[if_pos c10] at H;have FE:((gP.length:Int) == 1)=true:=beq_iff_eq.mpr c10;have afH:((gP.length:Int) != 1)=false:=bne_eq_false_iff_eq.mpr c10;clear c10
     by_cases c11:0<(gP.length:Int)
     ·rw[if_pos c11] at H;have Vv:decide (0<(gP.length:Int))=true:=decide_eq_true c11;have anm:decide (0<gP.length)=true:=decide_eq_true (by omega);clear c11;replace H:=Option.bind_eq_some_iff.mp H;obtain⟨t208,afI,H⟩:=H;replace H:(some t208)=some true:=H;have A12:=ah.mk afI;clear afI;have HQ_:=ah.mk (Option.some.inj H)
      go_enter Tryz.func11,Tryz.ntmps11
      go_wp2_with (first|((with_reducible refine eZ (N:=8) rfl ?_);(try (refine FH (by rfl) ?_;dsimp only));refine Kd.afJ oW _ 29 ?hg (N:=8) ?hd (xs:=([(⟨2,(⟨#[47,100]⟩:ByteArray),(⟨#[]⟩:ByteArray),0,([]:List (dx)),([]:List Int)⟩:mG)]:List (mG))) (inner:=[.int .i64 2,.string (⟨#[47,100]⟩:ByteArray),.string (⟨#[]⟩:ByteArray),.int .i64 0,.slice none 0 0,.slice none 0 0]) (ok:=fun _=>True) (uK:=fun _=>True) ?hr ?hp (fun _ hk=>hk) trivial (Below.refl _ _) (Nat.le_refl _) (by simp) ?_;(case hd=>rfl);(case hg=>rfl);(case hr=>first|(go_simp;done)|(go_simp;rfl));(case hp=>exact (dG.c6 (show Kd.M oW _ _ _ (⟨2,(⟨#[47,100]⟩:ByteArray),(⟨#[]⟩:ByteArray),0,([]:List (dx)),([]:List Int)⟩:mG) [.int .i64 2,.string (⟨#[47,100]⟩:ByteArray),.string (⟨#[]⟩:ByteArray),.int .i64 0,.slice none 0 0,.slice none 0 0] from (uP _ _ _ (⟨2,(⟨#[47,100]⟩:ByteArray),(⟨#[]⟩:ByteArray),0,([]:List (dx)),([]:List Int)⟩:mG) (Kd.fA _ _ _ _ _) (Kd.fA _ _ _ _ _))) (dG.none _ _)));intro apS w13 Vw hb hg_ Vx;clear hg_ Vx;(first|rw[← aaE.out] at Vw|(simp only[Int.reduceToNat] at Vw;rw[← aaE.out] at Vw));have eF:=ah.mk (Kd.Ak Vw (bf (by repeat (first|(with_reducible first|exact HB.out|apply ay|apply au|apply aA)|exact HB.out))));have fG:=ah.mk (bM (by repeat (first|(with_reducible first|exact HB.out|apply ay|apply au|apply aA)|exact HB.out)) hb);clear HB;have oP:=eF;have HB:=fG;clear eF fG;clear hb Vw;obtain⟨ak3,ak4,ak5⟩:=Kd.lC oP.out;subst ak5)|((with_reducible refine fH (f:=18) rfl ?_);refine nI (some 9) rfl rfl Tryz.func18 (by kernel_rfl) rfl #[.slice none 0 0,.slice ak3 acz.length ak4] rfl (by (try simp only[List.map_toArray,List.map_cons,List.map_nil]);first|done|rfl|(simp only[List.length_drop,List.length_take];rfl)) ?_;(refine (eU.calls _ _ ([]:List (mG)) _ _ acz FD PN _ ?iW ?iX ?rZ ?r9 A1.out).mono ?_);(case iW=>exact Kd.Nf _ _);(case iX=>exact Nat.le_refl _);(case rZ=>repeat (first|exact (Kd.iw oP.out).2.2|(with_reducible refine Kd.dW ?_ _)|(with_reducible refine Kd.dL ?_ _)|(with_reducible refine Kd.fV ?_)));(case r9=>exact (Kd.iw oP.out).2.1);rintro e w16 ⟨apT,rfl,ho0,hb⟩;refine⟨_,rfl,?_⟩;have eF:=ah.mk (Kd.wT (by (with_reducible repeat (first|apply Kd.lu|apply Kd.nk|apply Kd.qm));exact oP.out) (Kd.rR ho0) hb);have fG:=ah.mk (Kd.fC ho0 (bf (by repeat (first|(with_reducible first|exact HB.out|apply ay|apply au|apply aA)|exact HB.out))));have gN:=ah.mk (bM (by repeat (first|(with_reducible first|exact HB.out|apply ay|apply au|apply aA)|exact HB.out)) hb);clear oP;clear HB;have oP:=eF;have nO:=fG;have HB:=gN;clear eF fG gN;(try clear hb);(try clear hb2);(try clear hk);(try clear hi);(try clear ho0))|((with_reducible refine eZ (N:=12) rfl ?_);(try (refine FH (by rfl) ?_;dsimp only));refine Kd.aaG (Kd.int .u8) _ 5 ?hg (N:=12) ?hd (xs:=([118,108,112,97,116,99,104,1,248,16,120,206,14,116,215,206,2,2,2,0,47,100,0,1,0,0,0,24,215,104,152]:List Int)) (inner:=[.int .u8 118,.int .u8 108,.int .u8 112,.int .u8 97,.int .u8 116,.int .u8 99,.int .u8 104,.int .u8 1,.int .u8 248,.int .u8 16,.int .u8 120,.int .u8 206,.int .u8 14,.int .u8 116,.int .u8 215,.int .u8 206,.int .u8 2,.int .u8 2,.int .u8 2,.int .u8 0,.int .u8 47,.int .u8 100,.int .u8 0,.int .u8 1,.int .u8 0,.int .u8 0,.int .u8 0,.int .u8 24,.int .u8 215,.int .u8 104,.int .u8 152]) (ok:=fun _=>True) (uK:=fun _=>True) ?hr ?hp (fun _ hk=>hk) trivial (Below.refl _ _) (Nat.le_refl _) (by simp) ?_;(case hd=>rfl);(case hg=>rfl);(case hr=>first|(go_simp;done)|(go_simp;rfl));(case hp=>exact (dG.one (show Kd.M (Kd.int .u8) _ _ _ 118 [.int .u8 118] from rfl) (dG.one (show Kd.M (Kd.int .u8) _ _ _ 108 [.int .u8 108] from rfl) (dG.one (show Kd.M (Kd.int .u8) _ _ _ 112 [.int .u8 112] from rfl) (dG.one (show Kd.M (Kd.int .u8) _ _ _ 97 [.int .u8 97] from rfl) (dG.one (show Kd.M (Kd.int .u8) _ _ _ 116 [.int .u8 116] from rfl) (dG.one (show Kd.M (Kd.int .u8) _ _ _ 99 [.int .u8 99] from rfl) (dG.one (show Kd.M (Kd.int .u8) _ _ _ 104 [.int .u8 104] from rfl) (dG.one (show Kd.M (Kd.int .u8) _ _ _ 1 [.int .u8 1] from rfl) (dG.one (show Kd.M (Kd.int .u8) _ _ _ 248 [.int .u8 248] from rfl) (dG.one (show Kd.M (Kd.int .u8) _ _ _ 16 [.int .u8 16] from rfl) (dG.one (show Kd.M (Kd.int .u8) _ _ _ 120 [.int .u8 120] from rfl) (dG.one (show Kd.M (Kd.int .u8) _ _ _ 206 [.int .u8 206] from rfl) (dG.one (show Kd.M (Kd.int .u8) _ _ _ 14 [.int .u8 14] from rfl) (dG.one (show Kd.M (Kd.int .u8) _ _ _ 116 [.int .u8 116] from rfl) (dG.one (show Kd.M (Kd.int .u8) _ _ _ 215 [.int .u8 215] from rfl) (dG.one (show Kd.M (Kd.int .u8) _ _ _ 206 [.int .u8 206] from rfl) (dG.one (show Kd.M (Kd.int .u8) _ _ _ 2 [.int .u8 2] from rfl) (dG.one (show Kd.M (Kd.int .u8) _ _ _ 2 [.int .u8 2] from rfl) (dG.one (show Kd.M (Kd.int .u8) _ _ _ 2 [.int .u8 2] from rfl) (dG.one (show Kd.M (Kd.int .u8) _ _ _ 0 [.int .u8 0] from rfl) (dG.one (show Kd.M (Kd.int .u8) _ _ _ 47 [.int .u8 47] from rfl) (dG.one (show Kd.M (Kd.int .u8) _ _ _ 100 [.int .u8 100] from rfl) (dG.one (show Kd.M (Kd.int .u8) _ _ _ 0 [.int .u8 0] from rfl) (dG.one (show Kd.M (Kd.int .u8) _ _ _ 1 [.int .u8 1] from rfl) (dG.one (show Kd.M (Kd.int .u8) _ _ _ 0 [.int .u8 0] from rfl) (dG.one (show Kd.M (Kd.int .u8) _ _ _ 0 [.int .u8 0] from rfl) (dG.one (show Kd.M (Kd.int .u8) _ _ _ 0 [.int .u8 0] from rfl) (dG.one (show Kd.M (Kd.int .u8) _ _ _ 24 [.int .u8 24] from rfl) (dG.one (show Kd.M (Kd.int .u8) _ _ _ 215 [.int .u8 215] from rfl) (dG.one (show Kd.M (Kd.int .u8) _ _ _ 104 [.int .u8 104] from rfl) (dG.one (show Kd.M (Kd.int .u8) _ _ _ 152 [.int .u8 152] from rfl) (dG.none _ _)))))))))))))))))))))))))))))))));intro apU w17 PO hb hg_ Vx;clear hg_ Vx;(first|rw[← aaF.out] at PO|(simp only[Int.reduceToNat] at PO;rw[← aaF.out] at PO));have eF:=ah.mk (Kd.wT (by (with_reducible repeat (first|apply Kd.lu|apply Kd.nk|apply Kd.qm));exact oP.out) (Kd.rR PO) hb);have fG:=ah.mk (Kd.Ba (by (with_reducible repeat (first|apply Kd.dz|apply Kd.dA|apply Kd.dO));exact nO.out) (Kd.rR PO) hb);have gN:=ah.mk (Kd.fC (Kd.KJ PO (Kd.Ih (by (with_reducible repeat (first|apply Kd.dz|apply Kd.dA|apply Kd.dO));exact nO.out))) (bf (by repeat (first|(with_reducible first|exact HB.out|apply ay|apply au|apply aA)|exact HB.out))));have jE:=ah.mk (bM (by repeat (first|(with_reducible first|exact HB.out|apply ay|apply au|apply aA)|exact HB.out)) hb);clear oP;clear nO;clear HB;have oP:=eF;have nO:=fG;have sV:=gN;have HB:=jE;clear eF fG gN jE;clear hb PO;obtain⟨ak6,ak7,ak8⟩:=Kd.bH nO.out;subst ak8)|((with_reducible refine fH (f:=23) rfl ?_);refine nI (some 15) rfl rfl Tryz.func23 (by kernel_rfl) rfl #[.slice ak6 FD.length ak7] rfl (by (try simp only[List.map_toArray,List.map_cons,List.map_nil]);first|done|rfl|(simp only[List.length_drop,List.length_take];rfl)) ?_;(with_reducible refine (aR.calls k _ _ FD AZ _ ?iW ?iX A2.out).mono ?_);(case iW=>repeat (first|exact (Kd.dB nO.out).2.2|(with_reducible refine Kd.dW ?_ _)|(with_reducible refine Kd.dL ?_ _)|(with_reducible refine Kd.fV ?_)));(case iX=>exact (Kd.dB nO.out).2.1);rintro e w20 ⟨v198,rfl,ho0,hb⟩;refine⟨_,rfl,?_⟩;have eF:=ah.mk (Kd.wT (by (with_reducible repeat (first|apply Kd.lu|apply Kd.nk|apply Kd.qm));exact oP.out) (Kd.rR ho0) hb);have fG:=ah.mk (Kd.Ba (by (with_reducible repeat (first|apply Kd.dz|apply Kd.dA|apply Kd.dO));exact nO.out) (Kd.rR ho0) hb);have gN:=ah.mk (Kd.Ba (by (with_reducible repeat (first|apply Kd.dz|apply Kd.dA|apply Kd.dO));exact sV.out) (Kd.rR ho0) hb);have jE:=ah.mk (Kd.fC (Kd.KJ (Kd.KJ ho0 (Kd.Ih (by (with_reducible repeat (first|apply Kd.dz|apply Kd.dA|apply Kd.dO));exact nO.out))) (Kd.Ih (by (with_reducible repeat (first|apply Kd.dz|apply Kd.dA|apply Kd.dO));exact sV.out))) (bf (by repeat (first|(with_reducible first|exact HB.out|apply ay|apply au|apply aA)|exact HB.out))));have uF:=ah.mk (bM (by repeat (first|(with_reducible first|exact HB.out|apply ay|apply au|apply aA)|exact HB.out)) hb);clear oP;clear nO;clear sV;clear HB;have oP:=eF;have nO:=fG;have sV:=gN;have yJ:=jE;have HB:=uF;clear eF fG gN jE uF;(try clear hb);(try clear hb2);(try clear hk);(try clear hi);(try clear ho0);obtain⟨ak9,ala,alb⟩:=Kd.bH yJ.out;subst alb)|((with_reducible refine fH (f:=22) rfl ?_);refine nI (some 16) rfl rfl Tryz.func22 (by kernel_rfl) rfl #[.slice none 0 0,.slice ak9 AZ.length ala] rfl (by (try simp only[List.map_toArray,List.map_cons,List.map_nil]);first|done|rfl|(simp only[List.length_drop,List.length_take];rfl)) ?_;(refine (d9.calls _ _ ([]:List (mG)) _ _ AZ gP t201 _ ?iW ?iX ?rZ ?r9 A3.out).mono ?_);(case iW=>exact Kd.Nf _ _);(case iX=>exact Nat.le_refl _);(case rZ=>repeat (first|exact (Kd.dB yJ.out).2.2|(with_reducible refine Kd.dW ?_ _)|(with_reducible refine Kd.dL ?_ _)|(with_reducible refine Kd.fV ?_)));(case r9=>exact (Kd.dB yJ.out).2.1);rintro e w22 ⟨apV,rfl,ho0,hb⟩;refine⟨_,rfl,?_⟩;have eF:=ah.mk (Kd.wT (by (with_reducible repeat (first|apply Kd.lu|apply Kd.nk|apply Kd.qm));exact oP.out) (Kd.Vk ho0) hb);have fG:=ah.mk (Kd.dh (by (with_reducible repeat (first|apply Kd.dz|apply Kd.dA|apply Kd.dO));exact nO.out) hb);have gN:=ah.mk (Kd.dh (by (with_reducible repeat (first|apply Kd.dz|apply Kd.dA|apply Kd.dO));exact sV.out) hb);have jE:=ah.mk (Kd.dh (by (with_reducible repeat (first|apply Kd.dz|apply Kd.dA|apply Kd.dO));exact yJ.out) hb);have uF:=ah.mk (Kd.Ak (Kd.KL (Kd.KL (Kd.KL (Kd.KL ho0 (Kd.Yh (by (with_reducible repeat (first|apply Kd.lu|apply Kd.nk|apply Kd.qm));exact oP.out))) (Kd.Ih (by (with_reducible repeat (first|apply Kd.dz|apply Kd.dA|apply Kd.dO));exact nO.out))) (Kd.Ih (by (with_reducible repeat (first|apply Kd.dz|apply Kd.dA|apply Kd.dO));exact sV.out))) (Kd.Ih (by (with_reducible repeat (first|apply Kd.dz|apply Kd.dA|apply Kd.dO));exact yJ.out))) (bf (by repeat (first|(with_reducible first|exact HB.out|apply ay|apply au|apply aA)|exact HB.out))));have yE:=ah.mk (bM (by repeat (first|(with_reducible first|exact HB.out|apply ay|apply au|apply aA)|exact HB.out)) hb);clear oP;clear nO;clear sV;clear yJ;clear HB;have oP:=eF;have nO:=fG;have sV:=gN;have yJ:=jE;have FI:=uF;have HB:=yE;clear eF fG gN jE uF yE;(try clear hb);(try clear hb2);(try clear hk);(try clear hi);(try clear ho0))|((with_reducible refine fH (f:=21) rfl ?_);refine nI (some 20) rfl rfl Tryz.func21 (by kernel_rfl) rfl #[.int .i64 PN] rfl (by (try simp only[List.map_toArray,List.map_cons,List.map_nil]);first|done|rfl|(simp only[List.length_drop,List.length_take];rfl)) ?_;(with_reducible refine (bI.calls PN sJ _ A4.out).mono ?_);rintro e w' ⟨rfl,⟨nd,rfl⟩⟩;refine⟨_,rfl,?_⟩;obtain⟨apW,apX,alc⟩:=Kd.bH sV.out;subst alc)|(go_at_call 25;(with_reducible refine (dw.calls _ _ FD _ _ Vu true _ ?iW ?iX ?rZ ?r9 A6.out).mono ?_);(case iW=>repeat (first|exact (Kd.dB nO.out).2.2|(with_reducible refine Kd.dW ?_ _)|(with_reducible refine Kd.dL ?_ _)|(with_reducible refine Kd.fV ?_)));(case iX=>exact (Kd.dB nO.out).2.1);(case rZ=>repeat (first|exact (Kd.dB sV.out).2.2|(with_reducible refine Kd.dW ?_ _)|(with_reducible refine Kd.dL ?_ _)|(with_reducible refine Kd.fV ?_)));(case r9=>exact (Kd.dB sV.out).2.1);rintro e w' ⟨rfl,⟨nd,rfl⟩⟩)|(go_at_call 21;(with_reducible refine (bI.calls t201 t206 _ A8.out).mono ?_);rintro e w' ⟨rfl,⟨nd,rfl⟩⟩;obtain⟨apY,apZ,ald⟩:=Kd.lC FI.out;subst ald;have Yl:0≤(0:Int):=(by omega);have Ym:0<(gP.length:Int):=of_decide_eq_true (by first|(with_reducible assumption)|assumption);obtain⟨anp,ale,alf,alg,alh,e207,KM,KN,KO,KP,DZ,D5,Rz,RA,RB,RD⟩:=uQ (Kd.iw FI.out).2.2 0 Yl Ym;cases e207;obtain⟨anq,acC,acD,PS⟩:=Kd.afK FI.out z29 0 Yl (by first|exact Ym|exact of_decide_eq_true (by first|(with_reducible assumption)|assumption)|(have e_:=(Kd.iw FI.out).1;omega));obtain⟨aht,ahu,rfl,KQ,KR⟩:=Iz acD;have Bb:=PS 4 _ rfl;rw[fJ _ _ 4 (by omega)] at Bb;replace Bb:=Option.some.inj (Bb.symm.trans DZ);rw[Bb] at KQ;have KS:=ah.mk (show Kd.R cO 117 _ _ _ _ ((aI gP 0).f4) from KQ);clear Bb KQ;have Bc:=PS 5 _ rfl;rw[fJ _ _ 5 (by omega)] at Bc;replace Bc:=Option.some.inj (Bc.symm.trans D5);rw[Bc] at KR;have KT:=ah.mk (show Kd.R (Kd.int .u8) 5 _ _ _ _ ((aI gP 0).f5) from KR);clear Bc KR;clear PS acC;have anr:(0<gP.length)=True:=eq_true (by omega);(try rw[show ((0:Int)).toNat=0 from rfl] at KM);(try rw[show 0*6=0 from rfl] at KM);(try rw[Addr.add_zero'] at KM);(try rw[show ((0:Int)).toNat=0 from rfl] at KN);(try rw[show 0*6=0 from rfl] at KN);(try rw[Addr.add_zero'] at KN);(try rw[show ((0:Int)).toNat=0 from rfl] at KO);(try rw[show 0*6=0 from rfl] at KO);(try rw[Addr.add_zero'] at KO);(try rw[show ((0:Int)).toNat=0 from rfl] at KP);(try rw[show 0*6=0 from rfl] at KP);(try rw[Addr.add_zero'] at KP);(try rw[show ((0:Int)).toNat=0 from rfl] at DZ);(try rw[show 0*6=0 from rfl] at DZ);(try rw[Addr.add_zero'] at DZ);(try rw[show ((0:Int)).toNat=0 from rfl] at D5);(try rw[show 0*6=0 from rfl] at D5);(try rw[Addr.add_zero'] at D5);have xU:=ah.mk RA;have Yn:=ah.mk Rz;clear RA Rz;have xV:=ah.mk RD;have Yo:=ah.mk RB;clear RD RB;replace Yl:=eq_true Yl;replace Ym:=eq_true Ym)|(go_at_call 34;(refine (bJ.calls ((aI gP 0).f0) ((aI gP 0).f1) ((aI gP 0).f2) ((aI gP 0).f3) _ _ ((aI gP 0).f4) _ _ ((aI gP 0).f5) 2 (⟨#[47,100]⟩:ByteArray) (⟨#[]⟩:ByteArray) 0 _ _ ([]:List (dx)) _ _ ([]:List Int) t208 _ ?iW ?iX ?rZ ?r9 ?E5 ?E8 ?E9 ?Fa A12.out).mono ?_);(case iW=>repeat (first|exact (by repeat (first|(with_reducible exact xU.out)|(with_reducible refine Kd.dW ?_ _)|(with_reducible refine Kd.dL ?_ _)|(with_reducible refine Kd.fV ?_)|exact xU.out))|(with_reducible refine Kd.dW ?_ _)|(with_reducible refine Kd.dL ?_ _)|(with_reducible refine Kd.fV ?_)));(case iX=>exact Yn.out);(case rZ=>repeat (first|exact (by repeat (first|(with_reducible exact xV.out)|(with_reducible refine Kd.dW ?_ _)|(with_reducible refine Kd.dL ?_ _)|(with_reducible refine Kd.fV ?_)|exact xV.out))|(with_reducible refine Kd.dW ?_ _)|(with_reducible refine Kd.dL ?_ _)|(with_reducible refine Kd.fV ?_)));(case r9=>exact Yo.out);(case E5=>exact Kd.Nf _ _);(case E8=>exact Nat.le_refl _);(case E9=>exact Kd.Nf _ _);(case Fa=>exact Nat.le_refl _);rintro e Yp ⟨rfl,hb⟩;have eF:=ah.mk (Kd.jI (by (with_reducible repeat (first|apply Kd.lu|apply Kd.nk|apply Kd.qm));exact oP.out) hb);have fG:=ah.mk (Kd.dh (by (with_reducible repeat (first|apply Kd.dz|apply Kd.dA|apply Kd.dO));exact nO.out) hb);have gN:=ah.mk (Kd.dh (by (with_reducible repeat (first|apply Kd.dz|apply Kd.dA|apply Kd.dO));exact sV.out) hb);have jE:=ah.mk (Kd.dh (by (with_reducible repeat (first|apply Kd.dz|apply Kd.dA|apply Kd.dO));exact yJ.out) hb);have uF:=ah.mk (Kd.jI (by (with_reducible repeat (first|apply Kd.lu|apply Kd.nk|apply Kd.qm));exact FI.out) hb);have yE:=ah.mk (Kd.dh (by (with_reducible repeat (first|apply Kd.dz|apply Kd.dA|apply Kd.dO));exact KS.out) hb);have Ai:=ah.mk (Kd.dh (by (with_reducible repeat (first|apply Kd.dz|apply Kd.dA|apply Kd.dO));exact KT.out) hb);have n7_:=ah.mk (Kd.aC (by repeat (first|(with_reducible exact xU.out)|(with_reducible refine Kd.dW ?_ _)|(with_reducible refine Kd.dL ?_ _)|(with_reducible refine Kd.fV ?_)|exact xU.out)) hb);have n8_:=ah.mk (Kd.aC (by repeat (first|(with_reducible exact xV.out)|(with_reducible refine Kd.dW ?_ _)|(with_reducible refine Kd.dL ?_ _)|(with_reducible refine Kd.fV ?_)|exact xV.out)) hb);have n9_:=ah.mk (bM (by repeat (first|(with_reducible first|exact HB.out|apply ay|apply au|apply aA)|exact HB.out)) hb);clear oP;clear nO;clear sV;clear yJ;clear FI;clear KS;clear KT;clear xU;clear xV;clear HB;have oP:=eF;have nO:=fG;have sV:=gN;have yJ:=jE;have FI:=uF;have KS:=yE;have KT:=Ai;have xU:=n7_;have xV:=n8_;have HB:=n9_;clear eF fG gN jE uF yE Ai n7_ n8_ n9_;(try clear hb);(try clear hb2);(try clear hk);(try clear hi)))
      go_ret
      have hq_:=HQ_.out;clear HQ_;subst hq_;exact⟨by first|rfl|(simp[aU,aV] <;> rfl)|(simp[*,aU,aV] <;> rfl),by repeat (first|(with_reducible first|exact HB.out|apply ay|apply au|apply aA)|exact HB.out)⟩
     ·rw[if_neg c11] at H;exact absurd H (by simp)
    ·rw[if_neg c10] at H;have FE:((gP.length:Int) == 1)=false:=beq_eq_false_iff_ne.mpr c10;have afH:((gP.length:Int) != 1)=true:=bne_iff_ne.mpr c10;exact absurd H (by simp)
   ·rw[if_neg c9] at H;have KI:(t206 == 0)=false:=beq_eq_false_iff_ne.mpr c9;have acA:(t206 != 0)=true:=bne_iff_ne.mpr c9;exact absurd H (by simp)
  ·replace c7:=Bool.eq_false_iff.mpr c7;subst c7
   have H1:(some false)=some true:=by rw[if_neg (show ¬(false=true) by decide)] at H;exact H
   clear H;have H:=H1;clear H1;exact absurd H (by simp)
 ·rw[if_neg c5] at H;have ER:(sJ == 0)=false:=beq_eq_false_iff_ne.mpr c5;have XI:(sJ != 0)=true:=bne_iff_ne.mpr c5;exact absurd H (by simp)
end Go.Proofs.YtknihldkhedpkaaGreatDoor.PT
end
