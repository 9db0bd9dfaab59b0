import Derived.Test.YtknihldkhedpkaaGreatDoorUUG22
set_option linter.all false
set_option maxHeartbeats 16000000
set_option maxRecDepth 100000
namespace Go.Proofs.YtknihldkhedpkaaGreatDoor
open Go.RowKit Go.Lib Go.Maps Go.WideAt
open Go.Proofs.YtknihldkhedpkaaGreatDoorW.PrintWords Go.Proofs.YtknihldkhedpkaaGreatDoorW.PrintLast Go.Proofs.YtknihldkhedpkaaGreatDoor.PT
attribute [local go_sem] Oper.semAt_some
theorem OC {y:It} (h4:y.f4.length≤1048576) (h5:y.f5.length≤1073741824):gQ.f y.f0 y.f1 y.f2 y.f3 y.f4 y.f5=some (y.f0,y.f1,y.f2,y.f3,y.f4,y.f5):=by
 unfold gQ.f oC.f jJ.f;rw[if_pos h4,if_pos h5];rfl
theorem ER:(Tryz.prog.info? 29).map (fun i=>(i.zero,i.size,i.bytes))=some (some (.agg #[.int .i64 0,.string ⟨#[]⟩,.string ⟨#[]⟩,.int .i64 0,.slice none 0 0,.slice none 0 0]),6,96):=by kernel_rfl
theorem ab5:∀w:World,(isAgg 25).run Tryz.prog w=.ok false w:=fun w=>by kernel_rfl
theorem Ko {fn:Func} {P:Program} {p1 p2:Tmp} {t1 t2:TypeId} (h:fn.results=#[.cell p1 t1,.cell p2 t2]) (tmps:Array Value) (w:World) (b1 b2:Nat) (v:Value) (ok:Bool)
  (h1:tmps.getD p1 undef=.pointer (some ⟨b1,0,none⟩)) (h2:tmps.getD p2 undef=.pointer (some ⟨b2,0,none⟩)) (g1:w.heap[b1]?=some (.cells #[v] t1 (0,0))) (g2:w.heap[b2]?=some (.cells #[.bool ok] t2 (0,0)))
  (ht1:∀w:World,(isAgg t1).run P w=.ok false w) (ht2:∀w:World,(isAgg t2).run P w=.ok false w) :
  (results fn tmps).run P w=.ok (.tuple #[v,.bool ok]) w:=by
 have h1':tmps[p1]?.getD undef=.pointer (some ⟨b1,0,none⟩):=by simpa using h1
 have h2':tmps[p2]?.getD undef=.pointer (some ⟨b2,0,none⟩):=by simpa using h2
 have hc1:w.cell? ⟨b1,0,none⟩=some v:=ak g1 0;have hc:w.cell? ⟨b2,0,none⟩=some (.bool ok):=ak g2 0
 have e1:(loadVar t1 ⟨b1,0,none⟩).run P w=.ok v w:=by simp[hc1,ht1,go_sem,Result.andThen]
 have e2:(loadVar t2 ⟨b2,0,none⟩).run P w=.ok (.bool ok) w:=by simp[hc,ht2,go_sem,Result.andThen]
 simp only[results,h];simp[h1',h2',asAddr,e1,e2,Result.andThen,Sem.run_bind]
def ab6 (K:Act→World→Prop):Exit→Act→World→Prop
 | .normal,a,w=>K a w
 | _,_,_=>False
theorem BX {K:Act→World→Prop} {a:Act} {w:World} (h:K a w):ab6 K .normal a w:=h
theorem Kr {P:Program} {B:FuncId→Prop} {Q:Exit→Act→World→Prop} {a:Act} {w:World} {x y:Code} (h:x.wp P (ab6 (Yw B P y Q)) a w):Yw B P (Code.seq x y) Q a w :=
 yS (sK (Code.wp_mono (fun e a w h=>by cases e <;> first|exact h|exact h.elim) h))
structure Oc1 (w:World) (pl:Nat) (cs:List Ch) (i:Nat) (v:Value) (W:World):Prop where
 low:Below w.heap.size w W
 lb:W.heap[pl]?=some (.cells #[.slice none 0 0] 25 (0,0))
 ob:W.heap[pl+1]?=some (.cells #[.bool false] 4 (0,0))
 mb:W.heap[pl+1+1+1]?=some (.cells #[.map (some (pl+1+1))] 162 (0,0))
 mp:qX w W (pl+1+1) i (cs.take i)
 fr:Kd.R om 29 W w.heap.size (fun _=>True) v (eP (cs.take i))
theorem Oc1.below {w W W1:World} {pl:Nat} {cs:List Ch} {i:Nat} {v:Value} (h:Oc1 w pl cs i v W) (hb:Below W.heap.size W W1):Oc1 w pl cs i v W1 :=
 ⟨h.low.trans (hb.mono h.low.size),aG h.lb hb,aG h.ob hb,aG h.mb hb,h.mp.below hb,Kd.dF h.fr hb⟩
structure ZL (w:World) (pl:Nat) (cs:List Ch) (i:Nat) (v:Value) (W:World):Prop where
 low:Below w.heap.size w W
 lb:W.heap[pl]?=some (.cells #[.slice none 0 0] 25 (0,0))
 ob:W.heap[pl+1]?=some (.cells #[.bool false] 4 (0,0))
 mb:W.heap[pl+1+1+1]?=some (.cells #[.map (some (pl+1+1))] 162 (0,0))
 mp:qX w W (pl+1+1) (i+1) (cs.take (i+1))
 fr:Kd.R om 29 W w.heap.size (fun _=>True) v (eP (cs.take i))
theorem Oc1.am7 {w W W1:World} {pl:Nat} {cs:List Ch} {i:Nat} {v:Value} (h:Oc1 w pl cs i v W) (hm:qX w W1 (pl+1+1) (i+1) (cs.take (i+1))) (hg:W.grownBy W1 (some (pl+1+1))) (hp:w.heap.size≤pl):ZL w pl cs i v W1:=by
 have hoth:∀k (o:Obj),W.heap[k]?=some o→o.isCells=true→W1.heap[k]?=some o:=fun k o ho hc=>(hg.block k (bE ho) (fun e=>by
  obtain⟨o2,h1,h2⟩:=h.mp.has;rw[Option.some.inj e,h1] at ho;obtain rfl:=Option.some.inj ho;rw[h2] at hc
  cases hc)).trans ho
 refine⟨h.low.grown hg h.low.size (fun k e=>by have:=Option.some.inj e;omega),hoth _ _ h.lb rfl,hoth _ _ h.ob rfl,hoth _ _ h.mb rfl,hm,Kd.dU (Kd.ou (Kd.gM h.fr) (fun k hk hlt=>?_)) (fun _ _=>trivial)⟩;obtain⟨_,_,_,q,_,cells,hc⟩:=hk;exact (hoth _ _ hc rfl).trans hc.symm
theorem ZL.push {w W W1:World} {pl:Nat} {cs:List Ch} {i:Nat} {v v1:Value} {c:Ch} (h:ZL w pl cs i v W) (hi:i<cs.length) (hc:cs[i]'hi=c) (hb:Below w.heap.size w W1) (hg:W.grownBy W1 v.ownBlock) (hr:Kd.R om 29 W1 w.heap.size (fun _=>True) v1 (eP (cs.take i)++[xB c])):Oc1 w pl cs (i+1) v1 W1:=by
 have hoth:∀k (o:Obj),W.heap[k]?=some o→(∀cs,o≠.cells cs 29 (0,0))→W1.heap[k]?=some o:=fun k o ho hne=>(hg.block k (bE ho) (jO h.fr ho hne)).trans ho
 refine⟨hb,hoth _ _ h.lb (fun cs e=>by injection e with _ e;exact absurd e aD),hoth _ _ h.ob (fun cs e=>by injection e with _ e;exact absurd e aD),hoth _ _ h.mb (fun cs e=>by injection e with _ e;exact absurd e aD),h.mp.others (fun o ho hc=>hoth _ _ ho (fun cs e=>by rw[e] at hc;cases hc)),?_⟩
 have e:eP (cs.take (i+1))=eP (cs.take i)++[xB c]:=by
  unfold eP;rw[List.take_add_one,List.getElem?_eq_getElem hi,hc,List.map_append];rfl
 rw[e];exact hr
theorem ZK.out {w:World} {nb pl pb pm bm nm b1 b2 br:Nat} {R:World→Prop} {cs:List Ch} {o:Option (List It)} {rs:List Two.Rd} {W:World} {a:Act} {B:World} (h:ZK w nb pl pb pm bm nm b1 b2 br R cs o rs W .outgrown a B):False:=by
 rcases h with⟨h,_⟩|⟨_,h,_⟩ <;> cases h
theorem QZ {K:Act→World→Prop} {Q:Exit→Act→World→Prop} {id:Nat} {a:Act} {w:World} (h:K a w):Exit.inBlock id (Exit.then K Q) .normal a w:=h
theorem UN {K:Act→World→Prop} {Q:Exit→Act→World→Prop} {id:Nat} {a:Act} {w:World} {ch:List PanicEntry} (h:Q (.panic ch) a w):Exit.inBlock id (Exit.then K Q) (.panic ch) a w:=h
theorem ab8 {n n7 nr pl:Nat} (h:n+1=pl) (h7:n7=nr+3) (hp:pl+1+1+1<nr):pl<n7∧pl+1<n7∧n≤pl∧n≤pl+1:=by omega
theorem ZM {w W:World} {nb pl:Nat} {o:Option (List It)} {S:List It} {v:Value} {a:Act} (hpl:w.heap.size+1=pl) (Ak:w.heap.size≤nb) (hne:pl<nb∧pl+1<nb∧w.heap.size≤pl∧w.heap.size≤pl+1) (ho:o=some S) (hlow:Below w.heap.size w W)
  (hv:W.heap[pl]?=some (.cells #[v] 25 (0,0))) (ML:Kd.S om 29 W nb (fun _=>True) v S) (hd:W.heap[nb]?=some (.deferred (some []))) (VE:(W.setCell ⟨pl,0,none⟩ v).heap[pl+1]?=some (.cells #[.bool false] 4 (0,0)))
  (h4:a.tmps.getD 4 undef=.pointer (some ⟨pl,0,none⟩)) (h5:a.tmps.getD 5 undef=.pointer (some ⟨pl+1,0,none⟩))
  (hdf:a.defers=[{ target:=.collected nb,args:=#[] },{ target:=.fn (.func 121) #[.pointer (some ⟨pl,0,none⟩),.pointer (some ⟨pl+1,0,none⟩)],args:=#[] }]) :
  bodyPostM Fence.wide 0 Tryz.prog Tryz.f93 (fun e w'=>adT w o e w') .ret a ((W.setCell ⟨pl,0,none⟩ v).setCell ⟨pl+1,0,none⟩ (.bool true)):=by
 show LeavesInM _ _ _ _ a.tmps _ a.defers .returning _
 rw[hdf];have hd1:((W.setCell ⟨pl,0,none⟩ v).setCell ⟨pl+1,0,none⟩ (.bool true)).heap[nb]?=some (.deferred (some [])):=(Below.heap_setCell _ ⟨pl+1,0,none⟩ _ nb (by show nb≠pl+1;omega)).trans ((Below.heap_setCell _ ⟨pl,0,none⟩ _ nb (by show nb≠pl;omega)).trans hd)
 have hv1:(W.setCell ⟨pl,0,none⟩ v).heap[pl]?=some (.cells #[v] 25 (0,0)):=by have:=dM hv 0 v;simpa using this
 have hv2:((W.setCell ⟨pl,0,none⟩ v).setCell ⟨pl+1,0,none⟩ (.bool true)).heap[pl]?=some (.cells #[v] 25 (0,0)):=iL hv1 (by show pl≠pl+1;omega) _
 have hb2:((W.setCell ⟨pl,0,none⟩ v).setCell ⟨pl+1,0,none⟩ (.bool true)).heap[pl+1]?=some (.cells #[.bool true] 4 (0,0)):=by have:=dM VE 0 (.bool true);simpa using this
 have hr1:Kd.S om 29 (W.setCell ⟨pl,0,none⟩ v) nb (fun _=>True) v S:=Kd.Xh ML hv (fun q hq=>by rcases GH hq with rfl|rfl|rfl <;> decide) 0 v;have hr2:=Kd.Xh hr1 VE (fun q hq=>by rcases GH hq with rfl|rfl|rfl <;> decide) 0 (.bool true);have hl2:Below w.heap.size w ((W.setCell ⟨pl,0,none⟩ v).setCell ⟨pl+1,0,none⟩ (.bool true)):=(hlow.setCell (by show w.heap.size≤pl;omega) _).setCell (by show w.heap.size≤pl+1;omega) _
 obtain⟨W2,hW2⟩:∃W2,(W.setCell ⟨pl,0,none⟩ v).setCell ⟨pl+1,0,none⟩ (.bool true)=W2:=⟨_,rfl⟩
 rw[hW2] at hd1 hv2 hb2 hr2 hl2 ⊢;refine⟨by simp,.inl ⟨_,_,rfl,run_takeDeferred hd1,?_⟩⟩;have hkq:=Kq.xu (B:=nb) (l:=nb) (o':=.deferred none) (Nat.le_refl _) hd1 rfl;refine⟨by simp,.inr ⟨fun h=>(by cases h),_,_,121,#[.pointer (some ⟨pl,0,none⟩),.pointer (some ⟨pl+1,0,none⟩)],rfl,by simp[go_sem],fun g hg=>trivial,?_⟩⟩;refine BU (Xb _ _ _ _) ?_;rintro e u' w2 ⟨rfl,rfl,rfl⟩;refine⟨_,Ko rfl a.tmps _ _ _ v true h4 h5 (hkq.blocks _ _ hv2 (.inl hne.1)) (hkq.blocks _ _ hb2 (.inl hne.2.1)) ab5 Nu,qw hl2 Ak (Nat.le_refl _) hd1 rfl,?_⟩;rw[ho];exact⟨v,rfl,Kd.BF (hkq.afR hr2 (fun q hq=>by rcases GH hq with rfl|rfl|rfl <;> decide)) Ak⟩
theorem ZN {w W:World} {nb pl:Nat} {o:Option (List It)} {v:Value} {a:Act} (hpl:w.heap.size+1=pl) (Ak:w.heap.size≤nb) (hne:pl<nb∧pl+1<nb∧w.heap.size≤pl∧w.heap.size≤pl+1) (ho:o=none) (hlow:Below w.heap.size w W)
  (hv:W.heap[pl]?=some (.cells #[v] 25 (0,0))) (VE:W.heap[pl+1]?=some (.cells #[.bool false] 4 (0,0))) (hd:W.heap[nb]?=some (.deferred (some [])))
  (h4:a.tmps.getD 4 undef=.pointer (some ⟨pl,0,none⟩)) (h5:a.tmps.getD 5 undef=.pointer (some ⟨pl+1,0,none⟩))
  (hdf:a.defers=[{ target:=.collected nb,args:=#[] },{ target:=.fn (.func 121) #[.pointer (some ⟨pl,0,none⟩),.pointer (some ⟨pl+1,0,none⟩)],args:=#[] }]) :
  bodyPostM Fence.wide 0 Tryz.prog Tryz.f93 (fun e w'=>adT w o e w') (.panic [{ v:=.iface 160 (.agg #[]),recovered:=false }]) a W:=by
 show LeavesInM _ _ _ _ a.tmps _ a.defers (.panicking _) _
 rw[hdf];refine⟨by simp,.inl ⟨_,_,rfl,run_takeDeferred hd,?_⟩⟩;have hkq:=Kq.xu (B:=nb) (l:=nb) (o':=.deferred none) (Nat.le_refl _) hd rfl;have hl2:=qw (o':=.deferred none) hlow Ak (Nat.le_refl _) hd rfl;refine⟨by simp,.inr ⟨fun h=>(by cases h),_,_,121,#[.pointer (some ⟨pl,0,none⟩),.pointer (some ⟨pl+1,0,none⟩)],rfl,by simp[go_sem],fun g hg=>trivial,?_⟩⟩;refine BU (QV _ _ _ v (.bool false) [] _ (hkq.blocks _ _ hv (.inl hne.1)) (hkq.blocks _ _ VE (.inl hne.2.1))) ?_;rintro e u' w2 ⟨rfl,rfl,k1,k2,hf⟩;refine⟨_,Ko rfl a.tmps _ _ _ (.slice none 0 0) false h4 h5 k1 k2 ab5 Nu,?_,?_⟩
 ·refine⟨hf.os.trans hl2.os,hf.tape.trans hl2.tape,hf.output.trans hl2.output,Nat.le_trans hl2.size hf.size,fun k hk=>?_⟩;have hlt:=Nat.lt_of_lt_of_le hk hl2.size;have h1:=Array.getElem?_eq_getElem hlt
  rcases hf.blocks k _ h1 with ((e|e)|⟨_,_,_,_,e⟩)|e
  ·omega
  ·omega
  ·exact e.elim
  rw[e,← h1,hl2.block k hk]
 rw[ho]
theorem OD (A0:Option Addr) (c0:Nat) (old:List It) (A1:Option Addr) (c1:Nat) (b0 g0:Int) (cs:List Ch) (w:World)
  (hr:Kd.C om w A0 old.length old) (hc:old.length≤c0) (hl:old.length≤4096) (hr1:Kd.C IW w A1 cs.length cs) (hc1:cs.length≤c1) (hl1:cs.length≤8192)
  (hs:∀x∈old,x.f1.size≤1023) (hs1:∀c∈cs,c.f1.f1.size≤1023) (hx:∀x∈old,x.f4.length≤1048576∧x.f5.length≤1073741824) (hx1:∀c∈cs,c.f1.f4.length≤1048576∧c.f1.f5.length≤1073741824)
  (hf:∀x∈old,x.f0=1→Fits x) (he:∀c∈cs,c.f0=3→VX c) :
  Calls Tryz.prog 93 #[.slice A0 old.length c0,.agg #[.int .i64 b0,.int .i64 g0,.slice A1 cs.length c1]] w fun e w'=>adT w (qG old cs) e w':=by
 obtain⟨o,ho⟩:∃o,qG old cs=o:=⟨_,rfl⟩
 rw[ho]
 have hmf:∀(fn:Fn) (first cap:Array Value) (w:World),(Instr.makeFunc fn first cap).run Tryz.prog w=.ok (.func fn first cap) w:=fun _ _ _ _=>rfl
 have hmm:=@run_makeMap Tryz.prog;have HO:=ah.mk ho;have HR:=ah.mk hr;have HR1:=ah.mk hr1;have HS:=ah.mk hs;have AQ:=ah.mk hs1;have HX:=ah.mk hx;have HX1:=ah.mk hx1;have HF:=ah.mk hf;have HE:=ah.mk he;clear ho hr hr1 hs hs1 hx hx1 hf he;refine LW Tryz.func93 rfl ?_;simp only[Tryz.ntmps93,List.size_toArray,List.length_cons,List.length_nil,Nat.reduceSub,Nat.reduceAdd,Array.replicate_succ,Array.replicate_zero,List.push_toArray,List.append_toArray,List.nil_append,List.cons_append];refine yS (sK ?_)
 go_wp2_with fail
 refine yS (sK ?_)
 go_wp2_with fail
 refine yS (sK ?_)
 go_wp2_with fail
 refine yS (sK ?_)
 go_wp2_with fail
 refine Kr ?_
 have hO1:Oc1 w (w.heap.size+1) cs 0 (.slice none 0 0) (((((w.alloc (.cells #[.int .i64 b0,.int .i64 g0,.slice A1 cs.length c1] 24)).alloc (.cells #[.slice none 0 0] 25)).alloc (.cells #[.bool false] 4)).alloc (.map #[] 0)).alloc (.cells #[.map (some (w.heap.size+1+1+1))] 162)):=by
  have hb:=((((Below.refl w.heap.size w).alloc (Nat.le_refl _) (.cells #[.int .i64 b0,.int .i64 g0,.slice A1 cs.length c1] 24)).alloc bK (.cells #[.slice none 0 0] 25)).alloc (by simp;omega) (.cells #[.bool false] 4)).alloc (by simp;omega) (.map #[] 0) |>.alloc (by simp;omega) (.cells #[.map (some (w.heap.size+1+1+1))] 162)
  refine⟨hb,aM (aM (aM (kN bK _) _) _) _,aM (aM (kN bK _) _) _,kN bK _,?_,Kd.eY _ _ _ _ _⟩;have hm:=qX.made w ((((w.alloc (.cells #[.int .i64 b0,.int .i64 g0,.slice A1 cs.length c1] 24)).alloc (.cells #[.slice none 0 0] 25)).alloc (.cells #[.bool false] 4)));rw[World.size_alloc,World.size_alloc,World.size_alloc] at hm;exact hm.below ((Below.refl _ _).alloc (Nat.le_refl _) _)
 have x2:(((((w.alloc (.cells #[.int .i64 b0,.int .i64 g0,.slice A1 cs.length c1] 24)).alloc (.cells #[.slice none 0 0] 25)).alloc (.cells #[.bool false] 4)).alloc (.map #[] 0)).alloc (.cells #[.map (some (w.heap.size+1+1+1))] 162)).cell? ⟨w.heap.size,2,none⟩=some (.slice A1 cs.length c1):=ak (aM (aM (aM (aM (bJ w (.cells #[.int .i64 b0,.int .i64 g0,.slice A1 cs.length c1] 24)) _) _) _) _) 2
 obtain⟨w5,Da⟩:∃w5,(((((w.alloc (.cells #[.int .i64 b0,.int .i64 g0,.slice A1 cs.length c1] 24)).alloc (.cells #[.slice none 0 0] 25)).alloc (.cells #[.bool false] 4)).alloc (.map #[] 0)).alloc (.cells #[.map (some (w.heap.size+1+1+1))] 162))=w5:=⟨_,rfl⟩
 rw[Da] at hO1 x2 ⊢
 obtain⟨pl,hpl⟩:∃pl,w.heap.size+1=pl:=⟨_,rfl⟩
 rw[hpl] at hO1 ⊢;have Fb:=ah.mk hO1;clear Da hO1 hmf hmm
 go_wp2_with fail
 go_loopg [7,19] cs.length (fun g s7 s19 wx=>∃(i:Nat) (v:Value),i+g=cs.length∧s19=.int .i64 i∧s7=v∧ah (Oc1 w pl cs i v wx))
 case atStart=>exact⟨0,_,by omega,rfl,rfl,Fb⟩
 case round=>
  obtain⟨i,v,hig,rfl,rfl,wU⟩:=hrel;clear Fb x2;by_cases hi:i<cs.length
  ·obtain⟨ad,C4,mE,C5,mF,C7,nP,hA,r0,r1,r2,r3,r4,r5,r6,r7,l4,g4,l5,g5,l7,g7⟩:=Pz HR1.out (i:Int) aj aj;rw[Int.toNat_natCast] at r0 r1 r2 r3 r4 r5 r6 r7
   have hrd:jL cs (i:Int)=cs[i]'hi:=by simp[jL,hi]
   have hcm:=List.getElem_mem hi
   obtain⟨c,hcx⟩:∃c,cs[i]'hi=c:=⟨_,rfl⟩
   rw[hrd,hcx] at r0 r1 r2 r3 r4 r5 r6 r7 l4 g4 l5 g5 l7 g7;rw[hcx] at hcm;have hcs:=AQ.out c hcm;subst hA;have HCI:=ah.mk hcx;have MQ:=ah.mk (QY.mk l4 g4 l5 g5 l7 g7);have r0:=au wU.out.low r0;have r1:=au wU.out.low r1;have r2:=au wU.out.low r2;have r3:=au wU.out.low r3;have r4:=au wU.out.low r4;have r5:=au wU.out.low r5;have r6:=au wU.out.low r6;have r7:=au wU.out.low r7;obtain⟨Af,nf,hvf⟩:=Kd.bG wU.out.fr;subst hvf
   have hfl:(eP (cs.take i)).length=i:=by unfold eP;rw[List.length_map,List.length_take];omega
   clear hrd hcx hcm l4 g4 l5 g5 l7 g7
   go_wp2_with fail
   have hba:=(Below.refl wr.heap.size wr).alloc (Nat.le_refl _) (.cells #[.int .i64 c.f0,.int .i64 c.f1.f0,.string c.f1.f1,.string c.f1.f2,.int .i64 c.f1.f3,.slice C4 c.f1.f4.length mE,.slice C5 c.f1.f5.length mF,.slice C7 c.f2.length nP] 31);have hbk:=bJ wr (.cells #[.int .i64 c.f0,.int .i64 c.f1.f0,.string c.f1.f1,.string c.f1.f2,.int .i64 c.f1.f3,.slice C4 c.f1.f4.length mE,.slice C5 c.f1.f5.length mF,.slice C7 c.f2.length nP] 31)
   obtain⟨W2,hW2⟩:∃W2,wr.alloc (.cells #[.int .i64 c.f0,.int .i64 c.f1.f0,.string c.f1.f1,.string c.f1.f2,.int .i64 c.f1.f3,.slice C4 c.f1.f4.length mE,.slice C5 c.f1.f5.length mF,.slice C7 c.f2.length nP] 31)=W2:=⟨_,rfl⟩
   obtain⟨k,hk⟩:∃k,wr.heap.size=k:=⟨_,rfl⟩
   rw[hW2] at hba hbk ⊢;rw[hk] at hbk ⊢;have zm:W2.cell? ⟨(pl+1+1+1),0,none⟩=some (.map (some (pl+1+1))):=ak (aG wU.out.mb hba) 0;have wU:=ah.mk (wU.out.below hba);have z0:W2.cell? ⟨k,0,none⟩=some (.int .i64 c.f0):=ak hbk 0;have z1:W2.cell? ⟨k,1,none⟩=some (.int .i64 c.f1.f0):=ak hbk 1;have z2:W2.cell? ⟨k,2,none⟩=some (.string c.f1.f1):=ak hbk 2;have z3:W2.cell? ⟨k,3,none⟩=some (.string c.f1.f2):=ak hbk 3;have z4:W2.cell? ⟨k,4,none⟩=some (.int .i64 c.f1.f3):=ak hbk 4;have z5:W2.cell? ⟨k,5,none⟩=some (.slice C4 c.f1.f4.length mE):=ak hbk 5;have z6:W2.cell? ⟨k,6,none⟩=some (.slice C5 c.f1.f5.length mF):=ak hbk 6;have z7:W2.cell? ⟨k,7,none⟩=some (.slice C7 c.f2.length nP):=ak hbk 7;have HK:=ah.mk hbk;clear hba hbk hW2 hk r0 r1 r2 r3 r4 r5 r6 r7;have hdr:=bA (Below.refl W2.heap.size W2)
   have hS:W2.drew.cell? ⟨(pl+1+1+1),0,none⟩=some (.map (some (pl+1+1)))∧W2.drew.cell? ⟨k,0,none⟩=some (.int .i64 c.f0)∧W2.drew.cell? ⟨k,1,none⟩=some (.int .i64 c.f1.f0)∧W2.drew.cell? ⟨k,2,none⟩=some (.string c.f1.f1)∧W2.drew.cell? ⟨k,3,none⟩=some (.string c.f1.f2)∧W2.drew.cell? ⟨k,4,none⟩=some (.int .i64 c.f1.f3)∧W2.drew.cell? ⟨k,5,none⟩=some (.slice C4 c.f1.f4.length mE)∧W2.drew.cell? ⟨k,6,none⟩=some (.slice C5 c.f1.f5.length mF)∧W2.drew.cell? ⟨k,7,none⟩=some (.slice C7 c.f2.length nP):=⟨au hdr zm,au hdr z0,au hdr z1,au hdr z2,au hdr z3,au hdr z4,au hdr z5,au hdr z6,au hdr z7⟩
   obtain⟨Wd,hWd⟩:∃Wd,W2.drew=Wd:=⟨_,rfl⟩
   have HOD:=ah.mk (wU.out.below (show Below W2.heap.size W2 Wd from hWd▸hdr));have HKD:=ah.mk (aG HK.out (show Below W2.heap.size W2 Wd from hWd▸hdr));clear hdr zm z0 z1 z2 z3 z4 z5 z6 z7 wU HK;refine kY (n:=7) (S:=(fun w'=>w'.cell? ⟨(pl+1+1+1),0,none⟩=some (.map (some (pl+1+1)))∧w'.cell? ⟨k,0,none⟩=some (.int .i64 c.f0)∧w'.cell? ⟨k,1,none⟩=some (.int .i64 c.f1.f0)∧w'.cell? ⟨k,2,none⟩=some (.string c.f1.f1)∧w'.cell? ⟨k,3,none⟩=some (.string c.f1.f2)∧w'.cell? ⟨k,4,none⟩=some (.int .i64 c.f1.f3)∧w'.cell? ⟨k,5,none⟩=some (.slice C4 c.f1.f4.length mE)∧w'.cell? ⟨k,6,none⟩=some (.slice C5 c.f1.f5.length mF)∧w'.cell? ⟨k,7,none⟩=some (.slice C7 c.f2.length nP))) (ds:=[6]) (aQ 7 0) aA rfl rfl hS (fun hHeld=>?_);clear hS;rw[hWd] at hHeld ⊢;clear hWd;refine jv 0 23 (aQ 7 1) rfl hHeld (by rintro w' ⟨sm,s0,s1,s2,s3,s4,s5,s6,s7⟩;go_simp;with_reducible rfl) ?_;refine bR 1 24 (aQ 7 3) ?_;refine bR 2 25 (aQ 7 7) ?_;refine jv 3 26 (aQ 7 15) rfl hHeld (by rintro w' ⟨sm,s0,s1,s2,s3,s4,s5,s6,s7⟩;go_simp;with_reducible rfl) ?_;refine jv 5 28 (aQ 7 47) rfl hHeld (by rintro w' ⟨sm,s0,s1,s2,s3,s4,s5,s6,s7⟩;go_simp;with_reducible rfl) ?_;refine mG 4 (some 27) (aQ 7 63) (fun K hK=>?_);refine qj Tryz.func88 #[.string c.f1.f1] ?_;refine (oH c.f1.f1 Wd aj).mono ?_;rintro e We ⟨rfl,hbe⟩;refine⟨_,rfl,?_⟩;have HOE:=ah.mk (HOD.out.below hbe);have HKE:=ah.mk (aG HKD.out hbe);refine hK.out _ _ ⟨au hbe hHeld.1,au hbe hHeld.2.1,au hbe hHeld.2.2.1,au hbe hHeld.2.2.2.1,au hbe hHeld.2.2.2.2.1,au hbe hHeld.2.2.2.2.2.1,au hbe hHeld.2.2.2.2.2.2.1,au hbe hHeld.2.2.2.2.2.2.2.1,au hbe hHeld.2.2.2.2.2.2.2.2⟩ (fun hHeld=>?_);clear hK K hbe HOD HKD;refine fU 27 ?_;obtain⟨W6,hrun,hmp,hgm⟩:=HOE.out.mp.put (t:=162) (c:=c) Tryz.underlying162 (by unfold maxLen;omega) (by have:=zT 47 0 c.f1.f1;unfold qR maxLen;omega) MQ.out;rw[show cs.take i++[c]=cs.take (i+1) by rw[List.take_add_one,List.getElem?_eq_getElem hi,HCI.out];rfl] at hmp;have hO6:ZL w pl cs i (.slice Af (eP (cs.take i)).length nf) W6:=HOE.out.am7 hmp hgm aj;have hk6:=(hgm.block k (bE HKE.out) (fun e=>by obtain⟨o,ho,hoc⟩:=HOE.out.mp.has;rw[Option.some.inj e,ho] at HKE;have:=Option.some.inj HKE.out;subst this;cases hoc)).trans HKE.out;have am8:=ah.mk hrun;have VD:=ah.mk hO6;have CP:=ah.mk hk6;clear hrun hmp hgm hO6 hk6 HOE HKE;refine lS (i:=6) (N:=none) (aQ 7 127) rfl rfl aA aD (fun K hK=>?_);refine tZ (w1:=W6) (by rfl) rfl ?_ ?_
   ·have hr:(Instr.mapUpdate 162 (.map (some (pl+1+1))) (.string (fV 47 0 c.f1.f1)) (.agg #[.int .i64 c.f0,.int .i64 c.f1.f0,.string c.f1.f1,.string c.f1.f2,.int .i64 c.f1.f3,.slice C4 c.f1.f4.length mE,.slice C5 c.f1.f5.length mF,.slice C7 c.f2.length nP])).run Tryz.prog We=.ok () W6:=am8.out;simp[execOp,go_sem,hr,Result.andThen]
   refine hK.out _ _ ?_;clear hK K;refine kK aA ?_;have y2:W6.cell? ⟨k,2,none⟩=some (.string c.f1.f1):=ak CP.out 2;clear hHeld
   go_wp2_with ((with_reducible refine dx (b:=.append) (xs:=#[.tmp 29,.tmp 34]) rfl ?_);at_builtin;refine Kd.mP om (w0:=w) w.heap.size rfl (.tmp 29) (.tmp 34) 25 29 (.agg #[.int .i64 0,.string ⟨#[]⟩,.string ⟨#[]⟩,.int .i64 0,.slice none 0 0,.slice none 0 0]) 96 rfl Tryz.underlying25 ER rfl aD aj (.slice Af (eP (cs.take i)).length nf) (eP (cs.take i)) (xB c) [.int .i64 0,.string c.f1.f1,.string ⟨#[]⟩,.int .i64 0,.slice none 0 0,.slice none 0 0] (fun _=>True) (fun _=>False) rfl rfl ?aP (fun _ hk=>hk.elim) (fun _ _=>trivial) VD.out.fr VD.out.low VD.out.low.size aj ?_;(case aP=>exact vM _ _ _ (xB c) (Kd.eY _ _ _ _ _) (Kd.eY _ _ _ _ _));intro v2 w7 Yl CK hg7 uN;have PG:=ah.mk (VD.out.push hi HCI.out CK hg7 Yl);clear Yl CK hg7 uN)
   go_roundg (cs.length - (i+1))
   case measure=>omega
   case rel=>exact⟨i+1,v2,by omega,by first|rfl|simp,rfl,PG⟩
  obtain rfl:i=cs.length:=by omega
  have ho:=wU.out;obtain⟨Af,cf,hvf⟩:=Kd.bG ho.fr;subst hvf;have htl:cs.take cs.length=cs:=List.take_length;have hmp:=ho.mp;have hfr:=ho.fr;rw[htl] at hmp hfr
  have hfl:(eP (cs.take cs.length)).length=(eP cs).length:=by rw[htl]
  have HLB:=ah.mk ho.lb;have HOB:=ah.mk ho.ob;have HMB:=ah.mk ho.mb;have HLW:=ah.mk ho.low;have HMP:=ah.mk hmp;have HFR:=ah.mk hfr;have hfc:=(Kd.bT hfr).2.1;rw[hfl];clear ho htl hmp hfr hfl wU
  go_wp2_with fail
  refine BX ?_;refine yS ?_;refine Kr ?_
  go_wp2_with (go_at_call 50;refine (AX _ _ _).mono ?_;rintro e w6 ⟨rfl,rfl⟩)
  refine BX ?_;refine UH ?_
  obtain⟨w7,hw7⟩:∃w7,(((wr.alloc (.cells #[.slice A0 old.length c0,.slice Af (eP cs).length cf] 25)).alloc (.cells #[.func (.func 51) #[] #[]] 93)).alloc (.cells #[.slice (some ⟨wr.heap.size,0,none⟩) 2 2] 75))=w7:=⟨_,rfl⟩
  have UO:w7.heap.size=wr.heap.size+3:=by rw[← hw7];simp
  have CK:Below wr.heap.size wr w7:=by
   rw[← hw7];exact (((Below.refl _ _).alloc (Nat.le_refl _) _).alloc bK _).alloc (by simp;omega) _
  have hls:=HLW.out.size;have hpz:=bE HMB.out
  have Ak:w.heap.size≤w7.heap.size:=by omega
  have hrd:UK w w7.heap.size (.slice Af (eP cs).length cf) (eP cs) w7:=⟨HLW.out.trans (CK.mono hls),Kd.dU (Kd.gM (Kd.dF HFR.out CK)) (fun k hk=>hk.2.2.1)⟩
  obtain⟨Rd,hRd⟩:∃Rd:Two.Reader (lg old (eP cs)) (lg A0 Af),Rd=UL (nb:=w7.heap.size) (c1:=cf) HR.out Ak:=⟨_,rfl⟩
  have hRP:Rd.P=UK w w7.heap.size (.slice Af (eP cs).length cf) (eP cs):=by rw[hRd];rfl
  have hRb:Rd.base=w7.heap.size:=by rw[hRd];rfl
  have Yx:Two.UJ (lg old (eP cs)) (lg A0 Af) (lg c0 cf) Rd (wr.heap.size+1) (wr.heap.size+1+1) wr.heap.size w7:=by
   refine⟨by rw[hRP];exact hrd,?_,?_,?_⟩
   ·rw[← hw7];exact aM (kN bK _) _
   ·rw[← hw7];exact kN bK _
   rw[← hw7];exact aM (aM (bJ _ _) _) _
  have hI0:Tz w w7.heap.size pl (pl+1) (pl+1+1+1) (pl+1+1) cs.length cs [] w7:=⟨hrd.1,Nat.le_refl _,⟨_,aG HLB.out CK,Kd.Gd _ _ _ _ _⟩,aG HOB.out CK,aG HMB.out CK,HMP.out.below CK⟩
  have hfl:(eP cs).length=cs.length:=by unfold eP;rw[List.length_map]
  have hT:=Two.yc (lg old (eP cs)) (lg A0 Af) (lg c0 cf) Rd w7 (wr.heap.size+1) (wr.heap.size+1+1) wr.heap.size
   (oO hc hfc) (oO (by show old.length≤_;omega) (by show (eP cs).length≤_;omega))
   (oO HS.out (fun x hx=>by obtain⟨c,hcm,rfl⟩:=List.mem_map.1 hx;exact AQ.out c hcm)) Yx (by rw[hRb];exact Nat.le_refl _)
  obtain⟨rs,hrs⟩:∃rs,Two.fI (lg old (eP cs)) (Two.kE (lg old (eP cs)) (fun _=>0)) (fun _=>0)=rs:=⟨_,rfl⟩
  rw[hrs,hRP] at hT
  have hrl:rs.length≤12288:=by
   have h1:=Two.length (L:=lg old (eP cs)) (Two.kE (lg old (eP cs)) (fun _=>0)) (fun _=>0);have h2:Two.kE (lg old (eP cs)) (fun _=>0)=old.length+(eP cs).length:=rfl;rw[hrs,h2] at h1;omega
  have HOG:ah (kP cs rs []=o):=⟨by rw[← hrs];exact HO.out⟩
  have HI0:=ah.mk hI0;have ahm:=ah.mk hrd;have HT:=ah.mk hT;have Yn:=ah.mk hrs;rw[hw7];clear hT hrs hI0 Yx hw7 CK hls hrd HLB HOB HMB HLW HMP HFR hRP hRb hRd HO
  refine LX (gf:=87) (lb:=#[.pointer (some ⟨(wr.heap.size+1+1),0,none⟩),.pointer (some ⟨(wr.heap.size+1),0,none⟩)]) (fun f h=>h) ?hg (enters_of Tryz.func87 aA rfl) (encs:=Two.encR) (fun _=>rfl) HT.out
   (fun pre W=>UK w w7.heap.size (.slice Af (eP cs).length cf) (eP cs) W∧∃S,kP cs (pre.map Two.oG.rd) []=some S∧Tz w w7.heap.size pl (pl+1) (pl+1+1+1) (pl+1+1) cs.length cs S W) (fun ch W=>OcX w pl (pl+1) o ch W) ?a1 (fun _ _=>M7)
   (fun pre A B ⟨h1,S,h2,h3⟩ hs=>⟨h1.kq (Kq.VQ hs) Ak (Nat.le_refl _),S,h2,h3.kq (Kq.VQ hs) Ak aj⟩)
   (fun pre W l o1 o' ⟨h1,S,h2,h3⟩ hl ho hc=>⟨h1.kq (Kq.xu hl ho hc) Ak (Nat.le_refl _),S,h2,h3.kq (Kq.xu hl ho hc) Ak aj⟩)
   (fun pre x W l o1 o' hgd hl ho hc=>Two.UM hgd ho hc)
   (fun A B l o1 o2 p o3 hl ho hc hk hp hpc=>ZJ (nb:=w7.heap.size) (fun W q q' hW hq hqc=>hW.kq (Kq.xu hl hq hqc) Ak (Nat.le_refl _)) (fun k hk=>by omega) hl ho hc hk hp hpc)
   (fun o1 o'=>⟨ahm.out.kq (Kq.below (((Below.refl _ _).alloc (Nat.le_refl _) _).alloc bK _)) Ak (Nat.le_refl _),[],rfl,HI0.out.kq (Kq.below (((Below.refl _ _).alloc (Nat.le_refl _) _).alloc bK _)) Ak aj⟩)
   ?assign ?body ?done ?pan
  case assign=>
   intro l x W K hK;dsimp only[Two.encR]
   gi_wp2
   exact hK
  case hg=>
   first|rfl|(go_simp;done)|simp[go_sem]
  case body=>
   rintro l pre x W ⟨adU,S0,hS0,hi⟩ hgd
   obtain⟨QE,hQE⟩:∃QE:Exit→Act→World→Prop,QE=fun e a B=>ZK w w7.heap.size pl (pl+1) (pl+1+1+1) (pl+1+1) cs.length (wr.heap.size+1) (wr.heap.size+1+1) wr.heap.size (UK w w7.heap.size (.slice Af (eP cs).length cf) (eP cs)) cs o ((pre++[x]).map Two.oG.rd) W e a B:=⟨_,rfl⟩
   refine wpIn_mono (Q:=QE) ?_ (fun e a B h=>by
    rw[hQE] at h
    rcases h with⟨rfl,hs,hk,hst⟩|⟨ch,rfl,hd,hx,hst⟩
    ·exact .inl ⟨rfl,⟨hk.low adU,hs⟩,hk,hst⟩
    exact .inr ⟨ch,rfl,hd,hx,hst⟩)
   obtain⟨⟨rest,hrest⟩,p0,p1,hg,o0,o1⟩:=hgd
   have hmem:x.rd∈rs:=by rw[hrest];simp
   have GI:(∀y,x.a=some y→y∈old)∧(∀y,x.b=some y→y∈(eP cs)):=Two.here (Yn.out▸hmem);have hkey:(∀y,x.a=some y→kV y=x.key)∧(∀y,x.b=some y→kV y=x.key)∧(x.a=none→∃y,x.b=some y):=Two.key (Yn.out▸hmem)
   have hml:S0.length+1≤12288:=by
    have h1:=AZ cs _ _ _ hS0;have h2:=congrArg List.length hrest;simp only[List.length_append,List.length_map,List.length_cons,List.length_nil] at h1 h2;omega
   have hgo:kP cs ((pre++[x]).map Two.oG.rd) []=match oP cs x.rd with
     | none=>none
     | some l=>some (S0++l):=by
    rw[List.map_append,CY,hS0]
    show kP cs [x.rd] S0=_
    rw[kP]
    cases oP cs x.rd <;> rfl
   have hno:oP cs x.rd=none→o=none:=fun h=>by
    rw[← HOG.out,hrest,CY,hS0]
    show kP cs (x.rd::rest) S0=none
    rw[kP,h]
   have hk0:x.key.size≤1023:=by
    rcases hxa:x.a with _|y
    ·obtain⟨y,hy⟩:=hkey.2.2 hxa;obtain⟨c,hc,rfl⟩:=List.mem_map.1 (GI.2 y hy);rw[show x.key=kV (xB c) from (hkey.2.1 _ hy).symm]
     show (fV 47 0 c.f1.f1).size≤_
     rw[zT];exact AQ.out c hc
    rw[show x.key=kV y from (hkey.1 _ hxa).symm]
    show (fV 47 0 y.f1).size≤_
    rw[zT];exact HS.out y (GI.1 y hxa)
   have hoi:OI w p0 x.a:=Two.PI.oi (L:=lg old (eP cs)) (A:=lg A0 Af) (j:=0) HR.out o0
   have FIN:ah (∀a S' B,kP cs ((pre++[x]).map Two.oG.rd) []=some S'→Tz w w7.heap.size pl (pl+1) (pl+1+1+1) (pl+1+1) cs.length cs S' B→kg w7.heap.size (fun k=>k=pl) (fun q=>q=29) W B→QE Exit.normal a B):=⟨fun a S' B h1 h2 h3=>by
    rw[hQE];obtain⟨v,hv,_⟩:=hi.lb;have h4:=am6 adU Ak aj aj hi.big (b1:=(wr.heap.size+1)) (b2:=(wr.heap.size+1+1)) (br:=wr.heap.size) aj ⟨v,hv⟩ h3
    exact .inl ⟨rfl,⟨S',h1,h2⟩,h4.1,h4.2⟩⟩
   have PAN:ah (∀(a:Act) B,a.defers=[]→o=none→Tz w w7.heap.size pl (pl+1) (pl+1+1+1) (pl+1+1) cs.length cs S0 B→kg w7.heap.size (fun k=>k=pl) (fun q=>q=29) W B→QE (Exit.panic [{ v:=.iface 160 (.agg #[]),recovered:=false }]) a B):=⟨fun a B h0 h1 h2 h3=>by
    rw[hQE];obtain⟨v,hv,_⟩:=h2.lb
    exact .inr ⟨_,rfl,h0,⟨rfl,h1,h2.low,⟨v,hv⟩,h2.ob⟩,h3.still (fun k hk=>by have e:k=pl:=hk;omega)⟩⟩
   have sF:ah (∀c a N v B,QE (.panic c) (Act.put a N v) B→QE (.panic c) a B):=⟨fun c a N v B h=>by
    rw[hQE] at h ⊢
    rcases h with⟨h,_⟩|⟨ch,h1,h2,h3,h4⟩
    ·cases h
    exact .inr ⟨ch,h1,by cases N <;> exact h2,h3,h4⟩⟩
   have Q0:ah (∀a B,QE .outgrown a B→False):=⟨fun a B h=>by
    rw[hQE] at h
    exact ZK.out h⟩
   have hlk:=hi.mp.look Tryz.underlying162 x.key (by unfold maxLen;omega);have g0:W.cell? ⟨x.g,0,none⟩=some p0:=ak hg 0;have gm:W.cell? ⟨(pl+1+1+1),0,none⟩=some (.map (some (pl+1+1))):=ak hi.mb 0;have asD:=Tryz.underlying31;have asE:=Tryz.underlying29;have hq1:=KW;have HI:=ah.mk hi;have HG:=ah.mk hg;have Q5:=ah.mk hml;have HOI:=ah.mk hoi;have HHA:=ah.mk GI;have HKY:=ah.mk hkey;have ZO:=ah.mk hgo;have adV:=ah.mk hno;clear hQE hi hg hml hoi GI hkey hgo hno hmem hrest o0 o1 hk0 adU hS0
   cases hca:tT cs x.key with
   | none=>
    rw[hca] at hlk;dsimp only at hlk
    cases hxa:x.a with
    | none=>
     exfalso;obtain⟨y,hy⟩:=HKY.out.2.2 hxa;obtain⟨c,hc,rfl⟩:=List.mem_map.1 (HHA.out.2 y hy);exact CW hca c hc (show qR c=x.key from HKY.out.2.1 (xB c) hy)
    | some y=>
     have hoi:=HOI.out;rw[hxa] at hoi;obtain⟨ad,Y4,qE,Y5,qh,hp0,hsy,Nb⟩:=hoi.six;subst hp0
     have HGO:ah (kP cs ((pre++[x]).map Two.oG.rd) []=some (S0++[y])):=⟨by
      rw[ZO.out,show oP cs x.rd=some [y] by unfold oP;rw[show tT cs x.rd.1=none from hca];show some x.a.toList=_;rw[hxa];rfl]⟩
     have Qh:=ah.mk (HX.out y (HHA.out.1 y hxa));have VF:=ah.mk hsy;have ES:=ah.mk Nb;clear hoi hsy Nb hca hxa;have hba:=(Below.refl W.heap.size W).alloc (Nat.le_refl _) (.cells #[.int .i64 0,.int .i64 0,.string ⟨#[]⟩,.string ⟨#[]⟩,.int .i64 0,.slice none 0 0,.slice none 0 0,.slice none 0 0] 31);have hbs:=below_setRow hba (Nat.le_refl _) #[.int .i64 0,.int .i64 0,.string ⟨#[]⟩,.string ⟨#[]⟩,.int .i64 0,.slice none 0 0,.slice none 0 0,.slice none 0 0];have hbk:=setRow_heap (W.alloc (.cells #[.int .i64 0,.int .i64 0,.string ⟨#[]⟩,.string ⟨#[]⟩,.int .i64 0,.slice none 0 0,.slice none 0 0,.slice none 0 0] 31)) W.heap.size #[.int .i64 0,.int .i64 0,.string ⟨#[]⟩,.string ⟨#[]⟩,.int .i64 0,.slice none 0 0,.slice none 0 0,.slice none 0 0] #[.int .i64 0,.int .i64 0,.string ⟨#[]⟩,.string ⟨#[]⟩,.int .i64 0,.slice none 0 0,.slice none 0 0,.slice none 0 0] 31 (0,0) (bJ _ _);refine wpIn_block ?_;refine wpIn_seq ?_;refine uq aA (by rintro⟨a,w',h⟩;exact Q0.out a w' h) ?_
     go_wp2_with (refine dX (.store 31 (.tmp 12) (.tmp 47)) rfl ?_;refine wpList_store_row rfl 31 (.tmp 12) (.tmp 47) rfl W.heap.size #[.int .i64 0,.int .i64 0,.string ⟨#[]⟩,.string ⟨#[]⟩,.int .i64 0,.slice none 0 0,.slice none 0 0,.slice none 0 0] rfl rfl 31 _ (by exact bJ W _) aA (by rfl) (by simp[Value.oneCell']) ?_)
     obtain⟨Ws,hWs⟩:∃Ws,(W.alloc (.cells #[.int .i64 0,.int .i64 0,.string ⟨#[]⟩,.string ⟨#[]⟩,.int .i64 0,.slice none 0 0,.slice none 0 0,.slice none 0 0] 31)).setRow W.heap.size #[.int .i64 0,.int .i64 0,.string ⟨#[]⟩,.string ⟨#[]⟩,.int .i64 0,.slice none 0 0,.slice none 0 0,.slice none 0 0]=Ws:=⟨_,rfl⟩
     rw[hWs] at hbs hbk
     try rw[hWs]
     obtain⟨k,hk⟩:∃k,W.heap.size=k:=⟨_,rfl⟩
     have HIs:=ah.mk (HI.out.below hbs);have D9:=ah.mk (show kg w7.heap.size (fun k=>k=pl) (fun q=>q=29) W Ws from kg.below hbs);have gs:=au hbs g0;rw[hk] at hbk
     try rw[hk]
     clear hWs hba hbs g0 gm hlk HI HG HOI hk
     gi_wp2_with fail
     have hdr:=bA (Below.refl Ws.heap.size Ws)
     obtain⟨Wd,hWd⟩:∃Wd,Ws.drew=Wd:=⟨_,rfl⟩
     have hdb:Below Ws.heap.size Ws Wd:=hWd▸hdr;have ET:=ah.mk (HIs.out.below hdb);obtain⟨va,hva,hra⟩:=ET.out.lb;obtain⟨Au,nu,cu,hvu⟩:=iB (Kd.I9 hra);subst hvu;have OE:=ah.mk hva;have yE:=ah.mk hra;have Jf:=ah.mk (D9.out.trans (kg.below hdb));have wP:=ah.mk (show w7.heap.size≤Wd.heap.size from ET.out.big);have EU:=ah.mk (show Below w.heap.size w Wd from ET.out.low);have z2:Wd.cell? ⟨pl,0,none⟩=some (.slice Au nu cu):=ak hva 0;have Jm:=ah.mk (show Wd.cell? ⟨pl,0,none⟩=some (.slice Au nu cu)∧Wd.cell? ⟨x.g,0,none⟩=some (.pointer (some ad))∧wN Wd ad y Y4 qE Y5 qh from⟨z2,au hdb gs,VF.out.below EU.out⟩);have Jo:=ah.mk (show ∀W':World,(W'.cell? ⟨pl,0,none⟩=some (.slice Au nu cu)∧W'.cell? ⟨x.g,0,none⟩=some (.pointer (some ad))∧wN W' ad y Y4 qE Y5 qh)→∀{W''},Below W'.heap.size W' W''→(W''.cell? ⟨pl,0,none⟩=some (.slice Au nu cu)∧W''.cell? ⟨x.g,0,none⟩=some (.pointer (some ad))∧wN W'' ad y Y4 qE Y5 qh) from fun W' h W'' hb=>⟨au hb h.1,au hb h.2.1,h.2.2.below hb⟩);clear hdr hva hra z2 hdb gs;refine nS (n:=10) (S:=fun w'=>w'.cell? ⟨pl,0,none⟩=some (.slice Au nu cu)∧w'.cell? ⟨x.g,0,none⟩=some (.pointer (some ad))∧wN w' ad y Y4 qE Y5 qh) (ds:=[8,9]) (aQ 10 0) aA aA (by rintro⟨a,w',h⟩;exact Q0.out a w' h) rfl rfl (by rw[hWd];exact Jm.out) (fun hHeld=>?_);rw[hWd] at hHeld ⊢;clear hWd Jm;refine jZ (i:=0) (N:=some 52) (v:=?_) (a':=?_) (aQ 10 1) rfl rfl aA (fun c a B h=>sF.out c a _ _ B h) (Or.inl ⟨by rfl,?_⟩) hHeld ?_ ?_;rotate_left
     ·rintro w' ⟨s,t,⟨y0,y1,y2,y3,y4,y5⟩⟩
      go_simp
      with_reducible rfl
     rotate_left
     ·simp only[Act.put,aYa,aYb,aYc,dn,dA];rfl
     refine fP (i:=1) (N:=some 53) (v:=?_) (a':=?_) (aQ 10 3) rfl rfl aA (fun c a B h=>sF.out c a _ _ B h) (Or.inl ⟨by rfl,?_⟩) ?_ ?_;rotate_left
     ·intro w'
      go_simp
      with_reducible rfl
     rotate_left
     ·simp only[Act.put,aYa,aYb,aYc,dn,dA];rfl
     refine fP (i:=2) (N:=some 54) (v:=?_) (a':=?_) (aQ 10 7) rfl rfl aA (fun c a B h=>sF.out c a _ _ B h) (Or.inl ⟨by rfl,?_⟩) ?_ ?_;rotate_left
     ·intro w'
      go_simp
      with_reducible rfl
     rotate_left
     ·simp only[Act.put,aYa,aYb,aYc,dn,dA];rfl
     refine jZ (i:=3) (N:=some 55) (v:=?_) (a':=?_) (aQ 10 15) rfl rfl aA (fun c a B h=>sF.out c a _ _ B h) (Or.inl ⟨by rfl,?_⟩) hHeld ?_ ?_;rotate_left
     ·rintro w' ⟨s,t,⟨y0,y1,y2,y3,y4,y5⟩⟩
      go_simp
      with_reducible rfl
     rotate_left
     ·simp only[Act.put,aYa,aYb,aYc,dn,dA];rfl
     refine fP (i:=4) (N:=some 56) (v:=?_) (a':=?_) (aQ 10 31) rfl rfl aA (fun c a B h=>sF.out c a _ _ B h) (Or.inl ⟨by rfl,?_⟩) ?_ ?_;rotate_left
     ·intro w'
      go_simp
      with_reducible rfl
     rotate_left
     ·simp only[Act.put,aYa,aYb,aYc,dn,dA];rfl
     refine jZ (i:=5) (N:=some 57) (v:=?_) (a':=?_) (aQ 10 63) rfl rfl aA (fun c a B h=>sF.out c a _ _ B h) (Or.inl ⟨by rfl,?_⟩) hHeld ?_ ?_;rotate_left
     ·rintro w' ⟨s,t,⟨y0,y1,y2,y3,y4,y5⟩⟩
      go_simp
      with_reducible rfl
     rotate_left
     ·simp only[Act.put,aYa,aYb,aYc,dn,dA];rfl
     refine mG 6 (some 58) (aQ 10 127) (fun K hK=>?_);refine qj Tryz.func122 #[.agg #[.int .i64 y.f0,.string y.f1,.string y.f2,.int .i64 y.f3,.slice Y4 y.f4.length qE,.slice Y5 y.f5.length qh]] ?_;refine (gQ.calls y.f0 y.f1 y.f2 y.f3 Y4 qE y.f4 Y5 qh y.f5 y.f0 y.f1 y.f2 y.f3 y.f4 y.f5 Wd (Kd.aC ES.out.g4 EU.out) ES.out.l4 (Kd.aC ES.out.g5 EU.out) ES.out.l5 (OC Qh.out.1 Qh.out.2)).mono ?_;rintro e Wz ⟨v4,v5,rfl,hr4,oF,hbz⟩;refine⟨_,rfl,?_⟩;have wm:=ah.mk (aG OE.out hbz);have wX:=ah.mk (Kd.nk yE.out hbz);have HRX:=ah.mk (Kd.sS (ok':=fun k=>True∧¬Wd.heap.size≤k) (Kd.S9 yE.out hbz) (fun k hk=>⟨trivial,by have:=hk.2;omega⟩));have HIZ:=ah.mk (ET.out.below hbz);have Q6:=ah.mk (Jf.out.trans (kg.below hbz));have Q7:=ah.mk (show w7.heap.size≤Wz.heap.size from Nat.le_trans wP.out hbz.size);have Q8:=ah.mk (show ∀k,Wd.heap.size≤k→True∧some k≠(Value.slice Au nu cu).ownBlock from fun k hk=>⟨trivial,fun e=>by have:=Kd.ZP yE.out k e.symm;omega⟩);have Q9:=ah.mk (vM Wz w7.heap.size (fun k=>Wd.heap.size≤k) y (Kd.fQ (Kd.dU (Kd.gM hr4) (fun k hk=>hk.2.1)) wP.out) (Kd.fQ (Kd.dU (Kd.gM oF) (fun k hk=>hk.2.1)) wP.out));refine hK.out _ _ (Jo.out _ hHeld hbz) (fun hHeld=>?_);clear hK K hr4 oF hbz;refine fU 58 ?_;refine mG 7 (some 59) (aQ 10 255) (fun K hK=>?_);refine oN (v:=.slice (some ⟨Wz.heap.size,0,none⟩) 1 1) (w1:=Wz.alloc (.cells #[.int .i64 y.f0,.string y.f1,.string y.f2,.int .i64 y.f3,v4,v5] 29)) (by rfl) rfl ?_ ?_
     ·go_simp
      try rfl
     have hal:=(Below.refl Wz.heap.size Wz).alloc (Nat.le_refl _) (.cells #[.int .i64 y.f0,.string y.f1,.string y.f2,.int .i64 y.f3,v4,v5] 29);refine hK.out _ _ (Jo.out _ hHeld hal) (fun hHeld=>?_);clear hK K hal;refine fU 59 ?_;refine lS (i:=8) (N:=some 60) (aQ 10 511) rfl rfl aA aD (fun K hK=>?_);refine Kd.uO om (w0:=Wz) w7.heap.size (by rfl) (.tmp 52) (.tmp 59) 25 29 (.agg #[.int .i64 0,.string ⟨#[]⟩,.string ⟨#[]⟩,.int .i64 0,.slice none 0 0,.slice none 0 0]) 96 rfl Tryz.underlying25 ER rfl (by show 0<6;decide) aD (.slice Au nu cu) S0 y [.int .i64 y.f0,.string y.f1,.string y.f2,.int .i64 y.f3,v4,v5] (fun _=>True) (fun k=>Wd.heap.size≤k) rfl rfl Q9.out Q8.out (fun _ _=>trivial) HRX.out (Below.refl _ _) Q7.out (by have:=Q5.out;omega) ?_;intro v1 w1 hr1 _hb hg1 uN;obtain⟨zo,GJ,zq,hv1⟩:=iB (Kd.I9 hr1);subst hv1;have hbx:=(hg1.block _ (bE wm.out) (jO (Kd.I9 wX.out) wm.out (fun cs e=>by injection e with _ e;exact absurd e aD))).trans wm.out;have Y7:w1.cell? ⟨pl,0,none⟩=some (.slice Au nu cu):=ak hbx 0;have f10:=ay hbx 0;have OG:=ah.mk (HIZ.out.push wm.out wX.out hr1 hg1 Ak aj ⟨by omega,by omega⟩);have Ra:=ah.mk (Q6.out.trans ((kg.grown (G:=fun k=>k=pl) (T:=fun q=>q=29) (Kd.I9 wX.out) (Nat.le_refl _) rfl hg1).trans (kg.set (G:=fun k=>k=pl) rfl 0 (.slice zo GJ zq))));clear hr1 _hb hg1 uN hbx;refine hK.out _ _ ?_;clear hK K hHeld;refine fU 60 ?_;refine lS (i:=9) (N:=none) (aQ 10 1023) rfl rfl aA aD (fun K hK=>?_);refine tZ (w1:=w1.setCell ⟨pl,0,none⟩ (.slice zo GJ zq)) (by rfl) rfl ?_ ?_
     ·go_simp
     refine hK.out _ _ ?_;clear hK K;refine kK aA ?_;exact FIN.out _ _ _ HGO.out OG.out Ra.out
   | some c=>
    rw[hca] at hlk;dsimp only at hlk;obtain⟨C4,mE,C5,mF,C7,nP,hlk,hlc⟩:=hlk;obtain⟨hcm,hck⟩:=xA hca;have MQ:=ah.mk hlc;have HCM:=ah.mk hcm;have HOS:=ah.mk (show oP cs x.rd=if c.f0=2 then some [c.f1] else if c.f0=3 then (vP x.a c).map (fun z=>[z]) else if x.a=none then none else some [] by unfold oP;rw[show tT cs x.rd.1=some c from hca];rfl);have HOP:=HOI;clear hca hck hcm hlc;have hba:=(Below.refl W.heap.size W).alloc (Nat.le_refl _) (.cells #[.int .i64 0,.int .i64 0,.string ⟨#[]⟩,.string ⟨#[]⟩,.int .i64 0,.slice none 0 0,.slice none 0 0,.slice none 0 0] 31);have hbs:=below_setRow hba (Nat.le_refl _) #[.int .i64 c.f0,.int .i64 c.f1.f0,.string c.f1.f1,.string c.f1.f2,.int .i64 c.f1.f3,.slice C4 c.f1.f4.length mE,.slice C5 c.f1.f5.length mF,.slice C7 c.f2.length nP];have hbk:=setRow_heap (W.alloc (.cells #[.int .i64 0,.int .i64 0,.string ⟨#[]⟩,.string ⟨#[]⟩,.int .i64 0,.slice none 0 0,.slice none 0 0,.slice none 0 0] 31)) W.heap.size #[.int .i64 0,.int .i64 0,.string ⟨#[]⟩,.string ⟨#[]⟩,.int .i64 0,.slice none 0 0,.slice none 0 0,.slice none 0 0] #[.int .i64 c.f0,.int .i64 c.f1.f0,.string c.f1.f1,.string c.f1.f2,.int .i64 c.f1.f3,.slice C4 c.f1.f4.length mE,.slice C5 c.f1.f5.length mF,.slice C7 c.f2.length nP] 31 (0,0) (bJ _ _);refine wpIn_block ?_;refine wpIn_seq ?_;refine uq aA (by rintro⟨a,w',h⟩;exact Q0.out a w' h) ?_
    go_wp2_with (refine dX (.store 31 (.tmp 12) (.tmp 47)) rfl ?_;refine wpList_store_row rfl 31 (.tmp 12) (.tmp 47) rfl W.heap.size #[.int .i64 c.f0,.int .i64 c.f1.f0,.string c.f1.f1,.string c.f1.f2,.int .i64 c.f1.f3,.slice C4 c.f1.f4.length mE,.slice C5 c.f1.f5.length mF,.slice C7 c.f2.length nP] rfl rfl 31 _ (by exact bJ W _) aA (by rfl) (by simp[Value.oneCell']) ?_)
    obtain⟨Ws,hWs⟩:∃Ws,(W.alloc (.cells #[.int .i64 0,.int .i64 0,.string ⟨#[]⟩,.string ⟨#[]⟩,.int .i64 0,.slice none 0 0,.slice none 0 0,.slice none 0 0] 31)).setRow W.heap.size #[.int .i64 c.f0,.int .i64 c.f1.f0,.string c.f1.f1,.string c.f1.f2,.int .i64 c.f1.f3,.slice C4 c.f1.f4.length mE,.slice C5 c.f1.f5.length mF,.slice C7 c.f2.length nP]=Ws:=⟨_,rfl⟩
    rw[hWs] at hbs hbk
    try rw[hWs]
    obtain⟨k,hk⟩:∃k,W.heap.size=k:=⟨_,rfl⟩
    have HIs:=ah.mk (HI.out.below hbs);have D9:=ah.mk (show kg w7.heap.size (fun k=>k=pl) (fun q=>q=29) W Ws from kg.below hbs);have gs:=au hbs g0;rw[hk] at hbk
    try rw[hk]
    clear hWs hba hbs g0 gm hlk HI HG HOI hk;have k0:Ws.cell? ⟨k,0,none⟩=some (.int .i64 c.f0):=ak hbk 0;by_cases h2:c.f0=2
    ·have e2:(c.f0 == 2)=true:=beq_iff_eq.2 h2
     have HGO:ah (kP cs ((pre++[x]).map Two.oG.rd) []=some (S0++[c.f1])):=⟨by rw[ZO.out,HOS.out,if_pos h2]⟩
     have Qh:=ah.mk (HX1.out c HCM.out);have HSK:=ah.mk (show wN Ws ⟨k,1,none⟩ c.f1 C4 mE C5 mF from⟨ak hbk 1,ak hbk 2,ak hbk 3,ak hbk 4,ak hbk 5,ak hbk 6⟩);clear hbk h2 gs
     gi_wp2_with fail
     have hdr:=bA (Below.refl Ws.heap.size Ws)
     obtain⟨Wd,hWd⟩:∃Wd,Ws.drew=Wd:=⟨_,rfl⟩
     have hdb:Below Ws.heap.size Ws Wd:=hWd▸hdr;have ET:=ah.mk (HIs.out.below hdb);obtain⟨va,hva,hra⟩:=ET.out.lb;obtain⟨Au,nu,cu,hvu⟩:=iB (Kd.I9 hra);subst hvu;have OE:=ah.mk hva;have yE:=ah.mk hra;have Jf:=ah.mk (D9.out.trans (kg.below hdb));have wP:=ah.mk (show w7.heap.size≤Wd.heap.size from ET.out.big);have EU:=ah.mk (show Below w.heap.size w Wd from ET.out.low);have z2:Wd.cell? ⟨pl,0,none⟩=some (.slice Au nu cu):=ak hva 0;have Jm:=ah.mk (show Wd.cell? ⟨pl,0,none⟩=some (.slice Au nu cu)∧wN Wd ⟨k,1,none⟩ c.f1 C4 mE C5 mF from⟨z2,HSK.out.below hdb⟩);have Jo:=ah.mk (show ∀W':World,(W'.cell? ⟨pl,0,none⟩=some (.slice Au nu cu)∧wN W' ⟨k,1,none⟩ c.f1 C4 mE C5 mF)→∀{W''},Below W'.heap.size W' W''→(W''.cell? ⟨pl,0,none⟩=some (.slice Au nu cu)∧wN W'' ⟨k,1,none⟩ c.f1 C4 mE C5 mF) from fun W' h W'' hb=>⟨au hb h.1,h.2.below hb⟩);clear hdr hva hra z2 hdb;refine nS (n:=7) (S:=fun w'=>w'.cell? ⟨pl,0,none⟩=some (.slice Au nu cu)∧wN w' ⟨k,1,none⟩ c.f1 C4 mE C5 mF) (ds:=[5,6]) (aQ 7 0) aA aA (by rintro⟨a,w',h⟩;exact Q0.out a w' h) rfl rfl (by rw[hWd];exact Jm.out) (fun hHeld=>?_);rw[hWd] at hHeld ⊢;clear hWd Jm;refine jZ (i:=0) (N:=some 65) (v:=?_) (a':=?_) (aQ 7 1) rfl rfl aA (fun c a B h=>sF.out c a _ _ B h) (Or.inl ⟨by rfl,?_⟩) hHeld ?_ ?_;rotate_left
     ·rintro w' ⟨s,⟨y0,y1,y2,y3,y4,y5⟩⟩
      go_simp
      with_reducible rfl
     rotate_left
     ·simp only[Act.put,aYa,aYb,aYc,dn,dA];rfl
     refine fP (i:=1) (N:=some 66) (v:=?_) (a':=?_) (aQ 7 3) rfl rfl aA (fun c a B h=>sF.out c a _ _ B h) (Or.inl ⟨by rfl,?_⟩) ?_ ?_;rotate_left
     ·intro w'
      go_simp
      with_reducible rfl
     rotate_left
     ·simp only[Act.put,aYa,aYb,aYc,dn,dA];rfl
     refine jZ (i:=2) (N:=some 67) (v:=?_) (a':=?_) (aQ 7 7) rfl rfl aA (fun c a B h=>sF.out c a _ _ B h) (Or.inl ⟨by rfl,?_⟩) hHeld ?_ ?_;rotate_left
     ·rintro w' ⟨s,⟨y0,y1,y2,y3,y4,y5⟩⟩
      go_simp
      with_reducible rfl
     rotate_left
     ·simp only[Act.put,aYa,aYb,aYc,dn,dA];rfl
     refine mG 3 (some 68) (aQ 7 15) (fun K hK=>?_);refine qj Tryz.func122 #[.agg #[.int .i64 c.f1.f0,.string c.f1.f1,.string c.f1.f2,.int .i64 c.f1.f3,.slice C4 c.f1.f4.length mE,.slice C5 c.f1.f5.length mF]] ?_;refine (gQ.calls c.f1.f0 c.f1.f1 c.f1.f2 c.f1.f3 C4 mE c.f1.f4 C5 mF c.f1.f5 c.f1.f0 c.f1.f1 c.f1.f2 c.f1.f3 c.f1.f4 c.f1.f5 Wd (Kd.aC MQ.out.g4 EU.out) MQ.out.l4 (Kd.aC MQ.out.g5 EU.out) MQ.out.l5 (OC Qh.out.1 Qh.out.2)).mono ?_;rintro e Wz ⟨v4,v5,rfl,hr4,oF,hbz⟩;refine⟨_,rfl,?_⟩;have wm:=ah.mk (aG OE.out hbz);have wX:=ah.mk (Kd.nk yE.out hbz);have HRX:=ah.mk (Kd.sS (ok':=fun k=>True∧¬Wd.heap.size≤k) (Kd.S9 yE.out hbz) (fun k hk=>⟨trivial,by have:=hk.2;omega⟩));have HIZ:=ah.mk (ET.out.below hbz);have Q6:=ah.mk (Jf.out.trans (kg.below hbz));have Q7:=ah.mk (show w7.heap.size≤Wz.heap.size from Nat.le_trans wP.out hbz.size);have Q8:=ah.mk (show ∀k,Wd.heap.size≤k→True∧some k≠(Value.slice Au nu cu).ownBlock from fun k hk=>⟨trivial,fun e=>by have:=Kd.ZP yE.out k e.symm;omega⟩);have Q9:=ah.mk (vM Wz w7.heap.size (fun k=>Wd.heap.size≤k) c.f1 (Kd.fQ (Kd.dU (Kd.gM hr4) (fun k hk=>hk.2.1)) wP.out) (Kd.fQ (Kd.dU (Kd.gM oF) (fun k hk=>hk.2.1)) wP.out));refine hK.out _ _ (Jo.out _ hHeld hbz) (fun hHeld=>?_);clear hK K hr4 oF hbz;refine fU 68 ?_;refine mG 4 (some 69) (aQ 7 31) (fun K hK=>?_);refine oN (v:=.slice (some ⟨Wz.heap.size,0,none⟩) 1 1) (w1:=Wz.alloc (.cells #[.int .i64 c.f1.f0,.string c.f1.f1,.string c.f1.f2,.int .i64 c.f1.f3,v4,v5] 29)) (by rfl) rfl ?_ ?_
     ·go_simp
      try rfl
     have hal:=(Below.refl Wz.heap.size Wz).alloc (Nat.le_refl _) (.cells #[.int .i64 c.f1.f0,.string c.f1.f1,.string c.f1.f2,.int .i64 c.f1.f3,v4,v5] 29);refine hK.out _ _ (Jo.out _ hHeld hal) (fun hHeld=>?_);clear hK K hal;refine fU 69 ?_;refine lS (i:=5) (N:=some 70) (aQ 7 63) rfl rfl aA aD (fun K hK=>?_);refine Kd.uO om (w0:=Wz) w7.heap.size (by rfl) (.tmp 65) (.tmp 69) 25 29 (.agg #[.int .i64 0,.string ⟨#[]⟩,.string ⟨#[]⟩,.int .i64 0,.slice none 0 0,.slice none 0 0]) 96 rfl Tryz.underlying25 ER rfl (by show 0<6;decide) aD (.slice Au nu cu) S0 c.f1 [.int .i64 c.f1.f0,.string c.f1.f1,.string c.f1.f2,.int .i64 c.f1.f3,v4,v5] (fun _=>True) (fun k=>Wd.heap.size≤k) rfl rfl Q9.out Q8.out (fun _ _=>trivial) HRX.out (Below.refl _ _) Q7.out (by have:=Q5.out;omega) ?_;intro v1 w1 hr1 _hb hg1 uN;obtain⟨zo,GJ,zq,hv1⟩:=iB (Kd.I9 hr1);subst hv1;have hbx:=(hg1.block _ (bE wm.out) (jO (Kd.I9 wX.out) wm.out (fun cs e=>by injection e with _ e;exact absurd e aD))).trans wm.out;have Y7:w1.cell? ⟨pl,0,none⟩=some (.slice Au nu cu):=ak hbx 0;have f10:=ay hbx 0;have OG:=ah.mk (HIZ.out.push wm.out wX.out hr1 hg1 Ak aj ⟨by omega,by omega⟩);have Ra:=ah.mk (Q6.out.trans ((kg.grown (G:=fun k=>k=pl) (T:=fun q=>q=29) (Kd.I9 wX.out) (Nat.le_refl _) rfl hg1).trans (kg.set (G:=fun k=>k=pl) rfl 0 (.slice zo GJ zq))));clear hr1 _hb hg1 uN hbx;refine hK.out _ _ ?_;clear hK K hHeld;refine fU 70 ?_;refine lS (i:=6) (N:=none) (aQ 7 127) rfl rfl aA aD (fun K hK=>?_);refine tZ (w1:=w1.setCell ⟨pl,0,none⟩ (.slice zo GJ zq)) (by rfl) rfl ?_ ?_
     ·go_simp
     refine hK.out _ _ ?_;clear hK K;refine kK aA ?_;exact FIN.out _ _ _ HGO.out OG.out Ra.out
    have e2:(c.f0 == 2)=false:=beq_eq_false_iff_ne.2 h2;by_cases h3:c.f0=3
    ·have e3:(c.f0 == 3)=true:=beq_iff_eq.2 h3;have HFE:=ah.mk (HE.out c HCM.out h3)
     have HOT:ah (oP cs x.rd=(vP x.a c).map (fun z=>[z])):=⟨by rw[HOS.out,if_neg h2,if_pos h3]⟩
     have k1:Ws.cell? ⟨k,1,none⟩=some (.int .i64 c.f1.f0):=ak hbk 1;have k2:Ws.cell? ⟨k,2,none⟩=some (.string c.f1.f1):=ak hbk 2;have k3:Ws.cell? ⟨k,3,none⟩=some (.string c.f1.f2):=ak hbk 3;have k4:Ws.cell? ⟨k,4,none⟩=some (.int .i64 c.f1.f3):=ak hbk 4;have k5:Ws.cell? ⟨k,5,none⟩=some (.slice C4 c.f1.f4.length mE):=ak hbk 5;have k6:Ws.cell? ⟨k,6,none⟩=some (.slice C5 c.f1.f5.length mF):=ak hbk 6;have k7:Ws.cell? ⟨k,7,none⟩=some (.slice C7 c.f2.length nP):=ak hbk 7;clear hbk h2 h3;have hop:=HOP.out
     cases hxa:x.a with
     | none=>
      rw[hxa] at hop;have hop:p0=.pointer none:=hop;subst hop
      have HNO:ah (o=none):=⟨adV.out (by rw[HOT.out,hxa];rfl)⟩
      clear hxa HOP
      gi_wp2_with fail
      have hdr:=bA (Below.refl Ws.heap.size Ws)
      obtain⟨Wd,hWd⟩:∃Wd,Ws.drew=Wd:=⟨_,rfl⟩
      have hdb:Below Ws.heap.size Ws Wd:=hWd▸hdr;have ET:=ah.mk (HIs.out.below hdb);obtain⟨va,hva,hra⟩:=ET.out.lb;obtain⟨Au,nu,cu,hvu⟩:=iB (Kd.I9 hra);subst hvu;have OE:=ah.mk hva;have yE:=ah.mk hra;have Jf:=ah.mk (D9.out.trans (kg.below hdb));have wP:=ah.mk (show w7.heap.size≤Wd.heap.size from ET.out.big);have EU:=ah.mk (show Below w.heap.size w Wd from ET.out.low);have z2:Wd.cell? ⟨pl,0,none⟩=some (.slice Au nu cu):=ak hva 0;have Jm:=ah.mk (show Wd.cell? ⟨pl,0,none⟩=some (.slice Au nu cu)∧Wd.cell? ⟨x.g,0,none⟩=some (.pointer none)∧Wd.cell? ⟨k,0,none⟩=some (.int .i64 c.f0)∧Wd.cell? ⟨k,1,none⟩=some (.int .i64 c.f1.f0)∧Wd.cell? ⟨k,2,none⟩=some (.string c.f1.f1)∧Wd.cell? ⟨k,3,none⟩=some (.string c.f1.f2)∧Wd.cell? ⟨k,4,none⟩=some (.int .i64 c.f1.f3)∧Wd.cell? ⟨k,5,none⟩=some (.slice C4 c.f1.f4.length mE)∧Wd.cell? ⟨k,6,none⟩=some (.slice C5 c.f1.f5.length mF)∧Wd.cell? ⟨k,7,none⟩=some (.slice C7 c.f2.length nP) from⟨z2,au hdb gs,au hdb k0,au hdb k1,au hdb k2,au hdb k3,au hdb k4,au hdb k5,au hdb k6,au hdb k7⟩);have Jo:=ah.mk (show ∀W':World,(W'.cell? ⟨pl,0,none⟩=some (.slice Au nu cu)∧W'.cell? ⟨x.g,0,none⟩=some (.pointer none)∧W'.cell? ⟨k,0,none⟩=some (.int .i64 c.f0)∧W'.cell? ⟨k,1,none⟩=some (.int .i64 c.f1.f0)∧W'.cell? ⟨k,2,none⟩=some (.string c.f1.f1)∧W'.cell? ⟨k,3,none⟩=some (.string c.f1.f2)∧W'.cell? ⟨k,4,none⟩=some (.int .i64 c.f1.f3)∧W'.cell? ⟨k,5,none⟩=some (.slice C4 c.f1.f4.length mE)∧W'.cell? ⟨k,6,none⟩=some (.slice C5 c.f1.f5.length mF)∧W'.cell? ⟨k,7,none⟩=some (.slice C7 c.f2.length nP))→∀{W''},Below W'.heap.size W' W''→(W''.cell? ⟨pl,0,none⟩=some (.slice Au nu cu)∧W''.cell? ⟨x.g,0,none⟩=some (.pointer none)∧W''.cell? ⟨k,0,none⟩=some (.int .i64 c.f0)∧W''.cell? ⟨k,1,none⟩=some (.int .i64 c.f1.f0)∧W''.cell? ⟨k,2,none⟩=some (.string c.f1.f1)∧W''.cell? ⟨k,3,none⟩=some (.string c.f1.f2)∧W''.cell? ⟨k,4,none⟩=some (.int .i64 c.f1.f3)∧W''.cell? ⟨k,5,none⟩=some (.slice C4 c.f1.f4.length mE)∧W''.cell? ⟨k,6,none⟩=some (.slice C5 c.f1.f5.length mF)∧W''.cell? ⟨k,7,none⟩=some (.slice C7 c.f2.length nP)) from fun W' h W'' hb=>⟨au hb h.1,au hb h.2.1,au hb h.2.2.1,au hb h.2.2.2.1,au hb h.2.2.2.2.1,au hb h.2.2.2.2.2.1,au hb h.2.2.2.2.2.2.1,au hb h.2.2.2.2.2.2.2.1,au hb h.2.2.2.2.2.2.2.2.1,au hb h.2.2.2.2.2.2.2.2.2⟩);clear hdr hva hra z2 hdb gs k0 k1 k2 k3 k4 k5 k6 k7;refine nS (n:=9) (S:=fun w'=>w'.cell? ⟨pl,0,none⟩=some (.slice Au nu cu)∧w'.cell? ⟨x.g,0,none⟩=some (.pointer none)∧w'.cell? ⟨k,0,none⟩=some (.int .i64 c.f0)∧w'.cell? ⟨k,1,none⟩=some (.int .i64 c.f1.f0)∧w'.cell? ⟨k,2,none⟩=some (.string c.f1.f1)∧w'.cell? ⟨k,3,none⟩=some (.string c.f1.f2)∧w'.cell? ⟨k,4,none⟩=some (.int .i64 c.f1.f3)∧w'.cell? ⟨k,5,none⟩=some (.slice C4 c.f1.f4.length mE)∧w'.cell? ⟨k,6,none⟩=some (.slice C5 c.f1.f5.length mF)∧w'.cell? ⟨k,7,none⟩=some (.slice C7 c.f2.length nP)) (ds:=[7,8]) (aQ 9 0) aA aA (by rintro⟨a,w',h⟩;exact Q0.out a w' h) rfl rfl (by rw[hWd];exact Jm.out) (fun hHeld=>?_);rw[hWd] at hHeld ⊢;clear hWd Jm;refine jZ (i:=0) (N:=some 75) (v:=?_) (a':=?_) (aQ 9 1) rfl rfl aA (fun c a B h=>sF.out c a _ _ B h) (Or.inl ⟨by rfl,?_⟩) hHeld ?_ ?_;rotate_left
      ·rintro w' ⟨s,t,s0,s1,s2,s3,s4,s5,s6,s7⟩
       go_simp
       with_reducible rfl
      rotate_left
      ·simp only[Act.put,aYa,aYb,aYc,dn,dA];rfl
      refine fP (i:=1) (N:=some 76) (v:=?_) (a':=?_) (aQ 9 3) rfl rfl aA (fun c a B h=>sF.out c a _ _ B h) (Or.inl ⟨by rfl,?_⟩) ?_ ?_;rotate_left
      ·intro w'
       go_simp
       with_reducible rfl
      rotate_left
      ·simp only[Act.put,aYa,aYb,aYc,dn,dA];rfl
      refine fP (i:=2) (N:=some 77) (v:=?_) (a':=?_) (aQ 9 7) rfl rfl aA (fun c a B h=>sF.out c a _ _ B h) (Or.inl ⟨by rfl,?_⟩) ?_ ?_;rotate_left
      ·intro w'
       go_simp
       with_reducible rfl
      rotate_left
      ·simp only[Act.put,aYa,aYb,aYc,dn,dA];rfl
      refine jZ (i:=3) (N:=some 78) (v:=?_) (a':=?_) (aQ 9 15) rfl rfl aA (fun c a B h=>sF.out c a _ _ B h) (Or.inl ⟨by rfl,?_⟩) hHeld ?_ ?_;rotate_left
      ·rintro w' ⟨s,t,s0,s1,s2,s3,s4,s5,s6,s7⟩
       go_simp
       with_reducible rfl
      rotate_left
      ·simp only[Act.put,aYa,aYb,aYc,dn,dA];rfl
      refine jZ (i:=4) (N:=some 79) (v:=?_) (a':=?_) (aQ 9 31) rfl rfl aA (fun c a B h=>sF.out c a _ _ B h) (Or.inl ⟨by rfl,?_⟩) hHeld ?_ ?_;rotate_left
      ·rintro w' ⟨s,t,s0,s1,s2,s3,s4,s5,s6,s7⟩
       go_simp
       with_reducible rfl
      rotate_left
      ·simp only[Act.put,aYa,aYb,aYc,dn,dA];rfl
      refine mG 5 (some 80) (aQ 9 63) (fun K hK=>?_);refine FH Tryz.func123 aA rfl #[.pointer none,.agg #[.int .i64 c.f0,.int .i64 c.f1.f0,.string c.f1.f1,.string c.f1.f2,.int .i64 c.f1.f3,.slice C4 c.f1.f4.length mE,.slice C5 c.f1.f5.length mF,.slice C7 c.f2.length nP]] (by rfl) rfl rfl Nz ?_;refine (PS c C4 mE C5 mF C7 nP Wd).mono ?_;rintro e Wz ⟨hbz,rfl⟩;refine .inr ⟨_,rfl,?_⟩;exact PAN.out _ _ rfl HNO.out (ET.out.below hbz) (Jf.out.trans (kg.below hbz))
     | some y=>
      rw[hxa] at hop;obtain⟨ad,Y4,qE,Y5,qh,hp0,hsy,Nb⟩:=hop.six;subst hp0;have VF:=ah.mk hsy;have ES:=ah.mk Nb;have HFY:=ah.mk (HF.out y (HHA.out.1 y hxa))
      obtain⟨q,hq⟩:∃q,rF y c=q:=⟨_,rfl⟩
      have HOU:ah (oP cs x.rd=q.map (fun z=>[z])):=⟨by rw[HOT.out,hxa,← hq];rfl⟩
      have ahs:=ah.mk hq;clear hop hsy Nb hxa hq HOP HOT
      cases q with
      | none=>
       have HNO:ah (o=none):=⟨adV.out (by rw[HOU.out];rfl)⟩
       gi_wp2_with fail
       have hdr:=bA (Below.refl Ws.heap.size Ws)
       obtain⟨Wd,hWd⟩:∃Wd,Ws.drew=Wd:=⟨_,rfl⟩
       have hdb:Below Ws.heap.size Ws Wd:=hWd▸hdr;have ET:=ah.mk (HIs.out.below hdb);obtain⟨va,hva,hra⟩:=ET.out.lb;obtain⟨Au,nu,cu,hvu⟩:=iB (Kd.I9 hra);subst hvu;have OE:=ah.mk hva;have yE:=ah.mk hra;have Jf:=ah.mk (D9.out.trans (kg.below hdb));have wP:=ah.mk (show w7.heap.size≤Wd.heap.size from ET.out.big);have EU:=ah.mk (show Below w.heap.size w Wd from ET.out.low);have adX:=ah.mk (VF.out.below EU.out);have z2:Wd.cell? ⟨pl,0,none⟩=some (.slice Au nu cu):=ak hva 0;have Jm:=ah.mk (show Wd.cell? ⟨pl,0,none⟩=some (.slice Au nu cu)∧Wd.cell? ⟨x.g,0,none⟩=some (.pointer (some ad))∧Wd.cell? ⟨k,0,none⟩=some (.int .i64 c.f0)∧Wd.cell? ⟨k,1,none⟩=some (.int .i64 c.f1.f0)∧Wd.cell? ⟨k,2,none⟩=some (.string c.f1.f1)∧Wd.cell? ⟨k,3,none⟩=some (.string c.f1.f2)∧Wd.cell? ⟨k,4,none⟩=some (.int .i64 c.f1.f3)∧Wd.cell? ⟨k,5,none⟩=some (.slice C4 c.f1.f4.length mE)∧Wd.cell? ⟨k,6,none⟩=some (.slice C5 c.f1.f5.length mF)∧Wd.cell? ⟨k,7,none⟩=some (.slice C7 c.f2.length nP) from⟨z2,au hdb gs,au hdb k0,au hdb k1,au hdb k2,au hdb k3,au hdb k4,au hdb k5,au hdb k6,au hdb k7⟩);have Jo:=ah.mk (show ∀W':World,(W'.cell? ⟨pl,0,none⟩=some (.slice Au nu cu)∧W'.cell? ⟨x.g,0,none⟩=some (.pointer (some ad))∧W'.cell? ⟨k,0,none⟩=some (.int .i64 c.f0)∧W'.cell? ⟨k,1,none⟩=some (.int .i64 c.f1.f0)∧W'.cell? ⟨k,2,none⟩=some (.string c.f1.f1)∧W'.cell? ⟨k,3,none⟩=some (.string c.f1.f2)∧W'.cell? ⟨k,4,none⟩=some (.int .i64 c.f1.f3)∧W'.cell? ⟨k,5,none⟩=some (.slice C4 c.f1.f4.length mE)∧W'.cell? ⟨k,6,none⟩=some (.slice C5 c.f1.f5.length mF)∧W'.cell? ⟨k,7,none⟩=some (.slice C7 c.f2.length nP))→∀{W''},Below W'.heap.size W' W''→(W''.cell? ⟨pl,0,none⟩=some (.slice Au nu cu)∧W''.cell? ⟨x.g,0,none⟩=some (.pointer (some ad))∧W''.cell? ⟨k,0,none⟩=some (.int .i64 c.f0)∧W''.cell? ⟨k,1,none⟩=some (.int .i64 c.f1.f0)∧W''.cell? ⟨k,2,none⟩=some (.string c.f1.f1)∧W''.cell? ⟨k,3,none⟩=some (.string c.f1.f2)∧W''.cell? ⟨k,4,none⟩=some (.int .i64 c.f1.f3)∧W''.cell? ⟨k,5,none⟩=some (.slice C4 c.f1.f4.length mE)∧W''.cell? ⟨k,6,none⟩=some (.slice C5 c.f1.f5.length mF)∧W''.cell? ⟨k,7,none⟩=some (.slice C7 c.f2.length nP)) from fun W' h W'' hb=>⟨au hb h.1,au hb h.2.1,au hb h.2.2.1,au hb h.2.2.2.1,au hb h.2.2.2.2.1,au hb h.2.2.2.2.2.1,au hb h.2.2.2.2.2.2.1,au hb h.2.2.2.2.2.2.2.1,au hb h.2.2.2.2.2.2.2.2.1,au hb h.2.2.2.2.2.2.2.2.2⟩);clear hdr hva hra z2 hdb gs k0 k1 k2 k3 k4 k5 k6 k7;refine nS (n:=9) (S:=fun w'=>w'.cell? ⟨pl,0,none⟩=some (.slice Au nu cu)∧w'.cell? ⟨x.g,0,none⟩=some (.pointer (some ad))∧w'.cell? ⟨k,0,none⟩=some (.int .i64 c.f0)∧w'.cell? ⟨k,1,none⟩=some (.int .i64 c.f1.f0)∧w'.cell? ⟨k,2,none⟩=some (.string c.f1.f1)∧w'.cell? ⟨k,3,none⟩=some (.string c.f1.f2)∧w'.cell? ⟨k,4,none⟩=some (.int .i64 c.f1.f3)∧w'.cell? ⟨k,5,none⟩=some (.slice C4 c.f1.f4.length mE)∧w'.cell? ⟨k,6,none⟩=some (.slice C5 c.f1.f5.length mF)∧w'.cell? ⟨k,7,none⟩=some (.slice C7 c.f2.length nP)) (ds:=[7,8]) (aQ 9 0) aA aA (by rintro⟨a,w',h⟩;exact Q0.out a w' h) rfl rfl (by rw[hWd];exact Jm.out) (fun hHeld=>?_);rw[hWd] at hHeld ⊢;clear hWd Jm;refine jZ (i:=0) (N:=some 75) (v:=?_) (a':=?_) (aQ 9 1) rfl rfl aA (fun c a B h=>sF.out c a _ _ B h) (Or.inl ⟨by rfl,?_⟩) hHeld ?_ ?_;rotate_left
       ·rintro w' ⟨s,t,s0,s1,s2,s3,s4,s5,s6,s7⟩
        go_simp
        with_reducible rfl
       rotate_left
       ·simp only[Act.put,aYa,aYb,aYc,dn,dA];rfl
       refine fP (i:=1) (N:=some 76) (v:=?_) (a':=?_) (aQ 9 3) rfl rfl aA (fun c a B h=>sF.out c a _ _ B h) (Or.inl ⟨by rfl,?_⟩) ?_ ?_;rotate_left
       ·intro w'
        go_simp
        with_reducible rfl
       rotate_left
       ·simp only[Act.put,aYa,aYb,aYc,dn,dA];rfl
       refine fP (i:=2) (N:=some 77) (v:=?_) (a':=?_) (aQ 9 7) rfl rfl aA (fun c a B h=>sF.out c a _ _ B h) (Or.inl ⟨by rfl,?_⟩) ?_ ?_;rotate_left
       ·intro w'
        go_simp
        with_reducible rfl
       rotate_left
       ·simp only[Act.put,aYa,aYb,aYc,dn,dA];rfl
       refine jZ (i:=3) (N:=some 78) (v:=?_) (a':=?_) (aQ 9 15) rfl rfl aA (fun c a B h=>sF.out c a _ _ B h) (Or.inl ⟨by rfl,?_⟩) hHeld ?_ ?_;rotate_left
       ·rintro w' ⟨s,t,s0,s1,s2,s3,s4,s5,s6,s7⟩
        go_simp
        with_reducible rfl
       rotate_left
       ·simp only[Act.put,aYa,aYb,aYc,dn,dA];rfl
       refine jZ (i:=4) (N:=some 79) (v:=?_) (a':=?_) (aQ 9 31) rfl rfl aA (fun c a B h=>sF.out c a _ _ B h) (Or.inl ⟨by rfl,?_⟩) hHeld ?_ ?_;rotate_left
       ·rintro w' ⟨s,t,s0,s1,s2,s3,s4,s5,s6,s7⟩
        go_simp
        with_reducible rfl
       rotate_left
       ·simp only[Act.put,aYa,aYb,aYc,dn,dA];rfl
       refine mG 5 (some 80) (aQ 9 63) (fun K hK=>?_);refine FH Tryz.func123 aA rfl #[.pointer (some ad),.agg #[.int .i64 c.f0,.int .i64 c.f1.f0,.string c.f1.f1,.string c.f1.f2,.int .i64 c.f1.f3,.slice C4 c.f1.f4.length mE,.slice C5 c.f1.f5.length mF,.slice C7 c.f2.length nP]] (by rfl) rfl rfl Nz ?_;have hed:=Fv y ad Y4 qE Y5 qh c C4 mE C5 mF C7 nP Wd adX.out (ES.out.below EU.out) HFY.out HFE.out MQ.out.l4 (Kd.aC MQ.out.g4 EU.out) MQ.out.l5 (Kd.aC MQ.out.g5 EU.out) MQ.out.l7 (Kd.aC MQ.out.g7 EU.out);rw[ahs.out] at hed;refine hed.mono ?_;clear hed;rintro e Wz ⟨hbz,rfl⟩;refine .inr ⟨_,rfl,?_⟩;exact PAN.out _ _ rfl HNO.out (ET.out.below hbz) (Jf.out.trans (kg.below hbz))
      | some z=>
       have HGO:ah (kP cs ((pre++[x]).map Two.oG.rd) []=some (S0++[z])):=⟨by rw[ZO.out,HOU.out];rfl⟩
       gi_wp2_with fail
       have hdr:=bA (Below.refl Ws.heap.size Ws)
       obtain⟨Wd,hWd⟩:∃Wd,Ws.drew=Wd:=⟨_,rfl⟩
       have hdb:Below Ws.heap.size Ws Wd:=hWd▸hdr;have ET:=ah.mk (HIs.out.below hdb);obtain⟨va,hva,hra⟩:=ET.out.lb;obtain⟨Au,nu,cu,hvu⟩:=iB (Kd.I9 hra);subst hvu;have OE:=ah.mk hva;have yE:=ah.mk hra;have Jf:=ah.mk (D9.out.trans (kg.below hdb));have wP:=ah.mk (show w7.heap.size≤Wd.heap.size from ET.out.big);have EU:=ah.mk (show Below w.heap.size w Wd from ET.out.low);have adX:=ah.mk (VF.out.below EU.out);have z2:Wd.cell? ⟨pl,0,none⟩=some (.slice Au nu cu):=ak hva 0;have Jm:=ah.mk (show Wd.cell? ⟨pl,0,none⟩=some (.slice Au nu cu)∧Wd.cell? ⟨x.g,0,none⟩=some (.pointer (some ad))∧Wd.cell? ⟨k,0,none⟩=some (.int .i64 c.f0)∧Wd.cell? ⟨k,1,none⟩=some (.int .i64 c.f1.f0)∧Wd.cell? ⟨k,2,none⟩=some (.string c.f1.f1)∧Wd.cell? ⟨k,3,none⟩=some (.string c.f1.f2)∧Wd.cell? ⟨k,4,none⟩=some (.int .i64 c.f1.f3)∧Wd.cell? ⟨k,5,none⟩=some (.slice C4 c.f1.f4.length mE)∧Wd.cell? ⟨k,6,none⟩=some (.slice C5 c.f1.f5.length mF)∧Wd.cell? ⟨k,7,none⟩=some (.slice C7 c.f2.length nP) from⟨z2,au hdb gs,au hdb k0,au hdb k1,au hdb k2,au hdb k3,au hdb k4,au hdb k5,au hdb k6,au hdb k7⟩);have Jo:=ah.mk (show ∀W':World,(W'.cell? ⟨pl,0,none⟩=some (.slice Au nu cu)∧W'.cell? ⟨x.g,0,none⟩=some (.pointer (some ad))∧W'.cell? ⟨k,0,none⟩=some (.int .i64 c.f0)∧W'.cell? ⟨k,1,none⟩=some (.int .i64 c.f1.f0)∧W'.cell? ⟨k,2,none⟩=some (.string c.f1.f1)∧W'.cell? ⟨k,3,none⟩=some (.string c.f1.f2)∧W'.cell? ⟨k,4,none⟩=some (.int .i64 c.f1.f3)∧W'.cell? ⟨k,5,none⟩=some (.slice C4 c.f1.f4.length mE)∧W'.cell? ⟨k,6,none⟩=some (.slice C5 c.f1.f5.length mF)∧W'.cell? ⟨k,7,none⟩=some (.slice C7 c.f2.length nP))→∀{W''},Below W'.heap.size W' W''→(W''.cell? ⟨pl,0,none⟩=some (.slice Au nu cu)∧W''.cell? ⟨x.g,0,none⟩=some (.pointer (some ad))∧W''.cell? ⟨k,0,none⟩=some (.int .i64 c.f0)∧W''.cell? ⟨k,1,none⟩=some (.int .i64 c.f1.f0)∧W''.cell? ⟨k,2,none⟩=some (.string c.f1.f1)∧W''.cell? ⟨k,3,none⟩=some (.string c.f1.f2)∧W''.cell? ⟨k,4,none⟩=some (.int .i64 c.f1.f3)∧W''.cell? ⟨k,5,none⟩=some (.slice C4 c.f1.f4.length mE)∧W''.cell? ⟨k,6,none⟩=some (.slice C5 c.f1.f5.length mF)∧W''.cell? ⟨k,7,none⟩=some (.slice C7 c.f2.length nP)) from fun W' h W'' hb=>⟨au hb h.1,au hb h.2.1,au hb h.2.2.1,au hb h.2.2.2.1,au hb h.2.2.2.2.1,au hb h.2.2.2.2.2.1,au hb h.2.2.2.2.2.2.1,au hb h.2.2.2.2.2.2.2.1,au hb h.2.2.2.2.2.2.2.2.1,au hb h.2.2.2.2.2.2.2.2.2⟩);clear hdr hva hra z2 hdb gs k0 k1 k2 k3 k4 k5 k6 k7;refine nS (n:=9) (S:=fun w'=>w'.cell? ⟨pl,0,none⟩=some (.slice Au nu cu)∧w'.cell? ⟨x.g,0,none⟩=some (.pointer (some ad))∧w'.cell? ⟨k,0,none⟩=some (.int .i64 c.f0)∧w'.cell? ⟨k,1,none⟩=some (.int .i64 c.f1.f0)∧w'.cell? ⟨k,2,none⟩=some (.string c.f1.f1)∧w'.cell? ⟨k,3,none⟩=some (.string c.f1.f2)∧w'.cell? ⟨k,4,none⟩=some (.int .i64 c.f1.f3)∧w'.cell? ⟨k,5,none⟩=some (.slice C4 c.f1.f4.length mE)∧w'.cell? ⟨k,6,none⟩=some (.slice C5 c.f1.f5.length mF)∧w'.cell? ⟨k,7,none⟩=some (.slice C7 c.f2.length nP)) (ds:=[7,8]) (aQ 9 0) aA aA (by rintro⟨a,w',h⟩;exact Q0.out a w' h) rfl rfl (by rw[hWd];exact Jm.out) (fun hHeld=>?_);rw[hWd] at hHeld ⊢;clear hWd Jm;refine jZ (i:=0) (N:=some 75) (v:=?_) (a':=?_) (aQ 9 1) rfl rfl aA (fun c a B h=>sF.out c a _ _ B h) (Or.inl ⟨by rfl,?_⟩) hHeld ?_ ?_;rotate_left
       ·rintro w' ⟨s,t,s0,s1,s2,s3,s4,s5,s6,s7⟩
        go_simp
        with_reducible rfl
       rotate_left
       ·simp only[Act.put,aYa,aYb,aYc,dn,dA];rfl
       refine fP (i:=1) (N:=some 76) (v:=?_) (a':=?_) (aQ 9 3) rfl rfl aA (fun c a B h=>sF.out c a _ _ B h) (Or.inl ⟨by rfl,?_⟩) ?_ ?_;rotate_left
       ·intro w'
        go_simp
        with_reducible rfl
       rotate_left
       ·simp only[Act.put,aYa,aYb,aYc,dn,dA];rfl
       refine fP (i:=2) (N:=some 77) (v:=?_) (a':=?_) (aQ 9 7) rfl rfl aA (fun c a B h=>sF.out c a _ _ B h) (Or.inl ⟨by rfl,?_⟩) ?_ ?_;rotate_left
       ·intro w'
        go_simp
        with_reducible rfl
       rotate_left
       ·simp only[Act.put,aYa,aYb,aYc,dn,dA];rfl
       refine jZ (i:=3) (N:=some 78) (v:=?_) (a':=?_) (aQ 9 15) rfl rfl aA (fun c a B h=>sF.out c a _ _ B h) (Or.inl ⟨by rfl,?_⟩) hHeld ?_ ?_;rotate_left
       ·rintro w' ⟨s,t,s0,s1,s2,s3,s4,s5,s6,s7⟩
        go_simp
        with_reducible rfl
       rotate_left
       ·simp only[Act.put,aYa,aYb,aYc,dn,dA];rfl
       refine jZ (i:=4) (N:=some 79) (v:=?_) (a':=?_) (aQ 9 31) rfl rfl aA (fun c a B h=>sF.out c a _ _ B h) (Or.inl ⟨by rfl,?_⟩) hHeld ?_ ?_;rotate_left
       ·rintro w' ⟨s,t,s0,s1,s2,s3,s4,s5,s6,s7⟩
        go_simp
        with_reducible rfl
       rotate_left
       ·simp only[Act.put,aYa,aYb,aYc,dn,dA];rfl
       refine mG 5 (some 80) (aQ 9 63) (fun K hK=>?_);refine FH Tryz.func123 aA rfl #[.pointer (some ad),.agg #[.int .i64 c.f0,.int .i64 c.f1.f0,.string c.f1.f1,.string c.f1.f2,.int .i64 c.f1.f3,.slice C4 c.f1.f4.length mE,.slice C5 c.f1.f5.length mF,.slice C7 c.f2.length nP]] (by rfl) rfl rfl Nz ?_;have hed:=Fv y ad Y4 qE Y5 qh c C4 mE C5 mF C7 nP Wd adX.out (ES.out.below EU.out) HFY.out HFE.out MQ.out.l4 (Kd.aC MQ.out.g4 EU.out) MQ.out.l5 (Kd.aC MQ.out.g5 EU.out) MQ.out.l7 (Kd.aC MQ.out.g7 EU.out);rw[ahs.out] at hed;refine hed.mono ?_;clear hed;rintro e Wz ⟨hbz,v4,v5,rfl,hr4,oF⟩;have wm:=ah.mk (aG OE.out hbz);have wX:=ah.mk (Kd.nk yE.out hbz);have HRX:=ah.mk (Kd.sS (ok':=fun k=>True∧¬Wd.heap.size≤k) (Kd.S9 yE.out hbz) (fun k hk=>⟨trivial,by have:=hk.2;omega⟩));have HIZ:=ah.mk (ET.out.below hbz);have Q6:=ah.mk (Jf.out.trans (kg.below hbz));have Q7:=ah.mk (show w7.heap.size≤Wz.heap.size from Nat.le_trans wP.out hbz.size);have Q8:=ah.mk (show ∀k,Wd.heap.size≤k→True∧some k≠(Value.slice Au nu cu).ownBlock from fun k hk=>⟨trivial,fun e=>by have:=Kd.ZP yE.out k e.symm;omega⟩);have Q9:=ah.mk (vM Wz w7.heap.size (fun k=>Wd.heap.size≤k) z (Kd.fQ (Kd.dU (Kd.gM hr4) (fun k hk=>hk.2.1)) wP.out) (Kd.fQ (Kd.dU (Kd.gM oF) (fun k hk=>hk.2.1)) wP.out));refine .inl ⟨_,rfl,hK.out _ _ (Jo.out _ hHeld hbz) (fun hHeld=>?_)⟩;clear hK K hr4 oF hbz;refine fU 80 ?_;refine mG 6 (some 81) (aQ 9 127) (fun K hK=>?_);refine oN (v:=.slice (some ⟨Wz.heap.size,0,none⟩) 1 1) (w1:=Wz.alloc (.cells #[.int .i64 z.f0,.string z.f1,.string z.f2,.int .i64 z.f3,v4,v5] 29)) (by rfl) rfl ?_ ?_
       ·go_simp
        try rfl
       have hal:=(Below.refl Wz.heap.size Wz).alloc (Nat.le_refl _) (.cells #[.int .i64 z.f0,.string z.f1,.string z.f2,.int .i64 z.f3,v4,v5] 29);refine hK.out _ _ (Jo.out _ hHeld hal) (fun hHeld=>?_);clear hK K hal;refine fU 81 ?_;refine lS (i:=7) (N:=some 82) (aQ 9 255) rfl rfl aA aD (fun K hK=>?_);refine Kd.uO om (w0:=Wz) w7.heap.size (by rfl) (.tmp 75) (.tmp 81) 25 29 (.agg #[.int .i64 0,.string ⟨#[]⟩,.string ⟨#[]⟩,.int .i64 0,.slice none 0 0,.slice none 0 0]) 96 rfl Tryz.underlying25 ER rfl (by show 0<6;decide) aD (.slice Au nu cu) S0 z [.int .i64 z.f0,.string z.f1,.string z.f2,.int .i64 z.f3,v4,v5] (fun _=>True) (fun k=>Wd.heap.size≤k) rfl rfl Q9.out Q8.out (fun _ _=>trivial) HRX.out (Below.refl _ _) Q7.out (by have:=Q5.out;omega) ?_;intro v1 w1 hr1 _hb hg1 uN;obtain⟨zo,GJ,zq,hv1⟩:=iB (Kd.I9 hr1);subst hv1;have hbx:=(hg1.block _ (bE wm.out) (jO (Kd.I9 wX.out) wm.out (fun cs e=>by injection e with _ e;exact absurd e aD))).trans wm.out;have Y7:w1.cell? ⟨pl,0,none⟩=some (.slice Au nu cu):=ak hbx 0;have f10:=ay hbx 0;have OG:=ah.mk (HIZ.out.push wm.out wX.out hr1 hg1 Ak aj ⟨by omega,by omega⟩);have Ra:=ah.mk (Q6.out.trans ((kg.grown (G:=fun k=>k=pl) (T:=fun q=>q=29) (Kd.I9 wX.out) (Nat.le_refl _) rfl hg1).trans (kg.set (G:=fun k=>k=pl) rfl 0 (.slice zo GJ zq))));clear hr1 _hb hg1 uN hbx;refine hK.out _ _ ?_;clear hK K hHeld;refine fU 82 ?_;refine lS (i:=8) (N:=none) (aQ 9 511) rfl rfl aA aD (fun K hK=>?_);refine tZ (w1:=w1.setCell ⟨pl,0,none⟩ (.slice zo GJ zq)) (by rfl) rfl ?_ ?_
       ·go_simp
       refine hK.out _ _ ?_;clear hK K;refine kK aA ?_;exact FIN.out _ _ _ HGO.out OG.out Ra.out
    have e3:(c.f0 == 3)=false:=beq_eq_false_iff_ne.2 h3
    have HOT:ah (oP cs x.rd=if x.a=none then none else some []):=⟨by rw[HOS.out,if_neg h2,if_neg h3]⟩
    have hop:=HOP.out;clear hbk h2 h3
    cases hxa:x.a with
    | none=>
     rw[hxa] at hop;have hop:p0=.pointer none:=hop;subst hop
     have HNO:ah (o=none):=⟨adV.out (by rw[HOT.out,hxa];rfl)⟩
     clear hxa HOP
     gi_wp2_with fail
     exact PAN.out _ _ rfl HNO.out HIs.out D9.out
    | some y=>
     rw[hxa] at hop;obtain⟨ad,Y4,qE,Y5,qh,hp0,hsy,Nb⟩:=hop.six;subst hp0
     have HGO:ah (kP cs ((pre++[x]).map Two.oG.rd) []=some S0):=⟨by rw[ZO.out,HOT.out,hxa,if_neg bK];simp⟩
     clear hop hsy Nb hxa HOP
     gi_wp2_with fail
     exact FIN.out _ _ _ HGO.out HIs.out D9.out
  case done=>
   rintro xs W hxs hlt ⟨ang,S,hS,hi⟩ hd;have Xi:xs.map Two.oG.rd=rs:=hxs;rw[Xi] at hS
   have HOO:ah (o=some S):=⟨HOG.out.symm.trans hS⟩
   obtain⟨v,hv,ML⟩:=hi.lb;obtain⟨Av,nv,cv,hvs⟩:=iB (Kd.I9 ML);subst hvs;have hne:=ab8 (show w.heap.size+1=pl from hpl) UO hpz;have y1:W.cell? ⟨pl,0,none⟩=some (.slice Av nv cv):=ak hv 0;have f1:=ay hv 0;have l1:=bE hv;have VE:=hi.ob;have Xj:(W.setCell ⟨pl,0,none⟩ (.slice Av nv cv)).heap[pl+1]?=some (.cells #[.bool false] 4 (0,0)):=iL VE (by show pl+1≠pl;omega) _;have y2:(W.setCell ⟨pl,0,none⟩ (.slice Av nv cv)).cell? ⟨pl+1,0,none⟩=some (.bool false):=ak Xj 0;have f2:=ay Xj 0;have l2:=bE Xj;have HLW:=ah.mk hi.low;have HV:=ah.mk hv;have HRV:=ah.mk ML;have anh:=ah.mk Xj;have OG:=ah.mk hd;have HBG:=ah.mk hi.big;clear hxs Xi hS ang hi hv ML VE Xj hd HI0 ahm HT Yn HOG HR1 HS AQ HX HX1 HF HE HR;refine QZ ?_;refine sK ?_
   go_wp2_with fail
   exact ZM hpl Ak hne HOO.out HLW.out HV.out HRV.out OG.out anh.out rfl rfl (by rw[UO])
  case pan=>
   rintro ch W hlt ⟨rfl,ho,hlow,⟨v,hv⟩,VE⟩ hd;have hne:=ab8 (show w.heap.size+1=pl from hpl) UO hpz;refine UN ?_;exact ZN hpl Ak hne ho hlow hv VE hd rfl rfl rfl
end Go.Proofs.YtknihldkhedpkaaGreatDoor
