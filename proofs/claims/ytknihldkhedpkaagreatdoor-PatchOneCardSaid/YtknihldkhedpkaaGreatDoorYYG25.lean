import Derived.Test.YtknihldkhedpkaaGreatDoorYYG24
set_option linter.all false
set_option maxHeartbeats 16000000
set_option maxRecDepth 100000
namespace Go.Proofs.YtknihldkhedpkaaGreatDoor
open Go.RowKit Go.Lib Go.Maps Go.WideAt
open Go.Proofs.YtknihldkhedpkaaGreatDoorW.PrintWords Go.Proofs.YtknihldkhedpkaaGreatDoorW.PrintLast Go.Proofs.YtknihldkhedpkaaGreatDoor.PT
attribute [local go_sem] Oper.semAt_some
theorem M6 {y:It} (h4:y.f4.length≤1048576) (h5:y.f5.length≤1073741824):gy.f y.f0 y.f1 y.f2 y.f3 y.f4 y.f5=some (y.f0,y.f1,y.f2,y.f3,y.f4,y.f5):=by
 unfold gy.f nJ.f jh.f;rw[if_pos h4,if_pos h5];rfl
theorem DV:(Tryz.prog.info? 29).map (fun i=>(i.zero,i.size,i.bytes))=some (some (.agg #[.int .i64 0,.string ⟨#[]⟩,.string ⟨#[]⟩,.int .i64 0,.slice none 0 0,.slice none 0 0]),6,96):=by kernel_rfl
theorem aaw:∀w:World,(isAgg 25).run Tryz.prog w=.ok false w:=fun w=>by kernel_rfl
theorem Jp {fn:Func} {P:Program} {p1 p2:Tmp} {t1 t2:TypeId} (h:fn.results=#[.cell p1 t1,.cell p2 t2]) (tmps:Array Value) (w:World) (b1 b2:Nat) (v:Value) (ok:Bool)
  (h1:tmps.getD p1 undef=.pointer (some ⟨b1,0,none⟩)) (h2:tmps.getD p2 undef=.pointer (some ⟨b2,0,none⟩)) (g1:w.heap[b1]?=some (.cells #[v] t1 (0,0))) (g2:w.heap[b2]?=some (.cells #[.bool ok] t2 (0,0)))
  (ht1:∀w:World,(isAgg t1).run P w=.ok false w) (ht2:∀w:World,(isAgg t2).run P w=.ok false w) :
  (results fn tmps).run P w=.ok (.tuple #[v,.bool ok]) w:=by
 have h1':tmps[p1]?.getD undef=.pointer (some ⟨b1,0,none⟩):=by simpa using h1
 have h2':tmps[p2]?.getD undef=.pointer (some ⟨b2,0,none⟩):=by simpa using h2
 have hc1:w.cell? ⟨b1,0,none⟩=some v:=ak g1 0;have hc:w.cell? ⟨b2,0,none⟩=some (.bool ok):=ak g2 0
 have e1:(loadVar t1 ⟨b1,0,none⟩).run P w=.ok v w:=by simp[hc1,ht1,go_sem,Result.andThen]
 have e2:(loadVar t2 ⟨b2,0,none⟩).run P w=.ok (.bool ok) w:=by simp[hc,ht2,go_sem,Result.andThen]
 simp only[results,h];simp[h1',h2',asAddr,e1,e2,Result.andThen,Sem.run_bind]
def aax (K:Act→World→Prop):Exit→Act→World→Prop
 | .normal,a,w=>K a w
 | _,_,_=>False
theorem AV {K:Act→World→Prop} {a:Act} {w:World} (h:K a w):aax K .normal a w:=h
theorem Jq {P:Program} {B:FuncId→Prop} {Q:Exit→Act→World→Prop} {a:Act} {w:World} {x y:Code} (h:x.wp P (aax (WE B P y Q)) a w):WE B P (Code.seq x y) Q a w :=
 xR (rE (Code.wp_mono (fun e a w h=>by cases e <;> first|exact h|exact h.elim) h))
structure Oc1 (w:World) (pl:Nat) (cs:List Ch) (i:Nat) (v:Value) (W:World):Prop where
 low:Below w.heap.size w W
 lb:W.heap[pl]?=some (.cells #[.slice none 0 0] 25 (0,0))
 ob:W.heap[pl+1]?=some (.cells #[.bool false] 4 (0,0))
 mb:W.heap[pl+1+1+1]?=some (.cells #[.map (some (pl+1+1))] 162 (0,0))
 mp:qo w W (pl+1+1) i (cs.take i)
 fr:Kd.R oW 29 W w.heap.size (fun _=>True) v (dX (cs.take i))
theorem Oc1.below {w W W1:World} {pl:Nat} {cs:List Ch} {i:Nat} {v:Value} (h:Oc1 w pl cs i v W) (hb:Below W.heap.size W W1):Oc1 w pl cs i v W1 :=
 ⟨h.low.trans (hb.mono h.low.size),aD h.lb hb,aD h.ob hb,aD h.mb hb,h.mp.below hb,Kd.dh h.fr hb⟩
structure Yb (w:World) (pl:Nat) (cs:List Ch) (i:Nat) (v:Value) (W:World):Prop where
 low:Below w.heap.size w W
 lb:W.heap[pl]?=some (.cells #[.slice none 0 0] 25 (0,0))
 ob:W.heap[pl+1]?=some (.cells #[.bool false] 4 (0,0))
 mb:W.heap[pl+1+1+1]?=some (.cells #[.map (some (pl+1+1))] 162 (0,0))
 mp:qo w W (pl+1+1) (i+1) (cs.take (i+1))
 fr:Kd.R oW 29 W w.heap.size (fun _=>True) v (dX (cs.take i))
theorem Oc1.akH {w W W1:World} {pl:Nat} {cs:List Ch} {i:Nat} {v:Value} (h:Oc1 w pl cs i v W) (hm:qo w W1 (pl+1+1) (i+1) (cs.take (i+1))) (hg:W.grownBy W1 (some (pl+1+1))) (hp:w.heap.size≤pl):Yb w pl cs i v W1:=by
 have hoth:∀k (o:Obj),W.heap[k]?=some o→o.isCells=true→W1.heap[k]?=some o:=fun k o ho hc=>(hg.block k (bD ho) (fun e=>by
  obtain⟨o2,h1,h2⟩:=h.mp.has;rw[Option.some.inj e,h1] at ho;obtain rfl:=Option.some.inj ho;rw[h2] at hc
  cases hc)).trans ho
 refine⟨h.low.grown hg h.low.size (fun k e=>by have:=Option.some.inj e;omega),hoth _ _ h.lb rfl,hoth _ _ h.ob rfl,hoth _ _ h.mb rfl,hm,Kd.dJ (Kd.nG (Kd.fZ h.fr) (fun k hk hlt=>?_)) (fun _ _=>trivial)⟩;obtain⟨_,_,_,q,_,cells,hc⟩:=hk;exact (hoth _ _ hc rfl).trans hc.symm
theorem Yb.push {w W W1:World} {pl:Nat} {cs:List Ch} {i:Nat} {v v1:Value} {c:Ch} (h:Yb w pl cs i v W) (hi:i<cs.length) (hc:cs[i]'hi=c) (hb:Below w.heap.size w W1) (hg:W.grownBy W1 v.ownBlock) (hr:Kd.R oW 29 W1 w.heap.size (fun _=>True) v1 (dX (cs.take i)++[wC c])):Oc1 w pl cs (i+1) v1 W1:=by
 have hoth:∀k (o:Obj),W.heap[k]?=some o→(∀cs,o≠.cells cs 29 (0,0))→W1.heap[k]?=some o:=fun k o ho hne=>(hg.block k (bD ho) (jr h.fr ho hne)).trans ho
 refine⟨hb,hoth _ _ h.lb (fun cs e=>by injection e with _ e;exact absurd e (by decide)),hoth _ _ h.ob (fun cs e=>by injection e with _ e;exact absurd e (by decide)),hoth _ _ h.mb (fun cs e=>by injection e with _ e;exact absurd e (by decide)),h.mp.others (fun o ho hc=>hoth _ _ ho (fun cs e=>by rw[e] at hc;cases hc)),?_⟩
 have e:dX (cs.take (i+1))=dX (cs.take i)++[wC c]:=by
  unfold dX;rw[List.take_add_one,List.getElem?_eq_getElem hi,hc,List.map_append];rfl
 rw[e];exact hr
theorem Ya.out {w:World} {nb pl pb pm bm nm b1 b2 br:Nat} {R:World→Prop} {cs:List Ch} {o:Option (List It)} {rs:List Two.Rd} {W:World} {a:Act} {B:World} (h:Ya w nb pl pb pm bm nm b1 b2 br R cs o rs W .outgrown a B):False:=by
 rcases h with⟨h,_⟩|⟨_,h,_⟩ <;> cases h
theorem Pv {K:Act→World→Prop} {Q:Exit→Act→World→Prop} {id:Nat} {a:Act} {w:World} (h:K a w):Exit.inBlock id (Exit.then K Q) .normal a w:=h
theorem SX {K:Act→World→Prop} {Q:Exit→Act→World→Prop} {id:Nat} {a:Act} {w:World} {ch:List PanicEntry} (h:Q (.panic ch) a w):Exit.inBlock id (Exit.then K Q) (.panic ch) a w:=h
theorem aaz {n n7 nr pl:Nat} (h:n+1=pl) (h7:n7=nr+3) (hp:pl+1+1+1<nr):pl<n7∧pl+1<n7∧n≤pl∧n≤pl+1:=by omega
theorem Yc {w W:World} {nb pl:Nat} {o:Option (List It)} {S:List It} {v:Value} {a:Act} (hpl:w.heap.size+1=pl) (zl:w.heap.size≤nb) (hne:pl<nb∧pl+1<nb∧w.heap.size≤pl∧w.heap.size≤pl+1) (ho:o=some S) (hlow:Below w.heap.size w W)
  (hv:W.heap[pl]?=some (.cells #[v] 25 (0,0))) (Lc:Kd.S oW 29 W nb (fun _=>True) v S) (hd:W.heap[nb]?=some (.deferred (some []))) (Yd:(W.setCell ⟨pl,0,none⟩ v).heap[pl+1]?=some (.cells #[.bool false] 4 (0,0)))
  (h4:a.tmps.getD 4 undef=.pointer (some ⟨pl,0,none⟩)) (h5:a.tmps.getD 5 undef=.pointer (some ⟨pl+1,0,none⟩))
  (hdf:a.defers=[{ target:=.collected nb,args:=#[] },{ target:=.fn (.func 121) #[.pointer (some ⟨pl,0,none⟩),.pointer (some ⟨pl+1,0,none⟩)],args:=#[] }]) :
  bodyPostM Fence.wide 0 Tryz.prog Tryz.f93 (fun e w'=>aco w o e w') .ret a ((W.setCell ⟨pl,0,none⟩ v).setCell ⟨pl+1,0,none⟩ (.bool true)):=by
 show LeavesInM _ _ _ _ a.tmps _ a.defers .returning _
 rw[hdf];have hd1:((W.setCell ⟨pl,0,none⟩ v).setCell ⟨pl+1,0,none⟩ (.bool true)).heap[nb]?=some (.deferred (some [])):=(Below.heap_setCell _ ⟨pl+1,0,none⟩ _ nb (by show nb≠pl+1;omega)).trans ((Below.heap_setCell _ ⟨pl,0,none⟩ _ nb (by show nb≠pl;omega)).trans hd)
 have hv1:(W.setCell ⟨pl,0,none⟩ v).heap[pl]?=some (.cells #[v] 25 (0,0)):=by have:=dD hv 0 v;simpa using this
 have hv2:((W.setCell ⟨pl,0,none⟩ v).setCell ⟨pl+1,0,none⟩ (.bool true)).heap[pl]?=some (.cells #[v] 25 (0,0)):=gX hv1 (by show pl≠pl+1;omega) _
 have hb2:((W.setCell ⟨pl,0,none⟩ v).setCell ⟨pl+1,0,none⟩ (.bool true)).heap[pl+1]?=some (.cells #[.bool true] 4 (0,0)):=by have:=dD Yd 0 (.bool true);simpa using this
 have hr1:Kd.S oW 29 (W.setCell ⟨pl,0,none⟩ v) nb (fun _=>True) v S:=Kd.Vl Lc hv (fun q hq=>by rcases Fy hq with rfl|rfl|rfl <;> decide) 0 v;have hr2:=Kd.Vl hr1 Yd (fun q hq=>by rcases Fy hq with rfl|rfl|rfl <;> decide) 0 (.bool true);have hl2:Below w.heap.size w ((W.setCell ⟨pl,0,none⟩ v).setCell ⟨pl+1,0,none⟩ (.bool true)):=(hlow.setCell (by show w.heap.size≤pl;omega) _).setCell (by show w.heap.size≤pl+1;omega) _
 obtain⟨W2,hW2⟩:∃W2,(W.setCell ⟨pl,0,none⟩ v).setCell ⟨pl+1,0,none⟩ (.bool true)=W2:=⟨_,rfl⟩
 rw[hW2] at hd1 hv2 hb2 hr2 hl2 ⊢;refine⟨by simp,.inl ⟨_,_,rfl,run_takeDeferred hd1,?_⟩⟩;have hkq:=Kq.wu (B:=nb) (l:=nb) (o':=.deferred none) (Nat.le_refl _) hd1 rfl;refine⟨by simp,.inr ⟨fun h=>(by cases h),_,_,121,#[.pointer (some ⟨pl,0,none⟩),.pointer (some ⟨pl+1,0,none⟩)],rfl,by simp[go_sem],fun g hg=>trivial,?_⟩⟩;refine AU (Vf _ _ _ _) ?_;rintro e u' w2 ⟨rfl,rfl,rfl⟩;refine⟨_,Jp rfl a.tmps _ _ _ v true h4 h5 (hkq.blocks _ _ hv2 (.inl hne.1)) (hkq.blocks _ _ hb2 (.inl hne.2.1)) aaw LV,pz hl2 zl (Nat.le_refl _) hd1 rfl,?_⟩;rw[ho];exact⟨v,rfl,Kd.Ak (hkq.adV hr2 (fun q hq=>by rcases Fy hq with rfl|rfl|rfl <;> decide)) zl⟩
theorem Ye {w W:World} {nb pl:Nat} {o:Option (List It)} {v:Value} {a:Act} (hpl:w.heap.size+1=pl) (zl:w.heap.size≤nb) (hne:pl<nb∧pl+1<nb∧w.heap.size≤pl∧w.heap.size≤pl+1) (ho:o=none) (hlow:Below w.heap.size w W)
  (hv:W.heap[pl]?=some (.cells #[v] 25 (0,0))) (Yd:W.heap[pl+1]?=some (.cells #[.bool false] 4 (0,0))) (hd:W.heap[nb]?=some (.deferred (some [])))
  (h4:a.tmps.getD 4 undef=.pointer (some ⟨pl,0,none⟩)) (h5:a.tmps.getD 5 undef=.pointer (some ⟨pl+1,0,none⟩))
  (hdf:a.defers=[{ target:=.collected nb,args:=#[] },{ target:=.fn (.func 121) #[.pointer (some ⟨pl,0,none⟩),.pointer (some ⟨pl+1,0,none⟩)],args:=#[] }]) :
  bodyPostM Fence.wide 0 Tryz.prog Tryz.f93 (fun e w'=>aco w o e w') (.panic [{ v:=.iface 160 (.agg #[]),recovered:=false }]) a W:=by
 show LeavesInM _ _ _ _ a.tmps _ a.defers (.panicking _) _
 rw[hdf];refine⟨by simp,.inl ⟨_,_,rfl,run_takeDeferred hd,?_⟩⟩;have hkq:=Kq.wu (B:=nb) (l:=nb) (o':=.deferred none) (Nat.le_refl _) hd rfl;have hl2:=pz (o':=.deferred none) hlow zl (Nat.le_refl _) hd rfl;refine⟨by simp,.inr ⟨fun h=>(by cases h),_,_,121,#[.pointer (some ⟨pl,0,none⟩),.pointer (some ⟨pl+1,0,none⟩)],rfl,by simp[go_sem],fun g hg=>trivial,?_⟩⟩;refine AU (Pn _ _ _ v (.bool false) [] _ (hkq.blocks _ _ hv (.inl hne.1)) (hkq.blocks _ _ Yd (.inl hne.2.1))) ?_;rintro e u' w2 ⟨rfl,rfl,k1,k2,hf⟩;refine⟨_,Jp rfl a.tmps _ _ _ (.slice none 0 0) false h4 h5 k1 k2 aaw LV,?_,?_⟩
 ·refine⟨hf.os.trans hl2.os,hf.tape.trans hl2.tape,hf.output.trans hl2.output,Nat.le_trans hl2.size hf.size,fun k hk=>?_⟩;have hlt:=Nat.lt_of_lt_of_le hk hl2.size;have h1:=Array.getElem?_eq_getElem hlt
  rcases hf.blocks k _ h1 with ((e|e)|⟨_,_,_,_,e⟩)|e
  ·omega
  ·omega
  ·exact e.elim
  ·rw[e,← h1,hl2.block k hk]
 ·rw[ho]
theorem M7 (A0:Option Addr) (c0:Nat) (old:List It) (A1:Option Addr) (c1:Nat) (b0 g0:Int) (cs:List Ch) (w:World)
  (hr:Kd.C oW w A0 old.length old) (hc:old.length≤c0) (hl:old.length≤4096) (hr1:Kd.C GZ w A1 cs.length cs) (hc1:cs.length≤c1) (hl1:cs.length≤8192)
  (hs:∀x∈old,x.f1.size≤1023) (hs1:∀c∈cs,c.f1.f1.size≤1023) (hx:∀x∈old,x.f4.length≤1048576∧x.f5.length≤1073741824) (hx1:∀c∈cs,c.f1.f4.length≤1048576∧c.f1.f5.length≤1073741824)
  (hf:∀x∈old,x.f0=1→Fits x) (he:∀c∈cs,c.f0=3→Ui c) :
  Calls Tryz.prog 93 #[.slice A0 old.length c0,.agg #[.int .i64 b0,.int .i64 g0,.slice A1 cs.length c1]] w fun e w'=>aco w (pU old cs) e w':=by
 obtain⟨o,ho⟩:∃o,pU old cs=o:=⟨_,rfl⟩
 rw[ho]
 have hmf:∀(fn:Fn) (first cap:Array Value) (w:World),(Instr.makeFunc fn first cap).run Tryz.prog w=.ok (.func fn first cap) w:=fun _ _ _ _=>rfl
 have hmm:=@run_makeMap Tryz.prog;have HO:=ah.mk ho;have HR:=ah.mk hr;have HR1:=ah.mk hr1;have HS:=ah.mk hs;have zC:=ah.mk hs1;have HX:=ah.mk hx;have HX1:=ah.mk hx1;have HF:=ah.mk hf;have HE:=ah.mk he;clear ho hr hr1 hs hs1 hx hx1 hf he;refine KG Tryz.func93 rfl ?_;simp only[Tryz.ntmps93,List.size_toArray,List.length_cons,List.length_nil,Nat.reduceSub,Nat.reduceAdd,Array.replicate_succ,Array.replicate_zero,List.push_toArray,List.append_toArray,List.nil_append,List.cons_append];refine xR (rE ?_)
 go_wp2_with fail
 refine xR (rE ?_)
 go_wp2_with fail
 refine xR (rE ?_)
 go_wp2_with fail
 refine xR (rE ?_)
 go_wp2_with fail
 refine Jq ?_
 have hO1:Oc1 w (w.heap.size+1) cs 0 (.slice none 0 0) (((((w.alloc (.cells #[.int .i64 b0,.int .i64 g0,.slice A1 cs.length c1] 24)).alloc (.cells #[.slice none 0 0] 25)).alloc (.cells #[.bool false] 4)).alloc (.map #[] 0)).alloc (.cells #[.map (some (w.heap.size+1+1+1))] 162)):=by
  have hb:=((((Below.refl w.heap.size w).alloc (Nat.le_refl _) (.cells #[.int .i64 b0,.int .i64 g0,.slice A1 cs.length c1] 24)).alloc (by simp) (.cells #[.slice none 0 0] 25)).alloc (by simp;omega) (.cells #[.bool false] 4)).alloc (by simp;omega) (.map #[] 0) |>.alloc (by simp;omega) (.cells #[.map (some (w.heap.size+1+1+1))] 162)
  refine⟨hb,aJ (aJ (aJ (jW (by simp) _) _) _) _,aJ (aJ (jW (by simp) _) _) _,jW (by simp) _,?_,Kd.fA _ _ _ _ _⟩;have hm:=qo.made w ((((w.alloc (.cells #[.int .i64 b0,.int .i64 g0,.slice A1 cs.length c1] 24)).alloc (.cells #[.slice none 0 0] 25)).alloc (.cells #[.bool false] 4)));rw[World.size_alloc,World.size_alloc,World.size_alloc] at hm;exact hm.below ((Below.refl _ _).alloc (Nat.le_refl _) _)
 have x2:(((((w.alloc (.cells #[.int .i64 b0,.int .i64 g0,.slice A1 cs.length c1] 24)).alloc (.cells #[.slice none 0 0] 25)).alloc (.cells #[.bool false] 4)).alloc (.map #[] 0)).alloc (.cells #[.map (some (w.heap.size+1+1+1))] 162)).cell? ⟨w.heap.size,2,none⟩=some (.slice A1 cs.length c1):=ak (aJ (aJ (aJ (aJ (bK w (.cells #[.int .i64 b0,.int .i64 g0,.slice A1 cs.length c1] 24)) _) _) _) _) 2
 obtain⟨w5,BN⟩:∃w5,(((((w.alloc (.cells #[.int .i64 b0,.int .i64 g0,.slice A1 cs.length c1] 24)).alloc (.cells #[.slice none 0 0] 25)).alloc (.cells #[.bool false] 4)).alloc (.map #[] 0)).alloc (.cells #[.map (some (w.heap.size+1+1+1))] 162))=w5:=⟨_,rfl⟩
 rw[BN] at hO1 x2 ⊢
 obtain⟨pl,hpl⟩:∃pl,w.heap.size+1=pl:=⟨_,rfl⟩
 rw[hpl] at hO1 ⊢;have Eb:=ah.mk hO1;clear BN hO1 hmf hmm
 go_wp2_with fail
 go_loopg [7,19] cs.length (fun g s7 s19 wx=>∃(i:Nat) (v:Value),i+g=cs.length∧s19=.int .i64 i∧s7=v∧ah (Oc1 w pl cs i v wx))
 case atStart=>exact⟨0,_,by omega,rfl,rfl,Eb⟩
 case round=>
  obtain⟨i,v,hig,rfl,rfl,zB⟩:=hrel;clear Eb x2;by_cases hi:i<cs.length
  ·obtain⟨ad,C4,lG,C5,lH,C7,mU,hA,r0,r1,r2,r3,r4,r5,r6,r7,l4,g4,l5,g5,l7,g7⟩:=NQ HR1.out (i:Int) (by omega) (by omega);rw[Int.toNat_natCast] at r0 r1 r2 r3 r4 r5 r6 r7
   have hrd:jm cs (i:Int)=cs[i]'hi:=by simp[jm,hi]
   have hcm:=List.getElem_mem hi
   obtain⟨c,hcx⟩:∃c,cs[i]'hi=c:=⟨_,rfl⟩
   rw[hrd,hcx] at r0 r1 r2 r3 r4 r5 r6 r7 l4 g4 l5 g5 l7 g7;rw[hcx] at hcm;have hcs:=zC.out c hcm;subst hA;have HCI:=ah.mk hcx;have Lf:=ah.mk (Pt.mk l4 g4 l5 g5 l7 g7);have r0:=aj zB.out.low r0;have r1:=aj zB.out.low r1;have r2:=aj zB.out.low r2;have r3:=aj zB.out.low r3;have r4:=aj zB.out.low r4;have r5:=aj zB.out.low r5;have r6:=aj zB.out.low r6;have r7:=aj zB.out.low r7;obtain⟨Af,nf,hvf⟩:=Kd.bH zB.out.fr;subst hvf
   have hfl:(dX (cs.take i)).length=i:=by unfold dX;rw[List.length_map,List.length_take];omega
   clear hrd hcx hcm l4 g4 l5 g5 l7 g7
   go_wp2_with fail
   have hba:=(Below.refl wr.heap.size wr).alloc (Nat.le_refl _) (.cells #[.int .i64 c.f0,.int .i64 c.f1.f0,.string c.f1.f1,.string c.f1.f2,.int .i64 c.f1.f3,.slice C4 c.f1.f4.length lG,.slice C5 c.f1.f5.length lH,.slice C7 c.f2.length mU] 31);have hbk:=bK wr (.cells #[.int .i64 c.f0,.int .i64 c.f1.f0,.string c.f1.f1,.string c.f1.f2,.int .i64 c.f1.f3,.slice C4 c.f1.f4.length lG,.slice C5 c.f1.f5.length lH,.slice C7 c.f2.length mU] 31)
   obtain⟨W2,hW2⟩:∃W2,wr.alloc (.cells #[.int .i64 c.f0,.int .i64 c.f1.f0,.string c.f1.f1,.string c.f1.f2,.int .i64 c.f1.f3,.slice C4 c.f1.f4.length lG,.slice C5 c.f1.f5.length lH,.slice C7 c.f2.length mU] 31)=W2:=⟨_,rfl⟩
   obtain⟨k,hk⟩:∃k,wr.heap.size=k:=⟨_,rfl⟩
   rw[hW2] at hba hbk ⊢;rw[hk] at hbk ⊢;have zm:W2.cell? ⟨(pl+1+1+1),0,none⟩=some (.map (some (pl+1+1))):=ak (aD zB.out.mb hba) 0;have zB:=ah.mk (zB.out.below hba);have z0:W2.cell? ⟨k,0,none⟩=some (.int .i64 c.f0):=ak hbk 0;have z1:W2.cell? ⟨k,1,none⟩=some (.int .i64 c.f1.f0):=ak hbk 1;have z2:W2.cell? ⟨k,2,none⟩=some (.string c.f1.f1):=ak hbk 2;have z3:W2.cell? ⟨k,3,none⟩=some (.string c.f1.f2):=ak hbk 3;have z4:W2.cell? ⟨k,4,none⟩=some (.int .i64 c.f1.f3):=ak hbk 4;have z5:W2.cell? ⟨k,5,none⟩=some (.slice C4 c.f1.f4.length lG):=ak hbk 5;have z6:W2.cell? ⟨k,6,none⟩=some (.slice C5 c.f1.f5.length lH):=ak hbk 6;have z7:W2.cell? ⟨k,7,none⟩=some (.slice C7 c.f2.length mU):=ak hbk 7;have HK:=ah.mk hbk;clear hba hbk hW2 hk r0 r1 r2 r3 r4 r5 r6 r7;have hdr:=bC (Below.refl W2.heap.size W2)
   have hS:W2.drew.cell? ⟨(pl+1+1+1),0,none⟩=some (.map (some (pl+1+1)))∧W2.drew.cell? ⟨k,0,none⟩=some (.int .i64 c.f0)∧W2.drew.cell? ⟨k,1,none⟩=some (.int .i64 c.f1.f0)∧W2.drew.cell? ⟨k,2,none⟩=some (.string c.f1.f1)∧W2.drew.cell? ⟨k,3,none⟩=some (.string c.f1.f2)∧W2.drew.cell? ⟨k,4,none⟩=some (.int .i64 c.f1.f3)∧W2.drew.cell? ⟨k,5,none⟩=some (.slice C4 c.f1.f4.length lG)∧W2.drew.cell? ⟨k,6,none⟩=some (.slice C5 c.f1.f5.length lH)∧W2.drew.cell? ⟨k,7,none⟩=some (.slice C7 c.f2.length mU):=⟨aj hdr zm,aj hdr z0,aj hdr z1,aj hdr z2,aj hdr z3,aj hdr z4,aj hdr z5,aj hdr z6,aj hdr z7⟩
   obtain⟨Wd,hWd⟩:∃Wd,W2.drew=Wd:=⟨_,rfl⟩
   have HOD:=ah.mk (zB.out.below (show Below W2.heap.size W2 Wd from hWd▸hdr));have HKD:=ah.mk (aD HK.out (show Below W2.heap.size W2 Wd from hWd▸hdr));clear hdr zm z0 z1 z2 z3 z4 z5 z6 z7 zB HK;refine kW (n:=7) (S:=(fun w'=>w'.cell? ⟨(pl+1+1+1),0,none⟩=some (.map (some (pl+1+1)))∧w'.cell? ⟨k,0,none⟩=some (.int .i64 c.f0)∧w'.cell? ⟨k,1,none⟩=some (.int .i64 c.f1.f0)∧w'.cell? ⟨k,2,none⟩=some (.string c.f1.f1)∧w'.cell? ⟨k,3,none⟩=some (.string c.f1.f2)∧w'.cell? ⟨k,4,none⟩=some (.int .i64 c.f1.f3)∧w'.cell? ⟨k,5,none⟩=some (.slice C4 c.f1.f4.length lG)∧w'.cell? ⟨k,6,none⟩=some (.slice C5 c.f1.f5.length lH)∧w'.cell? ⟨k,7,none⟩=some (.slice C7 c.f2.length mU))) (ds:=[6]) #[false,false,false,false,false,false,false] (by kernel_rfl) rfl rfl hS (fun hHeld=>?_);clear hS;rw[hWd] at hHeld ⊢;clear hWd;refine dM (i:=0) (N:=some 23) (v:=?_) (a':=?_) #[true,false,false,false,false,false,false] rfl rfl (by kernel_rfl) (fun _ _ _ h=>h) (Or.inl ⟨by rfl,?_⟩) hHeld ?_ ?_;rotate_left
   ·rintro w' ⟨sm,s0,s1,s2,s3,s4,s5,s6,s7⟩
    go_simp
    with_reducible rfl
   rotate_left
   ·simp only[Act.put,aYa,aYb,aYc,aG,aH];rfl
   refine bA (i:=1) (N:=some 24) (v:=?_) (a':=?_) #[true,true,false,false,false,false,false] rfl rfl (by kernel_rfl) (fun _ _ _ h=>h) (Or.inl ⟨by rfl,?_⟩) ?_ ?_;rotate_left
   ·intro w'
    go_simp
    with_reducible rfl
   rotate_left
   ·simp only[Act.put,aYa,aYb,aYc,aG,aH];rfl
   refine bA (i:=2) (N:=some 25) (v:=?_) (a':=?_) #[true,true,true,false,false,false,false] rfl rfl (by kernel_rfl) (fun _ _ _ h=>h) (Or.inl ⟨by rfl,?_⟩) ?_ ?_;rotate_left
   ·intro w'
    go_simp
    with_reducible rfl
   rotate_left
   ·simp only[Act.put,aYa,aYb,aYc,aG,aH];rfl
   refine dM (i:=3) (N:=some 26) (v:=?_) (a':=?_) #[true,true,true,true,false,false,false] rfl rfl (by kernel_rfl) (fun _ _ _ h=>h) (Or.inl ⟨by rfl,?_⟩) hHeld ?_ ?_;rotate_left
   ·rintro w' ⟨sm,s0,s1,s2,s3,s4,s5,s6,s7⟩
    go_simp
    with_reducible rfl
   rotate_left
   ·simp only[Act.put,aYa,aYb,aYc,aG,aH];rfl
   refine dM (i:=5) (N:=some 28) (v:=?_) (a':=?_) #[true,true,true,true,false,true,false] rfl rfl (by kernel_rfl) (fun _ _ _ h=>h) (Or.inl ⟨by rfl,?_⟩) hHeld ?_ ?_;rotate_left
   ·rintro w' ⟨sm,s0,s1,s2,s3,s4,s5,s6,s7⟩
    go_simp
    with_reducible rfl
   rotate_left
   ·simp only[Act.put,aYa,aYb,aYc,aG,aH];rfl
   refine kg (i:=4) (N:=some 27) #[true,true,true,true,true,true,false] rfl rfl (by kernel_rfl) (by decide) (fun K hK=>?_);refine mq Tryz.func88 (by kernel_rfl) rfl #[.string c.f1.f1] (by rfl) rfl rfl (by (try simp only[List.map_toArray,List.map_cons,List.map_nil]);first|done|rfl) ?_;refine (nN c.f1.f1 Wd (by omega)).mono ?_;rintro e We ⟨rfl,hbe⟩;refine⟨_,rfl,?_⟩;have HOE:=ah.mk (HOD.out.below hbe);have HKE:=ah.mk (aD HKD.out hbe);refine hK.out _ _ ⟨aj hbe hHeld.1,aj hbe hHeld.2.1,aj hbe hHeld.2.2.1,aj hbe hHeld.2.2.2.1,aj hbe hHeld.2.2.2.2.1,aj hbe hHeld.2.2.2.2.2.1,aj hbe hHeld.2.2.2.2.2.2.1,aj hbe hHeld.2.2.2.2.2.2.2.1,aj hbe hHeld.2.2.2.2.2.2.2.2⟩ (fun hHeld=>?_);clear hK K hbe HOD HKD;refine eB (a':=?_) ?_ ?_;rotate_left
   ·show Act.put _ (some 27) _=_
    simp only[Act.put,aYa,aYb,aYc,aG,aH];rfl
   obtain⟨W6,hrun,hmp,hgm⟩:=HOE.out.mp.put (t:=162) (c:=c) Tryz.underlying162 (by unfold maxLen;omega) (by have:=yR 47 0 c.f1.f1;unfold qh maxLen;omega) Lf.out;rw[show cs.take i++[c]=cs.take (i+1) by rw[List.take_add_one,List.getElem?_eq_getElem hi,HCI.out];rfl] at hmp;have hO6:Yb w pl cs i (.slice Af (dX (cs.take i)).length nf) W6:=HOE.out.akH hmp hgm (by omega);have hk6:=(hgm.block k (bD HKE.out) (fun e=>by obtain⟨o,ho,hoc⟩:=HOE.out.mp.has;rw[Option.some.inj e,ho] at HKE;have:=Option.some.inj HKE.out;subst this;cases hoc)).trans HKE.out;have akI:=ah.mk hrun;have HO6:=ah.mk hO6;have zF:=ah.mk hk6;clear hrun hmp hgm hO6 hk6 HOE HKE;refine kC (i:=6) (N:=none) #[true,true,true,true,true,true,true] rfl rfl (by kernel_rfl) (by decide) (fun K hK=>?_);refine sM (w1:=W6) (by rfl) rfl ?_ ?_
   ·have hr:(Instr.mapUpdate 162 (.map (some (pl+1+1))) (.string (jq 47 0 c.f1.f1)) (.agg #[.int .i64 c.f0,.int .i64 c.f1.f0,.string c.f1.f1,.string c.f1.f2,.int .i64 c.f1.f3,.slice C4 c.f1.f4.length lG,.slice C5 c.f1.f5.length lH,.slice C7 c.f2.length mU])).run Tryz.prog We=.ok () W6:=akI.out;simp[execOp,go_sem,hr,Result.andThen]
   refine hK.out _ _ ?_;clear hK K;refine ku (by kernel_rfl) ?_;have y2:W6.cell? ⟨k,2,none⟩=some (.string c.f1.f1):=ak zF.out 2;clear hHeld
   go_wp2_with ((with_reducible refine dn (b:=.append) (xs:=#[.tmp 29,.tmp 34]) rfl ?_);at_builtin;refine Kd.jy oW (w0:=w) w.heap.size rfl (.tmp 29) (.tmp 34) 25 29 (.agg #[.int .i64 0,.string ⟨#[]⟩,.string ⟨#[]⟩,.int .i64 0,.slice none 0 0,.slice none 0 0]) 96 rfl Tryz.underlying25 DV rfl (by decide) (by omega) (.slice Af (dX (cs.take i)).length nf) (dX (cs.take i)) (wC c) [.int .i64 0,.string c.f1.f1,.string ⟨#[]⟩,.int .i64 0,.slice none 0 0,.slice none 0 0] (fun _=>True) (fun _=>False) rfl rfl ?aP (fun _ hk=>hk.elim) (fun _ _=>trivial) HO6.out.fr HO6.out.low HO6.out.low.size (by omega) ?_;(case aP=>exact uP _ _ _ (wC c) (Kd.fA _ _ _ _ _) (Kd.fA _ _ _ _ _));intro v2 w7 Ww qG hg7 mK;have Wt:=ah.mk (HO6.out.push hi HCI.out qG hg7 Ww);clear Ww qG hg7 mK)
   go_roundg (cs.length - (i+1))
   case measure=>omega
   case rel=>exact⟨i+1,v2,by omega,by first|rfl|simp,rfl,Wt⟩
  ·obtain rfl:i=cs.length:=by omega
   have ho:=zB.out;obtain⟨Af,cf,hvf⟩:=Kd.bH ho.fr;subst hvf;have htl:cs.take cs.length=cs:=List.take_length;have hmp:=ho.mp;have hfr:=ho.fr;rw[htl] at hmp hfr
   have hfl:(dX (cs.take cs.length)).length=(dX cs).length:=by rw[htl]
   have HLB:=ah.mk ho.lb;have HOB:=ah.mk ho.ob;have HMB:=ah.mk ho.mb;have HLW:=ah.mk ho.low;have HMP:=ah.mk hmp;have HFR:=ah.mk hfr;have hfc:=(Kd.dB hfr).2.1;rw[hfl];clear ho htl hmp hfr hfl zB
   go_wp2_with fail
   refine AV ?_;refine xR ?_;refine Jq ?_
   go_wp2_with (go_at_call 50;refine (zH _ _ _).mono ?_;rintro e w6 ⟨rfl,rfl⟩)
   refine AV ?_;refine SL ?_
   obtain⟨w7,hw7⟩:∃w7,(((wr.alloc (.cells #[.slice A0 old.length c0,.slice Af (dX cs).length cf] 25)).alloc (.cells #[.func (.func 51) #[] #[]] 93)).alloc (.cells #[.slice (some ⟨wr.heap.size,0,none⟩) 2 2] 75))=w7:=⟨_,rfl⟩
   have SY:w7.heap.size=wr.heap.size+3:=by rw[← hw7];simp
   have qG:Below wr.heap.size wr w7:=by
    rw[← hw7];exact (((Below.refl _ _).alloc (Nat.le_refl _) _).alloc (by simp) _).alloc (by simp;omega) _
   have hls:=HLW.out.size;have hpz:=bD HMB.out
   have zl:w.heap.size≤w7.heap.size:=by omega
   have hrd:SQ w w7.heap.size (.slice Af (dX cs).length cf) (dX cs) w7:=⟨HLW.out.trans (qG.mono hls),Kd.dJ (Kd.fZ (Kd.dh HFR.out qG)) (fun k hk=>hk.2.2.1)⟩
   obtain⟨Rd,hRd⟩:∃Rd:Two.Reader (kH old (dX cs)) (kH A0 Af),Rd=SS (nb:=w7.heap.size) (c1:=cf) HR.out zl:=⟨_,rfl⟩
   have hRP:Rd.P=SQ w w7.heap.size (.slice Af (dX cs).length cf) (dX cs):=by rw[hRd];rfl
   have hRb:Rd.base=w7.heap.size:=by rw[hRd];rfl
   have WG:Two.SN (kH old (dX cs)) (kH A0 Af) (kH c0 cf) Rd (wr.heap.size+1) (wr.heap.size+1+1) wr.heap.size w7:=by
    refine⟨by rw[hRP];exact hrd,?_,?_,?_⟩
    ·rw[← hw7];exact aJ (jW (by simp) _) _
    ·rw[← hw7];exact jW (by simp) _
    ·rw[← hw7];exact aJ (aJ (bK _ _) _) _
   have hI0:Rx w w7.heap.size pl (pl+1) (pl+1+1+1) (pl+1+1) cs.length cs [] w7:=⟨hrd.1,Nat.le_refl _,⟨_,aD HLB.out qG,Kd.ET _ _ _ _ _⟩,aD HOB.out qG,aD HMB.out qG,HMP.out.below qG⟩
   have hfl:(dX cs).length=cs.length:=by unfold dX;rw[List.length_map]
   have hT:=Two.wX (kH old (dX cs)) (kH A0 Af) (kH c0 cf) Rd w7 (wr.heap.size+1) (wr.heap.size+1+1) wr.heap.size
    (nV hc hfc) (nV (by show old.length≤_;omega) (by show (dX cs).length≤_;omega))
    (nV HS.out (fun x hx=>by obtain⟨c,hcm,rfl⟩:=List.mem_map.1 hx;exact zC.out c hcm)) WG (by rw[hRb];exact Nat.le_refl _)
   obtain⟨rs,hrs⟩:∃rs,Two.eY (kH old (dX cs)) (Two.jO (kH old (dX cs)) (fun _=>0)) (fun _=>0)=rs:=⟨_,rfl⟩
   rw[hrs,hRP] at hT
   have hrl:rs.length≤12288:=by
    have h1:=Two.length (L:=kH old (dX cs)) (Two.jO (kH old (dX cs)) (fun _=>0)) (fun _=>0);have h2:Two.jO (kH old (dX cs)) (fun _=>0)=old.length+(dX cs).length:=rfl;rw[hrs,h2] at h1;omega
   have HOG:ah (jX cs rs []=o):=⟨by rw[← hrs];exact HO.out⟩
   have HI0:=ah.mk hI0;have afs:=ah.mk hrd;have HT:=ah.mk hT;have Wy:=ah.mk hrs;rw[hw7];clear hT hrs hI0 WG hw7 qG hls hrd HLB HOB HMB HLW HMP HFR hRP hRb hRd HO
   refine KH (gf:=87) (lb:=#[.pointer (some ⟨(wr.heap.size+1+1),0,none⟩),.pointer (some ⟨(wr.heap.size+1),0,none⟩)]) (fun f h=>h) ?hg (enters_of Tryz.func87 (by kernel_rfl) rfl) (encs:=Two.encR) (fun _=>rfl) HT.out
    (fun pre W=>SQ w w7.heap.size (.slice Af (dX cs).length cf) (dX cs) W∧∃S,jX cs (pre.map Two.nL.rd) []=some S∧Rx w w7.heap.size pl (pl+1) (pl+1+1+1) (pl+1+1) cs.length cs S W) (fun ch W=>OcX w pl (pl+1) o ch W) ?a1 (fun _ _=>Lu)
    (fun pre A B ⟨h1,S,h2,h3⟩ hs=>⟨h1.kq (Kq.Ud hs) zl (Nat.le_refl _),S,h2,h3.kq (Kq.Ud hs) zl (by omega)⟩)
    (fun pre W l o1 o' ⟨h1,S,h2,h3⟩ hl ho hc=>⟨h1.kq (Kq.wu hl ho hc) zl (Nat.le_refl _),S,h2,h3.kq (Kq.wu hl ho hc) zl (by omega)⟩)
    (fun pre x W l o1 o' hgd hl ho hc=>Two.SV hgd ho hc)
    (fun A B l o1 o2 p o3 hl ho hc hk hp hpc=>X9 (nb:=w7.heap.size) (fun W q q' hW hq hqc=>hW.kq (Kq.wu hl hq hqc) zl (Nat.le_refl _)) (fun k hk=>by omega) hl ho hc hk hp hpc)
    (fun o1 o'=>⟨afs.out.kq (Kq.below (((Below.refl _ _).alloc (Nat.le_refl _) _).alloc (by simp) _)) zl (Nat.le_refl _),[],rfl,HI0.out.kq (Kq.below (((Below.refl _ _).alloc (Nat.le_refl _) _).alloc (by simp) _)) zl (by omega)⟩)
    ?assign ?body ?done ?pan
   case assign=>
    intro l x W K hK;dsimp only[Two.encR]
    gi_wp2
    exact hK
   case hg=>
    first|rfl|(go_simp;done)|simp[go_sem]
   case body=>
    rintro l pre x W ⟨acp,S0,hS0,hi⟩ hgd
    obtain⟨QE,hQE⟩:∃QE:Exit→Act→World→Prop,QE=fun e a B=>Ya w w7.heap.size pl (pl+1) (pl+1+1+1) (pl+1+1) cs.length (wr.heap.size+1) (wr.heap.size+1+1) wr.heap.size (SQ w w7.heap.size (.slice Af (dX cs).length cf) (dX cs)) cs o ((pre++[x]).map Two.nL.rd) W e a B:=⟨_,rfl⟩
    refine wpIn_mono (Q:=QE) ?_ (fun e a B h=>by
     rw[hQE] at h
     rcases h with⟨rfl,hs,hk,hst⟩|⟨ch,rfl,hd,hx,hst⟩
     ·exact .inl ⟨rfl,⟨hk.low acp,hs⟩,hk,hst⟩
     ·exact .inr ⟨ch,rfl,hd,hx,hst⟩)
    obtain⟨⟨rest,hrest⟩,p0,p1,hg,o0,o1⟩:=hgd
    have hmem:x.rd∈rs:=by rw[hrest];simp
    have Fz:(∀y,x.a=some y→y∈old)∧(∀y,x.b=some y→y∈(dX cs)):=Two.here (Wy.out▸hmem);have hkey:(∀y,x.a=some y→ko y=x.key)∧(∀y,x.b=some y→ko y=x.key)∧(x.a=none→∃y,x.b=some y):=Two.key (Wy.out▸hmem)
    have hml:S0.length+1≤12288:=by
     have h1:=zJ cs _ _ _ hS0;have h2:=congrArg List.length hrest;simp only[List.length_append,List.length_map,List.length_cons,List.length_nil] at h1 h2;omega
    have hgo:jX cs ((pre++[x]).map Two.nL.rd) []=match nW cs x.rd with
      | none=>none
      | some l=>some (S0++l):=by
     rw[List.map_append,BK,hS0]
     show jX cs [x.rd] S0=_
     rw[jX]
     cases nW cs x.rd <;> rfl
    have hno:nW cs x.rd=none→o=none:=fun h=>by
     rw[← HOG.out,hrest,BK,hS0]
     show jX cs (x.rd::rest) S0=none
     rw[jX,h]
    have hk0:x.key.size≤1023:=by
     rcases hxa:x.a with _|y
     ·obtain⟨y,hy⟩:=hkey.2.2 hxa;obtain⟨c,hc,rfl⟩:=List.mem_map.1 (Fz.2 y hy);rw[show x.key=ko (wC c) from (hkey.2.1 _ hy).symm]
      show (jq 47 0 c.f1.f1).size≤_
      rw[yR];exact zC.out c hc
     ·rw[show x.key=ko y from (hkey.1 _ hxa).symm]
      show (jq 47 0 y.f1).size≤_
      rw[yR];exact HS.out y (Fz.1 y hxa)
    have hoi:OI w p0 x.a:=Two.PI.oi (L:=kH old (dX cs)) (A:=kH A0 Af) (j:=0) HR.out o0
    have FIN:ah (∀a S' B,jX cs ((pre++[x]).map Two.nL.rd) []=some S'→Rx w w7.heap.size pl (pl+1) (pl+1+1+1) (pl+1+1) cs.length cs S' B→jK w7.heap.size (fun k=>k=pl) (fun q=>q=29) W B→QE Exit.normal a B):=⟨fun a S' B h1 h2 h3=>by
     rw[hQE];obtain⟨v,hv,_⟩:=hi.lb;have h4:=akG acp zl (by omega) (by omega) hi.big (b1:=(wr.heap.size+1)) (b2:=(wr.heap.size+1+1)) (br:=wr.heap.size) (by omega) ⟨v,hv⟩ h3
     exact .inl ⟨rfl,⟨S',h1,h2⟩,h4.1,h4.2⟩⟩
    have PAN:ah (∀(a:Act) B,a.defers=[]→o=none→Rx w w7.heap.size pl (pl+1) (pl+1+1+1) (pl+1+1) cs.length cs S0 B→jK w7.heap.size (fun k=>k=pl) (fun q=>q=29) W B→QE (Exit.panic [{ v:=.iface 160 (.agg #[]),recovered:=false }]) a B):=⟨fun a B h0 h1 h2 h3=>by
     rw[hQE];obtain⟨v,hv,_⟩:=h2.lb
     exact .inr ⟨_,rfl,h0,⟨rfl,h1,h2.low,⟨v,hv⟩,h2.ob⟩,h3.still (fun k hk=>by have e:k=pl:=hk;omega)⟩⟩
    have q9:ah (∀c a N v B,QE (.panic c) (Act.put a N v) B→QE (.panic c) a B):=⟨fun c a N v B h=>by
     rw[hQE] at h ⊢
     rcases h with⟨h,_⟩|⟨ch,h1,h2,h3,h4⟩
     ·cases h
     ·exact .inr ⟨ch,h1,by cases N <;> exact h2,h3,h4⟩⟩
    have Pw:ah (∀a B,QE .outgrown a B→False):=⟨fun a B h=>by
     rw[hQE] at h
     exact Ya.out h⟩
    have hlk:=hi.mp.look Tryz.underlying162 x.key (by unfold maxLen;omega);have g0:W.cell? ⟨x.g,0,none⟩=some p0:=ak hg 0;have gm:W.cell? ⟨(pl+1+1+1),0,none⟩=some (.map (some (pl+1+1))):=ak hi.mb 0;have apD:=Tryz.underlying31;have apE:=Tryz.underlying29;have hq1:=JN;have HI:=ah.mk hi;have HG:=ah.mk hg;have Yf:=ah.mk hml;have HOI:=ah.mk hoi;have HHA:=ah.mk Fz;have HKY:=ah.mk hkey;have Yg:=ah.mk hgo;have acr:=ah.mk hno;clear hQE hi hg hml hoi Fz hkey hgo hno hmem hrest o0 o1 hk0 acp hS0
    cases hca:sG cs x.key with
    | none=>
     rw[hca] at hlk;dsimp only at hlk
     cases hxa:x.a with
     | none=>
      exfalso;obtain⟨y,hy⟩:=HKY.out.2.2 hxa;obtain⟨c,hc,rfl⟩:=List.mem_map.1 (HHA.out.2 y hy);exact BJ hca c hc (show qh c=x.key from HKY.out.2.1 (wC c) hy)
     | some y=>
      have hoi:=HOI.out;rw[hxa] at hoi;obtain⟨ad,Y4,pO,Y5,oZ,hp0,hsy,LA⟩:=hoi.six;subst hp0
      have HGO:ah (jX cs ((pre++[x]).map Two.nL.rd) []=some (S0++[y])):=⟨by
       rw[Yg.out,show nW cs x.rd=some [y] by unfold nW;rw[show sG cs x.rd.1=none from hca];show some x.a.toList=_;rw[hxa];rfl]⟩
      have Ot:=ah.mk (HX.out y (HHA.out.1 y hxa));have TS:=ah.mk hsy;have DW:=ah.mk LA;clear hoi hsy LA hca hxa;have hba:=(Below.refl W.heap.size W).alloc (Nat.le_refl _) (.cells #[.int .i64 0,.int .i64 0,.string ⟨#[]⟩,.string ⟨#[]⟩,.int .i64 0,.slice none 0 0,.slice none 0 0,.slice none 0 0] 31);have hbs:=below_setRow hba (Nat.le_refl _) #[.int .i64 0,.int .i64 0,.string ⟨#[]⟩,.string ⟨#[]⟩,.int .i64 0,.slice none 0 0,.slice none 0 0,.slice none 0 0];have hbk:=setRow_heap (W.alloc (.cells #[.int .i64 0,.int .i64 0,.string ⟨#[]⟩,.string ⟨#[]⟩,.int .i64 0,.slice none 0 0,.slice none 0 0,.slice none 0 0] 31)) W.heap.size #[.int .i64 0,.int .i64 0,.string ⟨#[]⟩,.string ⟨#[]⟩,.int .i64 0,.slice none 0 0,.slice none 0 0,.slice none 0 0] #[.int .i64 0,.int .i64 0,.string ⟨#[]⟩,.string ⟨#[]⟩,.int .i64 0,.slice none 0 0,.slice none 0 0,.slice none 0 0] 31 (0,0) (bK _ _);refine wpIn_block ?_;refine wpIn_seq ?_;refine sU (by kernel_rfl) (by rintro⟨a,w',h⟩;exact Pw.out a w' h) ?_
      go_wp2_with (refine dR (.store 31 (.tmp 12) (.tmp 47)) rfl ?_;refine wpList_store_row rfl 31 (.tmp 12) (.tmp 47) rfl W.heap.size #[.int .i64 0,.int .i64 0,.string ⟨#[]⟩,.string ⟨#[]⟩,.int .i64 0,.slice none 0 0,.slice none 0 0,.slice none 0 0] rfl rfl 31 _ (by exact bK W _) (by kernel_rfl) (by rfl) (by simp[Value.oneCell']) ?_)
      obtain⟨Ws,hWs⟩:∃Ws,(W.alloc (.cells #[.int .i64 0,.int .i64 0,.string ⟨#[]⟩,.string ⟨#[]⟩,.int .i64 0,.slice none 0 0,.slice none 0 0,.slice none 0 0] 31)).setRow W.heap.size #[.int .i64 0,.int .i64 0,.string ⟨#[]⟩,.string ⟨#[]⟩,.int .i64 0,.slice none 0 0,.slice none 0 0,.slice none 0 0]=Ws:=⟨_,rfl⟩
      rw[hWs] at hbs hbk
      try rw[hWs]
      obtain⟨k,hk⟩:∃k,W.heap.size=k:=⟨_,rfl⟩
      have HIs:=ah.mk (HI.out.below hbs);have CZ:=ah.mk (show jK w7.heap.size (fun k=>k=pl) (fun q=>q=29) W Ws from jK.below hbs);have gs:=aj hbs g0;rw[hk] at hbk
      try rw[hk]
      clear hWs hba hbs g0 gm hlk HI HG HOI hk
      gi_wp2_with fail
      have hdr:=bC (Below.refl Ws.heap.size Ws)
      obtain⟨Wd,hWd⟩:∃Wd,Ws.drew=Wd:=⟨_,rfl⟩
      have hdb:Below Ws.heap.size Ws Wd:=hWd▸hdr;have DX:=ah.mk (HIs.out.below hdb);obtain⟨va,hva,hra⟩:=DX.out.lb;obtain⟨Au,nu,cu,hvu⟩:=gK (Kd.Ho hra);subst hvu;have M8:=ah.mk hva;have yA:=ah.mk hra;have Hz:=ah.mk (CZ.out.trans (jK.below hdb));have vP:=ah.mk (show w7.heap.size≤Wd.heap.size from DX.out.big);have DY:=ah.mk (show Below w.heap.size w Wd from DX.out.low);have z2:Wd.cell? ⟨pl,0,none⟩=some (.slice Au nu cu):=ak hva 0;have Ie:=ah.mk (show Wd.cell? ⟨pl,0,none⟩=some (.slice Au nu cu)∧Wd.cell? ⟨x.g,0,none⟩=some (.pointer (some ad))∧vL Wd ad y Y4 pO Y5 oZ from⟨z2,aj hdb gs,TS.out.below DY.out⟩);have Ig:=ah.mk (show ∀W':World,(W'.cell? ⟨pl,0,none⟩=some (.slice Au nu cu)∧W'.cell? ⟨x.g,0,none⟩=some (.pointer (some ad))∧vL W' ad y Y4 pO Y5 oZ)→∀{W''},Below W'.heap.size W' W''→(W''.cell? ⟨pl,0,none⟩=some (.slice Au nu cu)∧W''.cell? ⟨x.g,0,none⟩=some (.pointer (some ad))∧vL W'' ad y Y4 pO Y5 oZ) from fun W' h W'' hb=>⟨aj hb h.1,aj hb h.2.1,h.2.2.below hb⟩);clear hdr hva hra z2 hdb gs;refine mX (n:=10) (S:=fun w'=>w'.cell? ⟨pl,0,none⟩=some (.slice Au nu cu)∧w'.cell? ⟨x.g,0,none⟩=some (.pointer (some ad))∧vL w' ad y Y4 pO Y5 oZ) (ds:=[8,9]) #[false,false,false,false,false,false,false,false,false,false] (by kernel_rfl) (by kernel_rfl) (by rintro⟨a,w',h⟩;exact Pw.out a w' h) rfl rfl (by rw[hWd];exact Ie.out) (fun hHeld=>?_);rw[hWd] at hHeld ⊢;clear hWd Ie;refine dM (i:=0) (N:=some 52) (v:=?_) (a':=?_) #[true,false,false,false,false,false,false,false,false,false] rfl rfl (by kernel_rfl) (fun c a B h=>q9.out c a _ _ B h) (Or.inl ⟨by rfl,?_⟩) hHeld ?_ ?_;rotate_left
      ·rintro w' ⟨s,t,⟨y0,y1,y2,y3,y4,y5⟩⟩
       go_simp
       with_reducible rfl
      rotate_left
      ·simp only[Act.put,aYa,aYb,aYc,aG,aH];rfl
      refine bA (i:=1) (N:=some 53) (v:=?_) (a':=?_) #[true,true,false,false,false,false,false,false,false,false] rfl rfl (by kernel_rfl) (fun c a B h=>q9.out c a _ _ B h) (Or.inl ⟨by rfl,?_⟩) ?_ ?_;rotate_left
      ·intro w'
       go_simp
       with_reducible rfl
      rotate_left
      ·simp only[Act.put,aYa,aYb,aYc,aG,aH];rfl
      refine bA (i:=2) (N:=some 54) (v:=?_) (a':=?_) #[true,true,true,false,false,false,false,false,false,false] rfl rfl (by kernel_rfl) (fun c a B h=>q9.out c a _ _ B h) (Or.inl ⟨by rfl,?_⟩) ?_ ?_;rotate_left
      ·intro w'
       go_simp
       with_reducible rfl
      rotate_left
      ·simp only[Act.put,aYa,aYb,aYc,aG,aH];rfl
      refine dM (i:=3) (N:=some 55) (v:=?_) (a':=?_) #[true,true,true,true,false,false,false,false,false,false] rfl rfl (by kernel_rfl) (fun c a B h=>q9.out c a _ _ B h) (Or.inl ⟨by rfl,?_⟩) hHeld ?_ ?_;rotate_left
      ·rintro w' ⟨s,t,⟨y0,y1,y2,y3,y4,y5⟩⟩
       go_simp
       with_reducible rfl
      rotate_left
      ·simp only[Act.put,aYa,aYb,aYc,aG,aH];rfl
      refine bA (i:=4) (N:=some 56) (v:=?_) (a':=?_) #[true,true,true,true,true,false,false,false,false,false] rfl rfl (by kernel_rfl) (fun c a B h=>q9.out c a _ _ B h) (Or.inl ⟨by rfl,?_⟩) ?_ ?_;rotate_left
      ·intro w'
       go_simp
       with_reducible rfl
      rotate_left
      ·simp only[Act.put,aYa,aYb,aYc,aG,aH];rfl
      refine dM (i:=5) (N:=some 57) (v:=?_) (a':=?_) #[true,true,true,true,true,true,false,false,false,false] rfl rfl (by kernel_rfl) (fun c a B h=>q9.out c a _ _ B h) (Or.inl ⟨by rfl,?_⟩) hHeld ?_ ?_;rotate_left
      ·rintro w' ⟨s,t,⟨y0,y1,y2,y3,y4,y5⟩⟩
       go_simp
       with_reducible rfl
      rotate_left
      ·simp only[Act.put,aYa,aYb,aYc,aG,aH];rfl
      refine kg (i:=6) (N:=some 58) #[true,true,true,true,true,true,true,false,false,false] rfl rfl (by kernel_rfl) (by decide) (fun K hK=>?_);refine mq Tryz.func122 (by kernel_rfl) rfl #[.agg #[.int .i64 y.f0,.string y.f1,.string y.f2,.int .i64 y.f3,.slice Y4 y.f4.length pO,.slice Y5 y.f5.length oZ]] (by rfl) rfl rfl (by (try simp only[List.map_toArray,List.map_cons,List.map_nil]);first|done|rfl) ?_;refine (gy.calls y.f0 y.f1 y.f2 y.f3 Y4 pO y.f4 Y5 oZ y.f5 y.f0 y.f1 y.f2 y.f3 y.f4 y.f5 Wd (Kd.aC DW.out.g4 DY.out) DW.out.l4 (Kd.aC DW.out.g5 DY.out) DW.out.l5 (M6 Ot.out.1 Ot.out.2)).mono ?_;rintro e Wz ⟨v4,v5,rfl,hr4,jR,hbz⟩;refine⟨_,rfl,?_⟩;have vC:=ah.mk (aD M8.out hbz);have vV:=ah.mk (Kd.jI yA.out hbz);have HRX:=ah.mk (Kd.rP (ok':=fun k=>True∧¬Wd.heap.size≤k) (Kd.Rm yA.out hbz) (fun k hk=>⟨trivial,by have:=hk.2;omega⟩));have HIZ:=ah.mk (DX.out.below hbz);have Px:=ah.mk (Hz.out.trans (jK.below hbz));have Py:=ah.mk (show w7.heap.size≤Wz.heap.size from Nat.le_trans vP.out hbz.size);have Pz:=ah.mk (show ∀k,Wd.heap.size≤k→True∧some k≠(Value.slice Au nu cu).ownBlock from fun k hk=>⟨trivial,fun e=>by have:=Kd.Yh yA.out k e.symm;omega⟩);have PD:=ah.mk (uP Wz w7.heap.size (fun k=>Wd.heap.size≤k) y (Kd.fC (Kd.dJ (Kd.fZ hr4) (fun k hk=>hk.2.1)) vP.out) (Kd.fC (Kd.dJ (Kd.fZ jR) (fun k hk=>hk.2.1)) vP.out));refine hK.out _ _ (Ig.out _ hHeld hbz) (fun hHeld=>?_);clear hK K hr4 jR hbz;refine eB (a':=?_) ?_ ?_;rotate_left
      ·show Act.put _ (some 58) _=_
       simp only[Act.put,aYa,aYb,aYc,aG,aH];rfl
      refine kg (i:=7) (N:=some 59) #[true,true,true,true,true,true,true,true,false,false] rfl rfl (by kernel_rfl) (by decide) (fun K hK=>?_);refine nD (v:=.slice (some ⟨Wz.heap.size,0,none⟩) 1 1) (w1:=Wz.alloc (.cells #[.int .i64 y.f0,.string y.f1,.string y.f2,.int .i64 y.f3,v4,v5] 29)) (by rfl) rfl ?_ ?_
      ·go_simp
       try rfl
      have hal:=(Below.refl Wz.heap.size Wz).alloc (Nat.le_refl _) (.cells #[.int .i64 y.f0,.string y.f1,.string y.f2,.int .i64 y.f3,v4,v5] 29);refine hK.out _ _ (Ig.out _ hHeld hal) (fun hHeld=>?_);clear hK K hal;refine eB (a':=?_) ?_ ?_;rotate_left
      ·show Act.put _ (some 59) _=_
       simp only[Act.put,aYa,aYb,aYc,aG,aH];rfl
      refine kC (i:=8) (N:=some 60) #[true,true,true,true,true,true,true,true,true,false] rfl rfl (by kernel_rfl) (by decide) (fun K hK=>?_);refine Kd.tO oW (w0:=Wz) w7.heap.size (by rfl) (.tmp 52) (.tmp 59) 25 29 (.agg #[.int .i64 0,.string ⟨#[]⟩,.string ⟨#[]⟩,.int .i64 0,.slice none 0 0,.slice none 0 0]) 96 rfl Tryz.underlying25 DV rfl (by show 0<6;decide) (by decide) (.slice Au nu cu) S0 y [.int .i64 y.f0,.string y.f1,.string y.f2,.int .i64 y.f3,v4,v5] (fun _=>True) (fun k=>Wd.heap.size≤k) rfl rfl PD.out Pz.out (fun _ _=>trivial) HRX.out (Below.refl _ _) Py.out (by have:=Yf.out;omega) ?_;intro v1 w1 hr1 _hb hg1 mK;obtain⟨yu,FB,yw,hv1⟩:=gK (Kd.Ho hr1);subst hv1;have hbx:=(hg1.block _ (bD vC.out) (jr (Kd.Ho vV.out) vC.out (fun cs e=>by injection e with _ e;exact absurd e (by decide)))).trans vC.out;have Xp:w1.cell? ⟨pl,0,none⟩=some (.slice Au nu cu):=ak hbx 0;have f10:=av hbx 0;have M9:=ah.mk (HIZ.out.push vC.out vV.out hr1 hg1 zl (by omega) ⟨by omega,by omega⟩);have PE:=ah.mk (Px.out.trans ((jK.grown (G:=fun k=>k=pl) (T:=fun q=>q=29) (Kd.Ho vV.out) (Nat.le_refl _) rfl hg1).trans (jK.set (G:=fun k=>k=pl) rfl 0 (.slice yu FB yw))));clear hr1 _hb hg1 mK hbx;refine hK.out _ _ ?_;clear hK K hHeld;refine eB (a':=?_) ?_ ?_;rotate_left
      ·show Act.put _ (some 60) _=_
       simp only[Act.put,aYa,aYb,aYc,aG,aH];rfl
      refine kC (i:=9) (N:=none) #[true,true,true,true,true,true,true,true,true,true] rfl rfl (by kernel_rfl) (by decide) (fun K hK=>?_);refine sM (w1:=w1.setCell ⟨pl,0,none⟩ (.slice yu FB yw)) (by rfl) rfl ?_ ?_
      ·go_simp
      refine hK.out _ _ ?_;clear hK K;refine ku (by kernel_rfl) ?_;exact FIN.out _ _ _ HGO.out M9.out PE.out
    | some c=>
     rw[hca] at hlk;dsimp only at hlk;obtain⟨C4,lG,C5,lH,C7,mU,hlk,hlc⟩:=hlk;obtain⟨hcm,hck⟩:=wB hca;have Lf:=ah.mk hlc;have HCM:=ah.mk hcm;have HOS:=ah.mk (show nW cs x.rd=if c.f0=2 then some [c.f1] else if c.f0=3 then (uT x.a c).map (fun z=>[z]) else if x.a=none then none else some [] by unfold nW;rw[show sG cs x.rd.1=some c from hca];rfl);have HOP:=HOI;clear hca hck hcm hlc;have hba:=(Below.refl W.heap.size W).alloc (Nat.le_refl _) (.cells #[.int .i64 0,.int .i64 0,.string ⟨#[]⟩,.string ⟨#[]⟩,.int .i64 0,.slice none 0 0,.slice none 0 0,.slice none 0 0] 31);have hbs:=below_setRow hba (Nat.le_refl _) #[.int .i64 c.f0,.int .i64 c.f1.f0,.string c.f1.f1,.string c.f1.f2,.int .i64 c.f1.f3,.slice C4 c.f1.f4.length lG,.slice C5 c.f1.f5.length lH,.slice C7 c.f2.length mU];have hbk:=setRow_heap (W.alloc (.cells #[.int .i64 0,.int .i64 0,.string ⟨#[]⟩,.string ⟨#[]⟩,.int .i64 0,.slice none 0 0,.slice none 0 0,.slice none 0 0] 31)) W.heap.size #[.int .i64 0,.int .i64 0,.string ⟨#[]⟩,.string ⟨#[]⟩,.int .i64 0,.slice none 0 0,.slice none 0 0,.slice none 0 0] #[.int .i64 c.f0,.int .i64 c.f1.f0,.string c.f1.f1,.string c.f1.f2,.int .i64 c.f1.f3,.slice C4 c.f1.f4.length lG,.slice C5 c.f1.f5.length lH,.slice C7 c.f2.length mU] 31 (0,0) (bK _ _);refine wpIn_block ?_;refine wpIn_seq ?_;refine sU (by kernel_rfl) (by rintro⟨a,w',h⟩;exact Pw.out a w' h) ?_
     go_wp2_with (refine dR (.store 31 (.tmp 12) (.tmp 47)) rfl ?_;refine wpList_store_row rfl 31 (.tmp 12) (.tmp 47) rfl W.heap.size #[.int .i64 c.f0,.int .i64 c.f1.f0,.string c.f1.f1,.string c.f1.f2,.int .i64 c.f1.f3,.slice C4 c.f1.f4.length lG,.slice C5 c.f1.f5.length lH,.slice C7 c.f2.length mU] rfl rfl 31 _ (by exact bK W _) (by kernel_rfl) (by rfl) (by simp[Value.oneCell']) ?_)
     obtain⟨Ws,hWs⟩:∃Ws,(W.alloc (.cells #[.int .i64 0,.int .i64 0,.string ⟨#[]⟩,.string ⟨#[]⟩,.int .i64 0,.slice none 0 0,.slice none 0 0,.slice none 0 0] 31)).setRow W.heap.size #[.int .i64 c.f0,.int .i64 c.f1.f0,.string c.f1.f1,.string c.f1.f2,.int .i64 c.f1.f3,.slice C4 c.f1.f4.length lG,.slice C5 c.f1.f5.length lH,.slice C7 c.f2.length mU]=Ws:=⟨_,rfl⟩
     rw[hWs] at hbs hbk
     try rw[hWs]
     obtain⟨k,hk⟩:∃k,W.heap.size=k:=⟨_,rfl⟩
     have HIs:=ah.mk (HI.out.below hbs);have CZ:=ah.mk (show jK w7.heap.size (fun k=>k=pl) (fun q=>q=29) W Ws from jK.below hbs);have gs:=aj hbs g0;rw[hk] at hbk
     try rw[hk]
     clear hWs hba hbs g0 gm hlk HI HG HOI hk;have k0:Ws.cell? ⟨k,0,none⟩=some (.int .i64 c.f0):=ak hbk 0;by_cases h2:c.f0=2
     ·have e2:(c.f0 == 2)=true:=beq_iff_eq.2 h2
      have HGO:ah (jX cs ((pre++[x]).map Two.nL.rd) []=some (S0++[c.f1])):=⟨by rw[Yg.out,HOS.out,if_pos h2]⟩
      have Ot:=ah.mk (HX1.out c HCM.out);have HSK:=ah.mk (show vL Ws ⟨k,1,none⟩ c.f1 C4 lG C5 lH from⟨ak hbk 1,ak hbk 2,ak hbk 3,ak hbk 4,ak hbk 5,ak hbk 6⟩);clear hbk h2 gs
      gi_wp2_with fail
      have hdr:=bC (Below.refl Ws.heap.size Ws)
      obtain⟨Wd,hWd⟩:∃Wd,Ws.drew=Wd:=⟨_,rfl⟩
      have hdb:Below Ws.heap.size Ws Wd:=hWd▸hdr;have DX:=ah.mk (HIs.out.below hdb);obtain⟨va,hva,hra⟩:=DX.out.lb;obtain⟨Au,nu,cu,hvu⟩:=gK (Kd.Ho hra);subst hvu;have M8:=ah.mk hva;have yA:=ah.mk hra;have Hz:=ah.mk (CZ.out.trans (jK.below hdb));have vP:=ah.mk (show w7.heap.size≤Wd.heap.size from DX.out.big);have DY:=ah.mk (show Below w.heap.size w Wd from DX.out.low);have z2:Wd.cell? ⟨pl,0,none⟩=some (.slice Au nu cu):=ak hva 0;have Ie:=ah.mk (show Wd.cell? ⟨pl,0,none⟩=some (.slice Au nu cu)∧vL Wd ⟨k,1,none⟩ c.f1 C4 lG C5 lH from⟨z2,HSK.out.below hdb⟩);have Ig:=ah.mk (show ∀W':World,(W'.cell? ⟨pl,0,none⟩=some (.slice Au nu cu)∧vL W' ⟨k,1,none⟩ c.f1 C4 lG C5 lH)→∀{W''},Below W'.heap.size W' W''→(W''.cell? ⟨pl,0,none⟩=some (.slice Au nu cu)∧vL W'' ⟨k,1,none⟩ c.f1 C4 lG C5 lH) from fun W' h W'' hb=>⟨aj hb h.1,h.2.below hb⟩);clear hdr hva hra z2 hdb;refine mX (n:=7) (S:=fun w'=>w'.cell? ⟨pl,0,none⟩=some (.slice Au nu cu)∧vL w' ⟨k,1,none⟩ c.f1 C4 lG C5 lH) (ds:=[5,6]) #[false,false,false,false,false,false,false] (by kernel_rfl) (by kernel_rfl) (by rintro⟨a,w',h⟩;exact Pw.out a w' h) rfl rfl (by rw[hWd];exact Ie.out) (fun hHeld=>?_);rw[hWd] at hHeld ⊢;clear hWd Ie;refine dM (i:=0) (N:=some 65) (v:=?_) (a':=?_) #[true,false,false,false,false,false,false] rfl rfl (by kernel_rfl) (fun c a B h=>q9.out c a _ _ B h) (Or.inl ⟨by rfl,?_⟩) hHeld ?_ ?_;rotate_left
      ·rintro w' ⟨s,⟨y0,y1,y2,y3,y4,y5⟩⟩
       go_simp
       with_reducible rfl
      rotate_left
      ·simp only[Act.put,aYa,aYb,aYc,aG,aH];rfl
      refine bA (i:=1) (N:=some 66) (v:=?_) (a':=?_) #[true,true,false,false,false,false,false] rfl rfl (by kernel_rfl) (fun c a B h=>q9.out c a _ _ B h) (Or.inl ⟨by rfl,?_⟩) ?_ ?_;rotate_left
      ·intro w'
       go_simp
       with_reducible rfl
      rotate_left
      ·simp only[Act.put,aYa,aYb,aYc,aG,aH];rfl
      refine dM (i:=2) (N:=some 67) (v:=?_) (a':=?_) #[true,true,true,false,false,false,false] rfl rfl (by kernel_rfl) (fun c a B h=>q9.out c a _ _ B h) (Or.inl ⟨by rfl,?_⟩) hHeld ?_ ?_;rotate_left
      ·rintro w' ⟨s,⟨y0,y1,y2,y3,y4,y5⟩⟩
       go_simp
       with_reducible rfl
      rotate_left
      ·simp only[Act.put,aYa,aYb,aYc,aG,aH];rfl
      refine kg (i:=3) (N:=some 68) #[true,true,true,true,false,false,false] rfl rfl (by kernel_rfl) (by decide) (fun K hK=>?_);refine mq Tryz.func122 (by kernel_rfl) rfl #[.agg #[.int .i64 c.f1.f0,.string c.f1.f1,.string c.f1.f2,.int .i64 c.f1.f3,.slice C4 c.f1.f4.length lG,.slice C5 c.f1.f5.length lH]] (by rfl) rfl rfl (by (try simp only[List.map_toArray,List.map_cons,List.map_nil]);first|done|rfl) ?_;refine (gy.calls c.f1.f0 c.f1.f1 c.f1.f2 c.f1.f3 C4 lG c.f1.f4 C5 lH c.f1.f5 c.f1.f0 c.f1.f1 c.f1.f2 c.f1.f3 c.f1.f4 c.f1.f5 Wd (Kd.aC Lf.out.g4 DY.out) Lf.out.l4 (Kd.aC Lf.out.g5 DY.out) Lf.out.l5 (M6 Ot.out.1 Ot.out.2)).mono ?_;rintro e Wz ⟨v4,v5,rfl,hr4,jR,hbz⟩;refine⟨_,rfl,?_⟩;have vC:=ah.mk (aD M8.out hbz);have vV:=ah.mk (Kd.jI yA.out hbz);have HRX:=ah.mk (Kd.rP (ok':=fun k=>True∧¬Wd.heap.size≤k) (Kd.Rm yA.out hbz) (fun k hk=>⟨trivial,by have:=hk.2;omega⟩));have HIZ:=ah.mk (DX.out.below hbz);have Px:=ah.mk (Hz.out.trans (jK.below hbz));have Py:=ah.mk (show w7.heap.size≤Wz.heap.size from Nat.le_trans vP.out hbz.size);have Pz:=ah.mk (show ∀k,Wd.heap.size≤k→True∧some k≠(Value.slice Au nu cu).ownBlock from fun k hk=>⟨trivial,fun e=>by have:=Kd.Yh yA.out k e.symm;omega⟩);have PD:=ah.mk (uP Wz w7.heap.size (fun k=>Wd.heap.size≤k) c.f1 (Kd.fC (Kd.dJ (Kd.fZ hr4) (fun k hk=>hk.2.1)) vP.out) (Kd.fC (Kd.dJ (Kd.fZ jR) (fun k hk=>hk.2.1)) vP.out));refine hK.out _ _ (Ig.out _ hHeld hbz) (fun hHeld=>?_);clear hK K hr4 jR hbz;refine eB (a':=?_) ?_ ?_;rotate_left
      ·show Act.put _ (some 68) _=_
       simp only[Act.put,aYa,aYb,aYc,aG,aH];rfl
      refine kg (i:=4) (N:=some 69) #[true,true,true,true,true,false,false] rfl rfl (by kernel_rfl) (by decide) (fun K hK=>?_);refine nD (v:=.slice (some ⟨Wz.heap.size,0,none⟩) 1 1) (w1:=Wz.alloc (.cells #[.int .i64 c.f1.f0,.string c.f1.f1,.string c.f1.f2,.int .i64 c.f1.f3,v4,v5] 29)) (by rfl) rfl ?_ ?_
      ·go_simp
       try rfl
      have hal:=(Below.refl Wz.heap.size Wz).alloc (Nat.le_refl _) (.cells #[.int .i64 c.f1.f0,.string c.f1.f1,.string c.f1.f2,.int .i64 c.f1.f3,v4,v5] 29);refine hK.out _ _ (Ig.out _ hHeld hal) (fun hHeld=>?_);clear hK K hal;refine eB (a':=?_) ?_ ?_;rotate_left
      ·show Act.put _ (some 69) _=_
       simp only[Act.put,aYa,aYb,aYc,aG,aH];rfl
      refine kC (i:=5) (N:=some 70) #[true,true,true,true,true,true,false] rfl rfl (by kernel_rfl) (by decide) (fun K hK=>?_);refine Kd.tO oW (w0:=Wz) w7.heap.size (by rfl) (.tmp 65) (.tmp 69) 25 29 (.agg #[.int .i64 0,.string ⟨#[]⟩,.string ⟨#[]⟩,.int .i64 0,.slice none 0 0,.slice none 0 0]) 96 rfl Tryz.underlying25 DV rfl (by show 0<6;decide) (by decide) (.slice Au nu cu) S0 c.f1 [.int .i64 c.f1.f0,.string c.f1.f1,.string c.f1.f2,.int .i64 c.f1.f3,v4,v5] (fun _=>True) (fun k=>Wd.heap.size≤k) rfl rfl PD.out Pz.out (fun _ _=>trivial) HRX.out (Below.refl _ _) Py.out (by have:=Yf.out;omega) ?_;intro v1 w1 hr1 _hb hg1 mK;obtain⟨yu,FB,yw,hv1⟩:=gK (Kd.Ho hr1);subst hv1;have hbx:=(hg1.block _ (bD vC.out) (jr (Kd.Ho vV.out) vC.out (fun cs e=>by injection e with _ e;exact absurd e (by decide)))).trans vC.out;have Xp:w1.cell? ⟨pl,0,none⟩=some (.slice Au nu cu):=ak hbx 0;have f10:=av hbx 0;have M9:=ah.mk (HIZ.out.push vC.out vV.out hr1 hg1 zl (by omega) ⟨by omega,by omega⟩);have PE:=ah.mk (Px.out.trans ((jK.grown (G:=fun k=>k=pl) (T:=fun q=>q=29) (Kd.Ho vV.out) (Nat.le_refl _) rfl hg1).trans (jK.set (G:=fun k=>k=pl) rfl 0 (.slice yu FB yw))));clear hr1 _hb hg1 mK hbx;refine hK.out _ _ ?_;clear hK K hHeld;refine eB (a':=?_) ?_ ?_;rotate_left
      ·show Act.put _ (some 70) _=_
       simp only[Act.put,aYa,aYb,aYc,aG,aH];rfl
      refine kC (i:=6) (N:=none) #[true,true,true,true,true,true,true] rfl rfl (by kernel_rfl) (by decide) (fun K hK=>?_);refine sM (w1:=w1.setCell ⟨pl,0,none⟩ (.slice yu FB yw)) (by rfl) rfl ?_ ?_
      ·go_simp
      refine hK.out _ _ ?_;clear hK K;refine ku (by kernel_rfl) ?_;exact FIN.out _ _ _ HGO.out M9.out PE.out
     ·have e2:(c.f0 == 2)=false:=beq_eq_false_iff_ne.2 h2;by_cases h3:c.f0=3
      ·have e3:(c.f0 == 3)=true:=beq_iff_eq.2 h3;have HFE:=ah.mk (HE.out c HCM.out h3)
       have HOT:ah (nW cs x.rd=(uT x.a c).map (fun z=>[z])):=⟨by rw[HOS.out,if_neg h2,if_pos h3]⟩
       have k1:Ws.cell? ⟨k,1,none⟩=some (.int .i64 c.f1.f0):=ak hbk 1;have k2:Ws.cell? ⟨k,2,none⟩=some (.string c.f1.f1):=ak hbk 2;have k3:Ws.cell? ⟨k,3,none⟩=some (.string c.f1.f2):=ak hbk 3;have k4:Ws.cell? ⟨k,4,none⟩=some (.int .i64 c.f1.f3):=ak hbk 4;have k5:Ws.cell? ⟨k,5,none⟩=some (.slice C4 c.f1.f4.length lG):=ak hbk 5;have k6:Ws.cell? ⟨k,6,none⟩=some (.slice C5 c.f1.f5.length lH):=ak hbk 6;have k7:Ws.cell? ⟨k,7,none⟩=some (.slice C7 c.f2.length mU):=ak hbk 7;clear hbk h2 h3;have hop:=HOP.out
       cases hxa:x.a with
       | none=>
        rw[hxa] at hop;have hop:p0=.pointer none:=hop;subst hop
        have HNO:ah (o=none):=⟨acr.out (by rw[HOT.out,hxa];rfl)⟩
        clear hxa HOP
        gi_wp2_with fail
        have hdr:=bC (Below.refl Ws.heap.size Ws)
        obtain⟨Wd,hWd⟩:∃Wd,Ws.drew=Wd:=⟨_,rfl⟩
        have hdb:Below Ws.heap.size Ws Wd:=hWd▸hdr;have DX:=ah.mk (HIs.out.below hdb);obtain⟨va,hva,hra⟩:=DX.out.lb;obtain⟨Au,nu,cu,hvu⟩:=gK (Kd.Ho hra);subst hvu;have M8:=ah.mk hva;have yA:=ah.mk hra;have Hz:=ah.mk (CZ.out.trans (jK.below hdb));have vP:=ah.mk (show w7.heap.size≤Wd.heap.size from DX.out.big);have DY:=ah.mk (show Below w.heap.size w Wd from DX.out.low);have z2:Wd.cell? ⟨pl,0,none⟩=some (.slice Au nu cu):=ak hva 0;have Ie:=ah.mk (show Wd.cell? ⟨pl,0,none⟩=some (.slice Au nu cu)∧Wd.cell? ⟨x.g,0,none⟩=some (.pointer none)∧Wd.cell? ⟨k,0,none⟩=some (.int .i64 c.f0)∧Wd.cell? ⟨k,1,none⟩=some (.int .i64 c.f1.f0)∧Wd.cell? ⟨k,2,none⟩=some (.string c.f1.f1)∧Wd.cell? ⟨k,3,none⟩=some (.string c.f1.f2)∧Wd.cell? ⟨k,4,none⟩=some (.int .i64 c.f1.f3)∧Wd.cell? ⟨k,5,none⟩=some (.slice C4 c.f1.f4.length lG)∧Wd.cell? ⟨k,6,none⟩=some (.slice C5 c.f1.f5.length lH)∧Wd.cell? ⟨k,7,none⟩=some (.slice C7 c.f2.length mU) from⟨z2,aj hdb gs,aj hdb k0,aj hdb k1,aj hdb k2,aj hdb k3,aj hdb k4,aj hdb k5,aj hdb k6,aj hdb k7⟩);have Ig:=ah.mk (show ∀W':World,(W'.cell? ⟨pl,0,none⟩=some (.slice Au nu cu)∧W'.cell? ⟨x.g,0,none⟩=some (.pointer none)∧W'.cell? ⟨k,0,none⟩=some (.int .i64 c.f0)∧W'.cell? ⟨k,1,none⟩=some (.int .i64 c.f1.f0)∧W'.cell? ⟨k,2,none⟩=some (.string c.f1.f1)∧W'.cell? ⟨k,3,none⟩=some (.string c.f1.f2)∧W'.cell? ⟨k,4,none⟩=some (.int .i64 c.f1.f3)∧W'.cell? ⟨k,5,none⟩=some (.slice C4 c.f1.f4.length lG)∧W'.cell? ⟨k,6,none⟩=some (.slice C5 c.f1.f5.length lH)∧W'.cell? ⟨k,7,none⟩=some (.slice C7 c.f2.length mU))→∀{W''},Below W'.heap.size W' W''→(W''.cell? ⟨pl,0,none⟩=some (.slice Au nu cu)∧W''.cell? ⟨x.g,0,none⟩=some (.pointer none)∧W''.cell? ⟨k,0,none⟩=some (.int .i64 c.f0)∧W''.cell? ⟨k,1,none⟩=some (.int .i64 c.f1.f0)∧W''.cell? ⟨k,2,none⟩=some (.string c.f1.f1)∧W''.cell? ⟨k,3,none⟩=some (.string c.f1.f2)∧W''.cell? ⟨k,4,none⟩=some (.int .i64 c.f1.f3)∧W''.cell? ⟨k,5,none⟩=some (.slice C4 c.f1.f4.length lG)∧W''.cell? ⟨k,6,none⟩=some (.slice C5 c.f1.f5.length lH)∧W''.cell? ⟨k,7,none⟩=some (.slice C7 c.f2.length mU)) from fun W' h W'' hb=>⟨aj hb h.1,aj hb h.2.1,aj hb h.2.2.1,aj hb h.2.2.2.1,aj hb h.2.2.2.2.1,aj hb h.2.2.2.2.2.1,aj hb h.2.2.2.2.2.2.1,aj hb h.2.2.2.2.2.2.2.1,aj hb h.2.2.2.2.2.2.2.2.1,aj hb h.2.2.2.2.2.2.2.2.2⟩);clear hdr hva hra z2 hdb gs k0 k1 k2 k3 k4 k5 k6 k7;refine mX (n:=9) (S:=fun w'=>w'.cell? ⟨pl,0,none⟩=some (.slice Au nu cu)∧w'.cell? ⟨x.g,0,none⟩=some (.pointer none)∧w'.cell? ⟨k,0,none⟩=some (.int .i64 c.f0)∧w'.cell? ⟨k,1,none⟩=some (.int .i64 c.f1.f0)∧w'.cell? ⟨k,2,none⟩=some (.string c.f1.f1)∧w'.cell? ⟨k,3,none⟩=some (.string c.f1.f2)∧w'.cell? ⟨k,4,none⟩=some (.int .i64 c.f1.f3)∧w'.cell? ⟨k,5,none⟩=some (.slice C4 c.f1.f4.length lG)∧w'.cell? ⟨k,6,none⟩=some (.slice C5 c.f1.f5.length lH)∧w'.cell? ⟨k,7,none⟩=some (.slice C7 c.f2.length mU)) (ds:=[7,8]) #[false,false,false,false,false,false,false,false,false] (by kernel_rfl) (by kernel_rfl) (by rintro⟨a,w',h⟩;exact Pw.out a w' h) rfl rfl (by rw[hWd];exact Ie.out) (fun hHeld=>?_);rw[hWd] at hHeld ⊢;clear hWd Ie;refine dM (i:=0) (N:=some 75) (v:=?_) (a':=?_) #[true,false,false,false,false,false,false,false,false] rfl rfl (by kernel_rfl) (fun c a B h=>q9.out c a _ _ B h) (Or.inl ⟨by rfl,?_⟩) hHeld ?_ ?_;rotate_left
        ·rintro w' ⟨s,t,s0,s1,s2,s3,s4,s5,s6,s7⟩
         go_simp
         with_reducible rfl
        rotate_left
        ·simp only[Act.put,aYa,aYb,aYc,aG,aH];rfl
        refine bA (i:=1) (N:=some 76) (v:=?_) (a':=?_) #[true,true,false,false,false,false,false,false,false] rfl rfl (by kernel_rfl) (fun c a B h=>q9.out c a _ _ B h) (Or.inl ⟨by rfl,?_⟩) ?_ ?_;rotate_left
        ·intro w'
         go_simp
         with_reducible rfl
        rotate_left
        ·simp only[Act.put,aYa,aYb,aYc,aG,aH];rfl
        refine bA (i:=2) (N:=some 77) (v:=?_) (a':=?_) #[true,true,true,false,false,false,false,false,false] rfl rfl (by kernel_rfl) (fun c a B h=>q9.out c a _ _ B h) (Or.inl ⟨by rfl,?_⟩) ?_ ?_;rotate_left
        ·intro w'
         go_simp
         with_reducible rfl
        rotate_left
        ·simp only[Act.put,aYa,aYb,aYc,aG,aH];rfl
        refine dM (i:=3) (N:=some 78) (v:=?_) (a':=?_) #[true,true,true,true,false,false,false,false,false] rfl rfl (by kernel_rfl) (fun c a B h=>q9.out c a _ _ B h) (Or.inl ⟨by rfl,?_⟩) hHeld ?_ ?_;rotate_left
        ·rintro w' ⟨s,t,s0,s1,s2,s3,s4,s5,s6,s7⟩
         go_simp
         with_reducible rfl
        rotate_left
        ·simp only[Act.put,aYa,aYb,aYc,aG,aH];rfl
        refine dM (i:=4) (N:=some 79) (v:=?_) (a':=?_) #[true,true,true,true,true,false,false,false,false] rfl rfl (by kernel_rfl) (fun c a B h=>q9.out c a _ _ B h) (Or.inl ⟨by rfl,?_⟩) hHeld ?_ ?_;rotate_left
        ·rintro w' ⟨s,t,s0,s1,s2,s3,s4,s5,s6,s7⟩
         go_simp
         with_reducible rfl
        rotate_left
        ·simp only[Act.put,aYa,aYb,aYc,aG,aH];rfl
        refine kg (i:=5) (N:=some 80) #[true,true,true,true,true,true,false,false,false] rfl rfl (by kernel_rfl) (by decide) (fun K hK=>?_);refine Es Tryz.func123 (by kernel_rfl) rfl #[.pointer none,.agg #[.int .i64 c.f0,.int .i64 c.f1.f0,.string c.f1.f1,.string c.f1.f2,.int .i64 c.f1.f3,.slice C4 c.f1.f4.length lG,.slice C5 c.f1.f5.length lH,.slice C7 c.f2.length mU]] (by rfl) rfl rfl (by (try simp only[List.map_toArray,List.map_cons,List.map_nil]);first|done|rfl) ?_;refine (N7 c C4 lG C5 lH C7 mU Wd).mono ?_;rintro e Wz ⟨hbz,rfl⟩;refine .inr ⟨_,rfl,?_⟩;exact PAN.out _ _ rfl HNO.out (DX.out.below hbz) (Hz.out.trans (jK.below hbz))
       | some y=>
        rw[hxa] at hop;obtain⟨ad,Y4,pO,Y5,oZ,hp0,hsy,LA⟩:=hop.six;subst hp0;have TS:=ah.mk hsy;have DW:=ah.mk LA;have HFY:=ah.mk (HF.out y (HHA.out.1 y hxa))
        obtain⟨q,hq⟩:∃q,qC y c=q:=⟨_,rfl⟩
        have HOU:ah (nW cs x.rd=q.map (fun z=>[z])):=⟨by rw[HOT.out,hxa,← hq];rfl⟩
        have afx:=ah.mk hq;clear hop hsy LA hxa hq HOP HOT
        cases q with
        | none=>
         have HNO:ah (o=none):=⟨acr.out (by rw[HOU.out];rfl)⟩
         gi_wp2_with fail
         have hdr:=bC (Below.refl Ws.heap.size Ws)
         obtain⟨Wd,hWd⟩:∃Wd,Ws.drew=Wd:=⟨_,rfl⟩
         have hdb:Below Ws.heap.size Ws Wd:=hWd▸hdr;have DX:=ah.mk (HIs.out.below hdb);obtain⟨va,hva,hra⟩:=DX.out.lb;obtain⟨Au,nu,cu,hvu⟩:=gK (Kd.Ho hra);subst hvu;have M8:=ah.mk hva;have yA:=ah.mk hra;have Hz:=ah.mk (CZ.out.trans (jK.below hdb));have vP:=ah.mk (show w7.heap.size≤Wd.heap.size from DX.out.big);have DY:=ah.mk (show Below w.heap.size w Wd from DX.out.low);have acu:=ah.mk (TS.out.below DY.out);have z2:Wd.cell? ⟨pl,0,none⟩=some (.slice Au nu cu):=ak hva 0;have Ie:=ah.mk (show Wd.cell? ⟨pl,0,none⟩=some (.slice Au nu cu)∧Wd.cell? ⟨x.g,0,none⟩=some (.pointer (some ad))∧Wd.cell? ⟨k,0,none⟩=some (.int .i64 c.f0)∧Wd.cell? ⟨k,1,none⟩=some (.int .i64 c.f1.f0)∧Wd.cell? ⟨k,2,none⟩=some (.string c.f1.f1)∧Wd.cell? ⟨k,3,none⟩=some (.string c.f1.f2)∧Wd.cell? ⟨k,4,none⟩=some (.int .i64 c.f1.f3)∧Wd.cell? ⟨k,5,none⟩=some (.slice C4 c.f1.f4.length lG)∧Wd.cell? ⟨k,6,none⟩=some (.slice C5 c.f1.f5.length lH)∧Wd.cell? ⟨k,7,none⟩=some (.slice C7 c.f2.length mU) from⟨z2,aj hdb gs,aj hdb k0,aj hdb k1,aj hdb k2,aj hdb k3,aj hdb k4,aj hdb k5,aj hdb k6,aj hdb k7⟩);have Ig:=ah.mk (show ∀W':World,(W'.cell? ⟨pl,0,none⟩=some (.slice Au nu cu)∧W'.cell? ⟨x.g,0,none⟩=some (.pointer (some ad))∧W'.cell? ⟨k,0,none⟩=some (.int .i64 c.f0)∧W'.cell? ⟨k,1,none⟩=some (.int .i64 c.f1.f0)∧W'.cell? ⟨k,2,none⟩=some (.string c.f1.f1)∧W'.cell? ⟨k,3,none⟩=some (.string c.f1.f2)∧W'.cell? ⟨k,4,none⟩=some (.int .i64 c.f1.f3)∧W'.cell? ⟨k,5,none⟩=some (.slice C4 c.f1.f4.length lG)∧W'.cell? ⟨k,6,none⟩=some (.slice C5 c.f1.f5.length lH)∧W'.cell? ⟨k,7,none⟩=some (.slice C7 c.f2.length mU))→∀{W''},Below W'.heap.size W' W''→(W''.cell? ⟨pl,0,none⟩=some (.slice Au nu cu)∧W''.cell? ⟨x.g,0,none⟩=some (.pointer (some ad))∧W''.cell? ⟨k,0,none⟩=some (.int .i64 c.f0)∧W''.cell? ⟨k,1,none⟩=some (.int .i64 c.f1.f0)∧W''.cell? ⟨k,2,none⟩=some (.string c.f1.f1)∧W''.cell? ⟨k,3,none⟩=some (.string c.f1.f2)∧W''.cell? ⟨k,4,none⟩=some (.int .i64 c.f1.f3)∧W''.cell? ⟨k,5,none⟩=some (.slice C4 c.f1.f4.length lG)∧W''.cell? ⟨k,6,none⟩=some (.slice C5 c.f1.f5.length lH)∧W''.cell? ⟨k,7,none⟩=some (.slice C7 c.f2.length mU)) from fun W' h W'' hb=>⟨aj hb h.1,aj hb h.2.1,aj hb h.2.2.1,aj hb h.2.2.2.1,aj hb h.2.2.2.2.1,aj hb h.2.2.2.2.2.1,aj hb h.2.2.2.2.2.2.1,aj hb h.2.2.2.2.2.2.2.1,aj hb h.2.2.2.2.2.2.2.2.1,aj hb h.2.2.2.2.2.2.2.2.2⟩);clear hdr hva hra z2 hdb gs k0 k1 k2 k3 k4 k5 k6 k7;refine mX (n:=9) (S:=fun w'=>w'.cell? ⟨pl,0,none⟩=some (.slice Au nu cu)∧w'.cell? ⟨x.g,0,none⟩=some (.pointer (some ad))∧w'.cell? ⟨k,0,none⟩=some (.int .i64 c.f0)∧w'.cell? ⟨k,1,none⟩=some (.int .i64 c.f1.f0)∧w'.cell? ⟨k,2,none⟩=some (.string c.f1.f1)∧w'.cell? ⟨k,3,none⟩=some (.string c.f1.f2)∧w'.cell? ⟨k,4,none⟩=some (.int .i64 c.f1.f3)∧w'.cell? ⟨k,5,none⟩=some (.slice C4 c.f1.f4.length lG)∧w'.cell? ⟨k,6,none⟩=some (.slice C5 c.f1.f5.length lH)∧w'.cell? ⟨k,7,none⟩=some (.slice C7 c.f2.length mU)) (ds:=[7,8]) #[false,false,false,false,false,false,false,false,false] (by kernel_rfl) (by kernel_rfl) (by rintro⟨a,w',h⟩;exact Pw.out a w' h) rfl rfl (by rw[hWd];exact Ie.out) (fun hHeld=>?_);rw[hWd] at hHeld ⊢;clear hWd Ie;refine dM (i:=0) (N:=some 75) (v:=?_) (a':=?_) #[true,false,false,false,false,false,false,false,false] rfl rfl (by kernel_rfl) (fun c a B h=>q9.out c a _ _ B h) (Or.inl ⟨by rfl,?_⟩) hHeld ?_ ?_;rotate_left
         ·rintro w' ⟨s,t,s0,s1,s2,s3,s4,s5,s6,s7⟩
          go_simp
          with_reducible rfl
         rotate_left
         ·simp only[Act.put,aYa,aYb,aYc,aG,aH];rfl
         refine bA (i:=1) (N:=some 76) (v:=?_) (a':=?_) #[true,true,false,false,false,false,false,false,false] rfl rfl (by kernel_rfl) (fun c a B h=>q9.out c a _ _ B h) (Or.inl ⟨by rfl,?_⟩) ?_ ?_;rotate_left
         ·intro w'
          go_simp
          with_reducible rfl
         rotate_left
         ·simp only[Act.put,aYa,aYb,aYc,aG,aH];rfl
         refine bA (i:=2) (N:=some 77) (v:=?_) (a':=?_) #[true,true,true,false,false,false,false,false,false] rfl rfl (by kernel_rfl) (fun c a B h=>q9.out c a _ _ B h) (Or.inl ⟨by rfl,?_⟩) ?_ ?_;rotate_left
         ·intro w'
          go_simp
          with_reducible rfl
         rotate_left
         ·simp only[Act.put,aYa,aYb,aYc,aG,aH];rfl
         refine dM (i:=3) (N:=some 78) (v:=?_) (a':=?_) #[true,true,true,true,false,false,false,false,false] rfl rfl (by kernel_rfl) (fun c a B h=>q9.out c a _ _ B h) (Or.inl ⟨by rfl,?_⟩) hHeld ?_ ?_;rotate_left
         ·rintro w' ⟨s,t,s0,s1,s2,s3,s4,s5,s6,s7⟩
          go_simp
          with_reducible rfl
         rotate_left
         ·simp only[Act.put,aYa,aYb,aYc,aG,aH];rfl
         refine dM (i:=4) (N:=some 79) (v:=?_) (a':=?_) #[true,true,true,true,true,false,false,false,false] rfl rfl (by kernel_rfl) (fun c a B h=>q9.out c a _ _ B h) (Or.inl ⟨by rfl,?_⟩) hHeld ?_ ?_;rotate_left
         ·rintro w' ⟨s,t,s0,s1,s2,s3,s4,s5,s6,s7⟩
          go_simp
          with_reducible rfl
         rotate_left
         ·simp only[Act.put,aYa,aYb,aYc,aG,aH];rfl
         refine kg (i:=5) (N:=some 80) #[true,true,true,true,true,true,false,false,false] rfl rfl (by kernel_rfl) (by decide) (fun K hK=>?_);refine Es Tryz.func123 (by kernel_rfl) rfl #[.pointer (some ad),.agg #[.int .i64 c.f0,.int .i64 c.f1.f0,.string c.f1.f1,.string c.f1.f2,.int .i64 c.f1.f3,.slice C4 c.f1.f4.length lG,.slice C5 c.f1.f5.length lH,.slice C7 c.f2.length mU]] (by rfl) rfl rfl (by (try simp only[List.map_toArray,List.map_cons,List.map_nil]);first|done|rfl) ?_;have hed:=Ej y ad Y4 pO Y5 oZ c C4 lG C5 lH C7 mU Wd acu.out (DW.out.below DY.out) HFY.out HFE.out Lf.out.l4 (Kd.aC Lf.out.g4 DY.out) Lf.out.l5 (Kd.aC Lf.out.g5 DY.out) Lf.out.l7 (Kd.aC Lf.out.g7 DY.out);rw[afx.out] at hed;refine hed.mono ?_;clear hed;rintro e Wz ⟨hbz,rfl⟩;refine .inr ⟨_,rfl,?_⟩;exact PAN.out _ _ rfl HNO.out (DX.out.below hbz) (Hz.out.trans (jK.below hbz))
        | some z=>
         have HGO:ah (jX cs ((pre++[x]).map Two.nL.rd) []=some (S0++[z])):=⟨by rw[Yg.out,HOU.out];rfl⟩
         gi_wp2_with fail
         have hdr:=bC (Below.refl Ws.heap.size Ws)
         obtain⟨Wd,hWd⟩:∃Wd,Ws.drew=Wd:=⟨_,rfl⟩
         have hdb:Below Ws.heap.size Ws Wd:=hWd▸hdr;have DX:=ah.mk (HIs.out.below hdb);obtain⟨va,hva,hra⟩:=DX.out.lb;obtain⟨Au,nu,cu,hvu⟩:=gK (Kd.Ho hra);subst hvu;have M8:=ah.mk hva;have yA:=ah.mk hra;have Hz:=ah.mk (CZ.out.trans (jK.below hdb));have vP:=ah.mk (show w7.heap.size≤Wd.heap.size from DX.out.big);have DY:=ah.mk (show Below w.heap.size w Wd from DX.out.low);have acu:=ah.mk (TS.out.below DY.out);have z2:Wd.cell? ⟨pl,0,none⟩=some (.slice Au nu cu):=ak hva 0;have Ie:=ah.mk (show Wd.cell? ⟨pl,0,none⟩=some (.slice Au nu cu)∧Wd.cell? ⟨x.g,0,none⟩=some (.pointer (some ad))∧Wd.cell? ⟨k,0,none⟩=some (.int .i64 c.f0)∧Wd.cell? ⟨k,1,none⟩=some (.int .i64 c.f1.f0)∧Wd.cell? ⟨k,2,none⟩=some (.string c.f1.f1)∧Wd.cell? ⟨k,3,none⟩=some (.string c.f1.f2)∧Wd.cell? ⟨k,4,none⟩=some (.int .i64 c.f1.f3)∧Wd.cell? ⟨k,5,none⟩=some (.slice C4 c.f1.f4.length lG)∧Wd.cell? ⟨k,6,none⟩=some (.slice C5 c.f1.f5.length lH)∧Wd.cell? ⟨k,7,none⟩=some (.slice C7 c.f2.length mU) from⟨z2,aj hdb gs,aj hdb k0,aj hdb k1,aj hdb k2,aj hdb k3,aj hdb k4,aj hdb k5,aj hdb k6,aj hdb k7⟩);have Ig:=ah.mk (show ∀W':World,(W'.cell? ⟨pl,0,none⟩=some (.slice Au nu cu)∧W'.cell? ⟨x.g,0,none⟩=some (.pointer (some ad))∧W'.cell? ⟨k,0,none⟩=some (.int .i64 c.f0)∧W'.cell? ⟨k,1,none⟩=some (.int .i64 c.f1.f0)∧W'.cell? ⟨k,2,none⟩=some (.string c.f1.f1)∧W'.cell? ⟨k,3,none⟩=some (.string c.f1.f2)∧W'.cell? ⟨k,4,none⟩=some (.int .i64 c.f1.f3)∧W'.cell? ⟨k,5,none⟩=some (.slice C4 c.f1.f4.length lG)∧W'.cell? ⟨k,6,none⟩=some (.slice C5 c.f1.f5.length lH)∧W'.cell? ⟨k,7,none⟩=some (.slice C7 c.f2.length mU))→∀{W''},Below W'.heap.size W' W''→(W''.cell? ⟨pl,0,none⟩=some (.slice Au nu cu)∧W''.cell? ⟨x.g,0,none⟩=some (.pointer (some ad))∧W''.cell? ⟨k,0,none⟩=some (.int .i64 c.f0)∧W''.cell? ⟨k,1,none⟩=some (.int .i64 c.f1.f0)∧W''.cell? ⟨k,2,none⟩=some (.string c.f1.f1)∧W''.cell? ⟨k,3,none⟩=some (.string c.f1.f2)∧W''.cell? ⟨k,4,none⟩=some (.int .i64 c.f1.f3)∧W''.cell? ⟨k,5,none⟩=some (.slice C4 c.f1.f4.length lG)∧W''.cell? ⟨k,6,none⟩=some (.slice C5 c.f1.f5.length lH)∧W''.cell? ⟨k,7,none⟩=some (.slice C7 c.f2.length mU)) from fun W' h W'' hb=>⟨aj hb h.1,aj hb h.2.1,aj hb h.2.2.1,aj hb h.2.2.2.1,aj hb h.2.2.2.2.1,aj hb h.2.2.2.2.2.1,aj hb h.2.2.2.2.2.2.1,aj hb h.2.2.2.2.2.2.2.1,aj hb h.2.2.2.2.2.2.2.2.1,aj hb h.2.2.2.2.2.2.2.2.2⟩);clear hdr hva hra z2 hdb gs k0 k1 k2 k3 k4 k5 k6 k7;refine mX (n:=9) (S:=fun w'=>w'.cell? ⟨pl,0,none⟩=some (.slice Au nu cu)∧w'.cell? ⟨x.g,0,none⟩=some (.pointer (some ad))∧w'.cell? ⟨k,0,none⟩=some (.int .i64 c.f0)∧w'.cell? ⟨k,1,none⟩=some (.int .i64 c.f1.f0)∧w'.cell? ⟨k,2,none⟩=some (.string c.f1.f1)∧w'.cell? ⟨k,3,none⟩=some (.string c.f1.f2)∧w'.cell? ⟨k,4,none⟩=some (.int .i64 c.f1.f3)∧w'.cell? ⟨k,5,none⟩=some (.slice C4 c.f1.f4.length lG)∧w'.cell? ⟨k,6,none⟩=some (.slice C5 c.f1.f5.length lH)∧w'.cell? ⟨k,7,none⟩=some (.slice C7 c.f2.length mU)) (ds:=[7,8]) #[false,false,false,false,false,false,false,false,false] (by kernel_rfl) (by kernel_rfl) (by rintro⟨a,w',h⟩;exact Pw.out a w' h) rfl rfl (by rw[hWd];exact Ie.out) (fun hHeld=>?_);rw[hWd] at hHeld ⊢;clear hWd Ie;refine dM (i:=0) (N:=some 75) (v:=?_) (a':=?_) #[true,false,false,false,false,false,false,false,false] rfl rfl (by kernel_rfl) (fun c a B h=>q9.out c a _ _ B h) (Or.inl ⟨by rfl,?_⟩) hHeld ?_ ?_;rotate_left
         ·rintro w' ⟨s,t,s0,s1,s2,s3,s4,s5,s6,s7⟩
          go_simp
          with_reducible rfl
         rotate_left
         ·simp only[Act.put,aYa,aYb,aYc,aG,aH];rfl
         refine bA (i:=1) (N:=some 76) (v:=?_) (a':=?_) #[true,true,false,false,false,false,false,false,false] rfl rfl (by kernel_rfl) (fun c a B h=>q9.out c a _ _ B h) (Or.inl ⟨by rfl,?_⟩) ?_ ?_;rotate_left
         ·intro w'
          go_simp
          with_reducible rfl
         rotate_left
         ·simp only[Act.put,aYa,aYb,aYc,aG,aH];rfl
         refine bA (i:=2) (N:=some 77) (v:=?_) (a':=?_) #[true,true,true,false,false,false,false,false,false] rfl rfl (by kernel_rfl) (fun c a B h=>q9.out c a _ _ B h) (Or.inl ⟨by rfl,?_⟩) ?_ ?_;rotate_left
         ·intro w'
          go_simp
          with_reducible rfl
         rotate_left
         ·simp only[Act.put,aYa,aYb,aYc,aG,aH];rfl
         refine dM (i:=3) (N:=some 78) (v:=?_) (a':=?_) #[true,true,true,true,false,false,false,false,false] rfl rfl (by kernel_rfl) (fun c a B h=>q9.out c a _ _ B h) (Or.inl ⟨by rfl,?_⟩) hHeld ?_ ?_;rotate_left
         ·rintro w' ⟨s,t,s0,s1,s2,s3,s4,s5,s6,s7⟩
          go_simp
          with_reducible rfl
         rotate_left
         ·simp only[Act.put,aYa,aYb,aYc,aG,aH];rfl
         refine dM (i:=4) (N:=some 79) (v:=?_) (a':=?_) #[true,true,true,true,true,false,false,false,false] rfl rfl (by kernel_rfl) (fun c a B h=>q9.out c a _ _ B h) (Or.inl ⟨by rfl,?_⟩) hHeld ?_ ?_;rotate_left
         ·rintro w' ⟨s,t,s0,s1,s2,s3,s4,s5,s6,s7⟩
          go_simp
          with_reducible rfl
         rotate_left
         ·simp only[Act.put,aYa,aYb,aYc,aG,aH];rfl
         refine kg (i:=5) (N:=some 80) #[true,true,true,true,true,true,false,false,false] rfl rfl (by kernel_rfl) (by decide) (fun K hK=>?_);refine Es Tryz.func123 (by kernel_rfl) rfl #[.pointer (some ad),.agg #[.int .i64 c.f0,.int .i64 c.f1.f0,.string c.f1.f1,.string c.f1.f2,.int .i64 c.f1.f3,.slice C4 c.f1.f4.length lG,.slice C5 c.f1.f5.length lH,.slice C7 c.f2.length mU]] (by rfl) rfl rfl (by (try simp only[List.map_toArray,List.map_cons,List.map_nil]);first|done|rfl) ?_;have hed:=Ej y ad Y4 pO Y5 oZ c C4 lG C5 lH C7 mU Wd acu.out (DW.out.below DY.out) HFY.out HFE.out Lf.out.l4 (Kd.aC Lf.out.g4 DY.out) Lf.out.l5 (Kd.aC Lf.out.g5 DY.out) Lf.out.l7 (Kd.aC Lf.out.g7 DY.out);rw[afx.out] at hed;refine hed.mono ?_;clear hed;rintro e Wz ⟨hbz,v4,v5,rfl,hr4,jR⟩;have vC:=ah.mk (aD M8.out hbz);have vV:=ah.mk (Kd.jI yA.out hbz);have HRX:=ah.mk (Kd.rP (ok':=fun k=>True∧¬Wd.heap.size≤k) (Kd.Rm yA.out hbz) (fun k hk=>⟨trivial,by have:=hk.2;omega⟩));have HIZ:=ah.mk (DX.out.below hbz);have Px:=ah.mk (Hz.out.trans (jK.below hbz));have Py:=ah.mk (show w7.heap.size≤Wz.heap.size from Nat.le_trans vP.out hbz.size);have Pz:=ah.mk (show ∀k,Wd.heap.size≤k→True∧some k≠(Value.slice Au nu cu).ownBlock from fun k hk=>⟨trivial,fun e=>by have:=Kd.Yh yA.out k e.symm;omega⟩);have PD:=ah.mk (uP Wz w7.heap.size (fun k=>Wd.heap.size≤k) z (Kd.fC (Kd.dJ (Kd.fZ hr4) (fun k hk=>hk.2.1)) vP.out) (Kd.fC (Kd.dJ (Kd.fZ jR) (fun k hk=>hk.2.1)) vP.out));refine .inl ⟨_,rfl,hK.out _ _ (Ig.out _ hHeld hbz) (fun hHeld=>?_)⟩;clear hK K hr4 jR hbz;refine eB (a':=?_) ?_ ?_;rotate_left
         ·show Act.put _ (some 80) _=_
          simp only[Act.put,aYa,aYb,aYc,aG,aH];rfl
         refine kg (i:=6) (N:=some 81) #[true,true,true,true,true,true,true,false,false] rfl rfl (by kernel_rfl) (by decide) (fun K hK=>?_);refine nD (v:=.slice (some ⟨Wz.heap.size,0,none⟩) 1 1) (w1:=Wz.alloc (.cells #[.int .i64 z.f0,.string z.f1,.string z.f2,.int .i64 z.f3,v4,v5] 29)) (by rfl) rfl ?_ ?_
         ·go_simp
          try rfl
         have hal:=(Below.refl Wz.heap.size Wz).alloc (Nat.le_refl _) (.cells #[.int .i64 z.f0,.string z.f1,.string z.f2,.int .i64 z.f3,v4,v5] 29);refine hK.out _ _ (Ig.out _ hHeld hal) (fun hHeld=>?_);clear hK K hal;refine eB (a':=?_) ?_ ?_;rotate_left
         ·show Act.put _ (some 81) _=_
          simp only[Act.put,aYa,aYb,aYc,aG,aH];rfl
         refine kC (i:=7) (N:=some 82) #[true,true,true,true,true,true,true,true,false] rfl rfl (by kernel_rfl) (by decide) (fun K hK=>?_);refine Kd.tO oW (w0:=Wz) w7.heap.size (by rfl) (.tmp 75) (.tmp 81) 25 29 (.agg #[.int .i64 0,.string ⟨#[]⟩,.string ⟨#[]⟩,.int .i64 0,.slice none 0 0,.slice none 0 0]) 96 rfl Tryz.underlying25 DV rfl (by show 0<6;decide) (by decide) (.slice Au nu cu) S0 z [.int .i64 z.f0,.string z.f1,.string z.f2,.int .i64 z.f3,v4,v5] (fun _=>True) (fun k=>Wd.heap.size≤k) rfl rfl PD.out Pz.out (fun _ _=>trivial) HRX.out (Below.refl _ _) Py.out (by have:=Yf.out;omega) ?_;intro v1 w1 hr1 _hb hg1 mK;obtain⟨yu,FB,yw,hv1⟩:=gK (Kd.Ho hr1);subst hv1;have hbx:=(hg1.block _ (bD vC.out) (jr (Kd.Ho vV.out) vC.out (fun cs e=>by injection e with _ e;exact absurd e (by decide)))).trans vC.out;have Xp:w1.cell? ⟨pl,0,none⟩=some (.slice Au nu cu):=ak hbx 0;have f10:=av hbx 0;have M9:=ah.mk (HIZ.out.push vC.out vV.out hr1 hg1 zl (by omega) ⟨by omega,by omega⟩);have PE:=ah.mk (Px.out.trans ((jK.grown (G:=fun k=>k=pl) (T:=fun q=>q=29) (Kd.Ho vV.out) (Nat.le_refl _) rfl hg1).trans (jK.set (G:=fun k=>k=pl) rfl 0 (.slice yu FB yw))));clear hr1 _hb hg1 mK hbx;refine hK.out _ _ ?_;clear hK K hHeld;refine eB (a':=?_) ?_ ?_;rotate_left
         ·show Act.put _ (some 82) _=_
          simp only[Act.put,aYa,aYb,aYc,aG,aH];rfl
         refine kC (i:=8) (N:=none) #[true,true,true,true,true,true,true,true,true] rfl rfl (by kernel_rfl) (by decide) (fun K hK=>?_);refine sM (w1:=w1.setCell ⟨pl,0,none⟩ (.slice yu FB yw)) (by rfl) rfl ?_ ?_
         ·go_simp
         refine hK.out _ _ ?_;clear hK K;refine ku (by kernel_rfl) ?_;exact FIN.out _ _ _ HGO.out M9.out PE.out
      ·have e3:(c.f0 == 3)=false:=beq_eq_false_iff_ne.2 h3
       have HOT:ah (nW cs x.rd=if x.a=none then none else some []):=⟨by rw[HOS.out,if_neg h2,if_neg h3]⟩
       have hop:=HOP.out;clear hbk h2 h3
       cases hxa:x.a with
       | none=>
        rw[hxa] at hop;have hop:p0=.pointer none:=hop;subst hop
        have HNO:ah (o=none):=⟨acr.out (by rw[HOT.out,hxa];rfl)⟩
        clear hxa HOP
        gi_wp2_with fail
        exact PAN.out _ _ rfl HNO.out HIs.out CZ.out
       | some y=>
        rw[hxa] at hop;obtain⟨ad,Y4,pO,Y5,oZ,hp0,hsy,LA⟩:=hop.six;subst hp0
        have HGO:ah (jX cs ((pre++[x]).map Two.nL.rd) []=some S0):=⟨by rw[Yg.out,HOT.out,hxa,if_neg (by simp)];simp⟩
        clear hop hsy LA hxa HOP
        gi_wp2_with fail
        exact FIN.out _ _ _ HGO.out HIs.out CZ.out
   case done=>
    rintro xs W hxs hlt ⟨akP,S,hS,hi⟩ hd;have Vm:xs.map Two.nL.rd=rs:=hxs;rw[Vm] at hS
    have HOO:ah (o=some S):=⟨HOG.out.symm.trans hS⟩
    obtain⟨v,hv,Lc⟩:=hi.lb;obtain⟨Av,nv,cv,hvs⟩:=gK (Kd.Ho Lc);subst hvs;have hne:=aaz (show w.heap.size+1=pl from hpl) SY hpz;have y1:W.cell? ⟨pl,0,none⟩=some (.slice Av nv cv):=ak hv 0;have f1:=av hv 0;have l1:=bD hv;have Yd:=hi.ob;have Vn:(W.setCell ⟨pl,0,none⟩ (.slice Av nv cv)).heap[pl+1]?=some (.cells #[.bool false] 4 (0,0)):=gX Yd (by show pl+1≠pl;omega) _;have y2:(W.setCell ⟨pl,0,none⟩ (.slice Av nv cv)).cell? ⟨pl+1,0,none⟩=some (.bool false):=ak Vn 0;have f2:=av Vn 0;have l2:=bD Vn;have HLW:=ah.mk hi.low;have HV:=ah.mk hv;have HRV:=ah.mk Lc;have akQ:=ah.mk Vn;have M9:=ah.mk hd;have HBG:=ah.mk hi.big;clear hxs Vm hS akP hi hv Lc Yd Vn hd HI0 afs HT Wy HOG HR1 HS zC HX HX1 HF HE HR;refine Pv ?_;refine rE ?_
    go_wp2_with fail
    exact Yc hpl zl hne HOO.out HLW.out HV.out HRV.out M9.out akQ.out rfl rfl (by rw[SY])
   case pan=>
    rintro ch W hlt ⟨rfl,ho,hlow,⟨v,hv⟩,Yd⟩ hd;have hne:=aaz (show w.heap.size+1=pl from hpl) SY hpz;refine SX ?_;exact Ye hpl zl hne ho hlow hv Yd hd rfl rfl rfl
end Go.Proofs.YtknihldkhedpkaaGreatDoor
