import Derived.Test.YtknihldkhedpkaaGreatDoorYYG14
import Derived.Test.YtknihldkhedpkaaGreatDoorYYG11
set_option linter.all false
set_option maxHeartbeats 16000000
set_option maxRecDepth 100000
namespace Go.Proofs.YtknihldkhedpkaaGreatDoor
open Go.RowKit Go.Lib
open Go.Proofs.YtknihldkhedpkaaGreatDoorW.PrintWords Go.Proofs.YtknihldkhedpkaaGreatDoorW.PrintLast Go.Proofs.YtknihldkhedpkaaGreatDoor.PT
def pE:Nat→Int→List pR→List Int→Option (List pR × List Int)
 | 0,_,_,_=>none
 | f+1,k,acc,l=>if k=0 then some (acc,l) else match jc k l with
  | none=>none
  | some (c,l1)=>match gF 1 l1 with
   | none=>none
   | some (k2,l2)=>pE f k2 (acc++[c]) l2
def Er (b g:Int):Option (List pR × List Int)→Option (Int × Int × List pR)
 | none=>none
 | some (cs,l5)=>match lK 8 l5 with
  | none=>none
  | some (_,l6)=>if l6=[] then some (b,g,cs) else none
def qj (l:List Int):Option (Int × Int × List pR):=match lK 8 l with
 | none=>none
 | some (m,l1)=>if m=iE then match gF 4 l1 with
   | none=>none
   | some (b,l2)=>match gF 4 l2 with
    | none=>none
    | some (g,l3)=>match gF 1 l3 with
     | none=>none
     | some (k,l4)=>Er b g (pE (l.length+1) k [] l4)
  else none
theorem nZ {w A C:World} {g:Nat} (h:Below w.heap.size w A) (hf:Ft g A C) (hg:w.heap.size≤g):Below w.heap.size w C :=
 ⟨hf.os.trans h.os,hf.tape.trans h.tape,hf.output.trans h.output,Nat.le_trans h.size hf.size,fun k hk=>by
  have hlt:k<A.heap.size:=Nat.lt_of_lt_of_le hk h.size;have h1:=Array.getElem?_eq_getElem hlt
  rcases hf.blocks k _ h1 with (e|⟨_,_,_,_,e⟩)|e
  ·omega
  ·exact e.elim
  ·rw[e,← h1,h.block k hk]⟩
theorem Sd:strOfNums iE=⟨#[118,108,112,97,116,99,104,1]⟩:=by decide
theorem Oj:(strOfNums iE).toList=[118,108,112,97,116,99,104,1]:=by rw[Sd,Lib.toList_data]
theorem Es {P:Program} {ops:Array Oper} {Q:Exit→Act→World→Prop} {oi:Oper} {N:Option Tmp} {a:Act} {w:World} {K:Act→World→Prop} {f:FuncId} {fn:Func} {ars:Array Operand} {ts:Array TypeId} (hf:P.funcs[f]?=some fn) (hname:(fn.name == "runtime.NumGoroutine")=false) (hb:fn.body.isSome=true) (args:Array Value)
  (hw:Region.wanted oi (yielded ops a.tmps)=true) (hN:oi.dst=N) (hop:oi.op=.call { callee:=.value (.func f),args:=ars,argTypes:=ts }) (hargs:ars.map a.eval=args)
  (h:Calls P f args w fun e w'=>(∃v,e=.returned v∧K (a.put N v) w')∨∃c,e=.panicked c∧Q (.panic c) a w'):if Region.wanted oi (yielded ops a.tmps)=true then Oper.wp P oi a w K Q else K (a.put N undef) w:=by
 rw[if_pos hw];subst hN;have he:=JW hf hname hb args w
 have hrun:(execOp a.eval oi).run P w=.ok (.enter f args) w:=by
  unfold execOp;simp[hop,resolve,Deferred.ofValue,invoke,Act.eval,hargs,he]
 unfold Oper.wp;rw[hrun,Oper.upon_enter]
 refine h.mono fun e w'' hh=>?_
 rcases hh with⟨v,rfl,hk⟩|⟨c,rfl,hk⟩
 ·exact hk
 ·exact hk
def ai5 (w:World) (o:Option (Int × Int × List pR)) (w':World):Prop :=
 ∃(b g:Int) (v:Value) (cs:List pR) (ok:Bool),w'.heap[w.heap.size]?=some (.cells #[.int .i64 b,.int .i64 g,v] 24 (0,0))∧w'.heap[w.heap.size+1]?=some (.cells #[.bool ok] 4 (0,0))∧Kd.R GZ 31 w' w.heap.size (fun _=>True) v cs∧(o=if ok then some (b,g,cs) else none)∧Below w.heap.size w w'
def ai6 (w:World) (o:Option (Int × Int × List pR)) (w':World):Prop :=
 o=none∧∃x0 x1 x2 y0,w'.heap[w.heap.size]?=some (.cells #[x0,x1,x2] 24 (0,0))∧w'.heap[w.heap.size+1]?=some (.cells #[y0] 4 (0,0))∧Below w.heap.size w w'
def tN (w:World) (o:Option (Int × Int × List pR)) (e:Exit) (a:Act) (w':World):Prop :=
 a.tmps.getD 2 undef=.pointer (some ⟨w.heap.size,0,none⟩)∧a.tmps.getD 3 undef=.pointer (some ⟨w.heap.size+1,0,none⟩) ∧
 a.defers=[{ target:=.fn (.func 96) #[.pointer (some ⟨w.heap.size,0,none⟩),.pointer (some ⟨w.heap.size+1,0,none⟩)],args:=#[] }] ∧
 match e with
 | .ret=>ai5 w o w'
 | .panic c=>c=[{ v:=.iface 141 (.agg #[]),recovered:=false }]∧ai6 w o w'
 | _=>False
theorem LX {a:Act} {i j:Nat} {v u:Value} (h:i≠j):(a.put (some i) v).tmps.getD j u=a.tmps.getD j u:=by
 simp only[Act.put,Array.getD_eq_getD_getElem?];rw[Array.getElem?_setIfInBounds_ne h]
theorem tN.put {w:World} {o:Option (Int × Int × List pR)} {c:List PanicEntry} {a:Act} {w':World} {i:Nat} {v:Value} (h2:i≠2) (h3:i≠3) (h:tN w o (.panic c) (a.put (some i) v) w'):tN w o (.panic c) a w' :=
 ⟨(LX h2).symm.trans h.1,(LX h3).symm.trans h.2.1,h.2.2.1,h.2.2.2⟩
def aew (w:World) (o:Option (Int × Int × List pR)) (e:Ending) (w':World):Prop:=Below w.heap.size w w'∧match o with
 | none=>∃(b g:Int) (A:Option Addr) (n c:Nat),e=.returned (.tuple #[.agg #[.int .i64 b,.int .i64 g,.slice A n c],.bool false])
 | some (b,g,cs)=>∃v,e=.returned (.tuple #[.agg #[.int .i64 b,.int .i64 g,v],.bool true])∧Kd.R GZ 31 w' w.heap.size (fun _=>True) v cs
theorem LY {fn:Func} {P:Program} {p1 p2:Tmp} {t1 t2:TypeId} (h:fn.results=#[.cell p1 t1,.cell p2 t2]) (tmps:Array Value) (w:World) (b1 b2:Nat) (cs:Array Value) (ok:Bool) (d:TypeDesc)
  (h1:tmps.getD p1 undef=.pointer (some ⟨b1,0,none⟩)) (h2:tmps.getD p2 undef=.pointer (some ⟨b2,0,none⟩)) (g1:w.heap[b1]?=some (.cells cs t1 (0,0))) (g2:w.heap[b2]?=some (.cells #[.bool ok] t2 (0,0)))
  (hu:P.underlying t1=some d) (hd:(match d with|.struct _|.array _ _=>true|_=>false)=true) (hi:(P.info? t1).map (·.size)=some cs.size) (ht2:∀w:World,(isAgg t2).run P w=.ok false w) :
  (results fn tmps).run P w=.ok (.tuple #[.agg cs,.bool ok]) w:=by
 have h1':tmps[p1]?.getD undef=.pointer (some ⟨b1,0,none⟩):=by simpa using h1
 have h2':tmps[p2]?.getD undef=.pointer (some ⟨b2,0,none⟩):=by simpa using h2
 have hc:w.cell? ⟨b2,0,none⟩=some (.bool ok):=ak g2 0;have e1:=run_loadVar_row w b1 t1 t1 cs (0,0) d g1 hu hd hi
 have e2:(loadVar t2 ⟨b2,0,none⟩).run P w=.ok (.bool ok) w:=by simp[hc,ht2,go_sem,Result.andThen]
 simp only[results,h];simp[h1',h2',asAddr,e1,e2,Result.andThen,Sem.run_bind]
theorem Xo {w:World} {o:Option (Int × Int × List pR)} (e:Exit) (a:Act) (w':World) (h:tN w o e a w'):bodyPostD Tryz.prog Tryz.f61 (fun e w'=>aew w o e w') e a w':=by
 obtain⟨h2,h3,hd,h⟩:=h
 cases e with
 | ret=>
  obtain⟨b,g,v,cs,ok,g1,g2,hr,ho,hb⟩:=h
  show Leaves _ _ a.tmps _ a.defers .returning w'
  rw[hd];refine leaves_cons (f:=96) (args:=#[.pointer (some ⟨w.heap.size,0,none⟩),.pointer (some ⟨w.heap.size+1,0,none⟩)]) (by simp) (by simp[go_sem]) ?_;refine (Og _ _ w').mono ?_;rintro e u' w2 ⟨rfl,rfl,rfl⟩;refine⟨_,LY rfl a.tmps w2 _ _ _ ok _ h2 h3 g1 g2 Tryz.underlying24 rfl (by kernel_rfl) LV,hb,?_⟩;subst ho
  cases ok with
  | true=>exact⟨_,rfl,hr⟩
  | false=>
   obtain⟨A,c,hv⟩:=Kd.bH hr;subst hv;exact⟨_,_,_,_,_,rfl⟩
 | panic c=>
  obtain⟨rfl,rfl,x0,x1,x2,y0,g1,g2,hb⟩:=h
  show Leaves _ _ a.tmps _ a.defers (.panicking _) w'
  rw[hd];refine leaves_cons (f:=96) (args:=#[.pointer (some ⟨w.heap.size,0,none⟩),.pointer (some ⟨w.heap.size+1,0,none⟩)]) (by simp) (by simp[go_sem]) ?_;refine (JU _ _ x0 x1 x2 y0 [] w' g1 g2).mono ?_;rintro e u' w2 ⟨rfl,rfl,k1,k2,hf⟩;refine⟨_,LY rfl a.tmps w2 _ _ _ false _ h2 h3 k1 k2 Tryz.underlying24 rfl (by kernel_rfl) LV,?_,_,_,_,_,_,rfl⟩;refine⟨hf.os.trans hb.os,hf.tape.trans hb.tape,hf.output.trans hb.output,Nat.le_trans hb.size hf.size,fun k hk=>?_⟩;have hlt:k<w'.heap.size:=Nat.lt_of_lt_of_le hk hb.size;have h1:=Array.getElem?_eq_getElem hlt
  rcases hf.blocks k _ h1 with ((e|e)|⟨_,_,_,_,e⟩)|e
  ·omega
  ·omega
  ·exact e.elim
  ·rw[e,← h1,hb.block k hk]
 | normal=>exact h.elim
 | exit _=>exact h.elim
 | goto _=>exact h.elim
 | outgrown=>exact h.elim
theorem Uw {l r:List Int} {x:It} (h:nY l=some (x,r)) (hl:By l):By r∧r.length≤l.length:=by
 unfold nY at h
 cases h1:gF 1 l with
 | none=>rw[h1] at h;cases h
 | some q=>
  obtain⟨k,l1⟩:=q;rw[h1] at h;dsimp only at h;have b1:=fD h1 hl
  cases h2:iF l1 with
  | none=>rw[h2] at h;cases h
  | some q=>
   obtain⟨p,l2⟩:=q;rw[h2] at h;dsimp only at h;have b2:=mW h2 b1.1;split at h
   ·cases h3:gF 8 l2 with
    | none=>rw[h3] at h;cases h
    | some q=>
     obtain⟨sz,l3⟩:=q;rw[h3] at h;dsimp only at h;have b3:=fD h3 b2.1
     cases h4:lg l3 with
     | none=>rw[h4] at h;cases h
     | some q=>
      obtain⟨rs,all,l4⟩:=q;rw[h4] at h;dsimp only at h;have b4:=nX h4 b3.1
      cases h5:o7 all l4 with
      | none=>rw[h5] at h;cases h
      | some q=>
       obtain⟨d,l5⟩:=q;rw[h5] at h;have b5:=zL h5 b4.1
       injection h with h
       injection h with _ h
       subst h;exact⟨b5.1,by omega⟩
   ·split at h
    ·cases h3:iF l2 with
     | none=>rw[h3] at h;cases h
     | some q=>
      obtain⟨t,l3⟩:=q;rw[h3] at h;have b3:=mW h3 b2.1
      injection h with h
      injection h with _ h
      subst h;exact⟨b3.1,by omega⟩
    ·injection h with h
     injection h with _ h
     subst h;exact⟨b2.1,by omega⟩
theorem Et {k:Int} {l r:List Int} {c:pR} (h:jc k l=some (c,r)) (hl:By l):By r∧r.length≤l.length:=by
 unfold jc at h;split at h
 ·cases h1:iF l with
  | none=>rw[h1] at h;cases h
  | some q=>
   obtain⟨p,l1⟩:=q;rw[h1] at h;have b1:=mW h1 hl
   injection h with h
   injection h with _ h
   subst h;exact⟨b1.1,by omega⟩
 ·split at h
  ·cases h1:nY l with
   | none=>rw[h1] at h;cases h
   | some q=>
    obtain⟨p,l1⟩:=q;rw[h1] at h;have b1:=Uw h1 hl
    injection h with h
    injection h with _ h
    subst h;exact b1
  ·split at h
   ·cases h1:iF l with
    | none=>rw[h1] at h;cases h
    | some q=>
     obtain⟨p,l1⟩:=q;rw[h1] at h;dsimp only at h;have b1:=mW h1 hl
     cases h2:gF 8 l1 with
     | none=>rw[h2] at h;cases h
     | some q=>
      obtain⟨sz,l2⟩:=q;rw[h2] at h;dsimp only at h;have b2:=fD h2 b1.1
      cases h3:lg l2 with
      | none=>rw[h3] at h;cases h
      | some q=>
       obtain⟨rs,a1,l3⟩:=q;rw[h3] at h;dsimp only at h;have b3:=nX h3 b2.1
       cases h4:lg l3 with
       | none=>rw[h4] at h;cases h
       | some q=>
        obtain⟨st,all,l4⟩:=q;rw[h4] at h;dsimp only at h;have b4:=nX h4 b3.1
        cases h5:o7 all l4 with
        | none=>rw[h5] at h;cases h
        | some q=>
         obtain⟨d,l5⟩:=q;rw[h5] at h;have b5:=zL h5 b4.1
         injection h with h
         injection h with _ h
         subst h;exact⟨b5.1,by omega⟩
   ·cases h
theorem Ol {g:Nat} {v:Value} {xs:List pR} {W W1:World} {B:Nat} {left:List Int} {base:Nat} (h:Kd.R GZ 31 W base (fun _=>True) v xs) (ht:Tk B W g left) (hf:Ft g W W1):Kd.R GZ 31 W1 base (fun _=>True) v xs :=
 Kd.dJ (Ur (w0:=W) h ht (by decide) hf) (fun _ _=>trivial)
theorem uj {α:Type} {d:Kd α} {e:Nat} {w:World} {b:Nat} {v:Value} {xs:List α} (h:d.R e w b (fun _=>True) v xs):d.R e w b (fun k=>b≤k) v xs:=Kd.dJ (Kd.fZ h) (fun k hk=>hk.2.1)
theorem Sg (A0:Option Addr) (c0:Nat) (left:List Int) (w:World) (hr:Kd.C (Kd.int .u8) w A0 left.length left) (hc:left.length≤c0) (hl:By left) :
  Calls Tryz.prog 61 #[.slice A0 left.length c0] w fun e w'=>aew w (qj left) e w':=by
 obtain⟨o,ho⟩:∃o,qj left=o:=⟨_,rfl⟩
 rw[ho];unfold qj at ho
 have hmf:∀(fn:Fn) (first cap:Array Value) (w:World),(Instr.makeFunc fn first cap).run Tryz.prog w=.ok (.func fn first cap) w:=fun _ _ _ _=>rfl
 have hlow:left≠[]→∀ad,A0=some ad→ad.block<w.heap.size:=fun hne ad he=>by
  have hn:0<left.length:=List.length_pos_iff.2 hne;obtain⟨Hu,h2,hcell⟩:=Kd.rU hr 0 (by omega) (by omega);rw[he] at h2;cases h2;have:=World.block_lt_of_cell? w _ hcell
  rwa [add_block] at this
 have hb0:=(Below.refl w.heap.size w).alloc (Nat.le_refl _) (.cells uh 24);have hb1:=hb0.alloc (by simp) (.cells #[.bool false] 4);have hb2:=hb1.alloc (by simp;omega) (.cells #[.slice A0 left.length c0] 145);have k0:(((w.alloc (.cells uh 24)).alloc (.cells #[.bool false] 4)).alloc (.cells #[.slice A0 left.length c0] 145)).heap[w.heap.size]?=some (.cells uh 24 (0,0)):=aJ (aJ (bK _ _) _) _;have k1:(((w.alloc (.cells uh 24)).alloc (.cells #[.bool false] 4)).alloc (.cells #[.slice A0 left.length c0] 145)).heap[w.heap.size+1]?=some (.cells #[.bool false] 4 (0,0)):=aJ (jW (by simp) _) _;have k2:(((w.alloc (.cells uh 24)).alloc (.cells #[.bool false] 4)).alloc (.cells #[.slice A0 left.length c0] 145)).heap[w.heap.size+1+1]?=some (.cells #[.slice A0 left.length c0] 145 (0,0)):=jW (by simp) _;have HR:=ah.mk hr;have HLW:=ah.mk hlow;unfold uh at hb0 hb1 hb2 k0 k1 k2;have HB:=ah.mk hb2;have Ld:=ah.mk k0;have jC:=ah.mk k1;have iK:=ah.mk k2;clear hr hlow hb0 hb1 hb2 k0 k1 k2
 go_enter_defers Tryz.func61,Tryz.ntmps61
 refine Code.wp_mono (fun e a w' h=>Xo e a w' h) ?_
 go_upto_region 3 with (fail)
 obtain⟨w1,hw1⟩:∃w1,((w.alloc (.cells #[.int .i64 0,.int .i64 0,.slice none 0 0] 24)).alloc (.cells #[.bool false] 4)).alloc (.cells #[.slice A0 left.length c0] 145)=w1:=⟨_,rfl⟩
 rw[hw1] at HB Ld jC iK ⊢;have HT1:=ah.mk (show Tk w.heap.size w1 (w.heap.size+1+1) left from⟨by omega,A0,c0,iK.out,hc,HLW.out,Kd.aC HR.out HB.out⟩);have Ux:=ah.mk jC.out;have HB1:=ah.mk HB.out;clear jC;have jC:=ah.mk Ld.out;clear Ld iK HR HLW hw1 HB
 have Om:w.heap.size≠w.heap.size+1+1:=by omega
 have hgj:w.heap.size+1≠w.heap.size+1+1:=by omega
 have hgb:w.heap.size≤w.heap.size+1+1:=by omega
 go_wp2_with fail
 cases h2:lK 8 left with
 | none=>
  rw[h2] at ho;have HE:=ah.mk (show o=none from ho.symm);refine (BM HT1.out hl (by decide) h2).mono ?_;intro e w9 hh;obtain⟨he,mJ⟩:=hh;unfold dN at he;subst he
  go_wp2_with fail
  exact⟨rfl,rfl,rfl,rfl,HE.out,_,_,_,_,mJ.box jC.out Om,mJ.box Ux.out hgj,nZ HB1.out mJ hgb⟩
 | some q=>
  obtain⟨m,l1⟩:=q;rw[h2] at ho;dsimp only at ho;refine (xE HT1.out hl h2).mono ?_;rintro e w2 ⟨A2,rfl,hc2,ht2,hf2⟩;have hstr:=Kd.pW (P:=Tryz.prog) (c:=8) (src:=27) (dst:=9) Tryz.underlying27 Tryz.underlying5 Tryz.underlying9 hc2;obtain⟨hm,hl1,hm8,hlen1⟩:=uf h2 hl
  have hms:((strOfNums m).toList == [118,108,112,97,116,99,104,1])=decide (m=iE):=by rw[← Oj];exact um hm.2 (by decide)
  have HT2:=ah.mk ht2;have HB2:=ah.mk (nZ HB1.out hf2 hgb);have iK:=ah.mk (hf2.box jC.out Om);have HJ2:=ah.mk (hf2.box Ux.out hgj);clear ht2 hf2;by_cases hmc:m=iE
  ·rw[if_pos hmc] at ho;rw[decide_eq_true hmc] at hms;clear hc2 hm hm8 hmc
   go_wp2_with fail
   cases h3:gF 4 l1 with
   | none=>
    rw[h3] at ho;have HE:=ah.mk (show o=none from ho.symm);refine (lN HT2.out (by decide) hl1 h3).mono ?_;intro e w9 hh;obtain⟨he,mJ⟩:=hh;unfold dN at he;subst he
    go_wp2_with fail
    exact⟨rfl,rfl,rfl,rfl,HE.out,_,_,_,_,mJ.box iK.out Om,mJ.box HJ2.out hgj,nZ HB2.out mJ hgb⟩
   | some q=>
    obtain⟨b,l2⟩:=q;rw[h3] at ho;dsimp only at ho;refine (lM HT2.out (by decide) hl1 h3).mono ?_;rintro e w3 ⟨rfl,ht3,hf3⟩;have HT3:=ah.mk ht3;have HB3:=ah.mk (nZ HB2.out hf3 hgb);have qg:=ah.mk (hf3.box iK.out Om);have HJ3:=ah.mk (hf3.box HJ2.out hgj);clear ht3 hf3;have hl2:=(fD h3 hl1).1;have nl2:=(fD h3 hl1).2
    go_wp2_with fail
    cases h4:gF 4 l2 with
    | none=>
     rw[h4] at ho;have HE:=ah.mk (show o=none from ho.symm);refine (lN HT3.out (by decide) hl2 h4).mono ?_;intro e w9 hh;obtain⟨he,mJ⟩:=hh;unfold dN at he;subst he
     go_wp2_with fail
     exact⟨rfl,rfl,rfl,rfl,HE.out,_,_,_,_,mJ.box qg.out Om,mJ.box HJ3.out hgj,nZ HB3.out mJ hgb⟩
    | some q=>
     obtain⟨gg,l3⟩:=q;rw[h4] at ho;dsimp only at ho;refine (lM HT3.out (by decide) hl2 h4).mono ?_;rintro e w4 ⟨rfl,Us,tX⟩;have QC:=ah.mk Us;have mH:=ah.mk (nZ HB3.out tX hgb);have vT:=ah.mk (tX.box qg.out Om);have HJ4:=ah.mk (tX.box HJ3.out hgj);clear Us tX;have hl3:=(fD h4 hl2).1;have nl3:=(fD h4 hl2).2;have z4:=bD vT.out;have f40:=av vT.out 0;have f41:=av vT.out 1;have y40:w4.cell? ⟨w.heap.size,0,none⟩=some _:=ak vT.out 0;have y41:w4.cell? ⟨w.heap.size,1,none⟩=some _:=ak vT.out 1;have s0:=dD vT.out 0 (.int .i64 b);have s1:=dD s0 1 (.int .i64 gg)
     obtain⟨w5,BN⟩:∃w5,(w4.setCell ⟨w.heap.size,0,none⟩ (.int .i64 b)).setCell ⟨w.heap.size,1,none⟩ (.int .i64 gg)=w5:=⟨_,rfl⟩
     have oV:=ah.mk (show w5.heap[w.heap.size]?=some (.cells #[.int .i64 b,.int .i64 gg,.slice none 0 0] 24 (0,0)) by rw[← BN];simpa using s1);have HJ5:=ah.mk (show w5.heap[w.heap.size+1]?=some (.cells #[.bool false] 4 (0,0)) by rw[← BN];exact ((Below.heap_setCell _ ⟨w.heap.size,1,none⟩ _ _ (by show w.heap.size+1≠w.heap.size;omega)).trans (Below.heap_setCell _ ⟨w.heap.size,0,none⟩ _ _ (by show w.heap.size+1≠w.heap.size;omega))).trans HJ4.out);have Oc:=ah.mk (show Tk w.heap.size w5 (w.heap.size+1+1) l3 by rw[← BN];exact (QC.out.set _ (Nat.le_refl _) (by omega)).set _ (Nat.le_refl _) (by omega));have iV:=ah.mk (show Below w.heap.size w w5 by rw[← BN];exact (mH.out.setCell (Nat.le_refl _) _).setCell (Nat.le_refl _) _);clear s0 s1
     go_wp2_with fail
     try rw[BN]
     clear BN z4 f40 f41 y40 y41
     cases h6:gF 1 l3 with
     | none=>
      rw[h6] at ho;have HE:=ah.mk (show o=none from ho.symm);refine (lN Oc.out (by decide) hl3 h6).mono ?_;intro e w9 hh;obtain⟨he,mJ⟩:=hh;unfold dN at he;subst he
      go_wp2_with fail
      exact⟨rfl,rfl,rfl,rfl,HE.out,_,_,_,_,mJ.box oV.out Om,mJ.box HJ5.out hgj,nZ iV.out mJ hgb⟩
     | some q=>
      obtain⟨k,l4⟩:=q;rw[h6] at ho;dsimp only at ho;refine (lM Oc.out (by decide) hl3 h6).mono ?_;rintro e w6 ⟨rfl,ht6,Hq⟩;have LM:=ah.mk ht6;have qd:=ah.mk (nZ iV.out Hq hgb);have zF:=ah.mk (Hq.box oV.out Om);have HJ6:=ah.mk (Hq.box HJ5.out hgj);clear ht6 Hq;have hl4:=(fD h6 hl3).1;have nl4:=(fD h6 hl3).2;have HO:=ah.mk ho;have HL4:=ah.mk hl4
      have hn4:l4.length<left.length+1:=by have:=uf h2 hl;omega
      have sF:ah (Kd.R GZ 31 w6 w.heap.size (fun _=>True) (.slice none 0 0) []):=⟨Kd.fA _ _ _ _ _⟩
      clear ho h2 h3 h4 h6 hl1 hl2 hl3 hl4 nl2 nl3 nl4
      go_wp2_with fail
      go_loopg [5] (left.length+1) (fun gk s5 wx=>∃(k:Int) (rest:List Int) (acc:List pR) (v:Value),s5=.int .i64 k∧rest.length<gk∧gk≤left.length+1∧acc.length+gk≤left.length+1∧ah (Er b gg (pE gk k acc rest)=o)∧ah (By rest)∧ah (Kd.R GZ 31 wx w.heap.size (fun _=>True) v acc)∧ah (Tk w.heap.size wx (w.heap.size+1+1) rest)∧ah (wx.heap[w.heap.size]?=some (.cells #[.int .i64 b,.int .i64 gg,v] 24 (0,0)))∧ah (wx.heap[w.heap.size+1]?=some (.cells #[.bool false] 4 (0,0)))∧ah (Below w.heap.size w wx))
      case atStart=>exact⟨k,l4,[],.slice none 0 0,rfl,hn4,Nat.le_refl _,by simp,HO,HL4,sF,LM,zF,HJ6,qd⟩
      case round=>
       clear HO HL4 sF LM zF HJ6 qd hn4;obtain⟨kk,rest,acc,v,rfl,hrl,hgm,hal,HO,HL,HR,LM,zF,HJ6,qd⟩:=hrel
       cases gk with
       | zero=>omega
       | succ gk=>
        have ho:=HO.out;rw[pE] at ho;by_cases hk:kk=0
        ·rw[if_pos hk] at ho
         have hkb:(kk != 0)=false:=by rw[hk];rfl
         dsimp only[Er] at ho
         go_wp2_with fail
         cases h7:lK 8 rest with
         | none=>
          rw[h7] at ho;have HE:=ah.mk (show o=none from ho.symm);refine (BM LM.out HL.out (by decide) h7).mono ?_;intro e w9 hh;obtain⟨he,mJ⟩:=hh;unfold dN at he;subst he
          go_wp2_with fail
          exact⟨rfl,rfl,rfl,rfl,HE.out,_,_,_,_,mJ.box zF.out Om,mJ.box HJ6.out hgj,nZ qd.out mJ hgb⟩
         | some q=>
          obtain⟨x7,l6⟩:=q;rw[h7] at ho;dsimp only at ho;refine (xE LM.out HL.out h7).mono ?_;rintro e w7 ⟨A2,rfl,hc2,ht7,Wx⟩;have HR7:=ah.mk (Ol HR.out LM.out Wx);clear hc2;have HT7:=ah.mk ht7;have yh:=ah.mk (nZ qd.out Wx hgb);have LP:=ah.mk (Wx.box zF.out Om);have HJ7:=ah.mk (Wx.box HJ6.out hgj);clear ht7 Wx
          go_wp2_with fail
          have HE0:=ah.mk ho;obtain⟨Av,cv,hv⟩:=Kd.bH HR7.out;subst hv;obtain⟨_,A7,c7,hblk7,_⟩:=id HT7.out
          obtain⟨Wd,hWd⟩:∃Wd,w7.drew=Wd:=⟨_,rfl⟩
          have hdr:=bC (Below.refl w7.heap.size w7);rw[hWd] at hdr;have Si:=ah.mk (Kd.dh HR7.out hdr);have Hy:=ah.mk (aD LP.out hdr);have HJd:=ah.mk (aD HJ7.out hdr);have HGd:=ah.mk (aD hblk7 hdr);have TQ:=ah.mk (yh.out.trans (hdr.mono yh.out.size))
          have hS:Wd.cell? ⟨w.heap.size,0,none⟩=some (.int .i64 b)∧Wd.cell? ⟨w.heap.size,1,none⟩=some (.int .i64 gg)∧Wd.cell? ⟨w.heap.size,2,none⟩=some (.slice Av acc.length cv)∧Wd.cell? ⟨w.heap.size+1+1,0,none⟩=some (.slice A7 l6.length c7):=⟨ak Hy.out 0,ak Hy.out 1,ak Hy.out 2,ak HGd.out 0⟩
          clear hdr ho hblk7;refine kW (n:=9) (S:=fun w'=>w'.cell? ⟨w.heap.size,0,none⟩=some (.int .i64 b)∧w'.cell? ⟨w.heap.size,1,none⟩=some (.int .i64 gg)∧w'.cell? ⟨w.heap.size,2,none⟩=some (.slice Av acc.length cv)∧w'.cell? ⟨w.heap.size+1+1,0,none⟩=some (.slice A7 l6.length c7)) (ds:=[8]) #[false,false,false,false,false,false,false,false,false] (by kernel_rfl) rfl rfl (by rw[hWd];exact hS) (fun hHeld=>?_);rw[hWd] at hHeld ⊢;clear hWd hS;refine dM (i:=0) (N:=some 37) (v:=?_) (a':=?_) #[true,false,false,false,false,false,false,false,false] rfl rfl (by kernel_rfl) (fun _ _ _ h=>tN.put (by decide) (by decide) h) (Or.inl ⟨by rfl,?_⟩) hHeld ?_ ?_;rotate_left
          ·rintro w' ⟨s1,s2,s3,s4⟩
           go_simp
           with_reducible rfl
          rotate_left
          ·simp only[Act.put,aYa,aYb,aYc,aG,aH];rfl
          refine bA (i:=1) (N:=some 38) (v:=?_) (a':=?_) #[true,true,false,false,false,false,false,false,false] rfl rfl (by kernel_rfl) (fun _ _ _ h=>tN.put (by decide) (by decide) h) (Or.inl ⟨by rfl,?_⟩) ?_ ?_;rotate_left
          ·intro w'
           go_simp
           with_reducible rfl
          rotate_left
          ·simp only[Act.put,aYa,aYb,aYc,aG,aH];rfl
          refine bA (i:=2) (N:=some 39) (v:=?_) (a':=?_) #[true,true,true,false,false,false,false,false,false] rfl rfl (by kernel_rfl) (fun _ _ _ h=>tN.put (by decide) (by decide) h) (Or.inl ⟨by rfl,?_⟩) ?_ ?_;rotate_left
          ·intro w'
           go_simp
           with_reducible rfl
          rotate_left
          ·simp only[Act.put,aYa,aYb,aYc,aG,aH];rfl
          refine bA (i:=3) (N:=some 40) (v:=?_) (a':=?_) #[true,true,true,true,false,false,false,false,false] rfl rfl (by kernel_rfl) (fun _ _ _ h=>tN.put (by decide) (by decide) h) (Or.inl ⟨by rfl,?_⟩) ?_ ?_;rotate_left
          ·intro w'
           go_simp
           with_reducible rfl
          rotate_left
          ·simp only[Act.put,aYa,aYb,aYc,aG,aH];rfl
          refine dM (i:=4) (N:=some 41) (v:=?_) (a':=?_) #[true,true,true,true,true,false,false,false,false] rfl rfl (by kernel_rfl) (fun _ _ _ h=>tN.put (by decide) (by decide) h) (Or.inl ⟨by rfl,?_⟩) hHeld ?_ ?_;rotate_left
          ·rintro w' ⟨s1,s2,s3,s4⟩
           go_simp
           with_reducible rfl
          rotate_left
          ·simp only[Act.put,aYa,aYb,aYc,aG,aH];rfl
          refine bA (i:=5) (N:=some 42) (v:=?_) (a':=?_) #[true,true,true,true,true,true,false,false,false] rfl rfl (by kernel_rfl) (fun _ _ _ h=>tN.put (by decide) (by decide) h) (Or.inl ⟨by rfl,?_⟩) ?_ ?_;rotate_left
          ·intro w'
           go_simp
           with_reducible rfl
          rotate_left
          ·simp only[Act.put,aYa,aYb,aYc,aG,aH];rfl
          refine bA (i:=6) (N:=some 43) (v:=?_) (a':=?_) #[true,true,true,true,true,true,true,false,false] rfl rfl (by kernel_rfl) (fun _ _ _ h=>tN.put (by decide) (by decide) h) (Or.inl ⟨by rfl,?_⟩) ?_ ?_;rotate_left
          ·intro w'
           go_simp
           with_reducible rfl
          rotate_left
          ·simp only[Act.put,aYa,aYb,aYc,aG,aH];rfl
          refine kg (i:=7) (N:=none) #[true,true,true,true,true,true,true,true,false] rfl rfl (by kernel_rfl) (by decide) (fun K hK=>?_);rw[if_pos (by rfl)];refine wp_store_row 24 (.tmp 2) (.tmp 37) rfl w.heap.size #[.int .i64 b,.int .i64 gg,.slice Av acc.length cv] rfl rfl 24 _ Hy.out (by kernel_rfl) (by rfl) (by simp[Value.oneCell']) ?_;have k8:(Wd.setRow w.heap.size #[.int .i64 b,.int .i64 gg,.slice Av acc.length cv]).heap[w.heap.size]?=some (.cells #[.int .i64 b,.int .i64 gg,.slice Av acc.length cv] 24 (0,0)):=setRow_heap _ _ _ _ _ _ Hy.out;have j8:(Wd.setRow w.heap.size #[.int .i64 b,.int .i64 gg,.slice Av acc.length cv]).heap[w.heap.size+1]?=some (.cells #[.bool false] 4 (0,0)):=(setRow_other _ _ _ _ (by omega)).trans HJd.out;have y8:(Wd.setRow w.heap.size #[.int .i64 b,.int .i64 gg,.slice Av acc.length cv]).cell? ⟨w.heap.size+1,0,none⟩=some (.bool false):=ak j8 0;have f8:=av j8 0;have l8:=bD j8;have Xg:=ah.mk (jM Si.out Hy.out (by decide) #[.int .i64 b,.int .i64 gg,.slice Av acc.length cv]);have LQ:=ah.mk k8;have HJ8:=ah.mk j8;have Cz:=ah.mk (below_setRow TQ.out (Nat.le_refl _) #[.int .i64 b,.int .i64 gg,.slice Av acc.length cv]);have g8:(Wd.setRow w.heap.size #[.int .i64 b,.int .i64 gg,.slice Av acc.length cv]).cell? ⟨w.heap.size+1+1,0,none⟩=some (.slice A7 l6.length c7):=ak ((setRow_other _ _ _ _ (by omega)).trans HGd.out) 0;refine hK.out _ _ ⟨ak k8 0,ak k8 1,ak k8 2,g8⟩ (fun hHeld=>?_);clear hK K hHeld k8 j8 g8;refine kC (i:=8) (N:=none) #[true,true,true,true,true,true,true,true,true] rfl rfl (by kernel_rfl) (by decide) (fun K hK=>?_);refine sM (w1:=(Wd.setRow w.heap.size #[.int .i64 b,.int .i64 gg,.slice Av acc.length cv]).setCell ⟨w.heap.size+1,0,none⟩ (.bool ((l6.length:Int) == 0))) (by rfl) rfl ?_ ?_
          ·go_simp
           try rfl
          refine hK.out _ _ ?_;clear hK K;refine ku (by kernel_rfl) ?_
          go_wp2_with fail
          refine⟨rfl,rfl,rfl,b,gg,.slice Av acc.length cv,acc,((l6.length:Int) == 0),(Below.heap_setCell _ ⟨w.heap.size+1,0,none⟩ _ _ (by show w.heap.size≠w.heap.size+1;omega)).trans LQ.out,by have:=dD HJ8.out 0 (.bool ((l6.length:Int) == 0));simpa using this,Kd.iq Xg.out HJ8.out (by decide) 0 _,?_,Cz.out.setCell (by show w.heap.size≤w.heap.size+1;omega) _⟩;rw[← HE0.out]
          by_cases h0:l6=[]
          ·rw[if_pos h0,h0];rfl
          ·rw[if_neg h0,beq_eq_false_iff_ne.2 (fun e=>h0 (List.length_eq_zero_iff.1 (by omega)))];rfl
        ·rw[if_neg hk] at ho;have hkb:(kk != 0)=true:=bne_iff_ne.2 hk
         cases h7:jc kk rest with
         | none=>
          rw[h7] at ho;have cc:=CB w.heap.size wr.drew (w.heap.size+1+1) rest kk (LM.out.below (bC (Below.refl _ _))) HL.out;rw[h7] at cc
          go_wp2_with fail
          obtain⟨Av,cv,hv⟩:=Kd.bH HR.out;subst hv
          obtain⟨Wd,hWd⟩:∃Wd,wr.drew=Wd:=⟨_,rfl⟩
          have hdr:=bC (Below.refl wr.heap.size wr);rw[hWd] at hdr cc;have Si:=ah.mk (Kd.dh HR.out hdr);have HTd:=ah.mk (LM.out.below hdr);have Hy:=ah.mk (aD zF.out hdr);have HJd:=ah.mk (aD HJ6.out hdr);have TQ:=ah.mk (qd.out.trans (hdr.mono qd.out.size));have hS:Wd.cell? ⟨w.heap.size,2,none⟩=some (.slice Av acc.length cv):=ak Hy.out 2;have CJ:=ah.mk ho;clear hdr ho;refine kW (n:=9) (S:=fun w'=>w'.cell? ⟨w.heap.size,2,none⟩=some (.slice Av acc.length cv)) (ds:=[6,8]) #[false,false,false,false,false,false,false,false,false] (by kernel_rfl) rfl rfl (by rw[hWd];exact hS) (fun hHeld=>?_);rw[hWd] at hHeld ⊢;clear hWd hS;refine bA (i:=0) (N:=some 27) (v:=?_) (a':=?_) #[true,false,false,false,false,false,false,false,false] rfl rfl (by kernel_rfl) (fun _ _ _ h=>tN.put (by decide) (by decide) h) (Or.inl ⟨by rfl,?_⟩) ?_ ?_;rotate_left
          ·intro w'
           go_simp
           with_reducible rfl
          rotate_left
          ·simp only[Act.put,aYa,aYb,aYc,aG,aH];rfl
          refine dM (i:=1) (N:=some 28) (v:=?_) (a':=?_) #[true,true,false,false,false,false,false,false,false] rfl rfl (by kernel_rfl) (fun _ _ _ h=>tN.put (by decide) (by decide) h) (Or.inl ⟨by rfl,?_⟩) hHeld ?_ ?_;rotate_left
          ·rintro w' s1
           go_simp
           with_reducible rfl
          rotate_left
          ·simp only[Act.put,aYa,aYb,aYc,aG,aH];rfl
          refine bA (i:=2) (N:=some 29) (v:=?_) (a':=?_) #[true,true,true,false,false,false,false,false,false] rfl rfl (by kernel_rfl) (fun _ _ _ h=>tN.put (by decide) (by decide) h) (Or.inl ⟨by rfl,?_⟩) ?_ ?_;rotate_left
          ·intro w'
           go_simp
           with_reducible rfl
          rotate_left
          ·simp only[Act.put,aYa,aYb,aYc,aG,aH];rfl
          refine bA (i:=3) (N:=some 30) (v:=?_) (a':=?_) #[true,true,true,true,false,false,false,false,false] rfl rfl (by kernel_rfl) (fun _ _ _ h=>tN.put (by decide) (by decide) h) (Or.inl ⟨by rfl,?_⟩) ?_ ?_;rotate_left
          ·intro w'
           go_simp
           with_reducible rfl
          rotate_left
          ·simp only[Act.put,aYa,aYb,aYc,aG,aH];rfl
          refine kg (i:=4) (N:=some 31) #[true,true,true,true,true,false,false,false,false] rfl rfl (by kernel_rfl) (by decide) (fun K hK=>?_);refine Es Tryz.func99 (by kernel_rfl) rfl #[.pointer (some ⟨w.heap.size+1+1,0,none⟩),.int .i64 kk] (by rfl) rfl rfl (by (try simp only[List.map_toArray,List.map_cons,List.map_nil]);first|done|rfl) ?_;have HE:=ah.mk (show o=none from CJ.out.symm);refine cc.mono ?_;intro e w9 hh;obtain⟨he,mJ⟩:=hh;unfold dN at he;refine .inr ⟨[{ v:=.iface 141 (.agg #[]),recovered:=false }],he,?_⟩
          show tN w o (.panic _) _ _
          exact⟨rfl,rfl,rfl,rfl,HE.out,_,_,_,_,mJ.box Hy.out Om,mJ.box HJd.out hgj,nZ TQ.out mJ hgb⟩
         | some q=>
          obtain⟨c,l1⟩:=q;rw[h7] at ho;dsimp only at ho;have cc:=CB w.heap.size wr.drew (w.heap.size+1+1) rest kk (LM.out.below (bC (Below.refl _ _))) HL.out;rw[h7] at cc
          go_wp2_with fail
          obtain⟨Av,cv,hv⟩:=Kd.bH HR.out;subst hv
          obtain⟨Wd,hWd⟩:∃Wd,wr.drew=Wd:=⟨_,rfl⟩
          have hdr:=bC (Below.refl wr.heap.size wr);rw[hWd] at hdr cc;have Si:=ah.mk (Kd.dh HR.out hdr);have HTd:=ah.mk (LM.out.below hdr);have Hy:=ah.mk (aD zF.out hdr);have HJd:=ah.mk (aD HJ6.out hdr);have TQ:=ah.mk (qd.out.trans (hdr.mono qd.out.size));have hS:Wd.cell? ⟨w.heap.size,2,none⟩=some (.slice Av acc.length cv):=ak Hy.out 2;have CJ:=ah.mk ho;clear hdr ho;refine kW (n:=9) (S:=fun w'=>w'.cell? ⟨w.heap.size,2,none⟩=some (.slice Av acc.length cv)) (ds:=[6,8]) #[false,false,false,false,false,false,false,false,false] (by kernel_rfl) rfl rfl (by rw[hWd];exact hS) (fun hHeld=>?_);rw[hWd] at hHeld ⊢;clear hWd hS;refine bA (i:=0) (N:=some 27) (v:=?_) (a':=?_) #[true,false,false,false,false,false,false,false,false] rfl rfl (by kernel_rfl) (fun _ _ _ h=>tN.put (by decide) (by decide) h) (Or.inl ⟨by rfl,?_⟩) ?_ ?_;rotate_left
          ·intro w'
           go_simp
           with_reducible rfl
          rotate_left
          ·simp only[Act.put,aYa,aYb,aYc,aG,aH];rfl
          refine dM (i:=1) (N:=some 28) (v:=?_) (a':=?_) #[true,true,false,false,false,false,false,false,false] rfl rfl (by kernel_rfl) (fun _ _ _ h=>tN.put (by decide) (by decide) h) (Or.inl ⟨by rfl,?_⟩) hHeld ?_ ?_;rotate_left
          ·rintro w' s1
           go_simp
           with_reducible rfl
          rotate_left
          ·simp only[Act.put,aYa,aYb,aYc,aG,aH];rfl
          refine bA (i:=2) (N:=some 29) (v:=?_) (a':=?_) #[true,true,true,false,false,false,false,false,false] rfl rfl (by kernel_rfl) (fun _ _ _ h=>tN.put (by decide) (by decide) h) (Or.inl ⟨by rfl,?_⟩) ?_ ?_;rotate_left
          ·intro w'
           go_simp
           with_reducible rfl
          rotate_left
          ·simp only[Act.put,aYa,aYb,aYc,aG,aH];rfl
          refine bA (i:=3) (N:=some 30) (v:=?_) (a':=?_) #[true,true,true,true,false,false,false,false,false] rfl rfl (by kernel_rfl) (fun _ _ _ h=>tN.put (by decide) (by decide) h) (Or.inl ⟨by rfl,?_⟩) ?_ ?_;rotate_left
          ·intro w'
           go_simp
           with_reducible rfl
          rotate_left
          ·simp only[Act.put,aYa,aYb,aYc,aG,aH];rfl
          refine kg (i:=4) (N:=some 31) #[true,true,true,true,true,false,false,false,false] rfl rfl (by kernel_rfl) (by decide) (fun K hK=>?_);refine Es Tryz.func99 (by kernel_rfl) rfl #[.pointer (some ⟨w.heap.size+1+1,0,none⟩),.int .i64 kk] (by rfl) rfl rfl (by (try simp only[List.map_toArray,List.map_cons,List.map_nil]);first|done|rfl) ?_;refine cc.mono ?_;rintro e w9 ⟨v5,v6,v7,rfl,r5,r6,r7,ht9,mJ⟩;obtain⟨A5,c5,e5⟩:=Kd.bH r5;obtain⟨A6,c6,e6⟩:=Kd.bH r6;obtain⟨A7,c7,e7⟩:=Kd.bH r7;subst e5 e6 e7;have hws:w.heap.size≤Wd.heap.size:=TQ.out.size;have HM9:=ah.mk (Qv w9 w.heap.size (fun k=>Wd.heap.size≤k) c ⟨(uj r5).1,eX.lower (uj r5).2 hws⟩ ⟨(uj r6).1,eX.lower (uj r6).2 hws⟩ ⟨(uj r7).1,eX.lower (uj r7).2 hws⟩);have TP:=ah.mk (Ol Si.out HTd.out mJ);have HT9:=ah.mk ht9;have Hw:=ah.mk (mJ.box Hy.out Om);have HJ9:=ah.mk (mJ.box HJd.out hgj);have zM:=ah.mk (nZ TQ.out mJ hgb)
          have HOK:ah (∀k,Wd.heap.size≤k→True∧some k≠(Value.slice Av acc.length cv).ownBlock):=⟨fun k hk=>⟨trivial,fun e=>by
           obtain⟨_,inner,ho2,_⟩:=Si.out;have:=Oo ho2 k e.symm
           omega⟩⟩
          refine .inl ⟨_,rfl,hK.out _ _ (ak Hw.out 2) (fun hHeld=>?_)⟩;clear hK K r5 r6 r7 ht9 mJ cc Si HTd Hy HJd TQ;refine eB (a':=?_) ?_ ?_;rotate_left
          ·show Act.put _ (some 31) _=_
           simp only[Act.put,aYa,aYb,aYc,aG,aH];rfl
          refine kg (i:=5) (N:=some 32) #[true,true,true,true,true,true,false,false,false] rfl rfl (by kernel_rfl) (by decide) (fun K hK=>?_);refine nD (v:=.slice (some ⟨w9.heap.size,0,none⟩) 1 1) (w1:=w9.alloc (.cells #[.int .i64 c.f0,.int .i64 c.f1.f0,.string c.f1.f1,.string c.f1.f2,.int .i64 c.f1.f3,.slice A5 c.f1.f4.length c5,.slice A6 c.f1.f5.length c6,.slice A7 c.f2.length c7] 31)) (by rfl) rfl ?_ ?_
          ·go_simp
           try rfl
          have hal:=(Below.refl w9.heap.size w9).alloc (Nat.le_refl _) (.cells #[.int .i64 c.f0,.int .i64 c.f1.f0,.string c.f1.f1,.string c.f1.f2,.int .i64 c.f1.f3,.slice A5 c.f1.f4.length c5,.slice A6 c.f1.f5.length c6,.slice A7 c.f2.length c7] 31);refine hK.out _ _ (aj hal hHeld) (fun hHeld=>?_);clear hK K hal;refine eB (a':=?_) ?_ ?_;rotate_left
          ·show Act.put _ (some 32) _=_
           simp only[Act.put,aYa,aYb,aYc,aG,aH];rfl
          refine kC (i:=6) (N:=some 33) #[true,true,true,true,true,true,true,false,false] rfl rfl (by kernel_rfl) (by decide) (fun K hK=>?_);refine Kd.ji GZ (w0:=w9) w.heap.size (by rfl) (.tmp 28) (.tmp 32) 22 31 (.agg #[.int .i64 0,.int .i64 0,.string ⟨#[]⟩,.string ⟨#[]⟩,.int .i64 0,.slice none 0 0,.slice none 0 0,.slice none 0 0]) 128 rfl Tryz.underlying22 BI rfl (by show 0<8;decide) (by decide) (.slice Av acc.length cv) acc c [.int .i64 c.f0,.int .i64 c.f1.f0,.string c.f1.f1,.string c.f1.f2,.int .i64 c.f1.f3,.slice A5 c.f1.f4.length c5,.slice A6 c.f1.f5.length c6,.slice A7 c.f2.length c7] (fun _=>True) (fun k=>Wd.heap.size≤k) rfl rfl HM9.out HOK.out (fun _ _=>trivial) TP.out ((Below.refl _ _).mono zM.out.size) zM.out.size (by have:=hl.1;omega) ?_;intro v1 IK hr1 _hb hg1 mK;obtain⟨yu,yw,hv1⟩:=Kd.bH hr1;subst hv1
          have hne:=fun k (hk:(Value.slice Av acc.length cv).ownBlock=some k)=>(show w.heap.size≤k∧k≠w.heap.size+1+1 from by
           obtain⟨_,inner,ho2,_⟩:=TP.out;refine⟨lJ ho2 k hk,fun e=>?_⟩;obtain⟨_,At,ct,hblk,_⟩:=HT9.out
           exact Kd.pV TP.out hblk (by decide) (by rw[← e];exact hk.symm))
          have hk10:IK.heap[w.heap.size]?=some (.cells #[.int .i64 b,.int .i64 gg,.slice Av acc.length cv] 24 (0,0)):=(hg1.block _ (bD Hw.out) (Kd.pV TP.out Hw.out (by decide))).trans Hw.out;have aey:IK.heap[w.heap.size+1]?=some (.cells #[.bool false] 4 (0,0)):=(hg1.block _ (bD HJ9.out) (Kd.pV TP.out HJ9.out (by decide))).trans HJ9.out;have Xp:IK.cell? ⟨w.heap.size,2,none⟩=some (.slice Av acc.length cv):=ak hk10 2;have f10:=av hk10 2;have l10:=bD hk10;have abA:=ah.mk (show (IK.setCell ⟨w.heap.size,2,none⟩ (.slice yu (acc++[c]).length yw)).heap[w.heap.size]?=some (.cells #[.int .i64 b,.int .i64 gg,.slice yu (acc++[c]).length yw] 24 (0,0)) by have:=dD hk10 2 (.slice yu (acc++[c]).length yw);simpa using this);have abB:=ah.mk (show (IK.setCell ⟨w.heap.size,2,none⟩ (.slice yu (acc++[c]).length yw)).heap[w.heap.size+1]?=some (.cells #[.bool false] 4 (0,0)) from (Below.heap_setCell _ ⟨w.heap.size,2,none⟩ _ _ (by show w.heap.size+1≠w.heap.size;omega)).trans aey);have Xq:=ah.mk ((HT9.out.grow hg1 hne).set (j:=2) (.slice yu (acc++[c]).length yw) (b:=w.heap.size) (Nat.le_refl _) Om);have uo:=ah.mk ((zM.out.grown hg1 zM.out.size (fun k e=>(hne k e).1)).setCell (p:=⟨w.heap.size,2,none⟩) (Nat.le_refl _) (.slice yu (acc++[c]).length yw));have aez:=ah.mk (Kd.iq hr1 hk10 (by decide) 2 (.slice yu (acc++[c]).length yw));clear hr1 _hb hg1 mK hk10 aey hne;refine hK.out _ _ ?_;clear hK K hHeld;refine eB (a':=?_) ?_ ?_;rotate_left
          ·show Act.put _ (some 33) _=_
           simp only[Act.put,aYa,aYb,aYc,aG,aH];rfl
          refine bA (i:=7) (N:=some 34) (v:=?_) (a':=?_) #[true,true,true,true,true,true,true,true,false] rfl rfl (by kernel_rfl) (fun _ _ _ h=>tN.put (by decide) (by decide) h) (Or.inl ⟨by rfl,?_⟩) ?_ ?_;rotate_left
          ·intro w'
           go_simp
           with_reducible rfl
          rotate_left
          ·simp only[Act.put,aYa,aYb,aYc,aG,aH];rfl
          refine kC (i:=8) (N:=none) #[true,true,true,true,true,true,true,true,true] rfl rfl (by kernel_rfl) (by decide) (fun K hK=>?_);refine sM (w1:=IK.setCell ⟨w.heap.size,2,none⟩ (.slice yu (acc++[c]).length yw)) (by rfl) rfl ?_ ?_
          ·go_simp
          refine hK.out _ _ ?_;clear hK K;refine ku (by kernel_rfl) ?_
          obtain⟨BO,aeA⟩:∃BO,IK.setCell ⟨w.heap.size,2,none⟩ (.slice yu (acc++[c]).length yw)=BO:=⟨_,rfl⟩
          rw[aeA] at abA abB Xq uo aez ⊢;clear aeA Xp f10 l10 HM9 TP HT9 Hw HJ9 zM HOK;have ho:=CJ.out;have hby:=Et h7 HL.out;have hl1:=hby.1
          go_wp2_with fail
          cases h12:gF 1 l1 with
          | none=>
           rw[h12] at ho;have HE:=ah.mk (show o=none from ho.symm);refine (lN Xq.out (by decide) hl1 h12).mono ?_;intro e w9 hh;obtain⟨he,mJ⟩:=hh;unfold dN at he;subst he
           go_wp2_with fail
           exact⟨rfl,rfl,rfl,rfl,HE.out,_,_,_,_,mJ.box abA.out Om,mJ.box abB.out hgj,nZ uo.out mJ hgb⟩
          | some q=>
           obtain⟨k2,l2⟩:=q;rw[h12] at ho;dsimp only at ho;refine (lM Xq.out (by decide) hl1 h12).mono ?_;rintro e LZ ⟨rfl,aeB,Uy⟩;have ai8:=ah.mk (Ol aez.out Xq.out Uy);have ai9:=ah.mk aeB;have BP:=ah.mk (nZ uo.out Uy hgb);have aja:=ah.mk (Uy.box abA.out Om);have ajb:=ah.mk (Uy.box abB.out hgj);clear aeB Uy;have hl2:=fD h12 hl1;have hlr:=hby.2;have HL2:=ah.mk hl2.1;have hlq:=hl2.2;have zB:=ah.mk ho;clear ho hl2 hby h12 h7 hl1
           go_wp2_with fail
           go_roundg gk
           case measure=>omega
           case rel=>exact⟨k2,l2,acc++[c],_,rfl,by omega,by omega,by rw[List.length_append,List.length_singleton];omega,zB,HL2,ai8,ai9,aja,ajb,BP⟩
  ·rw[if_neg hmc] at ho;rw[decide_eq_false hmc] at hms;clear hc2 hm hm8 hmc;have HE:=ah.mk (show o=none from ho.symm);have j2:(w2.setRow w.heap.size #[.int .i64 0,.int .i64 0,.slice none 0 0]).heap[w.heap.size+1]?=some (.cells #[.bool false] 4 (0,0)):=(setRow_other _ _ _ _ (by omega)).trans HJ2.out;have k2:(w2.setRow w.heap.size #[.int .i64 0,.int .i64 0,.slice none 0 0]).heap[w.heap.size]?=some (.cells #[.int .i64 0,.int .i64 0,.slice none 0 0] 24 (0,0)):=setRow_heap _ _ _ _ _ _ iK.out;have y2:(w2.setRow w.heap.size #[.int .i64 0,.int .i64 0,.slice none 0 0]).cell? ⟨w.heap.size+1,0,none⟩=some (.bool false):=ak j2 0;have f2:=av j2 0;have l2:=bD j2;have HJ:=ah.mk j2;have HK:=ah.mk k2;clear j2 k2
   go_upto_region 4 with (fail)
   go_wp2_with (first|(refine dR (.load 24 (.tmp 2)) rfl ?_;refine wpList_load_row rfl _ _ rfl w.heap.size rfl 24 #[.int .i64 0,.int .i64 0,.slice none 0 0] (0,0) _ iK.out Tryz.underlying24 rfl (by kernel_rfl) ?_)|(refine dR (.store 24 (.tmp 2) (.tmp 14)) rfl ?_;refine wpList_store_row rfl 24 (.tmp 2) (.tmp 14) rfl w.heap.size #[.int .i64 0,.int .i64 0,.slice none 0 0] rfl rfl 24 _ iK.out (by kernel_rfl) (by rfl) (by simp[Value.oneCell']) ?_))
   refine⟨rfl,rfl,rfl,0,0,.slice none 0 0,[],false,(Below.heap_setCell _ ⟨w.heap.size+1,0,none⟩ _ _ (by show w.heap.size≠w.heap.size+1;omega)).trans HK.out,by have:=dD HJ.out 0 (.bool false);simpa using this,Kd.fA _ _ _ _ _,HE.out,?_⟩;exact (below_setRow HB2.out (Nat.le_refl _) _).setCell (by show w.heap.size≤w.heap.size+1;omega) _
end Go.Proofs.YtknihldkhedpkaaGreatDoor
