import Derived.Test.YtknihldkhedpkaaGreatDoorUUG13
import Derived.Test.YtknihldkhedpkaaGreatDoorUUG11
import Derived.Test.YtknihldkhedpkaaGreatDoorUUG10
import Derived.WalkKit
import Derived.Deep.QuietTactic
import Derived.BigQuiet
set_option linter.all false
set_option maxHeartbeats 16000000
set_option maxRecDepth 100000
section
namespace Go.Proofs.YtknihldkhedpkaaGreatDoor
open Go.RowKit Go.Lib
open Go.Proofs.YtknihldkhedpkaaGreatDoorW.PrintWords Go.Proofs.YtknihldkhedpkaaGreatDoorW.PrintLast Go.Proofs.YtknihldkhedpkaaGreatDoor.PT
def qy:Nat→Int→List qF→List Int→Option (List qF × List Int)
 | 0,_,_,_=>none
 | f+1,k,acc,l=>if k=0 then some (acc,l) else match jD k l with
  | none=>none
  | some (c,l1)=>match gW 1 l1 with
   | none=>none
   | some (k2,l2)=>qy f k2 (acc++[c]) l2
def FE (b g:Int):Option (List qF × List Int)→Option (Int × Int × List qF)
 | none=>none
 | some (cs,l5)=>match mK 8 l5 with
  | none=>none
  | some (_,l6)=>if l6=[] then some (b,g,cs) else none
def qU (l:List Int):Option (Int × Int × List qF):=match mK 8 l with
 | none=>none
 | some (m,l1)=>if m=iX then match gW 4 l1 with
   | none=>none
   | some (b,l2)=>match gW 4 l2 with
    | none=>none
    | some (g,l3)=>match gW 1 l3 with
     | none=>none
     | some (k,l4)=>FE b g (qy (l.length+1) k [] l4)
  else none
theorem oV {w A C:World} {g:Nat} (h:Below w.heap.size w A) (hf:Ft g A C) (hg:w.heap.size≤g):Below w.heap.size w C :=
 ⟨hf.os.trans h.os,hf.tape.trans h.tape,hf.output.trans h.output,Nat.le_trans h.size hf.size,fun k hk=>by
  have hlt:k<A.heap.size:=Nat.lt_of_lt_of_le hk h.size;have h1:=Array.getElem?_eq_getElem hlt
  rcases hf.blocks k _ h1 with (e|⟨_,_,_,_,e⟩)|e
  ·omega
  ·exact e.elim
  rw[e,← h1,h.block k hk]⟩
theorem Uo:strOfNums iX=⟨#[118,108,112,97,116,99,104,1]⟩:=by decide
theorem Qa:(strOfNums iX).toList=[118,108,112,97,116,99,104,1]:=by rw[Uo,Lib.toList_data]
theorem FH {P:Program} {ops:Array Oper} {Q:Exit→Act→World→Prop} {oi:Oper} {N:Option Tmp} {a:Act} {w:World} {K:Act→World→Prop} {f:FuncId} {fn:Func} {ars:Array Operand} {ts:Array TypeId} (hf:P.funcs[f]?=some fn) (hname:(fn.name == "runtime.NumGoroutine")=false) (hb:fn.body.isSome=true) (args:Array Value)
  (hw:Region.wanted oi (yielded ops a.tmps)=true) (hN:oi.dst=N) (hop:oi.op=.call { callee:=.value (.func f),args:=ars,argTypes:=ts }) (hargs:ars.map a.eval=args)
  (h:Calls P f args w fun e w'=>(∃v,e=.returned v∧K (a.put N v) w')∨∃c,e=.panicked c∧Q (.panic c) a w'):if Region.wanted oi (yielded ops a.tmps)=true then Oper.wp P oi a w K Q else K (a.put N undef) w:=by
 rw[if_pos hw];subst hN;have he:=K6 hf hname hb args w
 have hrun:(execOp a.eval oi).run P w=.ok (.enter f args) w:=by
  unfold execOp;simp[hop,resolve,Deferred.ofValue,invoke,Act.eval,hargs,he]
 unfold Oper.wp;rw[hrun,Oper.upon_enter]
 refine h.mono fun e w'' hh=>?_
 rcases hh with⟨v,rfl,hk⟩|⟨c,rfl,hk⟩
 ·exact hk
 exact hk
def alx (w:World) (o:Option (Int × Int × List qF)) (w':World):Prop :=
 ∃(b g:Int) (v:Value) (cs:List qF) (ok:Bool),w'.heap[w.heap.size]?=some (.cells #[.int .i64 b,.int .i64 g,v] 24 (0,0))∧w'.heap[w.heap.size+1]?=some (.cells #[.bool ok] 4 (0,0))∧Kd.R IW 31 w' w.heap.size (fun _=>True) v cs∧(o=if ok then some (b,g,cs) else none)∧Below w.heap.size w w'
def aly (w:World) (o:Option (Int × Int × List qF)) (w':World):Prop :=
 o=none∧∃x0 x1 x2 y0,w'.heap[w.heap.size]?=some (.cells #[x0,x1,x2] 24 (0,0))∧w'.heap[w.heap.size+1]?=some (.cells #[y0] 4 (0,0))∧Below w.heap.size w w'
def uM (w:World) (o:Option (Int × Int × List qF)) (e:Exit) (a:Act) (w':World):Prop :=
 a.tmps.getD 2 undef=.pointer (some ⟨w.heap.size,0,none⟩)∧a.tmps.getD 3 undef=.pointer (some ⟨w.heap.size+1,0,none⟩) ∧
 a.defers=[{ target:=.fn (.func 96) #[.pointer (some ⟨w.heap.size,0,none⟩),.pointer (some ⟨w.heap.size+1,0,none⟩)],args:=#[] }] ∧
 match e with
 | .ret=>alx w o w'
 | .panic c=>c=[{ v:=.iface 141 (.agg #[]),recovered:=false }]∧aly w o w'
 | _=>False
theorem Nw {a:Act} {i j:Nat} {v u:Value} (h:i≠j):(a.put (some i) v).tmps.getD j u=a.tmps.getD j u:=by
 simp only[Act.put,Array.getD_eq_getD_getElem?];rw[Array.getElem?_setIfInBounds_ne h]
theorem uM.put {w:World} {o:Option (Int × Int × List qF)} {c:List PanicEntry} {a:Act} {w':World} {i:Nat} {v:Value} (h2:i≠2) (h3:i≠3) (h:uM w o (.panic c) (a.put (some i) v) w'):uM w o (.panic c) a w' :=
 ⟨(Nw h2).symm.trans h.1,(Nw h3).symm.trans h.2.1,h.2.2.1,h.2.2.2⟩
def agq (w:World) (o:Option (Int × Int × List qF)) (e:Ending) (w':World):Prop:=Below w.heap.size w w'∧match o with
 | none=>∃(b g:Int) (A:Option Addr) (n c:Nat),e=.returned (.tuple #[.agg #[.int .i64 b,.int .i64 g,.slice A n c],.bool false])
 | some (b,g,cs)=>∃v,e=.returned (.tuple #[.agg #[.int .i64 b,.int .i64 g,v],.bool true])∧Kd.R IW 31 w' w.heap.size (fun _=>True) v cs
theorem Ny {fn:Func} {P:Program} {p1 p2:Tmp} {t1 t2:TypeId} (h:fn.results=#[.cell p1 t1,.cell p2 t2]) (tmps:Array Value) (w:World) (b1 b2:Nat) (cs:Array Value) (ok:Bool) (d:TypeDesc)
  (h1:tmps.getD p1 undef=.pointer (some ⟨b1,0,none⟩)) (h2:tmps.getD p2 undef=.pointer (some ⟨b2,0,none⟩)) (g1:w.heap[b1]?=some (.cells cs t1 (0,0))) (g2:w.heap[b2]?=some (.cells #[.bool ok] t2 (0,0)))
  (hu:P.underlying t1=some d) (hd:(match d with|.struct _|.array _ _=>true|_=>false)=true) (hi:(P.info? t1).map (·.size)=some cs.size) (ht2:∀w:World,(isAgg t2).run P w=.ok false w) :
  (results fn tmps).run P w=.ok (.tuple #[.agg cs,.bool ok]) w:=by
 have h1':tmps[p1]?.getD undef=.pointer (some ⟨b1,0,none⟩):=by simpa using h1
 have h2':tmps[p2]?.getD undef=.pointer (some ⟨b2,0,none⟩):=by simpa using h2
 have hc:w.cell? ⟨b2,0,none⟩=some (.bool ok):=ak g2 0;have e1:=run_loadVar_row w b1 t1 t1 cs (0,0) d g1 hu hd hi
 have e2:(loadVar t2 ⟨b2,0,none⟩).run P w=.ok (.bool ok) w:=by simp[hc,ht2,go_sem,Result.andThen]
 simp only[results,h];simp[h1',h2',asAddr,e1,e2,Result.andThen,Sem.run_bind]
theorem Y3 {w:World} {o:Option (Int × Int × List qF)} (e:Exit) (a:Act) (w':World) (h:uM w o e a w'):bodyPostD Tryz.prog Tryz.f61 (fun e w'=>agq w o e w') e a w':=by
 obtain⟨h2,h3,hd,h⟩:=h
 cases e with
 | ret=>
  obtain⟨b,g,v,cs,ok,g1,g2,hr,ho,hb⟩:=h
  show Leaves _ _ a.tmps _ a.defers .returning w'
  rw[hd];refine leaves_cons (f:=96) (args:=#[.pointer (some ⟨w.heap.size,0,none⟩),.pointer (some ⟨w.heap.size+1,0,none⟩)]) bK (by simp[go_sem]) ?_;refine (P7 _ _ w').mono ?_;rintro e u' w2 ⟨rfl,rfl,rfl⟩;refine⟨_,Ny rfl a.tmps w2 _ _ _ ok _ h2 h3 g1 g2 Tryz.underlying24 rfl aA Nu,hb,?_⟩;subst ho
  cases ok with
  | true=>exact⟨_,rfl,hr⟩
  | false=>
   obtain⟨A,c,hv⟩:=Kd.bG hr;subst hv;exact⟨_,_,_,_,_,rfl⟩
 | panic c=>
  obtain⟨rfl,rfl,x0,x1,x2,y0,g1,g2,hb⟩:=h
  show Leaves _ _ a.tmps _ a.defers (.panicking _) w'
  rw[hd];refine leaves_cons (f:=96) (args:=#[.pointer (some ⟨w.heap.size,0,none⟩),.pointer (some ⟨w.heap.size+1,0,none⟩)]) bK (by simp[go_sem]) ?_;refine (KZ _ _ x0 x1 x2 y0 [] w' g1 g2).mono ?_;rintro e u' w2 ⟨rfl,rfl,k1,k2,hf⟩;refine⟨_,Ny rfl a.tmps w2 _ _ _ false _ h2 h3 k1 k2 Tryz.underlying24 rfl aA Nu,?_,_,_,_,_,_,rfl⟩;refine⟨hf.os.trans hb.os,hf.tape.trans hb.tape,hf.output.trans hb.output,Nat.le_trans hb.size hf.size,fun k hk=>?_⟩;have hlt:k<w'.heap.size:=Nat.lt_of_lt_of_le hk hb.size;have h1:=Array.getElem?_eq_getElem hlt
  rcases hf.blocks k _ h1 with ((e|e)|⟨_,_,_,_,e⟩)|e
  ·omega
  ·omega
  ·exact e.elim
  rw[e,← h1,hb.block k hk]
 | normal=>exact h.elim
 | exit _=>exact h.elim
 | goto _=>exact h.elim
 | outgrown=>exact h.elim
theorem Wi {l r:List Int} {x:It} (h:oU l=some (x,r)) (hl:By l):By r∧r.length≤l.length:=by
 unfold oU at h
 cases h1:gW 1 l with
 | none=>rw[h1] at h;cases h
 | some q=>
  obtain⟨k,l1⟩:=q;rw[h1] at h;dsimp only at h;have b1:=fT h1 hl
  cases h2:iZ l1 with
  | none=>rw[h2] at h;cases h
  | some q=>
   obtain⟨p,l2⟩:=q;rw[h2] at h;dsimp only at h;have b2:=nR h2 b1.1;split at h
   ·cases h3:gW 8 l2 with
    | none=>rw[h3] at h;cases h
    | some q=>
     obtain⟨sz,l3⟩:=q;rw[h3] at h;dsimp only at h;have b3:=fT h3 b2.1
     cases h4:mo l3 with
     | none=>rw[h4] at h;cases h
     | some q=>
      obtain⟨rs,all,l4⟩:=q;rw[h4] at h;dsimp only at h;have b4:=oQ h4 b3.1
      cases h5:ql all l4 with
      | none=>rw[h5] at h;cases h
      | some q=>
       obtain⟨d,l5⟩:=q;rw[h5] at h;have b5:=Bb h5 b4.1
       injection h with h
       injection h with _ h
       subst h;exact⟨b5.1,by omega⟩
   split at h
   ·cases h3:iZ l2 with
    | none=>rw[h3] at h;cases h
    | some q=>
     obtain⟨t,l3⟩:=q;rw[h3] at h;have b3:=nR h3 b2.1
     injection h with h
     injection h with _ h
     subst h;exact⟨b3.1,by omega⟩
   injection h with h
   injection h with _ h
   subst h;exact⟨b2.1,by omega⟩
theorem FI {k:Int} {l r:List Int} {c:qF} (h:jD k l=some (c,r)) (hl:By l):By r∧r.length≤l.length:=by
 unfold jD at h;split at h
 ·cases h1:iZ l with
  | none=>rw[h1] at h;cases h
  | some q=>
   obtain⟨p,l1⟩:=q;rw[h1] at h;have b1:=nR h1 hl
   injection h with h
   injection h with _ h
   subst h;exact⟨b1.1,by omega⟩
 split at h
 ·cases h1:oU l with
  | none=>rw[h1] at h;cases h
  | some q=>
   obtain⟨p,l1⟩:=q;rw[h1] at h;have b1:=Wi h1 hl
   injection h with h
   injection h with _ h
   subst h;exact b1
 split at h
 ·cases h1:iZ l with
  | none=>rw[h1] at h;cases h
  | some q=>
   obtain⟨p,l1⟩:=q;rw[h1] at h;dsimp only at h;have b1:=nR h1 hl
   cases h2:gW 8 l1 with
   | none=>rw[h2] at h;cases h
   | some q=>
    obtain⟨sz,l2⟩:=q;rw[h2] at h;dsimp only at h;have b2:=fT h2 b1.1
    cases h3:mo l2 with
    | none=>rw[h3] at h;cases h
    | some q=>
     obtain⟨rs,a1,l3⟩:=q;rw[h3] at h;dsimp only at h;have b3:=oQ h3 b2.1
     cases h4:mo l3 with
     | none=>rw[h4] at h;cases h
     | some q=>
      obtain⟨st,all,l4⟩:=q;rw[h4] at h;dsimp only at h;have b4:=oQ h4 b3.1
      cases h5:ql all l4 with
      | none=>rw[h5] at h;cases h
      | some q=>
       obtain⟨d,l5⟩:=q;rw[h5] at h;have b5:=Bb h5 b4.1
       injection h with h
       injection h with _ h
       subst h;exact⟨b5.1,by omega⟩
 cases h
theorem Qb {g:Nat} {v:Value} {xs:List qF} {W W1:World} {B:Nat} {left:List Int} {base:Nat} (h:Kd.R IW 31 W base (fun _=>True) v xs) (ht:Tk B W g left) (hf:Ft g W W1):Kd.R IW 31 W1 base (fun _=>True) v xs :=
 Kd.dU (V6 (w0:=W) h ht aD hf) (fun _ _=>trivial)
theorem uV {α:Type} {d:Kd α} {e:Nat} {w:World} {b:Nat} {v:Value} {xs:List α} (h:d.R e w b (fun _=>True) v xs):d.R e w b (fun k=>b≤k) v xs:=Kd.dU (Kd.gM h) (fun k hk=>hk.2.1)
theorem Uq (A0:Option Addr) (c0:Nat) (left:List Int) (w:World) (hr:Kd.C (Kd.int .u8) w A0 left.length left) (hc:left.length≤c0) (hl:By left) :
  Calls Tryz.prog 61 #[.slice A0 left.length c0] w fun e w'=>agq w (qU left) e w':=by
 obtain⟨o,ho⟩:∃o,qU left=o:=⟨_,rfl⟩
 rw[ho];unfold qU at ho
 have hmf:∀(fn:Fn) (first cap:Array Value) (w:World),(Instr.makeFunc fn first cap).run Tryz.prog w=.ok (.func fn first cap) w:=fun _ _ _ _=>rfl
 have hlow:left≠[]→∀ad,A0=some ad→ad.block<w.heap.size:=fun hne ad he=>by
  have hn:0<left.length:=List.length_pos_iff.2 hne;obtain⟨EH,h2,hcell⟩:=Kd.qx hr 0 aj aj;rw[he] at h2;cases h2;have:=World.block_lt_of_cell? w _ hcell
  rwa [add_block] at this
 have hb0:=(Below.refl w.heap.size w).alloc (Nat.le_refl _) (.cells uU 24);have hb1:=hb0.alloc bK (.cells #[.bool false] 4);have hb2:=hb1.alloc (by simp;omega) (.cells #[.slice A0 left.length c0] 145);have k0:(((w.alloc (.cells uU 24)).alloc (.cells #[.bool false] 4)).alloc (.cells #[.slice A0 left.length c0] 145)).heap[w.heap.size]?=some (.cells uU 24 (0,0)):=aM (aM (bJ _ _) _) _;have k1:(((w.alloc (.cells uU 24)).alloc (.cells #[.bool false] 4)).alloc (.cells #[.slice A0 left.length c0] 145)).heap[w.heap.size+1]?=some (.cells #[.bool false] 4 (0,0)):=aM (kN bK _) _;have k2:(((w.alloc (.cells uU 24)).alloc (.cells #[.bool false] 4)).alloc (.cells #[.slice A0 left.length c0] 145)).heap[w.heap.size+1+1]?=some (.cells #[.slice A0 left.length c0] 145 (0,0)):=kN bK _;have HR:=ah.mk hr;have HLW:=ah.mk hlow;unfold uU at hb0 hb1 hb2 k0 k1 k2;have HB:=ah.mk hb2;have PU:=ah.mk k0;have jY:=ah.mk k1;have jG:=ah.mk k2;clear hr hlow hb0 hb1 hb2 k0 k1 k2
 go_enter_defers Tryz.func61,Tryz.ntmps61
 refine Code.wp_mono (fun e a w' h=>Y3 e a w' h) ?_
 go_upto_region 3 with (fail)
 obtain⟨w1,hw1⟩:∃w1,((w.alloc (.cells #[.int .i64 0,.int .i64 0,.slice none 0 0] 24)).alloc (.cells #[.bool false] 4)).alloc (.cells #[.slice A0 left.length c0] 145)=w1:=⟨_,rfl⟩
 rw[hw1] at HB PU jY jG ⊢;have HT1:=ah.mk (show Tk w.heap.size w1 (w.heap.size+1+1) left from⟨by omega,A0,c0,jG.out,hc,HLW.out,Kd.aC HR.out HB.out⟩);have Wj:=ah.mk jY.out;have HB1:=ah.mk HB.out;clear jY;have jY:=ah.mk PU.out;clear PU jG HR HLW hw1 HB
 have Qc:w.heap.size≠w.heap.size+1+1:=by omega
 have hgj:w.heap.size+1≠w.heap.size+1+1:=by omega
 have hgb:w.heap.size≤w.heap.size+1+1:=by omega
 go_wp2_with fail
 cases h2:mK 8 left with
 | none=>
  rw[h2] at ho;have HE:=ah.mk (show o=none from ho.symm);refine (C9 HT1.out hl aD h2).mono ?_;intro e w9 hh;obtain⟨he,nJ⟩:=hh;unfold dW at he;subst he
  go_wp2_with fail
  exact⟨rfl,rfl,rfl,rfl,HE.out,_,_,_,_,nJ.box jY.out Qc,nJ.box Wj.out hgj,oV HB1.out nJ hgb⟩
 | some q=>
  obtain⟨m,l1⟩:=q;rw[h2] at ho;dsimp only at ho;refine (yI HT1.out hl h2).mono ?_;rintro e w2 ⟨A2,rfl,hc2,ht2,hf2⟩;have hstr:=Kd.qH (P:=Tryz.prog) (c:=8) (src:=27) (dst:=9) Tryz.underlying27 Tryz.underlying5 Tryz.underlying9 hc2;obtain⟨hm,hl1,hm8,hlen1⟩:=uS h2 hl
  have hms:((strOfNums m).toList == [118,108,112,97,116,99,104,1])=decide (m=iX):=by rw[← Qa];exact uW hm.2 aD
  have HT2:=ah.mk ht2;have HB2:=ah.mk (oV HB1.out hf2 hgb);have jG:=ah.mk (hf2.box jY.out Qc);have HJ2:=ah.mk (hf2.box Wj.out hgj);clear ht2 hf2;by_cases hmc:m=iX
  ·rw[if_pos hmc] at ho;rw[decide_eq_true hmc] at hms;clear hc2 hm hm8 hmc
   go_wp2_with fail
   cases h3:gW 4 l1 with
   | none=>
    rw[h3] at ho;have HE:=ah.mk (show o=none from ho.symm);refine (mO HT2.out aD hl1 h3).mono ?_;intro e w9 hh;obtain⟨he,nJ⟩:=hh;unfold dW at he;subst he
    go_wp2_with fail
    exact⟨rfl,rfl,rfl,rfl,HE.out,_,_,_,_,nJ.box jG.out Qc,nJ.box HJ2.out hgj,oV HB2.out nJ hgb⟩
   | some q=>
    obtain⟨b,l2⟩:=q;rw[h3] at ho;dsimp only at ho;refine (mM HT2.out aD hl1 h3).mono ?_;rintro e w3 ⟨rfl,ht3,hf3⟩;have HT3:=ah.mk ht3;have HB3:=ah.mk (oV HB2.out hf3 hgb);have qQ:=ah.mk (hf3.box jG.out Qc);have HJ3:=ah.mk (hf3.box HJ2.out hgj);clear ht3 hf3;have hl2:=(fT h3 hl1).1;have nl2:=(fT h3 hl1).2
    go_wp2_with fail
    cases h4:gW 4 l2 with
    | none=>
     rw[h4] at ho;have HE:=ah.mk (show o=none from ho.symm);refine (mO HT3.out aD hl2 h4).mono ?_;intro e w9 hh;obtain⟨he,nJ⟩:=hh;unfold dW at he;subst he
     go_wp2_with fail
     exact⟨rfl,rfl,rfl,rfl,HE.out,_,_,_,_,nJ.box qQ.out Qc,nJ.box HJ3.out hgj,oV HB3.out nJ hgb⟩
    | some q=>
     obtain⟨gg,l3⟩:=q;rw[h4] at ho;dsimp only at ho;refine (mM HT3.out aD hl2 h4).mono ?_;rintro e w4 ⟨rfl,V7,uP⟩;have Sg:=ah.mk V7;have kJ:=ah.mk (oV HB3.out uP hgb);have wV:=ah.mk (uP.box qQ.out Qc);have HJ4:=ah.mk (uP.box HJ3.out hgj);clear V7 uP;have hl3:=(fT h4 hl2).1;have nl3:=(fT h4 hl2).2;have z4:=bE wV.out;have f40:=ay wV.out 0;have f41:=ay wV.out 1;have y40:w4.cell? ⟨w.heap.size,0,none⟩=some _:=ak wV.out 0;have y41:w4.cell? ⟨w.heap.size,1,none⟩=some _:=ak wV.out 1;have s0:=dM wV.out 0 (.int .i64 b);have s1:=dM s0 1 (.int .i64 gg)
     obtain⟨w5,Da⟩:∃w5,(w4.setCell ⟨w.heap.size,0,none⟩ (.int .i64 b)).setCell ⟨w.heap.size,1,none⟩ (.int .i64 gg)=w5:=⟨_,rfl⟩
     have sP:=ah.mk (show w5.heap[w.heap.size]?=some (.cells #[.int .i64 b,.int .i64 gg,.slice none 0 0] 24 (0,0)) by rw[← Da];simpa using s1);have HJ5:=ah.mk (show w5.heap[w.heap.size+1]?=some (.cells #[.bool false] 4 (0,0)) by rw[← Da];exact ((Below.heap_setCell _ ⟨w.heap.size,1,none⟩ _ _ (by show w.heap.size+1≠w.heap.size;omega)).trans (Below.heap_setCell _ ⟨w.heap.size,0,none⟩ _ _ (by show w.heap.size+1≠w.heap.size;omega))).trans HJ4.out);have PZ:=ah.mk (show Tk w.heap.size w5 (w.heap.size+1+1) l3 by rw[← Da];exact (Sg.out.set _ (Nat.le_refl _) aj).set _ (Nat.le_refl _) aj);have kH:=ah.mk (show Below w.heap.size w w5 by rw[← Da];exact (kJ.out.setCell (Nat.le_refl _) _).setCell (Nat.le_refl _) _);clear s0 s1
     go_wp2_with fail
     try rw[Da]
     clear Da z4 f40 f41 y40 y41
     cases h6:gW 1 l3 with
     | none=>
      rw[h6] at ho;have HE:=ah.mk (show o=none from ho.symm);refine (mO PZ.out aD hl3 h6).mono ?_;intro e w9 hh;obtain⟨he,nJ⟩:=hh;unfold dW at he;subst he
      go_wp2_with fail
      exact⟨rfl,rfl,rfl,rfl,HE.out,_,_,_,_,nJ.box sP.out Qc,nJ.box HJ5.out hgj,oV kH.out nJ hgb⟩
     | some q=>
      obtain⟨k,l4⟩:=q;rw[h6] at ho;dsimp only at ho;refine (mM PZ.out aD hl3 h6).mono ?_;rintro e w6 ⟨rfl,ht6,Ja⟩;have Np:=ah.mk ht6;have sQ:=ah.mk (oV kH.out Ja hgb);have CP:=ah.mk (Ja.box sP.out Qc);have HJ6:=ah.mk (Ja.box HJ5.out hgj);clear ht6 Ja;have hl4:=(fT h6 hl3).1;have nl4:=(fT h6 hl3).2;have HO:=ah.mk ho;have HL4:=ah.mk hl4
      have Y6:l4.length<left.length+1:=by have:=uS h2 hl;omega
      have uj:ah (Kd.R IW 31 w6 w.heap.size (fun _=>True) (.slice none 0 0) []):=⟨Kd.eY _ _ _ _ _⟩
      clear ho h2 h3 h4 h6 hl1 hl2 hl3 hl4 nl2 nl3 nl4
      go_wp2_with fail
      go_loopg [5] (left.length+1) (fun gk s5 wx=>∃(k:Int) (rest:List Int) (acc:List qF) (v:Value),s5=.int .i64 k∧rest.length<gk∧gk≤left.length+1∧acc.length+gk≤left.length+1∧ah (FE b gg (qy gk k acc rest)=o)∧ah (By rest)∧ah (Kd.R IW 31 wx w.heap.size (fun _=>True) v acc)∧ah (Tk w.heap.size wx (w.heap.size+1+1) rest)∧ah (wx.heap[w.heap.size]?=some (.cells #[.int .i64 b,.int .i64 gg,v] 24 (0,0)))∧ah (wx.heap[w.heap.size+1]?=some (.cells #[.bool false] 4 (0,0)))∧ah (Below w.heap.size w wx))
      case atStart=>exact⟨k,l4,[],.slice none 0 0,rfl,Y6,Nat.le_refl _,by simp,HO,HL4,uj,Np,CP,HJ6,sQ⟩
      case round=>
       clear HO HL4 uj Np CP HJ6 sQ Y6;obtain⟨kk,rest,acc,v,rfl,hrl,hgm,hal,HO,HL,HR,Np,CP,HJ6,sQ⟩:=hrel
       cases gk with
       | zero=>omega
       | succ gk=>
        have ho:=HO.out;rw[qy] at ho;by_cases hk:kk=0
        ·rw[if_pos hk] at ho
         have hkb:(kk != 0)=false:=by rw[hk];rfl
         dsimp only[FE] at ho
         go_wp2_with fail
         cases h7:mK 8 rest with
         | none=>
          rw[h7] at ho;have HE:=ah.mk (show o=none from ho.symm);refine (C9 Np.out HL.out aD h7).mono ?_;intro e w9 hh;obtain⟨he,nJ⟩:=hh;unfold dW at he;subst he
          go_wp2_with fail
          exact⟨rfl,rfl,rfl,rfl,HE.out,_,_,_,_,nJ.box CP.out Qc,nJ.box HJ6.out hgj,oV sQ.out nJ hgb⟩
         | some q=>
          obtain⟨x7,l6⟩:=q;rw[h7] at ho;dsimp only at ho;refine (yI Np.out HL.out h7).mono ?_;rintro e w7 ⟨A2,rfl,hc2,ht7,Ym⟩;have HR7:=ah.mk (Qb HR.out Np.out Ym);clear hc2;have HT7:=ah.mk ht7;have Ep:=ah.mk (oV sQ.out Ym hgb);have Nq:=ah.mk (Ym.box CP.out Qc);have HJ7:=ah.mk (Ym.box HJ6.out hgj);clear ht7 Ym
          go_wp2_with fail
          have HE0:=ah.mk ho;obtain⟨Av,cv,hv⟩:=Kd.bG HR7.out;subst hv;obtain⟨_,A7,c7,hblk7,_⟩:=id HT7.out
          obtain⟨Wd,hWd⟩:∃Wd,w7.drew=Wd:=⟨_,rfl⟩
          have hdr:=bA (Below.refl w7.heap.size w7);rw[hWd] at hdr;have Yo:=ah.mk (Kd.dF HR7.out hdr);have MO:=ah.mk (aG Nq.out hdr);have HJd:=ah.mk (aG HJ7.out hdr);have HGd:=ah.mk (aG hblk7 hdr);have VB:=ah.mk (Ep.out.trans (hdr.mono Ep.out.size))
          have hS:Wd.cell? ⟨w.heap.size,0,none⟩=some (.int .i64 b)∧Wd.cell? ⟨w.heap.size,1,none⟩=some (.int .i64 gg)∧Wd.cell? ⟨w.heap.size,2,none⟩=some (.slice Av acc.length cv)∧Wd.cell? ⟨w.heap.size+1+1,0,none⟩=some (.slice A7 l6.length c7):=⟨ak MO.out 0,ak MO.out 1,ak MO.out 2,ak HGd.out 0⟩
          clear hdr ho hblk7;refine kY (n:=9) (S:=fun w'=>w'.cell? ⟨w.heap.size,0,none⟩=some (.int .i64 b)∧w'.cell? ⟨w.heap.size,1,none⟩=some (.int .i64 gg)∧w'.cell? ⟨w.heap.size,2,none⟩=some (.slice Av acc.length cv)∧w'.cell? ⟨w.heap.size+1+1,0,none⟩=some (.slice A7 l6.length c7)) (ds:=[8]) (aQ 9 0) aA rfl rfl (by rw[hWd];exact hS) (fun hHeld=>?_);rw[hWd] at hHeld ⊢;clear hWd hS;refine jZ (i:=0) (N:=some 37) (v:=?_) (a':=?_) (aQ 9 1) rfl rfl aA (fun _ _ _ h=>uM.put aD aD h) (Or.inl ⟨by rfl,?_⟩) hHeld ?_ ?_;rotate_left
          ·rintro w' ⟨s1,s2,s3,s4⟩
           go_simp
           with_reducible rfl
          rotate_left
          ·simp only[Act.put,aYa,aYb,aYc,dn,dA];rfl
          refine fP (i:=1) (N:=some 38) (v:=?_) (a':=?_) (aQ 9 3) rfl rfl aA (fun _ _ _ h=>uM.put aD aD h) (Or.inl ⟨by rfl,?_⟩) ?_ ?_;rotate_left
          ·intro w'
           go_simp
           with_reducible rfl
          rotate_left
          ·simp only[Act.put,aYa,aYb,aYc,dn,dA];rfl
          refine fP (i:=2) (N:=some 39) (v:=?_) (a':=?_) (aQ 9 7) rfl rfl aA (fun _ _ _ h=>uM.put aD aD h) (Or.inl ⟨by rfl,?_⟩) ?_ ?_;rotate_left
          ·intro w'
           go_simp
           with_reducible rfl
          rotate_left
          ·simp only[Act.put,aYa,aYb,aYc,dn,dA];rfl
          refine fP (i:=3) (N:=some 40) (v:=?_) (a':=?_) (aQ 9 15) rfl rfl aA (fun _ _ _ h=>uM.put aD aD h) (Or.inl ⟨by rfl,?_⟩) ?_ ?_;rotate_left
          ·intro w'
           go_simp
           with_reducible rfl
          rotate_left
          ·simp only[Act.put,aYa,aYb,aYc,dn,dA];rfl
          refine jZ (i:=4) (N:=some 41) (v:=?_) (a':=?_) (aQ 9 31) rfl rfl aA (fun _ _ _ h=>uM.put aD aD h) (Or.inl ⟨by rfl,?_⟩) hHeld ?_ ?_;rotate_left
          ·rintro w' ⟨s1,s2,s3,s4⟩
           go_simp
           with_reducible rfl
          rotate_left
          ·simp only[Act.put,aYa,aYb,aYc,dn,dA];rfl
          refine fP (i:=5) (N:=some 42) (v:=?_) (a':=?_) (aQ 9 63) rfl rfl aA (fun _ _ _ h=>uM.put aD aD h) (Or.inl ⟨by rfl,?_⟩) ?_ ?_;rotate_left
          ·intro w'
           go_simp
           with_reducible rfl
          rotate_left
          ·simp only[Act.put,aYa,aYb,aYc,dn,dA];rfl
          refine fP (i:=6) (N:=some 43) (v:=?_) (a':=?_) (aQ 9 127) rfl rfl aA (fun _ _ _ h=>uM.put aD aD h) (Or.inl ⟨by rfl,?_⟩) ?_ ?_;rotate_left
          ·intro w'
           go_simp
           with_reducible rfl
          rotate_left
          ·simp only[Act.put,aYa,aYb,aYc,dn,dA];rfl
          refine mG 7 none (aQ 9 255) (fun K hK=>?_);rw[if_pos (by rfl)];refine wp_store_row 24 (.tmp 2) (.tmp 37) rfl w.heap.size #[.int .i64 b,.int .i64 gg,.slice Av acc.length cv] rfl rfl 24 _ MO.out aA (by rfl) (by simp[Value.oneCell']) ?_;have k8:(Wd.setRow w.heap.size #[.int .i64 b,.int .i64 gg,.slice Av acc.length cv]).heap[w.heap.size]?=some (.cells #[.int .i64 b,.int .i64 gg,.slice Av acc.length cv] 24 (0,0)):=setRow_heap _ _ _ _ _ _ MO.out;have j8:(Wd.setRow w.heap.size #[.int .i64 b,.int .i64 gg,.slice Av acc.length cv]).heap[w.heap.size+1]?=some (.cells #[.bool false] 4 (0,0)):=(setRow_other _ _ _ _ aj).trans HJd.out;have y8:(Wd.setRow w.heap.size #[.int .i64 b,.int .i64 gg,.slice Av acc.length cv]).cell? ⟨w.heap.size+1,0,none⟩=some (.bool false):=ak j8 0;have f8:=ay j8 0;have l8:=bE j8;have YU:=ah.mk (ku Yo.out MO.out aD #[.int .i64 b,.int .i64 gg,.slice Av acc.length cv]);have Nr:=ah.mk k8;have HJ8:=ah.mk j8;have I7:=ah.mk (below_setRow VB.out (Nat.le_refl _) #[.int .i64 b,.int .i64 gg,.slice Av acc.length cv]);have g8:(Wd.setRow w.heap.size #[.int .i64 b,.int .i64 gg,.slice Av acc.length cv]).cell? ⟨w.heap.size+1+1,0,none⟩=some (.slice A7 l6.length c7):=ak ((setRow_other _ _ _ _ aj).trans HGd.out) 0;refine hK.out _ _ ⟨ak k8 0,ak k8 1,ak k8 2,g8⟩ (fun hHeld=>?_);clear hK K hHeld k8 j8 g8;refine lS (i:=8) (N:=none) (aQ 9 511) rfl rfl aA aD (fun K hK=>?_);refine tZ (w1:=(Wd.setRow w.heap.size #[.int .i64 b,.int .i64 gg,.slice Av acc.length cv]).setCell ⟨w.heap.size+1,0,none⟩ (.bool ((l6.length:Int) == 0))) (by rfl) rfl ?_ ?_
          ·go_simp
           try rfl
          refine hK.out _ _ ?_;clear hK K;refine kK aA ?_
          go_wp2_with fail
          refine⟨rfl,rfl,rfl,b,gg,.slice Av acc.length cv,acc,((l6.length:Int) == 0),(Below.heap_setCell _ ⟨w.heap.size+1,0,none⟩ _ _ (by show w.heap.size≠w.heap.size+1;omega)).trans Nr.out,by have:=dM HJ8.out 0 (.bool ((l6.length:Int) == 0));simpa using this,Kd.iP YU.out HJ8.out aD 0 _,?_,I7.out.setCell (by show w.heap.size≤w.heap.size+1;omega) _⟩;rw[← HE0.out]
          by_cases h0:l6=[]
          ·rw[if_pos h0,h0];rfl
          rw[if_neg h0,beq_eq_false_iff_ne.2 (fun e=>h0 (List.length_eq_zero_iff.1 aj))];rfl
        rw[if_neg hk] at ho;have hkb:(kk != 0)=true:=bne_iff_ne.2 hk
        cases h7:jD kk rest with
        | none=>
         rw[h7] at ho;have cc:=DR w.heap.size wr.drew (w.heap.size+1+1) rest kk (Np.out.below (bA (Below.refl _ _))) HL.out;rw[h7] at cc
         go_wp2_with fail
         obtain⟨Av,cv,hv⟩:=Kd.bG HR.out;subst hv
         obtain⟨Wd,hWd⟩:∃Wd,wr.drew=Wd:=⟨_,rfl⟩
         have hdr:=bA (Below.refl wr.heap.size wr);rw[hWd] at hdr cc;have Yo:=ah.mk (Kd.dF HR.out hdr);have HTd:=ah.mk (Np.out.below hdr);have MO:=ah.mk (aG CP.out hdr);have HJd:=ah.mk (aG HJ6.out hdr);have VB:=ah.mk (sQ.out.trans (hdr.mono sQ.out.size));have hS:Wd.cell? ⟨w.heap.size,2,none⟩=some (.slice Av acc.length cv):=ak MO.out 2;have DU:=ah.mk ho;clear hdr ho;refine kY (n:=9) (S:=fun w'=>w'.cell? ⟨w.heap.size,2,none⟩=some (.slice Av acc.length cv)) (ds:=[6,8]) (aQ 9 0) aA rfl rfl (by rw[hWd];exact hS) (fun hHeld=>?_);rw[hWd] at hHeld ⊢;clear hWd hS;refine fP (i:=0) (N:=some 27) (v:=?_) (a':=?_) (aQ 9 1) rfl rfl aA (fun _ _ _ h=>uM.put aD aD h) (Or.inl ⟨by rfl,?_⟩) ?_ ?_;rotate_left
         ·intro w'
          go_simp
          with_reducible rfl
         rotate_left
         ·simp only[Act.put,aYa,aYb,aYc,dn,dA];rfl
         refine jZ (i:=1) (N:=some 28) (v:=?_) (a':=?_) (aQ 9 3) rfl rfl aA (fun _ _ _ h=>uM.put aD aD h) (Or.inl ⟨by rfl,?_⟩) hHeld ?_ ?_;rotate_left
         ·rintro w' s1
          go_simp
          with_reducible rfl
         rotate_left
         ·simp only[Act.put,aYa,aYb,aYc,dn,dA];rfl
         refine fP (i:=2) (N:=some 29) (v:=?_) (a':=?_) (aQ 9 7) rfl rfl aA (fun _ _ _ h=>uM.put aD aD h) (Or.inl ⟨by rfl,?_⟩) ?_ ?_;rotate_left
         ·intro w'
          go_simp
          with_reducible rfl
         rotate_left
         ·simp only[Act.put,aYa,aYb,aYc,dn,dA];rfl
         refine fP (i:=3) (N:=some 30) (v:=?_) (a':=?_) (aQ 9 15) rfl rfl aA (fun _ _ _ h=>uM.put aD aD h) (Or.inl ⟨by rfl,?_⟩) ?_ ?_;rotate_left
         ·intro w'
          go_simp
          with_reducible rfl
         rotate_left
         ·simp only[Act.put,aYa,aYb,aYc,dn,dA];rfl
         refine mG 4 (some 31) (aQ 9 31) (fun K hK=>?_);refine FH Tryz.func99 aA rfl #[.pointer (some ⟨w.heap.size+1+1,0,none⟩),.int .i64 kk] (by rfl) rfl rfl Nz ?_;have HE:=ah.mk (show o=none from DU.out.symm);refine cc.mono ?_;intro e w9 hh;obtain⟨he,nJ⟩:=hh;unfold dW at he;refine .inr ⟨[{ v:=.iface 141 (.agg #[]),recovered:=false }],he,?_⟩
         show uM w o (.panic _) _ _
         exact⟨rfl,rfl,rfl,rfl,HE.out,_,_,_,_,nJ.box MO.out Qc,nJ.box HJd.out hgj,oV VB.out nJ hgb⟩
        | some q=>
         obtain⟨c,l1⟩:=q;rw[h7] at ho;dsimp only at ho;have cc:=DR w.heap.size wr.drew (w.heap.size+1+1) rest kk (Np.out.below (bA (Below.refl _ _))) HL.out;rw[h7] at cc
         go_wp2_with fail
         obtain⟨Av,cv,hv⟩:=Kd.bG HR.out;subst hv
         obtain⟨Wd,hWd⟩:∃Wd,wr.drew=Wd:=⟨_,rfl⟩
         have hdr:=bA (Below.refl wr.heap.size wr);rw[hWd] at hdr cc;have Yo:=ah.mk (Kd.dF HR.out hdr);have HTd:=ah.mk (Np.out.below hdr);have MO:=ah.mk (aG CP.out hdr);have HJd:=ah.mk (aG HJ6.out hdr);have VB:=ah.mk (sQ.out.trans (hdr.mono sQ.out.size));have hS:Wd.cell? ⟨w.heap.size,2,none⟩=some (.slice Av acc.length cv):=ak MO.out 2;have DU:=ah.mk ho;clear hdr ho;refine kY (n:=9) (S:=fun w'=>w'.cell? ⟨w.heap.size,2,none⟩=some (.slice Av acc.length cv)) (ds:=[6,8]) (aQ 9 0) aA rfl rfl (by rw[hWd];exact hS) (fun hHeld=>?_);rw[hWd] at hHeld ⊢;clear hWd hS;refine fP (i:=0) (N:=some 27) (v:=?_) (a':=?_) (aQ 9 1) rfl rfl aA (fun _ _ _ h=>uM.put aD aD h) (Or.inl ⟨by rfl,?_⟩) ?_ ?_;rotate_left
         ·intro w'
          go_simp
          with_reducible rfl
         rotate_left
         ·simp only[Act.put,aYa,aYb,aYc,dn,dA];rfl
         refine jZ (i:=1) (N:=some 28) (v:=?_) (a':=?_) (aQ 9 3) rfl rfl aA (fun _ _ _ h=>uM.put aD aD h) (Or.inl ⟨by rfl,?_⟩) hHeld ?_ ?_;rotate_left
         ·rintro w' s1
          go_simp
          with_reducible rfl
         rotate_left
         ·simp only[Act.put,aYa,aYb,aYc,dn,dA];rfl
         refine fP (i:=2) (N:=some 29) (v:=?_) (a':=?_) (aQ 9 7) rfl rfl aA (fun _ _ _ h=>uM.put aD aD h) (Or.inl ⟨by rfl,?_⟩) ?_ ?_;rotate_left
         ·intro w'
          go_simp
          with_reducible rfl
         rotate_left
         ·simp only[Act.put,aYa,aYb,aYc,dn,dA];rfl
         refine fP (i:=3) (N:=some 30) (v:=?_) (a':=?_) (aQ 9 15) rfl rfl aA (fun _ _ _ h=>uM.put aD aD h) (Or.inl ⟨by rfl,?_⟩) ?_ ?_;rotate_left
         ·intro w'
          go_simp
          with_reducible rfl
         rotate_left
         ·simp only[Act.put,aYa,aYb,aYc,dn,dA];rfl
         refine mG 4 (some 31) (aQ 9 31) (fun K hK=>?_);refine FH Tryz.func99 aA rfl #[.pointer (some ⟨w.heap.size+1+1,0,none⟩),.int .i64 kk] (by rfl) rfl rfl Nz ?_;refine cc.mono ?_;rintro e w9 ⟨v5,v6,v7,rfl,r5,r6,r7,ht9,nJ⟩;obtain⟨A5,c5,e5⟩:=Kd.bG r5;obtain⟨A6,c6,e6⟩:=Kd.bG r6;obtain⟨A7,c7,e7⟩:=Kd.bG r7;subst e5 e6 e7;have hws:w.heap.size≤Wd.heap.size:=VB.out.size;have HM9:=ah.mk (R7 w9 w.heap.size (fun k=>Wd.heap.size≤k) c ⟨(uV r5).1,eU.lower (uV r5).2 hws⟩ ⟨(uV r6).1,eU.lower (uV r6).2 hws⟩ ⟨(uV r7).1,eU.lower (uV r7).2 hws⟩);have VA:=ah.mk (Qb Yo.out HTd.out nJ);have HT9:=ah.mk ht9;have Jd:=ah.mk (nJ.box MO.out Qc);have HJ9:=ah.mk (nJ.box HJd.out hgj);have FB:=ah.mk (oV VB.out nJ hgb)
         have HOK:ah (∀k,Wd.heap.size≤k→True∧some k≠(Value.slice Av acc.length cv).ownBlock):=⟨fun k hk=>⟨trivial,fun e=>by
          obtain⟨_,inner,ho2,_⟩:=Yo.out;have:=Qd ho2 k e.symm
          omega⟩⟩
         refine .inl ⟨_,rfl,hK.out _ _ (ak Jd.out 2) (fun hHeld=>?_)⟩;clear hK K r5 r6 r7 ht9 nJ cc Yo HTd MO HJd VB;refine fU 31 ?_;refine mG 5 (some 32) (aQ 9 63) (fun K hK=>?_);refine oN (v:=.slice (some ⟨w9.heap.size,0,none⟩) 1 1) (w1:=w9.alloc (.cells #[.int .i64 c.f0,.int .i64 c.f1.f0,.string c.f1.f1,.string c.f1.f2,.int .i64 c.f1.f3,.slice A5 c.f1.f4.length c5,.slice A6 c.f1.f5.length c6,.slice A7 c.f2.length c7] 31)) (by rfl) rfl ?_ ?_
         ·go_simp
          try rfl
         have hal:=(Below.refl w9.heap.size w9).alloc (Nat.le_refl _) (.cells #[.int .i64 c.f0,.int .i64 c.f1.f0,.string c.f1.f1,.string c.f1.f2,.int .i64 c.f1.f3,.slice A5 c.f1.f4.length c5,.slice A6 c.f1.f5.length c6,.slice A7 c.f2.length c7] 31);refine hK.out _ _ (au hal hHeld) (fun hHeld=>?_);clear hK K hal;refine fU 32 ?_;refine lS (i:=6) (N:=some 33) (aQ 9 127) rfl rfl aA aD (fun K hK=>?_);refine Kd.kD IW (w0:=w9) w.heap.size (by rfl) (.tmp 28) (.tmp 32) 22 31 (.agg #[.int .i64 0,.int .i64 0,.string ⟨#[]⟩,.string ⟨#[]⟩,.int .i64 0,.slice none 0 0,.slice none 0 0,.slice none 0 0]) 128 rfl Tryz.underlying22 CV rfl (by show 0<8;decide) aD (.slice Av acc.length cv) acc c [.int .i64 c.f0,.int .i64 c.f1.f0,.string c.f1.f1,.string c.f1.f2,.int .i64 c.f1.f3,.slice A5 c.f1.f4.length c5,.slice A6 c.f1.f5.length c6,.slice A7 c.f2.length c7] (fun _=>True) (fun k=>Wd.heap.size≤k) rfl rfl HM9.out HOK.out (fun _ _=>trivial) VA.out ((Below.refl _ _).mono FB.out.size) FB.out.size (by have:=hl.1;omega) ?_;intro v1 Ns hr1 _hb hg1 uN;obtain⟨zo,zq,hv1⟩:=Kd.bG hr1;subst hv1
         have hne:=fun k (hk:(Value.slice Av acc.length cv).ownBlock=some k)=>(show w.heap.size≤k∧k≠w.heap.size+1+1 from by
          obtain⟨_,inner,ho2,_⟩:=VA.out;refine⟨mH ho2 k hk,fun e=>?_⟩;obtain⟨_,At,ct,hblk,_⟩:=HT9.out
          exact Kd.uJ VA.out hblk aD (by rw[← e];exact hk.symm))
         have hk10:Ns.heap[w.heap.size]?=some (.cells #[.int .i64 b,.int .i64 gg,.slice Av acc.length cv] 24 (0,0)):=(hg1.block _ (bE Jd.out) (Kd.uJ VA.out Jd.out aD)).trans Jd.out;have agr:Ns.heap[w.heap.size+1]?=some (.cells #[.bool false] 4 (0,0)):=(hg1.block _ (bE HJ9.out) (Kd.uJ VA.out HJ9.out aD)).trans HJ9.out;have Y7:Ns.cell? ⟨w.heap.size,2,none⟩=some (.slice Av acc.length cv):=ak hk10 2;have f10:=ay hk10 2;have l10:=bE hk10;have ada:=ah.mk (show (Ns.setCell ⟨w.heap.size,2,none⟩ (.slice zo (acc++[c]).length zq)).heap[w.heap.size]?=some (.cells #[.int .i64 b,.int .i64 gg,.slice zo (acc++[c]).length zq] 24 (0,0)) by have:=dM hk10 2 (.slice zo (acc++[c]).length zq);simpa using this);have adb:=ah.mk (show (Ns.setCell ⟨w.heap.size,2,none⟩ (.slice zo (acc++[c]).length zq)).heap[w.heap.size+1]?=some (.cells #[.bool false] 4 (0,0)) from (Below.heap_setCell _ ⟨w.heap.size,2,none⟩ _ _ (by show w.heap.size+1≠w.heap.size;omega)).trans agr);have Y8:=ah.mk ((HT9.out.grow hg1 hne).set (j:=2) (.slice zo (acc++[c]).length zq) (b:=w.heap.size) (Nat.le_refl _) Qc);have Qe:=ah.mk ((FB.out.grown hg1 FB.out.size (fun k e=>(hne k e).1)).setCell (p:=⟨w.heap.size,2,none⟩) (Nat.le_refl _) (.slice zo (acc++[c]).length zq));have ags:=ah.mk (Kd.iP hr1 hk10 aD 2 (.slice zo (acc++[c]).length zq));clear hr1 _hb hg1 uN hk10 agr hne;refine hK.out _ _ ?_;clear hK K hHeld;refine fU 33 ?_;refine fP (i:=7) (N:=some 34) (v:=?_) (a':=?_) (aQ 9 255) rfl rfl aA (fun _ _ _ h=>uM.put aD aD h) (Or.inl ⟨by rfl,?_⟩) ?_ ?_;rotate_left
         ·intro w'
          go_simp
          with_reducible rfl
         rotate_left
         ·simp only[Act.put,aYa,aYb,aYc,dn,dA];rfl
         refine lS (i:=8) (N:=none) (aQ 9 511) rfl rfl aA aD (fun K hK=>?_);refine tZ (w1:=Ns.setCell ⟨w.heap.size,2,none⟩ (.slice zo (acc++[c]).length zq)) (by rfl) rfl ?_ ?_
         ·go_simp
         refine hK.out _ _ ?_;clear hK K;refine kK aA ?_
         obtain⟨FJ,agt⟩:∃FJ,Ns.setCell ⟨w.heap.size,2,none⟩ (.slice zo (acc++[c]).length zq)=FJ:=⟨_,rfl⟩
         rw[agt] at ada adb Y8 Qe ags ⊢;clear agt Y7 f10 l10 HM9 VA HT9 Jd HJ9 FB HOK;have ho:=DU.out;have hby:=FI h7 HL.out;have hl1:=hby.1
         go_wp2_with fail
         cases h12:gW 1 l1 with
         | none=>
          rw[h12] at ho;have HE:=ah.mk (show o=none from ho.symm);refine (mO Y8.out aD hl1 h12).mono ?_;intro e w9 hh;obtain⟨he,nJ⟩:=hh;unfold dW at he;subst he
          go_wp2_with fail
          exact⟨rfl,rfl,rfl,rfl,HE.out,_,_,_,_,nJ.box ada.out Qc,nJ.box adb.out hgj,oV Qe.out nJ hgb⟩
         | some q=>
          obtain⟨k2,l2⟩:=q;rw[h12] at ho;dsimp only at ho;refine (mM Y8.out aD hl1 h12).mono ?_;rintro e Qf ⟨rfl,agu,Wm⟩;have alA:=ah.mk (Qb ags.out Y8.out Wm);have alB:=ah.mk agu;have Wn:=ah.mk (oV Qe.out Wm hgb);have alC:=ah.mk (Wm.box ada.out Qc);have alD:=ah.mk (Wm.box adb.out hgj);clear agu Wm;have hl2:=fT h12 hl1;have hlr:=hby.2;have HL2:=ah.mk hl2.1;have hlq:=hl2.2;have wU:=ah.mk ho;clear ho hl2 hby h12 h7 hl1
          go_wp2_with fail
          go_roundg gk
          case measure=>omega
          case rel=>exact⟨k2,l2,acc++[c],_,rfl,by omega,by omega,by rw[List.length_append,List.length_singleton];omega,wU,HL2,alA,alB,alC,alD,Wn⟩
  rw[if_neg hmc] at ho;rw[decide_eq_false hmc] at hms;clear hc2 hm hm8 hmc;have HE:=ah.mk (show o=none from ho.symm);have j2:(w2.setRow w.heap.size #[.int .i64 0,.int .i64 0,.slice none 0 0]).heap[w.heap.size+1]?=some (.cells #[.bool false] 4 (0,0)):=(setRow_other _ _ _ _ aj).trans HJ2.out;have k2:(w2.setRow w.heap.size #[.int .i64 0,.int .i64 0,.slice none 0 0]).heap[w.heap.size]?=some (.cells #[.int .i64 0,.int .i64 0,.slice none 0 0] 24 (0,0)):=setRow_heap _ _ _ _ _ _ jG.out;have y2:(w2.setRow w.heap.size #[.int .i64 0,.int .i64 0,.slice none 0 0]).cell? ⟨w.heap.size+1,0,none⟩=some (.bool false):=ak j2 0;have f2:=ay j2 0;have l2:=bE j2;have HJ:=ah.mk j2;have HK:=ah.mk k2;clear j2 k2
  go_upto_region 4 with (fail)
  go_wp2_with (first|(refine dX (.load 24 (.tmp 2)) rfl ?_;refine wpList_load_row rfl _ _ rfl w.heap.size rfl 24 #[.int .i64 0,.int .i64 0,.slice none 0 0] (0,0) _ jG.out Tryz.underlying24 rfl aA ?_)|(refine dX (.store 24 (.tmp 2) (.tmp 14)) rfl ?_;refine wpList_store_row rfl 24 (.tmp 2) (.tmp 14) rfl w.heap.size #[.int .i64 0,.int .i64 0,.slice none 0 0] rfl rfl 24 _ jG.out aA (by rfl) (by simp[Value.oneCell']) ?_))
  refine⟨rfl,rfl,rfl,0,0,.slice none 0 0,[],false,(Below.heap_setCell _ ⟨w.heap.size+1,0,none⟩ _ _ (by show w.heap.size≠w.heap.size+1;omega)).trans HK.out,by have:=dM HJ.out 0 (.bool false);simpa using this,Kd.eY _ _ _ _ _,HE.out,?_⟩;exact (below_setRow HB2.out (Nat.le_refl _) _).setCell (by show w.heap.size≤w.heap.size+1;omega) _
theorem FL {w:World} {A:Option Addr} {l:List Ru} (h:Kd.C dB w A l.length l) (i:Nat) (hi:i<l.length):∃ad,A=some ad∧w.cell? (ad.add (i*2))=some (.int .i64 l[i].f0)∧w.cell? ⟨(ad.add (i*2)).block,(ad.add (i*2)).off+1,none⟩=some (.int .i64 l[i].f1):=by
 obtain⟨ad,hA,r0,r1⟩:=dP h (i:Int) aj aj
 have hrd:aK l (i:Int)=l[i]:=by simp[aK,hi]
 rw[hrd,Int.toNat_natCast] at r0 r1;exact⟨ad,hA,r0,r1⟩
theorem uX (A0:Option Addr) (c0:Nat) (l:List Ru) (most:Int) (w:World) (hr:Kd.C dB w A0 l.length l) (hc:l.length≤c0) (hl:l.length≤140737488351232) (hm0:0≤most) (hm1:most≤1048576) :
  Calls Tryz.prog 136 #[.slice A0 l.length c0,.int .i64 most] w fun e w'=>e=.returned (.tuple #[.int .i64 ((jm l most).getD 0),.bool (jm l most).isSome])∧Below w.heap.size w w':=by
 have HR:=ah.mk hr;clear hr
 go_enter Tryz.func136,Tryz.ntmps136
 go_wp2_with fail
 go_loopg [6,7,12] l.length (fun g s6 s7 s12 wx=>∃(i:Nat) (last all:Int),i+g=l.length∧s12=.int .i64 i∧s6=.int .i64 last∧s7=.int .i64 all∧-1≤last∧last≤most∧0≤all∧all≤last+1∧ah (gZ most last all (l.drop i)=jm l most)∧ah (Below w.heap.size w wx))
 case atStart=>exact⟨0,-1,0,by omega,rfl,rfl,rfl,by omega,by omega,by omega,by omega,⟨by rw[List.drop_zero];rfl⟩,⟨Below.refl _ _⟩⟩
 case round=>
  obtain⟨i,last,all,hig,rfl,rfl,rfl,h1,h2,h3,h4,HG,HB⟩:=hrel;by_cases hi:i<l.length
  ·obtain⟨ad,hA,r0,r1⟩:=FL (Kd.aC HR.out HB.out) i hi;subst hA;have hg:=HG.out;rw[List.drop_eq_getElem_cons hi] at hg
   obtain⟨r,hr⟩:∃r,l[i]=r:=⟨_,rfl⟩
   rw[hr] at hg r0 r1;have Bf:=ah.mk (HB.out.trans (((Below.refl wr.heap.size wr).alloc (Nat.le_refl _) (.cells #[.int .i64 r.f0,.int .i64 r.f1] 117)).mono HB.out.size));have Pw:=ah.mk hg;clear hg hr HG HB;by_cases c1:r.f0≤last
   ·have HN:ah (jm l most=none):=⟨by rw[← Pw.out,gZ,if_pos (.inl c1)]⟩
    go_wp2_with fail
    go_ret2
    exact⟨by rw[HN.out];rfl,Bf.out⟩
   by_cases c2:r.f1≤r.f0
   ·have HN:ah (jm l most=none):=⟨by rw[← Pw.out,gZ,if_pos (.inr (.inl c2))]⟩
    go_wp2_with fail
    go_ret2
    exact⟨by rw[HN.out];rfl,Bf.out⟩
   by_cases c3:most<r.f1
   ·have HN:ah (jm l most=none):=⟨by rw[← Pw.out,gZ,if_pos (.inr (.inr c3))]⟩
    go_wp2_with fail
    go_ret2
    exact⟨by rw[HN.out];rfl,Bf.out⟩
   have HN:ah (gZ most r.f1 (all+(r.f1 - r.f0)) (l.drop (i+1))=jm l most):=⟨by rw[← Pw.out,gZ,if_neg aj]⟩
   go_wp2_with fail
   go_roundg (l.length - (i+1))
   case measure=>omega
   case rel=>exact⟨i+1,r.f1,all+(r.f1 - r.f0),by omega,by first|rfl|simp,rfl,rfl,by omega,by omega,by omega,by omega,HN,Bf⟩
  have HN:ah (jm l most=some all):=⟨by rw[← HG.out,List.drop_of_length_le aj];rfl⟩
  go_wp2_with fail
  go_ret2
  exact⟨by rw[HN.out];rfl,HB.out⟩
theorem ade (n:Int) (w:World) (h0:0≤n) (h1:n≤1099511627776):Calls Tryz.prog 147 #[.int .i64 n] w fun e w'=>e=.returned (.int .i64 ((n+511) / 512))∧w'=w:=by
 go_enter Tryz.func147,Tryz.ntmps147
 go_wp2_with fail
 go_ret
 refine⟨?_,rfl⟩
 show Ending.returned (.int .i64 ((n+512 - 1) / 512))=_
 rw[show n+512 - 1=n+511 by omega]
theorem Db (x:It) (A4:Option Addr) (c4:Nat) (v5:Value) (w:World) (hr:Kd.C dB w A4 x.f4.length x.f4) (hc:x.f4.length≤c4) (hl:x.f4.length≤140737488351232) :
  Calls Tryz.prog 133 #[.agg #[.int .i64 x.f0,.string x.f1,.string x.f2,.int .i64 x.f3,.slice A4 x.f4.length c4,v5]] w fun e w'=>e=.returned (.tuple #[.int .i64 ((gJ x).getD 0),.bool (gJ x).isSome])∧Below w.heap.size w w':=by
 obtain⟨X,hX⟩:∃X,#[Value.int .i64 x.f0,.string x.f1,.string x.f2,.int .i64 x.f3,.slice A4 x.f4.length c4,v5]=X:=⟨_,rfl⟩
 have hbx:=bJ w (.cells X 29)
 have x3:(w.alloc (.cells X 29)).cell? ⟨w.heap.size,3,none⟩=some (.int .i64 x.f3):=by rw[ak hbx,← hX];rfl
 have x4:(w.alloc (.cells X 29)).cell? ⟨w.heap.size,4,none⟩=some (.slice A4 x.f4.length c4):=by rw[ak hbx,← hX];rfl
 rw[hX];have HB:=ah.mk ((Below.refl w.heap.size w).alloc (Nat.le_refl _) (.cells X 29));have HR:=ah.mk hr
 have h4:X.size=6:=by rw[← hX];rfl
 have HX:=ah.mk hX;have H4:=ah.mk h4;clear hr hX h4 hbx;by_cases c1:x.f3<0
 ·have HN:ah (gJ x=none):=⟨by unfold gJ;rw[if_pos (.inl c1)]⟩
  go_enter Tryz.func133,Tryz.ntmps133
  go_wp2_with fail
  go_ret2
  exact⟨by rw[HN.out];rfl,HB.out⟩
 by_cases c2:8459264<x.f3
 ·have HN:ah (gJ x=none):=⟨by unfold gJ;rw[if_pos (.inr c2)]⟩
  go_enter Tryz.func133,Tryz.ntmps133
  go_wp2_with fail
  go_ret2
  exact⟨by rw[HN.out];rfl,HB.out⟩
 have HN:ah (gJ x=jm x.f4 ((x.f3+511) / 512)):=⟨by unfold gJ;rw[if_neg aj]⟩
 obtain⟨W1,hW1⟩:∃W1,w.alloc (.cells X 29)=W1:=⟨_,rfl⟩
 rw[hW1] at HB x3 x4
 go_enter Tryz.func133,Tryz.ntmps133
 go_wp2_with fail
 try rw[hW1]
 have hdr:=bA (Below.refl W1.heap.size W1)
 have hS:W1.drew.cell? ⟨w.heap.size,3,none⟩=some (.int .i64 x.f3)∧W1.drew.cell? ⟨w.heap.size,4,none⟩=some (.slice A4 x.f4.length c4)∧ah (Below w.heap.size w W1.drew):=⟨au hdr x3,au hdr x4,⟨HB.out.trans (hdr.mono HB.out.size)⟩⟩
 clear x3 x4 hdr;refine kY (n:=10) (S:=(fun w'=>w'.cell? ⟨w.heap.size,3,none⟩=some (.int .i64 x.f3)∧w'.cell? ⟨w.heap.size,4,none⟩=some (.slice A4 x.f4.length c4)∧ah (Below w.heap.size w w'))) (ds:=[]) (aQ 10 0) aA rfl rfl hS (fun hHeld=>?_);clear hS;refine bR 0 12 (aQ 10 1) ?_;refine jv 1 13 (aQ 10 3) rfl hHeld (by rintro w' ⟨s3,s4,s5⟩;go_simp;with_reducible rfl) ?_;refine bR 2 14 (aQ 10 7) ?_;refine jv 3 15 (aQ 10 15) rfl hHeld (by rintro w' ⟨s3,s4,s5⟩;go_simp;with_reducible rfl) ?_;refine mG 4 (some 16) (aQ 10 31) (fun K hK=>?_);refine qj Tryz.func147 #[.int .i64 x.f3] ?_;refine (ade x.f3 _ aj aj).mono ?_;rintro e w2 ⟨rfl,rfl⟩;refine⟨_,rfl,?_⟩;refine hK.out _ _ hHeld (fun hHeld=>?_);clear hK K;refine fU 16 ?_;refine mG 5 (some 17) (aQ 10 63) (fun K hK=>?_);refine qj Tryz.func136 #[.slice A4 x.f4.length c4,.int .i64 ((x.f3+511) / 512)] ?_;refine (uX A4 c4 x.f4 ((x.f3+511) / 512) _ (Kd.aC HR.out hHeld.2.2.out) hc hl aj aj).mono ?_;rintro e w3 ⟨rfl,hb3⟩;refine⟨_,rfl,?_⟩;refine hK.out _ _ ⟨au hb3 hHeld.1,au hb3 hHeld.2.1,⟨hHeld.2.2.out.trans (hb3.mono hHeld.2.2.out.size)⟩⟩ ?_;clear hb3 hHeld hK K;intro hHeld;refine fU 17 ?_;refine bR 6 18 (aQ 10 127) ?_;refine bR 7 19 (aQ 10 255) ?_;refine bR 8 2 (aQ 10 511) ?_;refine bR 9 3 (aQ 10 1023) ?_;refine kK aA ?_;have HB3:=hHeld.2.2;clear hHeld
 go_wp2_with fail
 go_ret2
 exact⟨by rw[HN.out];rfl,HB3.out⟩
theorem zZ {rows:List Ru} {n:Nat} (h:rows.length=n+1) (size:Int):zB rows size=(rows[n]'aj).f1*512 - size:=by
 unfold zB;rw[List.getLast?_eq_getElem?,List.getElem?_eq_getElem aj];simp only[h,Nat.add_sub_cancel]
theorem JN (A0:Option Addr) (c0:Nat) (rows:List Ru) (A1:Option Addr) (c1:Nat) (data:List Int) (size:Int) (w:World) (hr:Kd.C dB w A0 rows.length rows) (hc:rows.length≤c0) (hl:rows.length≤140737488351232)
  (hd:Kd.C (Kd.int .u8) w A1 data.length data) (hc1:data.length≤c1) (hl1:data.length≤140737488351232) (hb:∀r∈rows,0≤r.f1∧r.f1≤1048576) (hs0:0≤size) (hs1:size≤1099511627776) (ht:zB rows size≤data.length) :
  Calls Tryz.prog 134 #[.slice A0 rows.length c0,.slice A1 data.length c1,.int .i64 size] w fun e w'=>e=.returned (.bool (lZ rows data size))∧Below w.heap.size w w':=by
 have HR:=ah.mk hr;have HD:=ah.mk hd
 cases hn:rows.length with
 | zero=>
  have he:rows=[]:=List.length_eq_zero_iff.1 hn
  have HN:ah (lZ rows data size=true):=⟨by rw[he];rfl⟩
  clear hr hd hn he hb ht
  go_enter Tryz.func134,Tryz.ntmps134
  go_wp2_with fail
  go_ret
  exact⟨by rw[HN.out];rfl,Below.refl _ _⟩
 | succ n=>
  obtain⟨ad,hA,r0,r1⟩:=FL hr n aj;have htl:=zZ hn size
  obtain⟨r,hrr⟩:∃r,rows[n]'aj=r:=⟨_,rfl⟩
  have hrb:=hb (rows[n]'aj) (List.getElem_mem _);rw[hrr] at r0 r1 htl hrb;subst hA;have hz:((n:Int)+1 == 0)=false:=beq_eq_false_iff_ne.2 aj;have HN:=ah.mk hn
  have hnl:n+1≤140737488351232:=by omega
  by_cases c:r.f1*512≤size
  ·have HQ:ah (lZ rows data size=true):=⟨by unfold lZ;rw[if_pos aj]⟩
   clear hr hd hb ht htl hrr hn
   go_enter Tryz.func134,Tryz.ntmps134
   go_wp2_with fail
   go_ret
   exact⟨by rw[HQ.out];rfl,Below.refl _ _⟩
  obtain⟨tl,alE⟩:∃tl:Nat,r.f1*512 - size=tl:=⟨(r.f1*512 - size).toNat,by omega⟩
  rw[htl] at ht
  have hq:lZ rows data size=(data.drop (data.length - tl)).all fun n=>decide (n=0):=by
   unfold lZ;rw[if_neg aj,htl,alE,Int.toNat_natCast]
  obtain⟨i0,hi0,_,hz1,_⟩:=info_parts info5
  have htd:tl≤data.length:=by omega
  have hsl:=@Fx Tryz.prog 27 5 .i64 i0 Tryz.underlying27 hi0 1 hz1 A1 data.length c1 ((data.length:Int) - tl) aj aj;have hcd:=Kd.PY (m:=data.length - tl) (c:=c1) hd aj hc1;rw[show ((data.length:Int) - tl).toNat=data.length - tl by omega] at hsl;rw[show (Kd.int .u8).sz=1 from rfl] at hcd
  obtain⟨a3,Pp⟩:∃a3,(if c1=data.length - tl then A1 else A1.map (·.add ((data.length - tl)*1)))=a3:=⟨_,rfl⟩
  obtain⟨c3,hc3⟩:∃c3,c1 - (data.length - tl)=c3:=⟨_,rfl⟩
  rw[Pp] at hsl hcd;rw[hc3] at hsl
  obtain⟨d,hdd⟩:∃d,data.drop (data.length - tl)=d:=⟨_,rfl⟩
  have hdl:d.length=tl:=by rw[← hdd,List.length_drop];omega
  rw[hdd] at hcd hq;rw[show data.length - (data.length - tl)=d.length by omega] at hsl;have HQ:=ah.mk hq;have Jf:=ah.mk hcd
  have hsub:IntKind.i64.wrap ((data.length:Int) - (r.f1*512 - size))=(data.length:Int) - tl:=by rw[IntKind.wrap_i64];omega
  clear hr hd hb ht htl hrr hn hq hcd Pp hc3 hdd
  go_enter Tryz.func134,Tryz.ntmps134
  go_wp2_with fail
  have HB0:=ah.mk (Below.refl w.heap.size w)
  go_loopg [42] d.length (fun g s42 wx=>∃i:Nat,i+g=d.length∧s42=.int .i64 i∧ah (Below w.heap.size w wx)∧ah ((d.take i).all (fun n=>decide (n=0))=true))
  case atStart=>exact⟨0,by omega,rfl,HB0,⟨by simp⟩⟩
  case round=>
   obtain⟨i,hig,rfl,HB,HT⟩:=hrel;clear HB0;by_cases hi:i<d.length
   ·obtain⟨ad3,hA3,r3⟩:=Kd.qx (Kd.aC Jf.out HB.out) (i:Int) aj aj;rw[Int.toNat_natCast,Nk d i hi] at r3;subst hA3
    obtain⟨v,hv⟩:∃v,d[i]=v:=⟨_,rfl⟩
    rw[hv] at r3;have HV:=ah.mk hv;clear hv;by_cases hx:v=0
    ·have hxb:(v != 0)=false:=by rw[hx];rfl
     have HX:=ah.mk hx;clear hx
     go_wp2_with fail
     go_roundg (d.length - (i+1))
     case measure=>omega
     case rel=>exact⟨i+1,by omega,by first|rfl|simp,HB,⟨by rw[List.take_succ_eq_append_getElem hi,List.all_append,HT.out,HV.out,HX.out];rfl⟩⟩
    have hxb:(v != 0)=true:=bne_iff_ne.2 hx;have HX:=ah.mk hx;clear hx
    have HF:ah (lZ rows data size=false):=⟨by
     rw[HQ.out]
     refine List.all_eq_false.2 ⟨v,by rw[← HV.out];exact List.getElem_mem hi,by simpa using HX.out⟩⟩
    go_wp2_with fail
    go_ret
    exact⟨by rw[HF.out];rfl,HB.out⟩
   have HF:ah (lZ rows data size=true):=⟨by
    have h:=HT.out;rw[List.take_of_length_le aj] at h;rw[HQ.out]
    exact h⟩
   go_wp2_with fail
   go_ret
   exact⟨by rw[HF.out];rfl,HB.out⟩
theorem Aa (A0:Option Addr) (c0:Nat) (rows:List Ru) (A1:Option Addr) (c1:Nat) (o:List Ru) (w:World) (hr:Kd.C dB w A0 rows.length rows) (hc:rows.length≤c0) (hl:rows.length≤140737488351232)
  (ho:Kd.C dB w A1 o.length o) (hc1:o.length≤c1) (hl1:o.length≤140737488351232) :
  Calls Tryz.prog 137 #[.slice A0 rows.length c0,.slice A1 o.length c1] w fun e w'=>e=.returned (.bool (gU rows o))∧Below w.heap.size w w':=by
 have HR:=ah.mk hr;have HO:=ah.mk ho;clear hr ho
 go_enter Tryz.func137,Tryz.ntmps137
 go_wp2_with fail
 have HB0:=ah.mk (Below.refl w.heap.size w)
 go_loopg [5,10] rows.length (fun g s5 s10 wx=>∃i j:Nat,i+g=rows.length∧j≤o.length∧s10=.int .i64 i∧s5=.int .i64 j∧ah (gU (rows.drop i) (o.drop j)=gU rows o)∧ah (Below w.heap.size w wx))
 case atStart=>exact⟨0,0,by omega,by omega,rfl,rfl,⟨by rw[List.drop_zero,List.drop_zero]⟩,HB0⟩
 case round=>
  obtain⟨i,j,hig,hj,rfl,rfl,HG,HB⟩:=hrel;clear HB0;by_cases hi:i<rows.length
  ·obtain⟨ad,hA,r0,r1⟩:=FL (Kd.aC HR.out HB.out) i hi;subst hA;have hg:=HG.out;rw[List.drop_eq_getElem_cons hi] at hg
   obtain⟨r,hr⟩:∃r,rows[i]=r:=⟨_,rfl⟩
   rw[hr] at hg r0 r1;have Pw:=ah.mk hg;clear hg hr HG
   go_wp2_with fail
   obtain⟨wo,rfl⟩:∃wo,wo=wr:=⟨_,rfl⟩
   obtain⟨go,rfl⟩:∃go,go=gk:=⟨_,rfl⟩
   have hal:=(Below.refl wo.heap.size wo).alloc (Nat.le_refl _) (.cells #[.int .i64 r.f0,.int .i64 r.f1] 117);have HBK:=ah.mk (bJ wo (.cells #[.int .i64 r.f0,.int .i64 r.f1] 117));have HB1:=ah.mk (HB.out.trans (hal.mono HB.out.size));clear hal r0 r1
   go_loopg [5] (o.length - j) (fun g s5 wx=>∃j2:Nat,j2+g=o.length∧s5=.int .i64 j2∧ah ((o.drop j).dropWhile (fun q=>decide (q.f1<r.f1))=(o.drop j2).dropWhile (fun q=>decide (q.f1<r.f1)))∧ah (Below w.heap.size w wx)∧ah (wx.heap[wo.heap.size]?=some (.cells #[.int .i64 r.f0,.int .i64 r.f1] 117 (0,0))))
   case atStart=>exact⟨j,by omega,rfl,⟨rfl⟩,HB1,HBK⟩
   case round=>
    obtain⟨j2,hjg,rfl,HD,HB2,jG⟩:=hrel;clear HB1 HBK;have z0:wr.cell? ⟨wo.heap.size,0,none⟩=some (.int .i64 r.f0):=ak jG.out 0;have z1:wr.cell? ⟨wo.heap.size,1,none⟩=some (.int .i64 r.f1):=ak jG.out 1;by_cases hj2:j2<o.length
    ·obtain⟨EH,hA2,q0,q1⟩:=FL (Kd.aC HO.out HB2.out) j2 hj2;subst hA2;have hd:=HD.out;rw[List.drop_eq_getElem_cons hj2] at hd
     obtain⟨q,hq⟩:∃q,o[j2]=q:=⟨_,rfl⟩
     rw[hq] at hd q0 q1;have HQ:=ah.mk hq;have d1:decide ((j2:Int)<(o.length:Int))=true:=decide_eq_true aj;have d2:decide (j2<o.length)=true:=decide_eq_true hj2;have d3:((j2:Int) == (o.length:Int))=false:=beq_eq_false_iff_ne.2 aj;have d4:(j2 == o.length)=false:=beq_eq_false_iff_ne.2 aj;by_cases hlt:q.f1<r.f1
     ·have e1:decide (q.f1<r.f1)=true:=decide_eq_true hlt;have HD2:=ah.mk (show (o.drop j).dropWhile (fun q=>decide (q.f1<r.f1))=(o.drop (j2+1)).dropWhile (fun q=>decide (q.f1<r.f1)) by rw[hd,List.dropWhile_cons_of_pos (by simpa using hlt)]);clear hd hq
      go_wp2_with fail
      go_quiet (fail)
      go_wp2_with fail
      go_roundg (o.length - (j2+1))
      case measure=>omega
      case rel=>exact⟨j2+1,by omega,by first|rfl|simp,HD2,⟨(by repeat (first|exact HB2.out|apply av|apply bA))⟩,⟨jG.out⟩⟩
     have e1:decide (q.f1<r.f1)=false:=decide_eq_false hlt;have HD2:=ah.mk (show (o.drop j).dropWhile (fun q=>decide (q.f1<r.f1))=q::o.drop (j2+1) by rw[hd,List.dropWhile_cons_of_neg (by simpa using hlt)]);have HDJ:=ah.mk (show o.drop j2=q::o.drop (j2+1) by rw[List.drop_eq_getElem_cons hj2,hq]);clear hd hq;by_cases hf:r.f0<q.f0
     ·have e2:decide (r.f0<q.f0)=true:=decide_eq_true hf
      have HF:ah (gU rows o=false):=⟨by rw[← Pw.out,gU,HD2.out];dsimp only;rw[if_pos hf]⟩
      go_wp2_with fail
      go_quiet (fail)
      go_wp2_with fail
      go_quiet (fail)
      go_wp2_with fail
      go_ret
      exact⟨by rw[HF.out];rfl,(by repeat (first|exact HB2.out|apply av|apply bA))⟩
     have e2:decide (r.f0<q.f0)=false:=decide_eq_false hf
     have HF:ah (gU (rows.drop (i+1)) (o.drop j2)=gU rows o):=⟨by rw[← Pw.out,gU,HD2.out];dsimp only;rw[if_neg hf,HDJ.out]⟩
     go_wp2_with fail
     go_quiet (fail)
     go_wp2_with fail
     go_quiet (fail)
     go_wp2_with fail
     go_roundg (rows.length - (i+1))
     case measure=>omega
     case rel=>exact⟨i+1,j2,by omega,by omega,by first|rfl|simp,rfl,HF,⟨(by repeat (first|exact HB2.out|apply av|apply bA))⟩⟩
    obtain rfl:j2=o.length:=by omega
    have d1:decide ((o.length:Int)<(o.length:Int))=false:=decide_eq_false aj
    have HF:ah (gU rows o=false):=⟨by rw[← Pw.out,gU,HD.out,List.drop_length];rfl⟩
    go_wp2_with fail
    go_quiet (fail)
    go_wp2_with fail
    go_quiet (fail)
    go_wp2_with fail
    go_ret
    exact⟨by rw[HF.out];rfl,(by repeat (first|exact HB2.out|apply av|apply bA))⟩
  have HF:ah (gU rows o=true):=⟨by rw[← HG.out,List.drop_of_length_le aj];rfl⟩
  go_wp2_with fail
  go_ret
  exact⟨by rw[HF.out];rfl,HB.out⟩
end Go.Proofs.YtknihldkhedpkaaGreatDoor
end
