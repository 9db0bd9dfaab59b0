import Derived.Test.YtknihldkhedpkaaGreatDoorDDG6
import Derived.Test.YtknihldkhedpkaaGreatDoorDDG9
import Derived.LoopNIn
import Derived.LoopIn
import Derived.Shelf.Abstract
import Derived.Shelf.RegionOpen
set_option linter.all false
set_option maxHeartbeats 16000000
set_option maxRecDepth 100000
section
namespace Go.Proofs.YtknihldkhedpkaaGreatDoor
open Go.RowKit
section
variable {P : Program} {α : Type}
def Zm (B:FuncId→Prop) (P:Program) (c:Code) (Q:Exit→Act→World→Prop) (a:Act) (w:World):Prop :=
 ∀(b:Frame) (k:List Item) (cs:List Frame),b.roundOf=none→B b.fn→∃e a' w',Q e a' w'∧ArrivesIn (Machine.fenced P Fence.wide) P (lone (b.atR a (.code c::k)) cs w) b k cs e a' w'
variable {B : FuncId → Prop} {Q : Exit → Act → World → Prop} {a : Act} {w : World}
theorem rD {c:Code} (h:c.wp P Q a w):Zm B P c Q a w:=fun b k cs hro _=>(wpIn_wide (n:=0)).2 h b k cs hro trivial (room_wide _)
theorem yD {x y:Code} (h:Zm B P x (Exit.then (Zm B P y Q) Q) a w):Zm B P (Code.seq x y) Q a w:=by
 intro b k cs hro hb;have h0:(lone (b.atR a (.code (.seq x y)::k)) cs w).fenced P Fence.wide:=fenced_wide _ _;obtain⟨e,a₁,w₁,hq,harr⟩:=h b (.code y::k) cs hro hb
 cases e with
 | normal=>
  obtain⟨e₂,a₂,w₂,hq₂,harr₂⟩:=hq b k cs hro hb;exact⟨e₂,a₂,w₂,hq₂,.of_steps (.head h0 stepR_seq harr) harr₂⟩
 | exit id=>exact⟨_,a₁,w₁,hq,.of_steps (.one h0 stepR_seq) (.pass (x:=.code y) rfl (fun _ _=>.inl bB) harr)⟩
 | goto l=>exact⟨_,a₁,w₁,hq,.of_steps (.one h0 stepR_seq) (.pass (x:=.code y) rfl (fun _ _=>.inl bB) harr)⟩
 | ret=>exact⟨_,a₁,w₁,hq,.of_steps (.one h0 stepR_seq) (.pass (x:=.code y) rfl (fun _ _=>.inl bB) harr)⟩
 | panic ch=>exact⟨_,a₁,w₁,hq,.of_steps (.one h0 stepR_seq) (.pass (x:=.code y) rfl (fun _ _=>.inl bB) harr)⟩
 | outgrown=>exact⟨_,a₁,w₁,hq,.of_steps (.one h0 stepR_seq) (.pass (x:=.code y) rfl (fun _ _=>.inl bB) harr)⟩
theorem Lm {f:FuncId} {fn:Func} {c:Code} {args:Array Value} {R:Ending→World→Prop}
  (hf:P.funcs[f]?=some fn) (hb:fn.body=some c)
  (h:Zm (fun g=>∃x,P.funcs[g]?=some x) P c (bodyPostM Fence.wide 0 P fn R) { tmps:=args++Array.replicate (fn.ntmps - args.size) undef,defers:=[] } w):Calls P f args w R:=by
 refine (callsIn_wide (n:=0)).1 ⟨trivial,fun cs hr=>?_⟩
 let b:Frame:={ (default:Frame) with fn:=f,kind:=.normal,roundOf:=none }
 have henter:Frame.enter P f args .normal =
   b.atR { tmps:=args++Array.replicate (fn.ntmps - args.size) undef,defers:=[] } [.code c]:=by
  simp[Frame.enter,Frame.atR,hf,hb,b]
 obtain⟨e,a',w',hq,harr⟩:=h b [] cs rfl ⟨fn,hf⟩;rw[← henter] at harr
 cases e with
 | normal=>
  obtain⟨e',w'',fr',hR,hs,hfn,hl⟩:=leaves_stepsInM a'.defers .returning w' { b.atR a' [] with mode:=.returning } cs rfl rfl rfl hf rfl trivial hr hq;exact⟨e',w'',fr',hR,ComesIn.of_steps (StepsIn.trans harr (.one (fenced_wide _ _) (stepR_end rfl))) hs,hfn,hl⟩
 | ret=>
  obtain⟨todo,hs₀⟩:=harr.1 rfl;obtain⟨e',w'',fr',hR,hs,hfn,hl⟩:=leaves_stepsInM a'.defers .returning w' { b.atR a' todo with mode:=.returning } cs rfl rfl rfl hf rfl trivial hr hq;exact⟨e',w'',fr',hR,ComesIn.of_steps hs₀ hs,hfn,hl⟩
 | panic chain=>
  obtain⟨todo,hs₀⟩:=harr;obtain⟨e',w'',fr',hR,hs,hfn,hl⟩:=leaves_stepsInM a'.defers (.panicking chain) w' { b.atR a' todo with mode:=.panicking chain } cs rfl rfl rfl hf rfl trivial hr hq;exact⟨e',w'',fr',hR,ComesIn.of_steps hs₀ hs,hfn,hl⟩
 | exit id=>exact hq.elim
 | goto l=>exact hq.elim
 | outgrown=>exact⟨.outgrown,w',b,hq,harr.resolve_left (by simp[b]),rfl,trivial⟩
def afs (P:Program) (l:Nat) (R:Ending→World→Prop):Exit→Act→World→Prop
 | .normal,_,w=>∃v w',(Instr.endRound l none).run P w=.ok v w'∧R (.returned v) w'
 | .panic ch,a,w=>a.defers=[]∧R (.panicked ch) w
 | _,_,_=>False
theorem IX {l:Nat} {f:FuncId} {n:Nat} {tmps:Array Value} {assign body:Code} {R:Ending→World→Prop} (hf:∃x,P.funcs[f]?=some x)
  (h:assign.wpIn (Fence.wide.inRound l) n P (Exit.then (fun a₁ w₁=>∃w₂,(Instr.beginRound l).run P w₁=.ok () w₂∧body.wpIn (Fence.wide.inRound l) n P (afs P l R) a₁ w₂) (fun _ _ _=>False))
   { tmps:=tmps,defers:=[] } w) :
  RoundIn Fence.wide n P l f tmps assign body w R:=by
 refine⟨trivial,fun c cs hr=>?_⟩
 let b:Frame:={ (default:Frame) with fn:=f,kind:=.normal,roundOf:=some l }
 have hb0:Frame.round l f tmps assign body .normal=b.atR { tmps:=tmps,defers:=[] } [.code assign,.beginRound,.code body]:=by
  simp[Frame.round,Frame.atR,b]
 obtain⟨e,a₁,w₁,hq,harr⟩:=h b [.beginRound,.code body] (c::cs) rfl trivial hr;rw[← hb0] at harr
 cases e with
 | normal=>
  obtain⟨w₂,hbr,hbody⟩:=hq
  have s1:StepsIn (Machine.fenced P Fence.wide) P (lone (b.atR a₁ [.beginRound,.code body]) (c::cs) w₁) (lone (b.atR a₁ [.code body]) (c::cs) w₂) :=
   .one (fenced_wide _ _) (stepR_beginRound rfl hbr)
  obtain⟨e₂,a₂,w₃,hq₂,harr₂⟩:=hbody b [] (c::cs) rfl trivial hr
  cases e₂ with
  | normal=>
   obtain⟨v,w₄,hend,hR⟩:=hq₂;exact⟨.returned v,w₄,hR,(StepsIn.trans harr s1).trans (StepsIn.trans harr₂ (.one (fenced_wide _ _) (stepR_round_end rfl rfl hend)))⟩
  | panic chain=>
   obtain⟨hd,hR⟩:=hq₂;obtain⟨todo,hs⟩:=harr₂;exact⟨.panicked chain,w₃,hR,(StepsIn.trans harr s1).trans (StepsIn.trans hs (.one (fenced_wide _ _) (step_leave_panicked ⟨rfl,hd,hf⟩)))⟩
  | ret=>exact hq₂.elim
  | exit id=>exact hq₂.elim
  | goto t=>exact hq₂.elim
  | outgrown=>exact hq₂.elim
 | exit id=>exact hq.elim
 | goto t=>exact hq.elim
 | ret=>exact hq.elim
 | panic chain=>exact hq.elim
 | outgrown=>exact hq.elim
def aaS (S:List α→Prop) (J:List α→World→Prop) (X:List PanicEntry→World→Prop) (e:Ending) (B:World):Prop :=
 ((∃v,e=.returned v)∧∃xs,S xs∧J xs B)∨(∃ch,e=.panicked ch∧X ch B)
def Hw (P:Program) (gf:Nat) (lb:Array Value) (encs:α→Array Value) (Good:List α→α→World→Prop) (St Kp:World→World→Prop) (S:List α→Prop) (w:World):Prop :=
 ∀(l:Nat) (J:List α→World→Prop) (X:List PanicEntry→World→Prop) (W:World),Below w.heap.size w W →
  (∀pre A B,J pre A→St A B→J pre B) →
  (∀pre x A,J pre A→Good pre x A→YieldAt Fence.wide 0 P l (encs x) A fun e B=>(e=.returned (.bool true)∧J (pre++[x]) B∧Kp A B)∨(∃ch,e=.panicked ch∧X ch B)) →
  J [] W→Calls P gf (#[.func (.yield l) #[] #[]]++lb) W (aaS S J X)
theorem Hw.tells {gf:Nat} {lb:Array Value} {encs:α→Array Value} {Good:List α→α→World→Prop} {St Kp:World→World→Prop} {S:List α→Prop} {w:World} (h:Hw P gf lb encs Good St Kp S w):adk P gf lb encs Good St Kp S w :=
 fun l J W hb hJ hY h0=>(h l J (fun _ _=>False) W hb hJ (fun pre x A hj hg=>let ⟨fn,t,as_,b,h1,h2⟩:=hY pre x A hj hg;⟨fn,t,as_,b,h1,h2.mono fun e B hh=>.inl hh⟩) h0).mono
  (by
   rintro e B (h|⟨_,_,h⟩)
   ·exact h
   exact h.elim)
theorem Lp {g:Operand} {ps:Array Tmp} {assign body:Code} {gf:Nat} {lb:Array Value}
  (hB:∀f,B f→∃x,P.funcs[f]?=some x)
  (hg:a.eval g=.func (.func gf) #[] lb) (eg:∀args w,(callFunc gf args).run P w=.ok (.enter gf args) w)
  {encs:α→Array Value} (hps:∀x,(encs x).size=ps.size) {Good:List α→α→World→Prop} {St Kp:World→World→Prop} {S:List α→Prop}
  (hseq:Hw P gf lb encs Good St Kp S w)
  (I:List α→World→Prop) (X:List PanicEntry→World→Prop) (a₁:α→Act)
  (hSt:∀A B,St A B→Still w.heap.size A B)
  (Wu:∀pre A B,I pre A→St A B→I pre B)
  (Wv:∀pre W l o o',I pre W→w.heap.size≤l→W.heap[l]?=some o→o.isCells=false→I pre (W.putObj l o'))
  (hGp:∀pre x W l o o',Good pre x W→w.heap.size≤l→W.heap[l]?=some o→o.isCells=false→Good pre x (W.putObj l o'))
  (hKp:∀A B l o o1 p o2,w.heap.size≤l→A.heap[l]?=some o→o.isCells=false→Kp (A.putObj l o1) B→B.heap[l]?=some p→p.isCells=false→Kp A (B.putObj l o2))
  (h0:∀o o',I [] ((w.alloc o).alloc o'))
  (hassign:∀(l:Nat) (x:α) (W:World) (K:Act→World→Prop),K (a₁ x) W →
   assign.wpIn (Fence.wide.inRound l) 0 P (Exit.then K (fun _ _ _=>False)) { tmps:=(ps.zip (encs x)).foldl (fun t (p,v)=>t.setIfInBounds p v) a.tmps,defers:=[] } W)
  (hbody:∀(l:Nat) (pre:List α) (x:α) (W:World),I pre W→Good pre x W→body.wpIn (Fence.wide.inRound l) 0 P (fun e a' B=>(e=.normal∧I (pre++[x]) B∧Kp W B∧Still w.heap.size W B)∨(∃ch,e=.panic ch∧a'.defers=[]∧X ch B∧Still w.heap.size W B)) (a₁ x) W)
  (hdone:∀xs W,S xs→w.heap.size<W.heap.size→I xs W→W.heap[w.heap.size]?=some (.deferred (some []))→Q .normal { a with defers:={ target:=.collected w.heap.size,args:=#[] }::a.defers } W)
  (aft:∀ch W,w.heap.size<W.heap.size→X ch W→W.heap[w.heap.size]?=some (.deferred (some []))→Q (.panic ch) { a with defers:={ target:=.collected w.heap.size,args:=#[] }::a.defers } W) :
  Zm B P (Code.rangeFunc g ps assign body) Q a w:=by
 intro b k cs hro hb
 obtain⟨fn,hfn⟩:∃fn,b.fn=fn:=⟨_,rfl⟩
 obtain⟨rec,hrec⟩:∃rec:LoopState→Option Code→Loop,rec=fun st pe=>{ state:=st,pending:=pe,fn,tmps:=a.tmps,params:=ps,assign,body,defers:=w.heap.size }:=⟨_,rfl⟩
 obtain⟨s,hs⟩:∃s,s=w.heap.size:=⟨_,rfl⟩
 obtain⟨W1,hW1⟩:∃W1,W1=(w.alloc (.deferred (some []))).alloc (.loop (rec .ready none)):=⟨_,rfl⟩
 have hD1:W1.heap[s]?=some (.deferred (some [])):=by
  rw[hW1,hs];exact (Below.heap_alloc _ _ _ bB).trans (World.alloc_heap_new w _)
 have hL1:W1.heap[s+1]?=some (.loop (rec .ready none)):=by
  rw[hW1,hs];have:=World.alloc_heap_new (w.alloc (.deferred (some []))) (.loop (rec .ready none))
  rwa [World.size_alloc] at this
 have hB1:Below w.heap.size w W1:=by
  rw[hW1];exact ((Below.refl _ w).alloc (Nat.le_refl _) _).alloc bB _
 have he:(Instr.enterLoop b.fn a.tmps ps assign body b.roundOf).run P w=.ok (s+1,[{ target:=.collected s,args:=#[] }]) W1:=by
  rw[hW1,hrec,hs,hro,hfn];exact run_enterLoop_outer _ _ _ _ _
 have hres:(resolve a.eval (rangeCall g (s+1)) 0).run P W1=.ok { target:=.fn (.func gf) lb,args:=#[.func (.yield (s+1)) #[] #[]] } W1:=by
  simp only[resolve,hg];simp[go_sem]
 have hinv:(invoke (.fn (.func gf) lb) #[.func (.yield (s+1)) #[] #[]]).run P W1=.ok (.enter gf (#[.func (.yield (s+1)) #[] #[]]++lb)) W1:=by
  simp[invoke,go_sem,eg]
 have henter:=stepR_rangeFunc (P:=P) (b:=b) (a:=a) (k:=k) (cs:=cs) (w:=w) he hres hinv
 have hcall:Calls P gf (#[.func (.yield (s+1)) #[] #[]]++lb) W1 fun e B=>((∃v,e=.returned v)∧∃xs,S xs∧I xs B∧B.heap[s+1]?=some (.loop (rec .ready none))∧B.heap[s]?=some (.deferred (some [])))∨(∃ch,e=.panicked ch∧X ch B∧B.heap[s]?=some (.deferred (some []))):=by
  refine (hseq (s+1) (fun pre W=>I pre W∧W.heap[s+1]?=some (.loop (rec .ready none))∧W.heap[s]?=some (.deferred (some []))) (fun ch W=>X ch W∧W.heap[s]?=some (.deferred (some []))) W1 hB1 ?_ ?_ ⟨hW1▸h0 _ _,hL1,hD1⟩).mono (fun e B h=>h)
  ·rintro pre A B ⟨hi,hl,hd⟩ hab;exact⟨Wu _ _ _ hi hab,(hSt _ _ hab).2 _ _ aj hl rfl,(hSt _ _ hab).2 _ _ aj hd rfl⟩
  rintro pre x A ⟨hi,hl,hd⟩ hgood;have hlt:=(Array.getElem?_eq_some_iff.1 hl).1;have hy:=run_yield (P:=P) (args:=encs x) hl (by rw[hrec];exact hps x);rw[hrec] at hy;refine⟨fn,_,assign,body,hy,IX (hfn▸hB _ hb) (hassign _ x A _ ⟨_,run_beginRound hl (by rw[hrec]),?_⟩)⟩;have hl2:(A.putObj (s+1) (.loop { rec .ready none with state:=.busy })).heap[s+1]?=some (.loop { rec .ready none with state:=.busy }):=World.putObj_heap_same hlt;have hd2:(A.putObj (s+1) (.loop { rec .ready none with state:=.busy })).heap[s]?=some (.deferred (some [])):=(World.putObj_heap_other aj).trans hd;refine wpIn_mono (hbody _ pre x _ (Wv _ _ _ _ _ hi aj hl rfl) (hGp _ _ _ _ _ _ hgood aj hl rfl)) ?_;rintro e a3 B (⟨rfl,hi3,hk3,hs3⟩|⟨ch,rfl,hd0,hx,hs3⟩)
  ·have hl3:=hs3.2 _ _ aj hl2 rfl;have hd3:=hs3.2 _ _ aj hd2 rfl;have hr:=run_endRound (P:=P) none hl3;have hlt3:=(Array.getElem?_eq_some_iff.1 hl3).1;refine⟨_,_,hr,.inl ⟨rfl,⟨Wv _ _ _ _ _ hi3 aj hl3 rfl,?_,(World.putObj_heap_other aj).trans hd3⟩,hKp _ _ _ _ _ _ _ aj hl rfl hk3 hl3 rfl⟩⟩;rw[World.putObj_heap_same hlt3,hrec];rfl
  exact⟨hd0,.inr ⟨ch,rfl,hx,hs3.2 _ _ aj hd2 rfl⟩⟩
 obtain⟨e,w₃,fr,hR,hsteps,hff,hleave⟩:=(callsIn_wide (n:=0)).2 hcall |>.2 (b.atR { a with defers:=[{ target:=.collected s,args:=#[] }]++a.defers } (.inRangeFunc (s+1)::k)::cs) (room_wide _)
 rcases hR with⟨⟨v,rfl⟩,xs,hxs,hi,hl,hd⟩|⟨ch,rfl,hx,hd⟩
 ·have hend:=run_endLoop (P:=P) hl (by rw[hrec];simp);have hlt:=(Array.getElem?_eq_some_iff.1 hl).1;have hd':(w₃.putObj (s+1) (.loop { rec .ready none with state:=.exhausted })).heap[s]?=some (.deferred (some [])):=(World.putObj_heap_other aj).trans hd;have hsz:s<(w₃.putObj (s+1) (.loop { rec .ready none with state:=.exhausted })).heap.size:=(Array.getElem?_eq_some_iff.1 hd').1;rw[hs] at hend hd' hsz;refine⟨.normal,_,_,hdone xs _ hxs hsz (Wv _ _ _ _ _ hi aj (hs▸hl) rfl) hd',?_⟩;refine StepsIn.head (fenced_wide _ _) henter (StepsIn.trans hsteps (.head (fenced_wide _ _) (step_leave_returned hleave) (.one (fenced_wide _ _) ?_)));rw[finish_atR_inRangeFunc,hs];have:=stepR_endRangeFunc (b:=b) (a:={ a with defers:=[{ target:=.collected w.heap.size,args:=#[] }]++a.defers }) (k:=k) (cs:=cs) hend;rw[hrec] at this ⊢;exact this
 have hsz:s<w₃.heap.size:=(Array.getElem?_eq_some_iff.1 hd).1;rw[hs] at hd hsz;refine⟨.panic ch,_,_,aft ch _ hsz hx hd,?_⟩;refine⟨.inRangeFunc (s+1)::k,StepsIn.head (fenced_wide _ _) henter (StepsIn.trans hsteps (.one (fenced_wide _ _) ?_))⟩;have:=step_leave_panicked (c:=b.atR { a with defers:=[{ target:=.collected s,args:=#[] }]++a.defers } (.inRangeFunc (s+1)::k)) (cs:=cs) hleave;rw[Frame.raise_atR,hs] at this;rw[hs];exact this
end
end Go.Proofs.YtknihldkhedpkaaGreatDoor
end
section
namespace Go.Proofs.YtknihldkhedpkaaGreatDoor.Two
open Go.RowKit Go.Lib
open Go.Proofs.YtknihldkhedpkaaGreatDoorW.PrintWords Go.Proofs.YtknihldkhedpkaaGreatDoorW.PrintLast Go.Proofs.YtknihldkhedpkaaGreatDoor.PT
attribute [local go_sem] Oper.semAt_some
structure Reader (L:Nat→List It) (A:Nat→Option Addr) where
 P:World→Prop
 base:Nat
 rd:∀w,P w→∀i,i<2→Kd.C mV w (A i) (L i).length (L i)
 below:∀w w',P w→Below w.heap.size w w'→P w'
 st:∀B w w',base≤B→P w→ze B w w'→P w'
def PI (L:Nat→List It) (A:Nat→Option Addr) (j:Nat) (v:Value):Option It→Prop
 | none=>v=.pointer none
 | some x=>∃ad p,A j=some ad∧v=.pointer (some (ad.add (p*6)))∧(L j)[p]?=some x
theorem PI.at_ {L:Nat→List It} {A:Nat→Option Addr} {j p:Nat} {ad:Addr} (hp:p<(L j).length) (hA:A j=some ad):PI L A j (.pointer (some (ad.add (p*6)))) (some ((L j)[p]'hp)):=⟨ad,p,hA,rfl,List.getElem?_eq_getElem hp⟩
theorem PI.oi {L:Nat→List It} {A:Nat→Option Addr} {j:Nat} {v:Value} {o:Option It} {w:World} (hr:Kd.C mV w (A j) (L j).length (L j)) (h:PI L A j v o):OI w v o:=by
 cases o with
 | none=>exact h
 | some x=>
  obtain⟨ad,p,hA,rfl,hx⟩:=h;obtain⟨hp,hxp⟩:=List.getElem?_eq_some_iff.1 hx;obtain⟨ad',A4,c4,A5,c5,e,r0,r1,r2,r3,r4,r5,l4,g4,l5,g5⟩:=jh hr (p:Int) aj aj
  have hrd:aI (L j) (p:Int)=x:=by rw[← hxp];simp[aI,hp]
  rw[hrd] at r0 r1 r2 r3 r4 r5 l4 g4 l5 g5;rw[Int.toNat_natCast] at r0 r1 r2 r3 r4 r5;rw[hA] at e;obtain rfl:=Option.some.inj e;exact⟨_,A4,c4,A5,c5,rfl,r0,r1,r2,r3,r4,r5,l4,g4,l5,g5⟩
def Ue (L:Nat→List It) (A:Nat→Option Addr) (rs:List Rd) (pre:List oJ) (x:oJ) (W:World):Prop :=
 (∃rest,rs=pre.map oJ.rd++x.rd::rest)∧∃p0 p1,W.heap[x.g]?=some (.cells #[p0,p1] 95 (0,0))∧PI L A 0 p0 x.a∧PI L A 1 p1 x.b
structure KpG (R:World→Prop) (S:Nat→Prop) (A C:World):Prop where
 low:R A→R C
 same:∀k,S k→C.heap[k]?=A.heap[k]?
 nums:∀(k:Nat) (cs:Array Value),A.heap[k]?=some (Obj.cells cs 3 (0,0))→C.heap[k]?=some (Obj.cells cs 3 (0,0))
structure Vk (L:Nat→List It) (A:Nat→Option Addr) (c:Nat→Nat) (R:Reader L A) (b1 b2 br:Nat) (wx:World):Prop where
 low:R.P wx
 x1:wx.heap[b1]?=some (.cells #[.func (.func 51) #[] #[]] 93 (0,0))
 x2:wx.heap[b2]?=some (.cells #[.slice (some ⟨br,0,none⟩) 2 2] 75 (0,0))
 xr:wx.heap[br]?=some (.cells #[.slice (A 0) (L 0).length (c 0),.slice (A 1) (L 1).length (c 1)] 25 (0,0))
section
variable {L : Nat → List It} {A : Nat → Option Addr} {c : Nat → Nat} {R : Reader L A} {b1 b2 br : Nat} {wx wy : World}
theorem Vk.below (h:Vk L A c R b1 b2 br wx) (hb:Below wx.heap.size wx wy):Vk L A c R b1 b2 br wy :=
 ⟨R.below _ _ h.low hb,aJ h.x1 hb,aJ h.x2 hb,aJ h.xr hb⟩
theorem Vk.st (h:Vk L A c R b1 b2 br wx) {B:Nat} (hs:ze B wx wy) (h0:R.base≤B) (h1:b1<B) (h2:b2<B) (h3:br<B):Vk L A c R b1 b2 br wy :=
 ⟨R.st B _ _ h0 h.low hs,hs.keep h.x1 h1,hs.keep h.x2 h2,hs.keep h.xr h3⟩
theorem Vk.kp (h:Vk L A c R b1 b2 br wx) (hk:KpG R.P (fun k=>k=b1∨k=b2∨k=br) wx wy):Vk L A c R b1 b2 br wy :=
 ⟨hk.low h.low,(hk.same _ (.inl rfl)).trans h.x1,(hk.same _ (.inr (.inl rfl))).trans h.x2,(hk.same _ (.inr (.inr rfl))).trans h.xr⟩
end
structure QO (L:Nat→List It) (A:Nat→Option Addr) (c:Nat→Nat) (R:Reader L A) (b1 b2 br B ga:Nat) (rs:List Rd) (J:List oJ→World→Prop) (pre:List oJ) (p:Nat→Nat) (g:Nat) (wx:World):Prop where
 am:Vk L A c R b1 b2 br wx
 at_:wx.heap[ga]?=some (.cells #[.int .i64 (p 0),.int .i64 (p 1)] 3 (0,0))
 hB:B≤ga
 j:J pre wx
 rs:rs=pre.map oJ.rd++eO L g p
 left:jL L p≤g
 le:∀i,i<2→p i≤(L i).length
theorem QO.below {L:Nat→List It} {A:Nat→Option Addr} {c:Nat→Nat} {R:Reader L A} {b1 b2 br B ga:Nat} {rs:List Rd} {J:List oJ→World→Prop} {pre:List oJ} {p:Nat→Nat} {g:Nat} {wx wy:World}
  (h:QO L A c R b1 b2 br B ga rs J pre p g wx) (hJ:∀pre A C,J pre A→ze B A C→J pre C) (hb:Below wx.heap.size wx wy):QO L A c R b1 b2 br B ga rs J pre p g wy :=
 ⟨h.am.below hb,aJ h.at_ hb,h.hB,hJ _ _ _ h.j (ze.below hb),h.rs,h.left,h.le⟩
def Ep (L:Nat→List It) (A:Nat→Option Addr) (c:Nat→Nat) (R:Reader L A) (b1 b2 br B ga gh:Nat) (J:List oJ→World→Prop) (pre:List oJ) (p:Nat→Nat) (k:ByteArray) (i:Nat) (wx:World):Prop :=
 Vk L A c R b1 b2 br wx∧∃q:Nat→Nat,wx.heap[ga]?=some (.cells #[.int .i64 (q 0),.int .i64 (q 1)] 3 (0,0))∧(∀j,j<i→q j=gT L p k j)∧(∀j,i≤j→q j=p j) ∧
  ∃P:Nat→Value,wx.heap[gh]?=some (.cells #[P 0,P 1] 95 (0,0))∧(∀j,j<i→PI L A j (P j) (fO L p k j))∧(∀j,i≤j→P j=.pointer none)∧J pre wx
abbrev Hd (wr:World) (b1 ga i:Nat) (pv:Nat) (P:Addr) (x:It) (A4:Option Addr) (c4:Nat) (A5:Option Addr) (c5:Nat) (w':World):Prop :=
 w'.cell? ⟨b1,0,none⟩=some (.func (.func 51) #[] #[])∧w'.cell? ⟨ga,i,none⟩=some (.int .i64 pv)∧w'.cell? P=some (.int .i64 x.f0)∧w'.cell? ⟨P.block,P.off+1,none⟩=some (.string x.f1)∧w'.cell? ⟨P.block,P.off+2,none⟩=some (.string x.f2)∧w'.cell? ⟨P.block,P.off+3,none⟩=some (.int .i64 x.f3)∧w'.cell? ⟨P.block,P.off+4,none⟩=some (.slice A4 x.f4.length c4)∧w'.cell? ⟨P.block,P.off+5,none⟩=some (.slice A5 x.f5.length c5)∧ah (Below wr.heap.size wr w')
section
variable {L : Nat → List It} {A : Nat → Option Addr} {c : Nat → Nat} {R : Reader L A} {b1 b2 br B ga gh : Nat} {J : List oJ → World → Prop} {pre : List oJ} {p : Nat → Nat} {k : ByteArray} {i : Nat} {wx wy : World}
theorem Ep.same (h:Ep L A c R b1 b2 br B ga gh J pre p k i wx) (hJ:∀pre A C,J pre A→ze B A C→J pre C) (hn:fO L p k i=none) (hb:Below wx.heap.size wx wy):Ep L A c R b1 b2 br B ga gh J pre p k (i+1) wy:=by
 obtain⟨am,q,hat,hq1,hq2,P,hP,hP1,hP2,hj⟩:=h;refine⟨am.below hb,q,aJ hat hb,fun j hj2=>?_,fun j hj2=>hq2 j aj,P,aJ hP hb,fun j hj2=>?_,fun j hj2=>hP2 j aj,hJ _ _ _ hj (ze.below hb)⟩
 ·rcases Nat.lt_or_ge j i with h|h
  ·exact hq1 j h
  obtain rfl:j=i:=by omega
  rw[hq2 j (Nat.le_refl _)];unfold gT;rw[hn];simp
 rcases Nat.lt_or_ge j i with h|h
 ·exact hP1 j h
 obtain rfl:j=i:=by omega
 rw[hn];exact hP2 j (Nat.le_refl _)
theorem Ep.step {x:It} {v:Value} (h:Ep L A c R b1 b2 br B ga gh J pre p k i wx) (hi:i<2) (hJ:∀pre A C,J pre A→ze B A C→J pre C) (hn:fO L p k i=some x) (hb:Below wx.heap.size wx wy) (hv:PI L A i v (some x)) (hga:B≤ga) (hgh:B≤gh) (hne:ga≠gh) (h0:R.base≤B) (h1:b1<B) (h2:b2<B) (h3:br<B) :
  Ep L A c R b1 b2 br B ga gh J pre p k (i+1) ((wy.setCell ⟨gh,i,none⟩ v).setCell ⟨ga,i,none⟩ (.int .i64 ((p i:Int)+1))):=by
 obtain⟨am,q,hat,hq1,hq2,P,hP,hP1,hP2,hj⟩:=h;have hP':=aJ hP hb;have hat':=fJ (aJ hat hb) (p:=⟨gh,i,none⟩) hne v;have s1:=ze.set hP' (.inr rfl) hgh i v;have s2:=ze.set hat' (.inl rfl) hga i (.int .i64 ((p i:Int)+1));have s3:=((ze.below (B:=B) hb).trans s1).trans s2;refine⟨am.st s3 h0 h1 h2 h3,fun j=>if j=i then p i+1 else q j,?_,fun j hj2=>?_,fun j hj2=>?_,fun j=>if j=i then v else P j,?_,fun j hj2=>?_,fun j hj2=>?_,hJ _ _ _ hj s3⟩
 ·rw[gB hat']
  rcases (show i=0∨i=1 by omega) with rfl|rfl <;> simp
 ·dsimp only;by_cases e:j=i
  ·subst e;rw[if_pos rfl];unfold gT;rw[hn];simp
  rw[if_neg e];exact hq1 j aj
 ·dsimp only;rw[if_neg aj];exact hq2 j aj
 ·refine fJ ?_ (fun e=>hne e.symm) _;rw[gB hP']
  rcases (show i=0∨i=1 by omega) with rfl|rfl <;> simp
 ·dsimp only;by_cases e:j=i
  ·subst e;rw[if_pos rfl,hn];exact hv
  rw[if_neg e];exact hP1 j aj
 dsimp only;rw[if_neg aj];exact hP2 j aj
end
section
variable {wr w' w2 : World} {b1 ga i pv : Nat} {P : Addr} {x : It} {A4 : Option Addr} {c4 : Nat} {A5 : Option Addr} {c5 : Nat}
theorem iJ (h:Hd wr b1 ga i pv P x A4 c4 A5 c5 w') (hb:Below w'.heap.size w' w2):Hd wr b1 ga i pv P x A4 c4 A5 c5 w2:=by
 obtain⟨h0,h1,h2,h3,h4,h5,h6,h7,h8⟩:=h;exact⟨au hb h0,au hb h1,au hb h2,au hb h3,au hb h4,au hb h5,au hb h6,au hb h7,⟨h8.out.trans (hb.mono h8.out.size)⟩⟩
end
theorem afv:(Tryz.prog.info? 3).map (fun i=>(i.zero,i.size,i.bytes))=some (some (.int .i64 0),1,8):=by kernel_rfl
theorem afw:(Tryz.prog.info? 95).map (fun i=>(i.zero,i.size,i.bytes))=some (some (.pointer none),1,8):=by kernel_rfl
theorem aiP (w:World):(Instr.makeSlice 113 (.int .i64 2) (.int .i64 2)).run Tryz.prog w=.ok (.slice (some ⟨w.heap.size,0,none⟩) 2 2) (w.alloc (.cells #[.int .i64 0,.int .i64 0] 3)):=by
 obtain⟨i0,hi,hz0,hz1,hz2⟩:=info_parts afv;exact (run_makeSlice w 113 3 i0 _ Tryz.underlying113 hi hz0 .i64 .i64 2 2 aH aH (by rw[hz1];decide) (by rw[hz2];decide) aH).trans (by rw[hz1];first|rfl|(simp[madeCells];done)|kernel_rfl)
theorem afx (w:World):(Instr.makeSlice 94 (.int .i64 2) (.int .i64 2)).run Tryz.prog w=.ok (.slice (some ⟨w.heap.size,0,none⟩) 2 2) (w.alloc (.cells #[.pointer none,.pointer none] 95)):=by
 obtain⟨i0,hi,hz0,hz1,hz2⟩:=info_parts afw;exact (run_makeSlice w 94 95 i0 _ Tryz.underlying94 hi hz0 .i64 .i64 2 2 aH aH (by rw[hz1];decide) (by rw[hz2];decide) aH).trans (by rw[hz1];first|rfl|(simp[madeCells];done)|kernel_rfl)
theorem xQ (L:Nat→List It) (A:Nat→Option Addr) (c:Nat→Nat) (R:Reader L A) (w:World) (b1 b2 br:Nat)
  (hc:∀i,i<2→(L i).length≤c i) (hl:∀i,i<2→(L i).length≤65536) (hS:∀i,i<2→∀x∈L i,x.f1.size≤1023)
  (hx:Vk L A c R b1 b2 br w) (h0:R.base≤w.heap.size) :
  Hw Tryz.prog 87 #[.pointer (some ⟨b2,0,none⟩),.pointer (some ⟨b1,0,none⟩)] encR (Ue L A (eO L (jL L (fun _=>0)) (fun _=>0))) (ze w.heap.size) (KpG R.P (fun k=>k=b1∨k=b2∨k=br))
   (fun xs=>xs.map oJ.rd=eO L (jL L (fun _=>0)) (fun _=>0)) w:=by
 intro l J X W hW hJ hY hJ0
 obtain⟨rs,hrs⟩:∃rs,eO L (jL L (fun _=>0)) (fun _=>0)=rs:=⟨_,rfl⟩
 obtain⟨B,hBB⟩:∃B,w.heap.size=B:=⟨_,rfl⟩
 have h1:=bG hx.x1;have h2:=bG hx.x2;have h3:=bG hx.xr;rw[hBB] at h0 h1 h2 h3;have Zn:=hx.below hW;have hBW:B≤W.heap.size:=hBB▸hW.size;rw[hrs] at hY ⊢;rw[hBB] at hJ;clear hx hW;have y1:=ak Zn.x1 0;have y2:=ak Zn.x2 0;have HAm:=ah.mk Zn;have HJ:=ah.mk hJ;have HY:=ah.mk hY;have HJ0:=ah.mk hJ0;have Zd:=ah.mk hrs;clear Zn hJ hY hJ0 hrs;have m1:=aiP;have m2:=afx
 go_enter Tryz.func87,Tryz.ntmps87
 go_wp2_with fail
 have hM0:QO L A c R b1 b2 br B W.heap.size rs J [] (fun _=>0) (jL L (fun _=>0)) (W.alloc (.cells #[.int .i64 0,.int .i64 0] 3)) :=
  ⟨HAm.out.below ((Below.refl _ _).alloc (Nat.le_refl _) _),bF W _,hBW,HJ.out _ _ _ HJ0.out (ze.below ((Below.refl _ _).alloc (Nat.le_refl _) _)),Zd.out.symm,Nat.le_refl _,fun _ _=>Nat.zero_le _⟩
 have HM0:=ah.mk hM0;clear hM0 m1
 go_loopg [5] (jL L (fun _=>0)) (fun g s5 wr=>∃pre p,ah (QO L A c R b1 b2 br B W.heap.size rs J pre p g wr))
 case atStart=>exact⟨_,_,HM0⟩
 case round=>
  obtain⟨pre,p,HM⟩:=hrel;clear HM0 HJ0 y1 y2 HAm;have y1:=ak HM.out.am.x1 0;have y2:=ak HM.out.am.x2 0
  go_wp2_with fail
  obtain⟨gq,rfl⟩:∃gq,gq=gk:=⟨_,rfl⟩
  obtain⟨wq,rfl⟩:∃wq,wq=wr:=⟨_,rfl⟩
  go_loopg [17,5,6] 2 (fun g s17 s5 s6 wx=>∃i:Nat,2 - i≤g∧i≤2∧s17=.int .i64 i∧s5=.string ((jM L p i).getD ⟨#[]⟩)∧s6=.bool (jM L p i).isSome∧ah (QO L A c R b1 b2 br B W.heap.size rs J pre p gq wx))
  case atStart=>exact⟨0,by omega,by omega,rfl,rfl,rfl,HM⟩
  case round=>
   obtain⟨i,hig,hi3,rfl,rfl,rfl,xX⟩:=hrel;clear HM y1 y2;by_cases hi:i<2
   ·rcases (show i=0∨i=1 by omega) with rfl|rfl
    ·have y1:wr.cell? ⟨b1,0,none⟩=some (.func (.func 51) #[] #[]):=ak xX.out.am.x1 0;have y3:wr.cell? ⟨br,0,none⟩=some (.slice (A 0) (L 0).length (c 0)):=ak xX.out.am.xr 0;have y4:wr.cell? ⟨W.heap.size,0,none⟩=some (.int .i64 (p 0)):=ak xX.out.at_ 0;by_cases hp:p 0<(L 0).length
     ·have d1:decide ((p 0:Int)<((L 0).length:Int))=true:=decide_eq_true aj;have d2:decide (p 0<(L 0).length)=true:=decide_eq_true hp;obtain⟨ad,hA,_⟩:=(R.rd _ xX.out.am.low 0 aj).2.2 aj;have hoi:=PI.at_ (L:=L) (A:=A) (j:=0) hp hA;have QS:=R.rd _ xX.out.am.low 0 aj;have hgx:(L 0)[p 0]?=some ((L 0)[p 0]'hp):=List.getElem?_eq_getElem hp;have hsx:=hS 0 aj _ (List.getElem_mem hp);have hlx:=hl 0 aj
      obtain⟨x,hx⟩:∃x,(L 0)[p 0]'hp=x:=⟨_,rfl⟩
      rw[hx] at hoi hgx hsx;obtain⟨ad',A4,c4,A5,c5,e,r0,r1,r2,r3,r4,r5,l4,g4,l5,g5⟩:=PI.oi QS hoi
      injection e with e
      obtain rfl:=Option.some.inj e;rw[hA] at y3;have HX:=ah.mk hgx;clear hoi hx e l4 g4 l5 g5 hgx
      cases hk:jM L p 0 with
      | none=>
       have HN:ah (jM L p (0+1)=some (gu x)):=⟨by unfold jM;rw[HX.out];dsimp only;rw[hk]⟩
       have HK:=ah.mk hk;clear hk
       go_wp2_with fail
       go_quiet (fail)
       go_wp2_with fail
       go_region_held3 (fun w'=>Hd wr b1 W.heap.size 0 (p 0) (ad.add (p 0*6)) x A4 c4 A5 c5 w')
        (first|(refine iJ ⟨y1,y4,r0,r1,r2,r3,r4,r5,⟨Below.refl _ _⟩⟩ ?_;(repeat (first|exact Below.refl _ _|apply av|apply bf));done)|(go_split_ands;exact iJ ⟨by assumption,by assumption,by assumption,by assumption,by assumption,by assumption,by assumption,by assumption,by assumption⟩ (by assumption)))
        (first|(go_at_call 51;refine (jm x _ _ _ aj).mono ?_;rintro e w2 ⟨rfl,hb2⟩))
       go_split_ands
       go_wp2_with fail
       go_roundg (1 - 0)
       case measure=>omega
       case rel=>exact⟨0+1,by omega,by omega,by first|rfl|simp,by rw[HN.out];rfl,by rw[HN.out];rfl,⟨xX.out.below HJ.out (ah.out (by assumption))⟩⟩
      | some k=>
       cases hlt:Op.bytesLess (bY 47 0 x.f1).toList k.toList with
       | false=>
        have HN:ah (jM L p (0+1)=some k):=⟨by unfold jM;rw[HX.out];dsimp only;rw[hk];dsimp only;rw[if_neg (show ¬Op.bytesLess (gu x).toList k.toList=true by unfold gu;rw[hlt];decide)]⟩
        have HK:=ah.mk hk;clear hk
        go_wp2_with fail
        go_region_held3 (fun w'=>Hd wr b1 W.heap.size 0 (p 0) (ad.add (p 0*6)) x A4 c4 A5 c5 w')
         (first|(refine iJ ⟨y1,y4,r0,r1,r2,r3,r4,r5,⟨Below.refl _ _⟩⟩ ?_;(repeat (first|exact Below.refl _ _|apply av|apply bf));done)|(go_split_ands;exact iJ ⟨by assumption,by assumption,by assumption,by assumption,by assumption,by assumption,by assumption,by assumption,by assumption⟩ (by assumption)))
         (first|(go_at_call 51;refine (jm x _ _ _ aj).mono ?_;rintro e w2 ⟨rfl,hb2⟩))
        go_split_ands
        go_wp2_with fail
        go_roundg (1 - 0)
        case measure=>omega
        case rel=>exact⟨0+1,by omega,by omega,by first|rfl|simp,by rw[HN.out];rfl,by rw[HN.out];rfl,⟨xX.out.below HJ.out (ah.out (by assumption))⟩⟩
       | true=>
        have HN:ah (jM L p (0+1)=some (gu x)):=⟨by unfold jM;rw[HX.out];dsimp only;rw[hk];dsimp only;rw[if_pos (show Op.bytesLess (gu x).toList k.toList=true by unfold gu;rw[hlt])]⟩
        have HK:=ah.mk hk;clear hk
        go_wp2_with fail
        go_region_held3 (fun w'=>Hd wr b1 W.heap.size 0 (p 0) (ad.add (p 0*6)) x A4 c4 A5 c5 w')
         (first|(refine iJ ⟨y1,y4,r0,r1,r2,r3,r4,r5,⟨Below.refl _ _⟩⟩ ?_;(repeat (first|exact Below.refl _ _|apply av|apply bf));done)|(go_split_ands;exact iJ ⟨by assumption,by assumption,by assumption,by assumption,by assumption,by assumption,by assumption,by assumption,by assumption⟩ (by assumption)))
         (first|(go_at_call 51;refine (jm x _ _ _ aj).mono ?_;rintro e w2 ⟨rfl,hb2⟩))
        go_split_ands
        go_wp2_with fail
        obtain⟨wv,hwv⟩:∃wv,w2=wv:=⟨_,rfl⟩
        subst hwv
        go_region_held3 (fun w'=>Hd wr b1 W.heap.size 0 (p 0) (ad.add (p 0*6)) x A4 c4 A5 c5 w')
         (first|(go_split_ands;refine iJ ⟨by assumption,by assumption,by assumption,by assumption,by assumption,by assumption,by assumption,by assumption,by assumption⟩ ?_;first|assumption|exact bf (Below.refl _ _)))
         (first|(go_at_call 51;refine (jm x _ _ _ aj).mono ?_;rintro e w2 ⟨rfl,hb2⟩))
        go_split_ands
        go_wp2_with fail
        go_roundg (1 - 0)
        case measure=>omega
        case rel=>exact⟨0+1,by omega,by omega,by first|rfl|simp,by rw[HN.out];rfl,by rw[HN.out];rfl,⟨xX.out.below HJ.out (ah.out (by assumption))⟩⟩
     have d1:decide ((p 0:Int)<((L 0).length:Int))=false:=decide_eq_false aj;have d2:decide (p 0<(L 0).length)=false:=decide_eq_false hp
     have HN:ah (jM L p (0+1)=jM L p 0):=⟨by
      have:(L 0)[p 0]?=none:=List.getElem?_eq_none aj
      show (match (L 0)[p 0]? with|none=>jM L p 0|some x=>_)=_
      rw[this]⟩
     go_wp2_with fail
     go_quiet (fail)
     go_wp2_with fail
     go_roundg (1 - 0)
     case measure=>omega
     case rel=>exact⟨0+1,by omega,by omega,by first|rfl|simp,by rw[HN.out],by rw[HN.out],⟨xX.out.below HJ.out (by repeat (first|exact Below.refl _ _|apply av|apply bf))⟩⟩
    have y1:wr.cell? ⟨b1,0,none⟩=some (.func (.func 51) #[] #[]):=ak xX.out.am.x1 0;have y3:wr.cell? ⟨br,1,none⟩=some (.slice (A 1) (L 1).length (c 1)):=ak xX.out.am.xr 1;have y4:wr.cell? ⟨W.heap.size,1,none⟩=some (.int .i64 (p 1)):=ak xX.out.at_ 1;by_cases hp:p 1<(L 1).length
    ·have d1:decide ((p 1:Int)<((L 1).length:Int))=true:=decide_eq_true aj;have d2:decide (p 1<(L 1).length)=true:=decide_eq_true hp;obtain⟨ad,hA,_⟩:=(R.rd _ xX.out.am.low 1 aj).2.2 aj;have hoi:=PI.at_ (L:=L) (A:=A) (j:=1) hp hA;have QS:=R.rd _ xX.out.am.low 1 aj;have hgx:(L 1)[p 1]?=some ((L 1)[p 1]'hp):=List.getElem?_eq_getElem hp;have hsx:=hS 1 aj _ (List.getElem_mem hp);have hlx:=hl 1 aj
     obtain⟨x,hx⟩:∃x,(L 1)[p 1]'hp=x:=⟨_,rfl⟩
     rw[hx] at hoi hgx hsx;obtain⟨ad',A4,c4,A5,c5,e,r0,r1,r2,r3,r4,r5,l4,g4,l5,g5⟩:=PI.oi QS hoi
     injection e with e
     obtain rfl:=Option.some.inj e;rw[hA] at y3;have HX:=ah.mk hgx;clear hoi hx e l4 g4 l5 g5 hgx
     cases hk:jM L p 1 with
     | none=>
      have HN:ah (jM L p (1+1)=some (gu x)):=⟨by unfold jM;rw[HX.out];dsimp only;rw[hk]⟩
      have HK:=ah.mk hk;clear hk
      go_wp2_with fail
      go_quiet (fail)
      go_wp2_with fail
      go_region_held3 (fun w'=>Hd wr b1 W.heap.size 1 (p 1) (ad.add (p 1*6)) x A4 c4 A5 c5 w')
       (first|(refine iJ ⟨y1,y4,r0,r1,r2,r3,r4,r5,⟨Below.refl _ _⟩⟩ ?_;(repeat (first|exact Below.refl _ _|apply av|apply bf));done)|(go_split_ands;exact iJ ⟨by assumption,by assumption,by assumption,by assumption,by assumption,by assumption,by assumption,by assumption,by assumption⟩ (by assumption)))
       (first|(go_at_call 51;refine (jm x _ _ _ aj).mono ?_;rintro e w2 ⟨rfl,hb2⟩))
      go_split_ands
      go_wp2_with fail
      go_roundg (1 - 1)
      case measure=>omega
      case rel=>exact⟨1+1,by omega,by omega,by first|rfl|simp,by rw[HN.out];rfl,by rw[HN.out];rfl,⟨xX.out.below HJ.out (ah.out (by assumption))⟩⟩
     | some k=>
      cases hlt:Op.bytesLess (bY 47 0 x.f1).toList k.toList with
      | false=>
       have HN:ah (jM L p (1+1)=some k):=⟨by unfold jM;rw[HX.out];dsimp only;rw[hk];dsimp only;rw[if_neg (show ¬Op.bytesLess (gu x).toList k.toList=true by unfold gu;rw[hlt];decide)]⟩
       have HK:=ah.mk hk;clear hk
       go_wp2_with fail
       go_region_held3 (fun w'=>Hd wr b1 W.heap.size 1 (p 1) (ad.add (p 1*6)) x A4 c4 A5 c5 w')
        (first|(refine iJ ⟨y1,y4,r0,r1,r2,r3,r4,r5,⟨Below.refl _ _⟩⟩ ?_;(repeat (first|exact Below.refl _ _|apply av|apply bf));done)|(go_split_ands;exact iJ ⟨by assumption,by assumption,by assumption,by assumption,by assumption,by assumption,by assumption,by assumption,by assumption⟩ (by assumption)))
        (first|(go_at_call 51;refine (jm x _ _ _ aj).mono ?_;rintro e w2 ⟨rfl,hb2⟩))
       go_split_ands
       go_wp2_with fail
       go_roundg (1 - 1)
       case measure=>omega
       case rel=>exact⟨1+1,by omega,by omega,by first|rfl|simp,by rw[HN.out];rfl,by rw[HN.out];rfl,⟨xX.out.below HJ.out (ah.out (by assumption))⟩⟩
      | true=>
       have HN:ah (jM L p (1+1)=some (gu x)):=⟨by unfold jM;rw[HX.out];dsimp only;rw[hk];dsimp only;rw[if_pos (show Op.bytesLess (gu x).toList k.toList=true by unfold gu;rw[hlt])]⟩
       have HK:=ah.mk hk;clear hk
       go_wp2_with fail
       go_region_held3 (fun w'=>Hd wr b1 W.heap.size 1 (p 1) (ad.add (p 1*6)) x A4 c4 A5 c5 w')
        (first|(refine iJ ⟨y1,y4,r0,r1,r2,r3,r4,r5,⟨Below.refl _ _⟩⟩ ?_;(repeat (first|exact Below.refl _ _|apply av|apply bf));done)|(go_split_ands;exact iJ ⟨by assumption,by assumption,by assumption,by assumption,by assumption,by assumption,by assumption,by assumption,by assumption⟩ (by assumption)))
        (first|(go_at_call 51;refine (jm x _ _ _ aj).mono ?_;rintro e w2 ⟨rfl,hb2⟩))
       go_split_ands
       go_wp2_with fail
       obtain⟨wv,hwv⟩:∃wv,w2=wv:=⟨_,rfl⟩
       subst hwv
       go_region_held3 (fun w'=>Hd wr b1 W.heap.size 1 (p 1) (ad.add (p 1*6)) x A4 c4 A5 c5 w')
        (first|(go_split_ands;refine iJ ⟨by assumption,by assumption,by assumption,by assumption,by assumption,by assumption,by assumption,by assumption,by assumption⟩ ?_;first|assumption|exact bf (Below.refl _ _)))
        (first|(go_at_call 51;refine (jm x _ _ _ aj).mono ?_;rintro e w2 ⟨rfl,hb2⟩))
       go_split_ands
       go_wp2_with fail
       go_roundg (1 - 1)
       case measure=>omega
       case rel=>exact⟨1+1,by omega,by omega,by first|rfl|simp,by rw[HN.out];rfl,by rw[HN.out];rfl,⟨xX.out.below HJ.out (ah.out (by assumption))⟩⟩
    have d1:decide ((p 1:Int)<((L 1).length:Int))=false:=decide_eq_false aj;have d2:decide (p 1<(L 1).length)=false:=decide_eq_false hp
    have HN:ah (jM L p (1+1)=jM L p 1):=⟨by
     have:(L 1)[p 1]?=none:=List.getElem?_eq_none aj
     show (match (L 1)[p 1]? with|none=>jM L p 1|some x=>_)=_
     rw[this]⟩
    go_wp2_with fail
    go_quiet (fail)
    go_wp2_with fail
    go_roundg (1 - 1)
    case measure=>omega
    case rel=>exact⟨1+1,by omega,by omega,by first|rfl|simp,by rw[HN.out],by rw[HN.out],⟨xX.out.below HJ.out (by repeat (first|exact Below.refl _ _|apply av|apply bf))⟩⟩
   obtain rfl:i=2:=by omega
   have hM1:=xX.out
   cases hk:jM L p 2 with
   | none=>
    have hr:eO L gq p=[]:=by
     cases gq with
     | zero=>rfl
     | succ n=>rw[eO,hk]
    have HF:ah (∃xs,xs.map oJ.rd=rs∧J xs wr):=⟨pre,by rw[hM1.rs,hr,List.append_nil],hM1.j⟩
    clear hM1 hk hr
    go_wp2_with fail
    refine bodyPost_ret (results_none rfl _ _ _) rfl ?_;exact .inl ⟨⟨_,rfl⟩,HF.out⟩
   | some k=>
    have HK:=ah.mk hk;have y2:wr.cell? ⟨b2,0,none⟩=some (.slice (some ⟨br,0,none⟩) 2 2):=ak hM1.am.x2 0;have hz:=(Below.refl wr.heap.size wr).alloc (Nat.le_refl _) (.cells #[.pointer none,.pointer none] 95);have y5:(wr.alloc (.cells #[.pointer none,.pointer none] 95)).cell? ⟨b2,0,none⟩=some (.slice (some ⟨br,0,none⟩) 2 2):=au hz y2
    have hM2:Ep L A c R b1 b2 br B W.heap.size wr.heap.size J pre p k 0 (wr.alloc (.cells #[.pointer none,.pointer none] 95)) :=
     ⟨hM1.am.below hz,p,aJ hM1.at_ hz,fun j hj=>absurd hj (Nat.not_lt_zero _),fun _ _=>rfl,fun _=>.pointer none,bF wr _,fun j hj=>absurd hj (Nat.not_lt_zero _),fun _ _=>rfl,HJ.out _ _ _ hM1.j (ze.below hz)⟩
    have EZ:=ah.mk hM2;have HRd:=ah.mk hM1.rs;have HLf:=ah.mk hM1.left;have HLe:=ah.mk hM1.le;have hhB:B≤wr.heap.size:=Nat.le_trans hM1.hB (Nat.le_of_lt (bG hM1.at_));have HaB:=ah.mk hM1.hB;clear hk hM1 hz hM2
    go_wp2_with fail
    clear y5 y2 xX
    obtain⟨wh,rfl⟩:∃wh,wh=wr:=⟨_,rfl⟩
    go_loopg [63] 2 (fun g s63 wx=>∃i:Nat,2 - i≤g∧i≤2∧s63=.int .i64 i∧ah (Ep L A c R b1 b2 br B W.heap.size wh.heap.size J pre p k i wx))
    case atStart=>exact⟨0,by omega,by omega,rfl,EZ⟩
    case round=>
     obtain⟨i,hig,hi3,rfl,Ky⟩:=hrel;clear EZ;by_cases hi:i<2
     ·rcases (show i=0∨i=1 by omega) with rfl|rfl
      ·have hM3:=Ky.out;obtain⟨am,q,hat,hq1,hq2,P,hP,hP1,hP2,hj⟩:=hM3;have hqi:q 0=p 0:=hq2 0 (Nat.le_refl _);have y1:wr.cell? ⟨b1,0,none⟩=some (.func (.func 51) #[] #[]):=ak am.x1 0;have y3:wr.cell? ⟨br,0,none⟩=some (.slice (A 0) (L 0).length (c 0)):=ak am.xr 0;have y4:wr.cell? ⟨W.heap.size,0,none⟩=some (.int .i64 (p 0)):=(ak hat 0).trans (by rw[← hqi];rfl);have z1:wr.cell? ⟨wh.heap.size,0,none⟩=some (.pointer none):=(ak hP 0).trans (by rw[← hP2 0 (Nat.le_refl _)];rfl);have hne:W.heap.size≠wh.heap.size:=Yg hat hP aH;by_cases hp:p 0<(L 0).length
       ·have d1:decide ((p 0:Int)<((L 0).length:Int))=true:=decide_eq_true aj;have d2:decide (p 0<(L 0).length)=true:=decide_eq_true hp;obtain⟨ad,hA,_⟩:=(R.rd _ am.low 0 aj).2.2 aj;have hoi:=PI.at_ (L:=L) (A:=A) (j:=0) hp hA;have QS:=R.rd _ am.low 0 aj;have hgx:(L 0)[p 0]?=some ((L 0)[p 0]'hp):=List.getElem?_eq_getElem hp;have hsx:=hS 0 aj _ (List.getElem_mem hp);have hlx:=hl 0 aj
        obtain⟨x,hx⟩:∃x,(L 0)[p 0]'hp=x:=⟨_,rfl⟩
        rw[hx] at hoi hgx hsx;have HOI:=ah.mk hoi;obtain⟨ad',A4,c4,A5,c5,e,r0,r1,r2,r3,r4,r5,l4,g4,l5,g5⟩:=PI.oi QS hoi
        injection e with e
        obtain rfl:=Option.some.inj e;rw[hA] at y3;have HX:=ah.mk hgx;clear hoi hx e l4 g4 l5 g5 hgx am hat hq1 hq2 hP hP1 hP2 hj hqi
        have hwp:IntKind.i64.wrap ((p 0:Int)+1)=(p 0:Int)+1:=by rw[IntKind.wrap_i64];omega
        cases he:((bY 47 0 x.f1).toList == k.toList) with
        | false=>
         have HH:ah (fO L p k 0=none):=⟨by unfold fO;rw[HX.out];dsimp only;rw[if_neg (show ¬((gu x).toList == k.toList)=true by unfold gu;rw[he];decide)]⟩
         go_wp2_with fail
         go_region_held3 (fun w'=>Hd wr b1 W.heap.size 0 (p 0) (ad.add (p 0*6)) x A4 c4 A5 c5 w')
          (first|(refine iJ ⟨y1,y4,r0,r1,r2,r3,r4,r5,⟨Below.refl _ _⟩⟩ ?_;(repeat (first|exact Below.refl _ _|apply av|apply bf));done)|(go_split_ands;exact iJ ⟨by assumption,by assumption,by assumption,by assumption,by assumption,by assumption,by assumption,by assumption,by assumption⟩ (by assumption)))
          (first|(go_at_call 51;refine (jm x _ _ _ aj).mono ?_;rintro e w2 ⟨rfl,hb2⟩))
         go_split_ands
         go_wp2_with fail
         go_roundg (1 - 0)
         case measure=>omega
         case rel=>exact⟨0+1,by omega,by omega,by first|rfl|simp,⟨Ky.out.same HJ.out HH.out (ah.out (by assumption))⟩⟩
        | true=>
         have HH:ah (fO L p k 0=some x):=⟨by unfold fO;rw[HX.out];dsimp only;rw[if_pos (show ((gu x).toList == k.toList)=true by unfold gu;rw[he])]⟩
         go_wp2_with fail
         go_region_held3 (fun w'=>Hd wr b1 W.heap.size 0 (p 0) (ad.add (p 0*6)) x A4 c4 A5 c5 w')
          (first|(refine iJ ⟨y1,y4,r0,r1,r2,r3,r4,r5,⟨Below.refl _ _⟩⟩ ?_;(repeat (first|exact Below.refl _ _|apply av|apply bf));done)|(go_split_ands;exact iJ ⟨by assumption,by assumption,by assumption,by assumption,by assumption,by assumption,by assumption,by assumption,by assumption⟩ (by assumption)))
          (first|(go_at_call 51;refine (jm x _ _ _ aj).mono ?_;rintro e w2 ⟨rfl,hb2⟩))
         go_split_ands
         have HW2:ah (Below wr.heap.size wr w2):=by assumption
         obtain⟨am,q,hat,hq1,hq2,P,hP,hP1,hP2,hj⟩:=Ky.out;have hP':=aJ hP HW2.out;have z2:w2.cell? ⟨wh.heap.size,0,none⟩=some (.pointer none):=(ak hP' 0).trans (by rw[← hP2 0 (Nat.le_refl _)];rfl);have z3:=ay hP' 0;have hat':=fJ (aJ hat HW2.out) (p:=⟨wh.heap.size,0,none⟩) hne (.pointer (some (ad.add (p 0*6))));have z4:(w2.setCell ⟨wh.heap.size,0,none⟩ (.pointer (some (ad.add (p 0*6))))).cell? ⟨W.heap.size,0,none⟩=some (.int .i64 (p 0)):=(ak hat' 0).trans (by rw[← hq2 0 (Nat.le_refl _)];rfl);have z5:=ay hat' 0;clear am hat hq1 hq2 hP hP1 hP2 hj hP' hat'
         go_wp2_with fail
         go_roundg (1 - 0)
         case measure=>omega
         case rel=>exact⟨0+1,by omega,by omega,by first|rfl|simp,⟨Ky.out.step aj HJ.out HH.out HW2.out HOI.out HaB.out hhB hne h0 h1 h2 h3⟩⟩
       have d1:decide ((p 0:Int)<((L 0).length:Int))=false:=decide_eq_false aj;have d2:decide (p 0<(L 0).length)=false:=decide_eq_false hp
       have HH:ah (fO L p k 0=none):=⟨by
        unfold fO
        rw[List.getElem?_eq_none aj]⟩
       clear am hat hq1 hq2 hP hP1 hP2 hj hqi
       go_wp2_with fail
       go_quiet (fail)
       go_wp2_with fail
       go_roundg (1 - 0)
       case measure=>omega
       case rel=>exact⟨0+1,by omega,by omega,by first|rfl|simp,⟨Ky.out.same HJ.out HH.out (by repeat (first|exact Below.refl _ _|apply av|apply bf))⟩⟩
      have hM3:=Ky.out;obtain⟨am,q,hat,hq1,hq2,P,hP,hP1,hP2,hj⟩:=hM3;have hqi:q 1=p 1:=hq2 1 (Nat.le_refl _);have y1:wr.cell? ⟨b1,0,none⟩=some (.func (.func 51) #[] #[]):=ak am.x1 0;have y3:wr.cell? ⟨br,1,none⟩=some (.slice (A 1) (L 1).length (c 1)):=ak am.xr 1;have y4:wr.cell? ⟨W.heap.size,1,none⟩=some (.int .i64 (p 1)):=(ak hat 1).trans (by rw[← hqi];rfl);have z1:wr.cell? ⟨wh.heap.size,1,none⟩=some (.pointer none):=(ak hP 1).trans (by rw[← hP2 1 (Nat.le_refl _)];rfl);have hne:W.heap.size≠wh.heap.size:=Yg hat hP aH;by_cases hp:p 1<(L 1).length
      ·have d1:decide ((p 1:Int)<((L 1).length:Int))=true:=decide_eq_true aj;have d2:decide (p 1<(L 1).length)=true:=decide_eq_true hp;obtain⟨ad,hA,_⟩:=(R.rd _ am.low 1 aj).2.2 aj;have hoi:=PI.at_ (L:=L) (A:=A) (j:=1) hp hA;have QS:=R.rd _ am.low 1 aj;have hgx:(L 1)[p 1]?=some ((L 1)[p 1]'hp):=List.getElem?_eq_getElem hp;have hsx:=hS 1 aj _ (List.getElem_mem hp);have hlx:=hl 1 aj
       obtain⟨x,hx⟩:∃x,(L 1)[p 1]'hp=x:=⟨_,rfl⟩
       rw[hx] at hoi hgx hsx;have HOI:=ah.mk hoi;obtain⟨ad',A4,c4,A5,c5,e,r0,r1,r2,r3,r4,r5,l4,g4,l5,g5⟩:=PI.oi QS hoi
       injection e with e
       obtain rfl:=Option.some.inj e;rw[hA] at y3;have HX:=ah.mk hgx;clear hoi hx e l4 g4 l5 g5 hgx am hat hq1 hq2 hP hP1 hP2 hj hqi
       have hwp:IntKind.i64.wrap ((p 1:Int)+1)=(p 1:Int)+1:=by rw[IntKind.wrap_i64];omega
       cases he:((bY 47 0 x.f1).toList == k.toList) with
       | false=>
        have HH:ah (fO L p k 1=none):=⟨by unfold fO;rw[HX.out];dsimp only;rw[if_neg (show ¬((gu x).toList == k.toList)=true by unfold gu;rw[he];decide)]⟩
        go_wp2_with fail
        go_region_held3 (fun w'=>Hd wr b1 W.heap.size 1 (p 1) (ad.add (p 1*6)) x A4 c4 A5 c5 w')
         (first|(refine iJ ⟨y1,y4,r0,r1,r2,r3,r4,r5,⟨Below.refl _ _⟩⟩ ?_;(repeat (first|exact Below.refl _ _|apply av|apply bf));done)|(go_split_ands;exact iJ ⟨by assumption,by assumption,by assumption,by assumption,by assumption,by assumption,by assumption,by assumption,by assumption⟩ (by assumption)))
         (first|(go_at_call 51;refine (jm x _ _ _ aj).mono ?_;rintro e w2 ⟨rfl,hb2⟩))
        go_split_ands
        go_wp2_with fail
        go_roundg (1 - 1)
        case measure=>omega
        case rel=>exact⟨1+1,by omega,by omega,by first|rfl|simp,⟨Ky.out.same HJ.out HH.out (ah.out (by assumption))⟩⟩
       | true=>
        have HH:ah (fO L p k 1=some x):=⟨by unfold fO;rw[HX.out];dsimp only;rw[if_pos (show ((gu x).toList == k.toList)=true by unfold gu;rw[he])]⟩
        go_wp2_with fail
        go_region_held3 (fun w'=>Hd wr b1 W.heap.size 1 (p 1) (ad.add (p 1*6)) x A4 c4 A5 c5 w')
         (first|(refine iJ ⟨y1,y4,r0,r1,r2,r3,r4,r5,⟨Below.refl _ _⟩⟩ ?_;(repeat (first|exact Below.refl _ _|apply av|apply bf));done)|(go_split_ands;exact iJ ⟨by assumption,by assumption,by assumption,by assumption,by assumption,by assumption,by assumption,by assumption,by assumption⟩ (by assumption)))
         (first|(go_at_call 51;refine (jm x _ _ _ aj).mono ?_;rintro e w2 ⟨rfl,hb2⟩))
        go_split_ands
        have HW2:ah (Below wr.heap.size wr w2):=by assumption
        obtain⟨am,q,hat,hq1,hq2,P,hP,hP1,hP2,hj⟩:=Ky.out;have hP':=aJ hP HW2.out;have z2:w2.cell? ⟨wh.heap.size,1,none⟩=some (.pointer none):=(ak hP' 1).trans (by rw[← hP2 1 (Nat.le_refl _)];rfl);have z3:=ay hP' 1;have hat':=fJ (aJ hat HW2.out) (p:=⟨wh.heap.size,1,none⟩) hne (.pointer (some (ad.add (p 1*6))));have z4:(w2.setCell ⟨wh.heap.size,1,none⟩ (.pointer (some (ad.add (p 1*6))))).cell? ⟨W.heap.size,1,none⟩=some (.int .i64 (p 1)):=(ak hat' 1).trans (by rw[← hq2 1 (Nat.le_refl _)];rfl);have z5:=ay hat' 1;clear am hat hq1 hq2 hP hP1 hP2 hj hP' hat'
        go_wp2_with fail
        go_roundg (1 - 1)
        case measure=>omega
        case rel=>exact⟨1+1,by omega,by omega,by first|rfl|simp,⟨Ky.out.step aj HJ.out HH.out HW2.out HOI.out HaB.out hhB hne h0 h1 h2 h3⟩⟩
      have d1:decide ((p 1:Int)<((L 1).length:Int))=false:=decide_eq_false aj;have d2:decide (p 1<(L 1).length)=false:=decide_eq_false hp
      have HH:ah (fO L p k 1=none):=⟨by
       unfold fO
       rw[List.getElem?_eq_none aj]⟩
      clear am hat hq1 hq2 hP hP1 hP2 hj hqi
      go_wp2_with fail
      go_quiet (fail)
      go_wp2_with fail
      go_roundg (1 - 1)
      case measure=>omega
      case rel=>exact⟨1+1,by omega,by omega,by first|rfl|simp,⟨Ky.out.same HJ.out HH.out (by repeat (first|exact Below.refl _ _|apply av|apply bf))⟩⟩
     obtain rfl:i=2:=by omega
     go_upto_region 17 with (fail)
     obtain⟨am,q,hat,hq1,_,P,hP,hP1,_,hj⟩:=Ky.out
     have aiQ:wr.heap[W.heap.size]?=some (.cells #[.int .i64 (gT L p k 0),.int .i64 (gT L p k 1)] 3 (0,0)):=by
      rw[← hq1 0 aj,← hq1 1 aj];exact hat
     obtain⟨gn,hgn⟩:∃gn,gq=gn+1:=by
      cases gq with
      | zero=>
       have:=rO HK.out;have:=HLf.out;omega
      | succ n=>exact⟨n,rfl⟩
     have afy:rs=pre.map oJ.rd++(k,fO L p k 0,fO L p k 1)::eO L gn (gT L p k):=by
      rw[HRd.out,hgn,eO,HK.out]
     have hgood:Ue L A rs pre ⟨k,wh.heap.size,fO L p k 0,fO L p k 1⟩ wr:=⟨⟨_,afy⟩,P 0,P 1,hP,hP1 0 aj,hP1 1 aj⟩
     obtain⟨fn,tmps,assign,body,hy,hR⟩:=HY.out pre _ wr hj hgood
     have hlf:jL L (gT L p k)≤gn:=by
      have h1:=rO HK.out;have h2:=HLf.out;omega
     have hle2:∀j,j<2→gT L p k j≤(L j).length:=fun j hj3=>by
      have h1:=HLe.out j hj3;unfold gT fO
      cases hz:(L j)[p j]? with
      | none=>
       rw[if_neg bB];exact h1
      | some x=>
       rcases Nat.lt_or_ge (p j) (L j).length with h|h
       ·have hb:∀b:Bool,(if b=true then p j+1 else p j)≤(L j).length:=fun b=>by cases b <;> simp <;> omega
        exact hb _
       rw[List.getElem?_eq_none h] at hz;cases hz
     have hmid:∀W',J (pre++[⟨k,wh.heap.size,fO L p k 0,fO L p k 1⟩]) W'→KpG R.P (fun k=>k=b1∨k=b2∨k=br) wr W'→QO L A c R b1 b2 br B W.heap.size rs J (pre++[⟨k,wh.heap.size,fO L p k 0,fO L p k 1⟩]) (gT L p k) gn W':=fun W' hj' hk'=>
      ⟨am.kp hk',hk'.nums _ _ aiQ,HaB.out,hj',by rw[afy,List.map_append,List.append_assoc];rfl,hlf,hle2⟩
     have HMD:=ah.mk hmid;have hGG:=ah.mk (show gn+1=gq from hgn.symm);clear am hat hq1 hP hP1 hj aiQ afy hgood hlf hle2 hmid hgn;dsimp only[encR] at hy;refine (wpIn_wide (n:=1)).1 ?_
     gi_wp2
     refine hR.mono ?_;rintro e W' (⟨rfl,hJ',hk'⟩|⟨ch,rfl,hX⟩);rotate_left
     ·exact⟨rfl,.inr ⟨ch,rfl,hX⟩⟩
     have an0:=ah.mk (HMD.out W' hJ' hk');clear hJ' hk' hR hy
     gi_wp2
     go_wp2_with fail
     go_roundg gn
     case measure=>have:=hGG.out;omega
     case rel=>exact⟨_,_,an0⟩
theorem IY (L:Nat→List It) (A:Nat→Option Addr) (c:Nat→Nat) (w0 w:World) (b1 b2 br:Nat)
  (hL:∀i,i<2→Kd.C mV w0 (A i) (L i).length (L i)) (hc:∀i,i<2→(L i).length≤c i) (hl:∀i,i<2→(L i).length≤65536) (hS:∀i,i<2→∀x∈L i,x.f1.size≤1023)
  (hx:Am L A c w0 b1 b2 br w) (h0:w0.heap.size≤w.heap.size) :
  Hw Tryz.prog 87 #[.pointer (some ⟨b2,0,none⟩),.pointer (some ⟨b1,0,none⟩)] encR (Sn (eO L (jL L (fun _=>0)) (fun _=>0)) w0) (ze w.heap.size) (KpR w0.heap.size (fun k=>k=b1∨k=b2∨k=br))
   (fun xs=>xs.map oJ.rd=eO L (jL L (fun _=>0)) (fun _=>0)) w:=by
 intro l J X W hW hJ hY hJ0;refine xQ L A c ⟨fun W=>Below w0.heap.size w0 W,w0.heap.size,fun W h i hi=>Kd.aC (hL i hi) h,fun _ _ h hb=>h.trans (hb.mono h.size),fun B w w' hB h hs=>hs.low hB h (Nat.le_refl _)⟩ w b1 b2 br hc hl hS ⟨hx.low,hx.x1,hx.x2,hx.xr⟩ h0 l J X W hW hJ (fun pre x C hj hg=>?_) hJ0;obtain⟨h1,p0,p1,h2,h3,h4⟩:=hg;obtain⟨fn,t,as_,b,e1,e2⟩:=hY pre x C hj ⟨h1,p0,p1,h2,PI.oi (hL 0 aj) h3,PI.oi (hL 1 aj) h4⟩;refine⟨fn,t,as_,b,e1,e2.mono fun e D hh=>?_⟩
 rcases hh with⟨h1,h2,h3⟩|h
 ·exact .inl ⟨h1,h2,fun h=>h.trans h3.low,h3.same,h3.nums⟩
 exact .inr h
end Go.Proofs.YtknihldkhedpkaaGreatDoor.Two
end
