import Derived.Test.YtknihldkhedpkaaGreatDoorDDG6
import Derived.BigQuiet
import Derived.OrdersIn
import Derived.Test.YtknihldkhedpkaaGreatDoorDDW
import Derived.Test.YtknihldkhedpkaaGreatDoorDDG10
import Derived.Test.YtknihldkhedpkaaGreatDoorDDG9
import Derived.Laws.ResultCell
import Derived.WalkKit
import Derived.Deep.QuietTactic
set_option linter.all false
set_option maxHeartbeats 16000000
set_option maxRecDepth 100000
section
namespace Go.Proofs.YtknihldkhedpkaaGreatDoor
open Go.RowKit
open Go.Proofs.YtknihldkhedpkaaGreatDoorW.PrintLast
section
variable {P : Program}
theorem wZ {o:Oper} {a:Act} {next next':Act→World→Prop} {Q:Exit→Act→World→Prop} {l n:Nat} (hn:∀a w,next a w→next' a w) {r:Result Next} (h:o.upon P a next Q r) :
  o.uponIn (Fence.wide.inRound l) n P a next' Q r:=by
 cases r with
 | ok nx w'=>
  cases nx with
  | value v=>exact hn _ _ h
  | skip=>exact hn _ _ h
  | defer d=>exact hn _ _ h
  | enter f args=>
   refine⟨fun h=>(by cases h),CallsIn.inRound l (callsIn_wide.2 (Calls.mono h ?_))⟩;intro e w hh
   cases e with
   | returned v=>exact hn _ _ hh
   | panicked c=>exact hh
   | outgrown=>exact hh
  | row row args=>
   refine⟨fun h=>(by cases h),fun c cs _=>?_⟩;obtain⟨v,w2,hr,hs⟩:=h c cs;exact⟨v,w2,hn _ _ hr,stepsIn_wide.2 hs⟩
  | _=>exact h.elim
 | halt x w'=>
  cases x <;> first|exact h|exact h.elim
theorem O4 {ops:Array Oper} {Q:Exit→Act→World→Prop} {l n i:Nat} {K K':Act→World→Prop} {a:Act} {w:World} (hd:∀o∈ops,∀c,o.op≠.defer c) (hQ:¬LetsOut Q) (hn:∀a w,K a w→K' a w) (h:wpOp P ops Q i K a w) :
  wpOpIn (Fence.wide.inRound l) n P ops Q i K' a w:=by
 unfold wpOp at h;unfold wpOpIn
 cases ho:ops[i]? with
 | none=>
  rw[ho] at h;exact hn _ _ h
 | some o=>
  rw[ho] at h;dsimp only at h ⊢;by_cases hw:Region.wanted o (yielded ops a.tmps)=true
  ·rw[if_pos hw] at h ⊢
   rcases h with h|h
   ·refine⟨fun _ _=>trivial,?_⟩;rw[Oper.semAt_eq _ _ _ (hd o (Array.mem_of_getElem? ho))];exact wZ hn h
   exact absurd h.2 hQ
  rw[if_neg hw] at h ⊢;exact⟨fun _ _=>trivial,hn _ _ h⟩
theorem uV {md:Region.Mode} {ops:Array Oper} {Q:Exit→Act→World→Prop} {l n:Nat} (hd:∀o∈ops,∀c,o.op≠.defer c) (hQ:¬LetsOut Q):∀(fuel:Nat) (listed:Array Bool) (a:Act) (w:World),
  wpAny P md ops Q fuel listed a w→wpAnyIn (Fence.wide.inRound l) n P md ops Q fuel listed a w
 | 0,listed,a,w,h=>h
 | fuel+1,listed,a,w,h=>⟨h.1,fun i hi=>O4 hd hQ (fun a w h=>uV hd hQ fuel _ a w h) (h.2 i hi)⟩
def E5 (l:List Oper):Bool:=l.all fun o=>match o.op with|.defer _=>false|_=>true
theorem xg {l:List Oper} (h:E5 l=true):∀o∈l.toArray,∀c,o.op≠.defer c:=by
 intro o ho c e;have:=List.all_eq_true.1 h o (by simpa using ho);rw[e] at this;cases this
theorem wpIn_region_quiet {id:Nat} {Q:Exit→Act→World→Prop} {a:Act} {w:World} {ls:List Oper} {l n:Nat} (hm:P.follows .mixedOrders=true) (hB:Region.lexB .any ls.toArray=true) (hd:E5 ls=true) (hQ:¬LetsOut Q)
  (h:wpQuiet P ls.toArray (fun w'=>∃n,w'=w.drewN n) (fun a'=>∀w',(∃n,w'=w.drewN n)→Q .normal a' w') ls a):(Code.region id ls.toArray true).wpIn (Fence.wide.inRound l) n P Q a w:=by
 simp only[Region.lexB,Bool.and_eq_true] at hB;refine wpIn_region_any hm (uV (xg hd) hQ _ _ _ _ (wpAny_of_quiet (C:=fun w'=>∃n,w'=w.drewN n) (Q:=fun a'=>∀w',(∃n,w'=w.drewN n)→Q .normal a' w') (fun _ w' hw' h=>h w' hw') _ _ _ _ ⟨1,rfl⟩ ?_));have:=wpAnyQ_lex (C:=fun w'=>∃n,w'=w.drewN n) (md:=.any) hB.1 ls 0 (Array.replicate ls.length false) a bB (by simpa using hB.2) h
 simpa using this
theorem uw {id n lq nF:Nat} {Q:Exit→Act→World→Prop} {a:Act} {w:World} {ls:List Oper} {S:World→Prop} {ds:List Nat} (l:Array Bool) (hm:P.follows .mixedOrders=true) (hd:E5 ls=true) (hQ:¬LetsOut Q) (hn:ls.toArray.size=n) (hl:Array.replicate n false=l) (hS:S w.drew)
  (h:S w.drew→bT P .any ls.toArray Q S ds n l a w.drew):(Code.region id ls.toArray true).wpIn (Fence.wide.inRound lq) nF P Q a w:=by
 subst hn;subst hl;exact wpIn_region_any hm (uV (xg hd) hQ _ _ _ _ (tZ _ _ _ _ (h hS)))
end
end Go.Proofs.YtknihldkhedpkaaGreatDoor
end
section
namespace Go.Proofs.YtknihldkhedpkaaGreatDoor
open Go.RowKit Go.Lib
open Go.Proofs.YtknihldkhedpkaaGreatDoorW.PrintWords Go.Proofs.YtknihldkhedpkaaGreatDoorW.PrintLast Go.Proofs.YtknihldkhedpkaaGreatDoor.PT
attribute [local go_sem] Oper.semAt_some
theorem AU (s:ByteArray):Lib.hasPrefix s.data.toList [47]=fP s:=by
 unfold fP bs
 cases s.data.toList with
 | nil=>rfl
 | cons a l=>simp[Lib.hasPrefix,List.isPrefixOf];try (rw[Bool.eq_iff_iff];simp;exact⟨fun h=>h.symm,fun h=>h.symm⟩)
theorem AV {P:Program} {fn:Func} {p:Tmp} {t:TypeId} (h:fn.results=#[.cell p t]) (ht:∀w:World,(isAgg t).run P w=.ok false w) (tmps:Array Value) (w:World) (g:Nat) (b:Bool) (hp:tmps.getD p undef=.pointer (some ⟨g,0,none⟩)) (hg:w.heap[g]?=some (.cells #[.bool b] t (0,0))) :
  (results fn tmps).run P w=.ok (.bool b) w:=by
 have hc:=ak hg 0
 have hp':tmps[p]?.getD undef=.pointer (some ⟨g,0,none⟩):=by simpa using hp
 simp[results,h,hp',asAddr,hc,ht,go_sem,Result.andThen]
theorem O5 (w:World):(isAgg 4).run Tryz.prog w=.ok false w:=by kernel_rfl
theorem MG (s:ByteArray) (w:World):Calls Tryz.prog 145 #[.string s,.string ⟨#[47]⟩,.int .i64 0] w fun e w'=>e=.returned (.func (.func 156) #[] #[.pointer (some ⟨w.heap.size+1,0,none⟩),.pointer (some ⟨w.heap.size,0,none⟩),.pointer (some ⟨w.heap.size+2,0,none⟩)]) ∧
  w'=((w.alloc (.cells #[.string s] 9)).alloc (.cells #[.string ⟨#[47]⟩] 9)).alloc (.cells #[.int .i64 0] 3):=by
 go_enter Tryz.func145,Tryz.ntmps145
 go_wp2_with fail
 go_ret
 exact⟨by simp,rfl⟩
theorem Kv (s:ByteArray) (w:World):Calls Tryz.prog 131 #[.string s,.string ⟨#[47]⟩] w fun e w'=>e=.returned (.func (.func 156) #[] #[.pointer (some ⟨w.heap.size+1,0,none⟩),.pointer (some ⟨w.heap.size,0,none⟩),.pointer (some ⟨w.heap.size+2,0,none⟩)]) ∧
  w'=((w.alloc (.cells #[.string s] 9)).alloc (.cells #[.string ⟨#[47]⟩] 9)).alloc (.cells #[.int .i64 0] 3):=by
 have c:=fun w=>MG s w
 go_enter Tryz.func131,Tryz.ntmps131
 go_wp2_with (go_at_call 145;refine (c _).mono ?_;rintro e w' ⟨rfl,rfl⟩)
 go_ret
 exact⟨rfl,rfl⟩
theorem zL {W:World} {n:Nat} (h:W.heap.size=n) (o:Obj):(W.alloc o).heap[n]?=some o:=h▸bF W o
structure WI (w:World) (nb:Nat) (pre:List ByteArray) (W:World):Prop where
 low:Below w.heap.size w W
 res:W.heap[w.heap.size]?=some (.cells #[.bool false] 4 (0,0))
 big:nb≤W.heap.size
 all:pre.all fQ=true
theorem WI.st {w:World} {nb:Nat} {pre:List ByteArray} {A B:World} {b:Nat} (h:WI w nb pre A) (k:StS b A B) (hb:w.heap.size≤b) (hb2:w.heap.size≠b):WI w nb pre B :=
 ⟨⟨k.os.trans h.low.os,k.tape.trans h.low.tape,k.output.trans h.low.output,Nat.le_trans h.low.size k.size,fun i hi=>(k.blocks i (by have:=h.low.size;omega) aj).trans (h.low.block i hi)⟩,(k.blocks _ (bG h.res) hb2).trans h.res,Nat.le_trans h.big k.size,h.all⟩
theorem WI.put {w:World} {nb l n0:Nat} {pre:List ByteArray} {W:World} {o o':Obj} (h:WI w nb pre W) (hl:n0≤l) (ho:W.heap[l]?=some o) (hc:o.isCells=false) (h0:w.heap.size≤n0):WI w nb pre (W.putObj l o') :=
 ⟨rA h.low aj (Nat.le_refl _) ho hc,(World.putObj_heap_other (fun e=>by rw[← e,h.res] at ho;cases ho;cases hc)).trans h.res,by simpa [World.putObj] using h.big,h.all⟩
structure WX (w:World) (s:ByteArray) (W:World):Prop where
 low:Below w.heap.size w W
 res:W.heap[w.heap.size]?=some (.cells #[.bool false] 4 (0,0))
 no:eu s=false
theorem WX.put {w:World} {l n0:Nat} {s:ByteArray} {W:World} {o o':Obj} (h:WX w s W) (hl:n0≤l) (ho:W.heap[l]?=some o) (hc:o.isCells=false) (h0:w.heap.size≤n0):WX w s (W.putObj l o') :=
 ⟨rA h.low aj (Nat.le_refl _) ho hc,(World.putObj_heap_other (fun e=>by rw[← e,h.res] at ho;cases ho;cases hc)).trans h.res,h.no⟩
theorem Zz {bs bp bv l:Nat} {A B:World} {o1 o2:Obj} (h1:bs≠l) (h2:bp≠l) (h3:bv≠l) (h:KpS bs bp bv (A.putObj l o1) B):KpS bs bp bv A (B.putObj l o2) :=
 ⟨(World.putObj_heap_other h1).trans (h.1.trans (World.putObj_heap_other h1)),(World.putObj_heap_other h2).trans (h.2.1.trans (World.putObj_heap_other h2)),(World.putObj_heap_other h3).trans (h.2.2.trans (World.putObj_heap_other h3))⟩
def al0 (w:World) (nb:Nat) (s:ByteArray) (pre:List ByteArray) (bs bp bv:Nat) (W:World) (e:Exit) (B:World):Prop :=
 (e=.normal∧WI w nb pre B∧KpS bs bp bv W B∧Still nb W B)∨(e=.ret∧WX w s B∧Still nb W B)
theorem ql (s:ByteArray) (w:World) (hs:s.size≤140737488351232):Calls Tryz.prog 100 #[.string s] w fun e w'=>e=.returned (.bool (eu s))∧Below w.heap.size w w':=by
 have hpx:=fun w=>Tryz.strings_HasPrefix s ⟨#[47]⟩ w
 have HPX:=ah.mk hpx;clear hpx;refine (callsIn_wide (n:=3)).1 (callsIn_of_wp_marks Tryz.func100 rfl trivial ?_ rfl);simp only[Tryz.ntmps100,List.size_toArray,List.length_cons,List.length_nil,Nat.reduceSub,Nat.reduceAdd,Array.replicate_succ,Array.replicate_zero,List.push_toArray,List.append_toArray,List.nil_append,List.cons_append];refine wpIn_wide.2 ?_;have hb1:=(Below.refl w.heap.size w).alloc (Nat.le_refl _) (.cells #[.bool false] 4);by_cases hc:1023<s.size
 ·have HW:ah (eu s=false):=⟨by unfold eu;rw[decide_eq_false aj];rfl⟩
  go_wp2_with fail
  refine⟨_,AV rfl O5 _ _ w.heap.size false rfl (bF w _),?_⟩;exact⟨by rw[HW.out],hb1⟩
 have d0:decide (1023<(s.size:Int))=false:=decide_eq_false aj
 cases hsl:fP s with
 | false=>
  have hpx:=HPX.out;rw[AU,hsl] at hpx;have HPX:=ah.mk hpx
  have HW:ah (eu s=false):=⟨by unfold eu;rw[hsl,Bool.false_and,Bool.and_false]⟩
  clear hpx hsl
  go_wp2_with (go_at_call 130;refine (HPX.out _).mono ?_;rintro e w2 ⟨rfl,rfl⟩)
  refine⟨_,AV rfl O5 _ _ w.heap.size false rfl (bF w _),?_⟩;exact⟨by rw[HW.out],hb1⟩
 | true=>
  have hpx:=HPX.out;rw[AU,hsl] at hpx;have HPX:=ah.mk hpx;have hsz:=lg hsl;have HSL:=ah.mk hsl
  have e1:(1:Int)≤(s.size:Int):=by omega
  clear hpx hsl
  go_wp2_with (first|(go_at_call 130;refine (HPX.out _).mono ?_;rintro e w2 ⟨rfl,rfl⟩)|(go_at_call 131;refine (Kv _ _).mono ?_;rintro e w2 ⟨rfl,rfl⟩))
  obtain⟨w2,hw2⟩:∃w2,((((w.alloc (.cells #[.bool false] 4)).alloc (.cells #[.string (s.extract 1 s.size)] 9)).alloc (.cells #[.string ⟨#[47]⟩] 9)).alloc (.cells #[.int .i64 0] 3))=w2:=⟨_,rfl⟩
  rw[hw2]
  have hz2:w2.heap.size=w.heap.size+4:=by rw[← hw2];simp
  have hb2:Below w.heap.size w w2:=by rw[← hw2];exact (((hb1.alloc bB _).alloc (by simp;omega) _).alloc (by simp;omega) _)
  have hq2:Sq (w.heap.size+1) (w.heap.size+1+1) (w.heap.size+1+2) (s.extract 1 s.size) w2:=by
   rw[← hw2];exact⟨aN (aN (zL bB _) _) _,aN (zL bB _) _,zL bB _⟩
  have hr2:w2.heap[w.heap.size]?=some (.cells #[.bool false] 4 (0,0)):=by
   rw[← hw2];exact aN (aN (aN (bF w _) _) _) _
  have hT:=FW (s.extract 1 s.size) w2 (w.heap.size+1) (w.heap.size+1+1) (w.heap.size+1+2) (by rw[ByteArray.size_extract];omega) hq2 ⟨by omega,by omega⟩;have HT:=ah.mk hT
  have HI0:ah (WI w w2.heap.size [] w2):=⟨⟨hb2,hr2,Nat.le_refl _,rfl⟩⟩
  have hsz0:w.heap.size≤w2.heap.size:=hb2.size
  have arT:w.heap.size+4≤w2.heap.size:=by omega
  clear hT hb2 hq2 hr2 hw2 hb1 HPX hz2
  refine MF (gf:=156) (lb:=#[.pointer (some ⟨w.heap.size+1+1,0,none⟩),.pointer (some ⟨w.heap.size+1,0,none⟩),.pointer (some ⟨w.heap.size+1+2,0,none⟩)]) ?hg (enters_of Tryz.func156 aD rfl) (encs:=fun x:ByteArray=>#[.string x]) (fun _=>rfl) HT.out
   (WI w w2.heap.size) (WX w s) ?a1 (fun A B h=>⟨h.size,fun k o hB ho hc=>(h.blocks k (bG ho) aj).trans ho⟩)
   (fun pre A B hi hs=>hi.st hs aj aj)
   (fun pre W l o o' hi hl ho hc=>hi.put hl ho hc hsz0)
   (fun W l o o' hi hl ho hc=>hi.put hl ho hc aj)
   (fun A B l o o1 p o2 hl ho hc hk hp hpc=>Zz aj aj aj hk)
   (fun o o'=>⟨HI0.out.low.trans ((((Below.refl _ w2).alloc (Nat.le_refl _) o).alloc bB o').mono hsz0),aN (aN HI0.out.res _) _,by rw[World.size_alloc,World.size_alloc];omega,rfl⟩)
   ?assign ?body ?done ?stop
  case assign=>
   intro l x W K hK
   gi_wp2
   exact hK
  case hg=>
   first|rfl|(go_simp;done)|simp[go_sem]
  case body=>
   rintro l pre x W hi ⟨rest,hrest⟩;refine wpIn_mono (Q:=fun e _ B=>al0 w w2.heap.size s (pre++[x]) (w.heap.size+1) (w.heap.size+1+1) (w.heap.size+1+2) W e B) ?_ (fun e a B h=>h);obtain⟨e,he,hok⟩:=Jm x
   have hnm:=fun W=>iq.calls x e W he
   have HNM:=ah.mk hnm;have HI:=ah.mk hi;have HOK:=ah.mk hok;have Zd:=ah.mk hrest;have r0:W.cell? ⟨w.heap.size,0,none⟩=some (.bool false):=ak hi.res 0;have rf:=ay hi.res 0;have rl:=bG hi.res;clear hnm hi hok hrest;by_cases hz:e=0
   ·have hzb:(e != 0)=false:=by rw[hz];rfl
    have HZ:=ah.mk hz;clear hz he
    gi_wp2_with (refine⟨trivial,rfl,?_⟩;gi_at_call 132;refine (CallsIn.inRound l (callsIn_wide.2 (HNM.out _))).mono ?_;rintro e2 w5 ⟨rfl,hb5⟩)
    exact .inl ⟨rfl,⟨HI.out.low.trans (hb5.mono HI.out.low.size),aJ HI.out.res hb5,Nat.le_trans HI.out.big hb5.size,by rw[List.all_append,HI.out.all];simp[HOK.out.1 HZ.out]⟩,
     ⟨hb5.block _ (by have:=HI.out.big;omega),hb5.block _ (by have:=HI.out.big;omega),hb5.block _ (by have:=HI.out.big;omega)⟩,Still.below hb5⟩
   have hzb:(e != 0)=true:=bne_iff_ne.2 hz
   have HN:ah (eu s=false):=⟨by
    have h1:fQ x=false:=by
     cases hc2:fQ x with
     | false=>rfl
     | true=>exact absurd (HOK.out.2 hc2) hz
    have h2:(dP s).all fQ=false:=List.all_eq_false.2 ⟨x,by rw[show dP s=pre++x::rest from Zd.out];simp,by rw[h1];decide⟩;unfold eu
    rw[h2,Bool.and_false,Bool.and_false]⟩
   clear hz he
   gi_wp2_with (refine⟨trivial,rfl,?_⟩;gi_at_call 132;refine (CallsIn.inRound l (callsIn_wide.2 (HNM.out _))).mono ?_;rintro e2 w5 ⟨rfl,hb5⟩;have r5:w5.cell? ⟨w.heap.size,0,none⟩=some (.bool false):=au hb5 r0;have f5:=ay (aJ HI.out.res hb5) 0;have kW:=ah.mk hb5;clear hb5 r0 rf rl)
   have hres:=aJ HI.out.res kW.out;refine .inr ⟨rfl,⟨(HI.out.low.trans (kW.out.mono HI.out.low.size)).setCell (Nat.le_refl _) _,gY hres 0 _ (by rfl),HN.out⟩,?_⟩;have hst:Still w2.heap.size W w5:=Still.below kW.out;refine⟨Nat.le_trans hst.1 ((Below.refl 0 w5).setCell (p:=⟨w.heap.size,0,none⟩) (Nat.zero_le _) _).size,fun k o hB ho hc=>(Below.heap_setCell w5 ⟨w.heap.size,0,none⟩ _ k (fun e=>?_)).trans (hst.2 k o hB ho hc)⟩;have e':k=w.heap.size:=e;omega
  case done=>
   rintro xs W hxs hlt hi hd
   have HN:ah (eu s=true):=⟨by
    have h:=hi.all;rw[hxs] at h;unfold eu;rw[HSL.out,decide_eq_true aj,show (dP s).all fQ=true from h]
    rfl⟩
   have r0:W.cell? ⟨w.heap.size,0,none⟩=some (.bool false):=ak hi.res 0;have rf:=ay hi.res 0;have HI:=ah.mk hi;have HD:=ah.mk hd;clear hi hd hxs HT HI0
   go_wp2_with fail
   have hres:=gY HI.out.res 0 (.bool true) rfl;have hd2:(W.setCell ⟨w.heap.size,0,none⟩ (.bool true)).heap[w2.heap.size]?=some (.deferred (some [])):=(Below.heap_setCell W ⟨w.heap.size,0,none⟩ _ _ (by show w2.heap.size≠w.heap.size;omega)).trans HD.out;refine⟨by simp,.inl ⟨_,_,rfl,run_takeDeferred hd2,?_⟩⟩;refine⟨_,AV rfl O5 _ _ w.heap.size true rfl ((World.putObj_heap_other aj).trans hres),?_⟩;exact⟨by rw[HN.out],rA (HI.out.low.setCell (Nat.le_refl _) _) hsz0 (Nat.le_refl _) hd2 rfl⟩
  case stop=>
   rintro W hlt hx hd;refine⟨by simp,.inl ⟨_,_,rfl,run_takeDeferred hd,?_⟩⟩;refine⟨_,AV rfl O5 _ _ w.heap.size false rfl ((World.putObj_heap_other aj).trans hx.res),?_⟩;exact⟨by rw[hx.no],rA hx.low hsz0 (Nat.le_refl _) hd rfl⟩
end Go.Proofs.YtknihldkhedpkaaGreatDoor
end
section
namespace Go.Proofs.YtknihldkhedpkaaGreatDoor
open Go.RowKit Go.Lib
open Go.Proofs.YtknihldkhedpkaaGreatDoorW.PrintWords Go.Proofs.YtknihldkhedpkaaGreatDoorW.PrintLast Go.Proofs.YtknihldkhedpkaaGreatDoor.PT
theorem zM {w A C:World} {g:Nat} (h:Below w.heap.size w A) (hf:Ft g A C) (hg:w.heap.size≤g):Below w.heap.size w C :=
 ⟨hf.os.trans h.os,hf.tape.trans h.tape,hf.output.trans h.output,Nat.le_trans h.size hf.size,fun k hk=>by
  have hlt:k<A.heap.size:=Nat.lt_of_lt_of_le hk h.size;have h1:=Array.getElem?_eq_getElem hlt
  rcases hf.blocks k _ h1 with (e|⟨_,_,_,_,e⟩)|e
  ·omega
  ·exact e.elim
  rw[e,← h1,h.block k hk]⟩
theorem UF:strOfNums kg=⟨#[118,108,112,97,116,99,104,1]⟩:=by decide
theorem O6:(strOfNums kg).toList=[118,108,112,97,116,99,104,1]:=by rw[UF,Lib.toList_data]
theorem ad4 {P:Program} {ops:Array Oper} {Q:Exit→Act→World→Prop} {oi:Oper} {N:Option Tmp} {a:Act} {w:World} {K:Act→World→Prop} {f:FuncId} {fn:Func} {ars:Array Operand} {ts:Array TypeId} (hf:P.funcs[f]?=some fn) (hname:(fn.name == "runtime.NumGoroutine")=false) (hb:fn.body.isSome=true) (args:Array Value)
  (hw:Region.wanted oi (yielded ops a.tmps)=true) (hN:oi.dst=N) (hop:oi.op=.call { callee:=.value (.func f),args:=ars,argTypes:=ts }) (hargs:ars.map a.eval=args)
  (h:Calls P f args w fun e w'=>(∃v,e=.returned v∧K (a.put N v) w')∨∃c,e=.panicked c∧Q (.panic c) a w'):if Region.wanted oi (yielded ops a.tmps)=true then Oper.wp P oi a w K Q else K (a.put N undef) w:=by
 rw[if_pos hw];subst hN;have he:=Kw hf hname hb args w
 have hrun:(execOp a.eval oi).run P w=.ok (.enter f args) w:=by
  unfold execOp;simp[hop,resolve,Deferred.ofValue,invoke,Act.eval,hargs,he]
 unfold Oper.wp;rw[hrun,Oper.upon_enter]
 refine h.mono fun e w'' hh=>?_
 rcases hh with⟨v,rfl,hk⟩|⟨c,rfl,hk⟩
 ·exact hk
 exact hk
def al1 (w:World) (o:Option (Int × Int × List sF)) (w':World):Prop :=
 ∃(b g:Int) (v:Value) (cs:List sF) (ok:Bool),w'.heap[w.heap.size]?=some (.cells #[.int .i64 b,.int .i64 g,v] 24 (0,0))∧w'.heap[w.heap.size+1]?=some (.cells #[.bool ok] 4 (0,0))∧Kd.R EA 31 w' w.heap.size (fun _=>True) v cs∧(o=if ok then some (b,g,cs) else none)∧Below w.heap.size w w'
def al2 (w:World) (o:Option (Int × Int × List sF)) (w':World):Prop :=
 o=none∧∃x0 x1 x2 y0,w'.heap[w.heap.size]?=some (.cells #[x0,x1,x2] 24 (0,0))∧w'.heap[w.heap.size+1]?=some (.cells #[y0] 4 (0,0))∧Below w.heap.size w w'
def yQ (w:World) (o:Option (Int × Int × List sF)) (e:Exit) (a:Act) (w':World):Prop :=
 a.tmps.getD 2 undef=.pointer (some ⟨w.heap.size,0,none⟩)∧a.tmps.getD 3 undef=.pointer (some ⟨w.heap.size+1,0,none⟩) ∧
 a.defers=[{ target:=.fn (.func 96) #[.pointer (some ⟨w.heap.size,0,none⟩),.pointer (some ⟨w.heap.size+1,0,none⟩)],args:=#[] }] ∧
 match e with
 | .ret=>al1 w o w'
 | .panic c=>c=[{ v:=.iface 141 (.agg #[]),recovered:=false }]∧al2 w o w'
 | _=>False
theorem MH {a:Act} {i j:Nat} {v u:Value} (h:i≠j):(a.put (some i) v).tmps.getD j u=a.tmps.getD j u:=by
 simp only[Act.put,Array.getD_eq_getD_getElem?];rw[Array.getElem?_setIfInBounds_ne h]
theorem yQ.put {w:World} {o:Option (Int × Int × List sF)} {c:List PanicEntry} {a:Act} {w':World} {i:Nat} {v:Value} (h2:i≠2) (h3:i≠3) (h:yQ w o (.panic c) (a.put (some i) v) w'):yQ w o (.panic c) a w' :=
 ⟨(MH h2).symm.trans h.1,(MH h3).symm.trans h.2.1,h.2.2.1,h.2.2.2⟩
def ZA (w:World) (o:Option (Int × Int × List sF)) (e:Ending) (w':World):Prop:=Below w.heap.size w w'∧match o with
 | none=>∃(b g:Int) (A:Option Addr) (n c:Nat),e=.returned (.tuple #[.agg #[.int .i64 b,.int .i64 g,.slice A n c],.bool false])
 | some (b,g,cs)=>∃v,e=.returned (.tuple #[.agg #[.int .i64 b,.int .i64 g,v],.bool true])∧Kd.R EA 31 w' w.heap.size (fun _=>True) v cs
theorem MI {fn:Func} {P:Program} {p1 p2:Tmp} {t1 t2:TypeId} (h:fn.results=#[.cell p1 t1,.cell p2 t2]) (tmps:Array Value) (w:World) (b1 b2:Nat) (cs:Array Value) (ok:Bool) (d:TypeDesc)
  (h1:tmps.getD p1 undef=.pointer (some ⟨b1,0,none⟩)) (h2:tmps.getD p2 undef=.pointer (some ⟨b2,0,none⟩)) (g1:w.heap[b1]?=some (.cells cs t1 (0,0))) (g2:w.heap[b2]?=some (.cells #[.bool ok] t2 (0,0)))
  (hu:P.underlying t1=some d) (hd:(match d with|.struct _|.array _ _=>true|_=>false)=true) (hi:(P.info? t1).map (·.size)=some cs.size) (ht2:∀w:World,(isAgg t2).run P w=.ok false w) :
  (results fn tmps).run P w=.ok (.tuple #[.agg cs,.bool ok]) w:=by
 have h1':tmps[p1]?.getD undef=.pointer (some ⟨b1,0,none⟩):=by simpa using h1
 have h2':tmps[p2]?.getD undef=.pointer (some ⟨b2,0,none⟩):=by simpa using h2
 have hc:w.cell? ⟨b2,0,none⟩=some (.bool ok):=ak g2 0;have e1:=run_loadVar_row w b1 t1 t1 cs (0,0) d g1 hu hd hi
 have e2:(loadVar t2 ⟨b2,0,none⟩).run P w=.ok (.bool ok) w:=by simp[hc,ht2,go_sem,Result.andThen]
 simp only[results,h];simp[h1',h2',asAddr,e1,e2,Result.andThen,Sem.run_bind]
theorem ZB {w:World} {o:Option (Int × Int × List sF)} (e:Exit) (a:Act) (w':World) (h:yQ w o e a w'):bodyPostD Tryz.prog Tryz.f61 (fun e w'=>ZA w o e w') e a w':=by
 obtain⟨h2,h3,hd,h⟩:=h
 cases e with
 | ret=>
  obtain⟨b,g,v,cs,ok,g1,g2,hr,ho,hb⟩:=h
  show Leaves _ _ a.tmps _ a.defers .returning w'
  rw[hd];refine leaves_cons (f:=96) (args:=#[.pointer (some ⟨w.heap.size,0,none⟩),.pointer (some ⟨w.heap.size+1,0,none⟩)]) bB (by simp[go_sem]) ?_;refine (OY _ _ w').mono ?_;rintro e u' w2 ⟨rfl,rfl,rfl⟩;refine⟨_,MI rfl a.tmps w2 _ _ _ ok _ h2 h3 g1 g2 Tryz.underlying24 rfl aD O5,hb,?_⟩;subst ho
  cases ok with
  | true=>exact⟨_,rfl,hr⟩
  | false=>
   obtain⟨A,c,hv⟩:=Kd.bP hr;subst hv;exact⟨_,_,_,_,_,rfl⟩
 | panic c=>
  obtain⟨rfl,rfl,x0,x1,x2,y0,g1,g2,hb⟩:=h
  show Leaves _ _ a.tmps _ a.defers (.panicking _) w'
  rw[hd];refine leaves_cons (f:=96) (args:=#[.pointer (some ⟨w.heap.size,0,none⟩),.pointer (some ⟨w.heap.size+1,0,none⟩)]) bB (by simp[go_sem]) ?_;refine (Ku _ _ x0 x1 x2 y0 [] w' g1 g2).mono ?_;rintro e u' w2 ⟨rfl,rfl,k1,k2,hf⟩;refine⟨_,MI rfl a.tmps w2 _ _ _ false _ h2 h3 k1 k2 Tryz.underlying24 rfl aD O5,?_,_,_,_,_,_,rfl⟩;refine⟨hf.os.trans hb.os,hf.tape.trans hb.tape,hf.output.trans hb.output,Nat.le_trans hb.size hf.size,fun k hk=>?_⟩;have hlt:k<w'.heap.size:=Nat.lt_of_lt_of_le hk hb.size;have h1:=Array.getElem?_eq_getElem hlt
  rcases hf.blocks k _ h1 with ((e|e)|⟨_,_,_,_,e⟩)|e
  ·omega
  ·omega
  ·exact e.elim
  rw[e,← h1,hb.block k hk]
 | normal=>exact h.elim
 | exit _=>exact h.elim
 | goto _=>exact h.elim
 | outgrown=>exact h.elim
theorem O7 {g:Nat} {v:Value} {xs:List sF} {W W1:World} {B:Nat} {left:List Int} {base:Nat} (h:Kd.R EA 31 W base (fun _=>True) v xs) (ht:Tk B W g left) (hf:Ft g W W1):Kd.R EA 31 W1 base (fun _=>True) v xs :=
 Kd.dX (adX (w0:=W) h ht aH hf) (fun _ _=>trivial)
theorem FZ {w:World} {A:Option Addr} {l:List Ru} (h:Kd.C dw w A l.length l) (i:Nat) (hi:i<l.length):∃ad,A=some ad∧w.cell? (ad.add (i*2))=some (.int .i64 l[i].f0)∧w.cell? ⟨(ad.add (i*2)).block,(ad.add (i*2)).off+1,none⟩=some (.int .i64 l[i].f1):=by
 obtain⟨ad,hA,r0,r1⟩:=dQ h (i:Int) aj aj
 have hrd:aQ l (i:Int)=l[i]:=by simp[aQ,hi]
 rw[hrd,Int.toNat_natCast] at r0 r1;exact⟨ad,hA,r0,r1⟩
theorem uy (A0:Option Addr) (c0:Nat) (l:List Ru) (most:Int) (w:World) (hr:Kd.C dw w A0 l.length l) (hc:l.length≤c0) (hl:l.length≤140737488351232) (hm0:0≤most) (hm1:most≤1048576) :
  Calls Tryz.prog 136 #[.slice A0 l.length c0,.int .i64 most] w fun e w'=>e=.returned (.tuple #[.int .i64 ((iw l most).getD 0),.bool (iw l most).isSome])∧Below w.heap.size w w':=by
 have HR:=ah.mk hr;clear hr
 go_enter Tryz.func136,Tryz.ntmps136
 go_wp2_with fail
 go_loopg [6,7,12] l.length (fun g s6 s7 s12 wx=>∃(i:Nat) (last all:Int),i+g=l.length∧s12=.int .i64 i∧s6=.int .i64 last∧s7=.int .i64 all∧-1≤last∧last≤most∧0≤all∧all≤last+1∧ah (dL most last all (l.drop i)=iw l most)∧ah (Below w.heap.size w wx))
 case atStart=>exact⟨0,-1,0,by omega,rfl,rfl,rfl,by omega,by omega,by omega,by omega,⟨by rw[List.drop_zero];rfl⟩,⟨Below.refl _ _⟩⟩
 case round=>
  obtain⟨i,last,all,hig,rfl,rfl,rfl,h1,h2,h3,h4,HG,HB⟩:=hrel;by_cases hi:i<l.length
  ·obtain⟨ad,hA,r0,r1⟩:=FZ (Kd.aC HR.out HB.out) i hi;subst hA;have hg:=HG.out;rw[List.drop_eq_getElem_cons hi] at hg
   obtain⟨r,hr⟩:∃r,l[i]=r:=⟨_,rfl⟩
   rw[hr] at hg r0 r1;have zh:=ah.mk (HB.out.trans (((Below.refl wr.heap.size wr).alloc (Nat.le_refl _) (.cells #[.int .i64 r.f0,.int .i64 r.f1] 117)).mono HB.out.size));have IG:=ah.mk hg;clear hg hr HG HB;by_cases c1:r.f0≤last
   ·have HN:ah (iw l most=none):=⟨by rw[← IG.out,dL,if_pos (.inl c1)]⟩
    go_wp2_with fail
    go_ret2
    exact⟨by rw[HN.out];rfl,zh.out⟩
   by_cases c2:r.f1≤r.f0
   ·have HN:ah (iw l most=none):=⟨by rw[← IG.out,dL,if_pos (.inr (.inl c2))]⟩
    go_wp2_with fail
    go_ret2
    exact⟨by rw[HN.out];rfl,zh.out⟩
   by_cases c3:most<r.f1
   ·have HN:ah (iw l most=none):=⟨by rw[← IG.out,dL,if_pos (.inr (.inr c3))]⟩
    go_wp2_with fail
    go_ret2
    exact⟨by rw[HN.out];rfl,zh.out⟩
   have HN:ah (dL most r.f1 (all+(r.f1 - r.f0)) (l.drop (i+1))=iw l most):=⟨by rw[← IG.out,dL,if_neg aj]⟩
   go_wp2_with fail
   go_roundg (l.length - (i+1))
   case measure=>omega
   case rel=>exact⟨i+1,r.f1,all+(r.f1 - r.f0),by omega,by first|rfl|simp,rfl,rfl,by omega,by omega,by omega,by omega,HN,zh⟩
  have HN:ah (iw l most=some all):=⟨by rw[← HG.out,List.drop_of_length_le aj];rfl⟩
  go_wp2_with fail
  go_ret2
  exact⟨by rw[HN.out];rfl,HB.out⟩
theorem ad6 (n:Int) (w:World) (h0:0≤n) (h1:n≤1099511627776):Calls Tryz.prog 147 #[.int .i64 n] w fun e w'=>e=.returned (.int .i64 ((n+511) / 512))∧w'=w:=by
 go_enter Tryz.func147,Tryz.ntmps147
 go_wp2_with fail
 go_ret
 refine⟨?_,rfl⟩
 show Ending.returned (.int .i64 ((n+512 - 1) / 512))=_
 rw[show n+512 - 1=n+511 by omega]
theorem Dc (x:It) (A4:Option Addr) (c4:Nat) (v5:Value) (w:World) (hr:Kd.C dw w A4 x.f4.length x.f4) (hc:x.f4.length≤c4) (hl:x.f4.length≤140737488351232) :
  Calls Tryz.prog 133 #[.agg #[.int .i64 x.f0,.string x.f1,.string x.f2,.int .i64 x.f3,.slice A4 x.f4.length c4,v5]] w fun e w'=>e=.returned (.tuple #[.int .i64 ((jk x).getD 0),.bool (jk x).isSome])∧Below w.heap.size w w':=by
 obtain⟨X,hX⟩:∃X,#[Value.int .i64 x.f0,.string x.f1,.string x.f2,.int .i64 x.f3,.slice A4 x.f4.length c4,v5]=X:=⟨_,rfl⟩
 have hbx:=bF w (.cells X 29)
 have x3:(w.alloc (.cells X 29)).cell? ⟨w.heap.size,3,none⟩=some (.int .i64 x.f3):=by rw[ak hbx,← hX];rfl
 have x4:(w.alloc (.cells X 29)).cell? ⟨w.heap.size,4,none⟩=some (.slice A4 x.f4.length c4):=by rw[ak hbx,← hX];rfl
 rw[hX];have HB:=ah.mk ((Below.refl w.heap.size w).alloc (Nat.le_refl _) (.cells X 29));have HR:=ah.mk hr
 have h4:X.size=6:=by rw[← hX];rfl
 have HX:=ah.mk hX;have H4:=ah.mk h4;clear hr hX h4 hbx;by_cases c1:x.f3<0
 ·have HN:ah (jk x=none):=⟨by unfold jk;rw[if_pos (.inl c1)]⟩
  go_enter Tryz.func133,Tryz.ntmps133
  go_wp2_with fail
  go_ret2
  exact⟨by rw[HN.out];rfl,HB.out⟩
 by_cases c2:8459264<x.f3
 ·have HN:ah (jk x=none):=⟨by unfold jk;rw[if_pos (.inr c2)]⟩
  go_enter Tryz.func133,Tryz.ntmps133
  go_wp2_with fail
  go_ret2
  exact⟨by rw[HN.out];rfl,HB.out⟩
 have HN:ah (jk x=iw x.f4 ((x.f3+511) / 512)):=⟨by unfold jk;rw[if_neg aj]⟩
 obtain⟨W1,hW1⟩:∃W1,w.alloc (.cells X 29)=W1:=⟨_,rfl⟩
 rw[hW1] at HB x3 x4
 go_enter Tryz.func133,Tryz.ntmps133
 go_wp2_with fail
 try rw[hW1]
 have hdr:=bf (Below.refl W1.heap.size W1)
 have hS:W1.drew.cell? ⟨w.heap.size,3,none⟩=some (.int .i64 x.f3)∧W1.drew.cell? ⟨w.heap.size,4,none⟩=some (.slice A4 x.f4.length c4)∧ah (Below w.heap.size w W1.drew):=⟨au hdr x3,au hdr x4,⟨HB.out.trans (hdr.mono HB.out.size)⟩⟩
 clear x3 x4 hdr;refine jJ (n:=10) (S:=(fun w'=>w'.cell? ⟨w.heap.size,3,none⟩=some (.int .i64 x.f3)∧w'.cell? ⟨w.heap.size,4,none⟩=some (.slice A4 x.f4.length c4)∧ah (Below w.heap.size w w'))) (ds:=[]) (aM 10 0) aD rfl rfl hS (fun hHeld=>?_);clear hS;refine bA 0 12 (aM 10 1) ?_;refine gG 1 13 (aM 10 3) rfl hHeld (by rintro w' ⟨s3,s4,s5⟩;go_simp;with_reducible rfl) ?_;refine bA 2 14 (aM 10 7) ?_;refine gG 3 15 (aM 10 15) rfl hHeld (by rintro w' ⟨s3,s4,s5⟩;go_simp;with_reducible rfl) ?_;refine mD 4 (some 16) (aM 10 31) (fun K hK=>?_);refine mW Tryz.func147 #[.int .i64 x.f3] ?_;refine (ad6 x.f3 _ aj aj).mono ?_;rintro e w2 ⟨rfl,rfl⟩;refine⟨_,rfl,?_⟩;refine hK.out _ _ hHeld (fun hHeld=>?_);clear hK K;refine fH 16 ?_;refine mD 5 (some 17) (aM 10 63) (fun K hK=>?_);refine mW Tryz.func136 #[.slice A4 x.f4.length c4,.int .i64 ((x.f3+511) / 512)] ?_;refine (uy A4 c4 x.f4 ((x.f3+511) / 512) _ (Kd.aC HR.out hHeld.2.2.out) hc hl aj aj).mono ?_;rintro e w3 ⟨rfl,hb3⟩;refine⟨_,rfl,?_⟩;refine hK.out _ _ ⟨au hb3 hHeld.1,au hb3 hHeld.2.1,⟨hHeld.2.2.out.trans (hb3.mono hHeld.2.2.out.size)⟩⟩ ?_;clear hb3 hHeld hK K;intro hHeld;refine fH 17 ?_;refine bA 6 18 (aM 10 127) ?_;refine bA 7 19 (aM 10 255) ?_;refine bA 8 2 (aM 10 511) ?_;refine bA 9 3 (aM 10 1023) ?_;refine jK aD ?_;have HB3:=hHeld.2.2;clear hHeld
 go_wp2_with fail
 go_ret2
 exact⟨by rw[HN.out];rfl,HB3.out⟩
theorem zN {rows:List Ru} {n:Nat} (h:rows.length=n+1) (size:Int):Ea rows size=(rows[n]'aj).f1*512 - size:=by
 unfold Ea;rw[List.getLast?_eq_getElem?,List.getElem?_eq_getElem aj];simp only[h,Nat.add_sub_cancel]
theorem Jo (A0:Option Addr) (c0:Nat) (rows:List Ru) (A1:Option Addr) (c1:Nat) (data:List Int) (size:Int) (w:World) (hr:Kd.C dw w A0 rows.length rows) (hc:rows.length≤c0) (hl:rows.length≤140737488351232)
  (hd:Kd.C (Kd.int .u8) w A1 data.length data) (hc1:data.length≤c1) (hl1:data.length≤140737488351232) (hb:∀r∈rows,0≤r.f1∧r.f1≤1048576) (hs0:0≤size) (hs1:size≤1099511627776) (ht:Ea rows size≤data.length) :
  Calls Tryz.prog 134 #[.slice A0 rows.length c0,.slice A1 data.length c1,.int .i64 size] w fun e w'=>e=.returned (.bool (ni rows data size))∧Below w.heap.size w w':=by
 have HR:=ah.mk hr;have HD:=ah.mk hd
 cases hn:rows.length with
 | zero=>
  have he:rows=[]:=List.length_eq_zero_iff.1 hn
  have HN:ah (ni rows data size=true):=⟨by rw[he];rfl⟩
  clear hr hd hn he hb ht
  go_enter Tryz.func134,Tryz.ntmps134
  go_wp2_with fail
  go_ret
  exact⟨by rw[HN.out];rfl,Below.refl _ _⟩
 | succ n=>
  obtain⟨ad,hA,r0,r1⟩:=FZ hr n aj;have htl:=zN hn size
  obtain⟨r,hrr⟩:∃r,rows[n]'aj=r:=⟨_,rfl⟩
  have hrb:=hb (rows[n]'aj) (List.getElem_mem _);rw[hrr] at r0 r1 htl hrb;subst hA;have hz:((n:Int)+1 == 0)=false:=beq_eq_false_iff_ne.2 aj;have HN:=ah.mk hn
  have hnl:n+1≤140737488351232:=by omega
  by_cases c:r.f1*512≤size
  ·have HQ:ah (ni rows data size=true):=⟨by unfold ni;rw[if_pos aj]⟩
   clear hr hd hb ht htl hrr hn
   go_enter Tryz.func134,Tryz.ntmps134
   go_wp2_with fail
   go_ret
   exact⟨by rw[HQ.out];rfl,Below.refl _ _⟩
  obtain⟨tl,al3⟩:∃tl:Nat,r.f1*512 - size=tl:=⟨(r.f1*512 - size).toNat,by omega⟩
  rw[htl] at ht
  have hq:ni rows data size=(data.drop (data.length - tl)).all fun n=>decide (n=0):=by
   unfold ni;rw[if_neg aj,htl,al3,Int.toNat_natCast]
  obtain⟨i0,hi0,_,hz1,_⟩:=info_parts info5
  have htd:tl≤data.length:=by omega
  have hsl:=@FP Tryz.prog 27 5 .i64 i0 Tryz.underlying27 hi0 1 hz1 A1 data.length c1 ((data.length:Int) - tl) aj aj;have hcd:=Kd.OX (m:=data.length - tl) (c:=c1) hd aj hc1;rw[show ((data.length:Int) - tl).toNat=data.length - tl by omega] at hsl;rw[show (Kd.int .u8).sz=1 from rfl] at hcd
  obtain⟨a3,Sl⟩:∃a3,(if c1=data.length - tl then A1 else A1.map (·.add ((data.length - tl)*1)))=a3:=⟨_,rfl⟩
  obtain⟨c3,hc3⟩:∃c3,c1 - (data.length - tl)=c3:=⟨_,rfl⟩
  rw[Sl] at hsl hcd;rw[hc3] at hsl
  obtain⟨d,hdd⟩:∃d,data.drop (data.length - tl)=d:=⟨_,rfl⟩
  have hdl:d.length=tl:=by rw[← hdd,List.length_drop];omega
  rw[hdd] at hcd hq;rw[show data.length - (data.length - tl)=d.length by omega] at hsl;have HQ:=ah.mk hq;have UG:=ah.mk hcd
  have hsub:IntKind.i64.wrap ((data.length:Int) - (r.f1*512 - size))=(data.length:Int) - tl:=by rw[IntKind.wrap_i64];omega
  clear hr hd hb ht htl hrr hn hq hcd Sl hc3 hdd
  go_enter Tryz.func134,Tryz.ntmps134
  go_wp2_with fail
  have HB0:=ah.mk (Below.refl w.heap.size w)
  go_loopg [42] d.length (fun g s42 wx=>∃i:Nat,i+g=d.length∧s42=.int .i64 i∧ah (Below w.heap.size w wx)∧ah ((d.take i).all (fun n=>decide (n=0))=true))
  case atStart=>exact⟨0,by omega,rfl,HB0,⟨by simp⟩⟩
  case round=>
   obtain⟨i,hig,rfl,HB,HT⟩:=hrel;clear HB0;by_cases hi:i<d.length
   ·obtain⟨ad3,hA3,r3⟩:=Kd.gZ (Kd.aC UG.out HB.out) (i:Int) aj aj;rw[Int.toNat_natCast,MB d i hi] at r3;subst hA3
    obtain⟨v,hv⟩:∃v,d[i]=v:=⟨_,rfl⟩
    rw[hv] at r3;have HV:=ah.mk hv;clear hv;by_cases hx:v=0
    ·have hxb:(v != 0)=false:=by rw[hx];rfl
     have HX:=ah.mk hx;clear hx
     go_wp2_with fail
     go_roundg (d.length - (i+1))
     case measure=>omega
     case rel=>exact⟨i+1,by omega,by first|rfl|simp,HB,⟨by rw[List.take_succ_eq_append_getElem hi,List.all_append,HT.out,HV.out,HX.out];rfl⟩⟩
    have hxb:(v != 0)=true:=bne_iff_ne.2 hx;have HX:=ah.mk hx;clear hx
    have HF:ah (ni rows data size=false):=⟨by
     rw[HQ.out]
     refine List.all_eq_false.2 ⟨v,by rw[← HV.out];exact List.getElem_mem hi,by simpa using HX.out⟩⟩
    go_wp2_with fail
    go_ret
    exact⟨by rw[HF.out];rfl,HB.out⟩
   have HF:ah (ni rows data size=true):=⟨by
    have h:=HT.out;rw[List.take_of_length_le aj] at h;rw[HQ.out]
    exact h⟩
   go_wp2_with fail
   go_ret
   exact⟨by rw[HF.out];rfl,HB.out⟩
theorem zO (A0:Option Addr) (c0:Nat) (rows:List Ru) (A1:Option Addr) (c1:Nat) (o:List Ru) (w:World) (hr:Kd.C dw w A0 rows.length rows) (hc:rows.length≤c0) (hl:rows.length≤140737488351232)
  (ho:Kd.C dw w A1 o.length o) (hc1:o.length≤c1) (hl1:o.length≤140737488351232) :
  Calls Tryz.prog 137 #[.slice A0 rows.length c0,.slice A1 o.length c1] w fun e w'=>e=.returned (.bool (dO rows o))∧Below w.heap.size w w':=by
 have HR:=ah.mk hr;have HO:=ah.mk ho;clear hr ho
 go_enter Tryz.func137,Tryz.ntmps137
 go_wp2_with fail
 have HB0:=ah.mk (Below.refl w.heap.size w)
 go_loopg [5,10] rows.length (fun g s5 s10 wx=>∃i j:Nat,i+g=rows.length∧j≤o.length∧s10=.int .i64 i∧s5=.int .i64 j∧ah (dO (rows.drop i) (o.drop j)=dO rows o)∧ah (Below w.heap.size w wx))
 case atStart=>exact⟨0,0,by omega,by omega,rfl,rfl,⟨by rw[List.drop_zero,List.drop_zero]⟩,HB0⟩
 case round=>
  obtain⟨i,j,hig,hj,rfl,rfl,HG,HB⟩:=hrel;clear HB0;by_cases hi:i<rows.length
  ·obtain⟨ad,hA,r0,r1⟩:=FZ (Kd.aC HR.out HB.out) i hi;subst hA;have hg:=HG.out;rw[List.drop_eq_getElem_cons hi] at hg
   obtain⟨r,hr⟩:∃r,rows[i]=r:=⟨_,rfl⟩
   rw[hr] at hg r0 r1;have IG:=ah.mk hg;clear hg hr HG
   go_wp2_with fail
   obtain⟨wo,rfl⟩:∃wo,wo=wr:=⟨_,rfl⟩
   obtain⟨go,rfl⟩:∃go,go=gk:=⟨_,rfl⟩
   have hal:=(Below.refl wo.heap.size wo).alloc (Nat.le_refl _) (.cells #[.int .i64 r.f0,.int .i64 r.f1] 117);have HBK:=ah.mk (bF wo (.cells #[.int .i64 r.f0,.int .i64 r.f1] 117));have HB1:=ah.mk (HB.out.trans (hal.mono HB.out.size));clear hal r0 r1
   go_loopg [5] (o.length - j) (fun g s5 wx=>∃j2:Nat,j2+g=o.length∧s5=.int .i64 j2∧ah ((o.drop j).dropWhile (fun q=>decide (q.f1<r.f1))=(o.drop j2).dropWhile (fun q=>decide (q.f1<r.f1)))∧ah (Below w.heap.size w wx)∧ah (wx.heap[wo.heap.size]?=some (.cells #[.int .i64 r.f0,.int .i64 r.f1] 117 (0,0))))
   case atStart=>exact⟨j,by omega,rfl,⟨rfl⟩,HB1,HBK⟩
   case round=>
    obtain⟨j2,hjg,rfl,HD,HB2,jG⟩:=hrel;clear HB1 HBK;have z0:wr.cell? ⟨wo.heap.size,0,none⟩=some (.int .i64 r.f0):=ak jG.out 0;have z1:wr.cell? ⟨wo.heap.size,1,none⟩=some (.int .i64 r.f1):=ak jG.out 1;by_cases hj2:j2<o.length
    ·obtain⟨EC,hA2,q0,q1⟩:=FZ (Kd.aC HO.out HB2.out) j2 hj2;subst hA2;have hd:=HD.out;rw[List.drop_eq_getElem_cons hj2] at hd
     obtain⟨q,hq⟩:∃q,o[j2]=q:=⟨_,rfl⟩
     rw[hq] at hd q0 q1;have HQ:=ah.mk hq;have d1:decide ((j2:Int)<(o.length:Int))=true:=decide_eq_true aj;have d2:decide (j2<o.length)=true:=decide_eq_true hj2;have d3:((j2:Int) == (o.length:Int))=false:=beq_eq_false_iff_ne.2 aj;have d4:(j2 == o.length)=false:=beq_eq_false_iff_ne.2 aj;by_cases hlt:q.f1<r.f1
     ·have e1:decide (q.f1<r.f1)=true:=decide_eq_true hlt;have HD2:=ah.mk (show (o.drop j).dropWhile (fun q=>decide (q.f1<r.f1))=(o.drop (j2+1)).dropWhile (fun q=>decide (q.f1<r.f1)) by rw[hd,List.dropWhile_cons_of_pos (by simpa using hlt)]);clear hd hq
      go_wp2_with fail
      go_quiet (fail)
      go_wp2_with fail
      go_roundg (o.length - (j2+1))
      case measure=>omega
      case rel=>exact⟨j2+1,by omega,by first|rfl|simp,HD2,⟨(by repeat (first|exact HB2.out|apply av|apply bf))⟩,⟨jG.out⟩⟩
     have e1:decide (q.f1<r.f1)=false:=decide_eq_false hlt;have HD2:=ah.mk (show (o.drop j).dropWhile (fun q=>decide (q.f1<r.f1))=q::o.drop (j2+1) by rw[hd,List.dropWhile_cons_of_neg (by simpa using hlt)]);have HDJ:=ah.mk (show o.drop j2=q::o.drop (j2+1) by rw[List.drop_eq_getElem_cons hj2,hq]);clear hd hq;by_cases hf:r.f0<q.f0
     ·have e2:decide (r.f0<q.f0)=true:=decide_eq_true hf
      have HF:ah (dO rows o=false):=⟨by rw[← IG.out,dO,HD2.out];dsimp only;rw[if_pos hf]⟩
      go_wp2_with fail
      go_quiet (fail)
      go_wp2_with fail
      go_quiet (fail)
      go_wp2_with fail
      go_ret
      exact⟨by rw[HF.out];rfl,(by repeat (first|exact HB2.out|apply av|apply bf))⟩
     have e2:decide (r.f0<q.f0)=false:=decide_eq_false hf
     have HF:ah (dO (rows.drop (i+1)) (o.drop j2)=dO rows o):=⟨by rw[← IG.out,dO,HD2.out];dsimp only;rw[if_neg hf,HDJ.out]⟩
     go_wp2_with fail
     go_quiet (fail)
     go_wp2_with fail
     go_quiet (fail)
     go_wp2_with fail
     go_roundg (rows.length - (i+1))
     case measure=>omega
     case rel=>exact⟨i+1,j2,by omega,by omega,by first|rfl|simp,rfl,HF,⟨(by repeat (first|exact HB2.out|apply av|apply bf))⟩⟩
    obtain rfl:j2=o.length:=by omega
    have d1:decide ((o.length:Int)<(o.length:Int))=false:=decide_eq_false aj
    have HF:ah (dO rows o=false):=⟨by rw[← IG.out,dO,HD.out,List.drop_length];rfl⟩
    go_wp2_with fail
    go_quiet (fail)
    go_wp2_with fail
    go_quiet (fail)
    go_wp2_with fail
    go_ret
    exact⟨by rw[HF.out];rfl,(by repeat (first|exact HB2.out|apply av|apply bf))⟩
  have HF:ah (dO rows o=true):=⟨by rw[← HG.out,List.drop_of_length_le aj];rfl⟩
  go_wp2_with fail
  go_ret
  exact⟨by rw[HF.out];rfl,HB.out⟩
theorem AX {s:ByteArray} (h:s.size=0):s.toList.isEmpty=true:=by
 rw[Lib.toList_data,show s.data.toList=[] from List.eq_nil_of_length_eq_zero (by rw[gI];exact h)];rfl
theorem F3 {s:ByteArray} (h:s.size≠0):s.toList.isEmpty=false:=by
 cases hc:s.toList with
 | nil=>rw[Lib.toList_data] at hc;have:=gI s;rw[hc] at this;exact absurd this.symm h
 | cons _ _=>rfl
theorem MJ {most:Int}:∀(l:List Ru) (last all n:Int),dL most last all l=some n→-1≤last→(l≠[]→last<most) →
  all≤n∧(l≠[]→all+1≤n)∧(l≠[]→n≤all+most - last)∧∀r∈l,last<r.f0∧0≤r.f1∧r.f1≤most
 | [],last,all,n,h,h1,_=>by
  rw[dL] at h;cases h;exact⟨Int.le_refl _,fun h=>absurd rfl h,fun h=>absurd rfl h,fun r hr=>by cases hr⟩
 | r::l,last,all,n,h,h1,hlm=>by
  rw[dL] at h;split at h
  ·cases h
  rename_i hc
  have hl2:l≠[]→r.f1<most:=fun hl=>by
   cases l with
   | nil=>exact absurd rfl hl
   | cons q l'=>
    rw[dL] at h;split at h
    ·cases h
    omega
  obtain⟨i1,i2,i3,i4⟩:=MJ l r.f1 _ n h aj hl2;refine⟨by omega,fun _=>by omega,fun _=>?_,fun q hq=>?_⟩
  ·cases l with
   | nil=>rw[dL] at h;cases h;omega
   | cons q l'=>have:=i3 bB;omega
  rcases List.mem_cons.1 hq with rfl|hq
  ·omega
  have:=i4 q hq;omega
theorem uz {l:List Ru} {most n:Int} (h:iw l most=some n) (hm:0≤most):0≤n∧(l≠[]→1≤n)∧(l≠[]→n≤most+1)∧∀r∈l,0≤r.f0∧0≤r.f1∧r.f1≤most:=by
 have h':=MJ l (-1) 0 n h aj (fun _=>by omega);refine⟨h'.1,fun hl=>by have:=h'.2.1 hl;omega,fun hl=>by have:=h'.2.2.1 hl;omega,fun r hr=>by have:=h'.2.2.2 r hr;omega⟩
theorem xk {x:It} {n:Int} (h:jk x=some n):0≤x.f3∧x.f3≤8459264∧iw x.f4 ((x.f3+511) / 512)=some n:=by
 unfold jk at h;split at h
 ·cases h
 exact⟨by omega,by omega,h⟩
theorem O8 {x:It} {n:Int} (h:jk x=some n) (hd:(x.f5.length:Int)=n*512) :
  (∀r∈x.f4,0≤r.f1∧r.f1≤1048576)∧0≤x.f3∧x.f3≤1099511627776∧Ea x.f4 x.f3≤x.f5.length:=by
 obtain⟨h0,h1,h2⟩:=xk h;obtain⟨a1,a2,a3,a4⟩:=uz h2 aj;refine⟨fun r hr=>by have:=a4 r hr;omega,h0,by omega,?_⟩
 cases hn:x.f4.length with
 | zero=>
  rw[List.length_eq_zero_iff.1 hn]
  show (0:Int)≤_
  omega
 | succ k=>
  rw[zN hn];have h3:=a4 (x.f4[k]'aj) (List.getElem_mem _);have h4:=a2 (fun e=>by rw[e] at hn;cases hn);omega
theorem AY {x:It} {n:Int} (h:jk x=some n):0≤n∧n≤20000:=by
 obtain⟨h0,h1,h2⟩:=xk h;obtain⟨a1,a2,a3,a4⟩:=uz h2 aj
 by_cases hl:x.f4=[]
 ·rw[hl] at h2
  have:n=0:=by
   have h3:(some (0:Int))=some n:=h2;cases h3;rfl
  omega
 have:=a3 hl;omega
theorem qJ {s:ByteArray} (h:eu s=true):s.size≤1023:=by
 unfold eu at h;exact of_decide_eq_true (Bool.and_eq_true_iff.1 h).1
theorem pu1 {x:It} (h:x.f0=1):fV x=(match jk x with
  | none=>false
  | some all=>decide (x.f2.size=0) && (decide ((x.f5.length:Int)=all*512) && ni x.f4 x.f5 x.f3)):=by
 unfold fV;rw[if_pos h]
 cases jk x <;> rfl
theorem pu2 {x:It} (h1:¬x.f0=1) (h:x.f0=2):fV x=(iy x && decide (x.f2.size=0)):=by
 unfold fV;rw[if_neg h1,if_pos h]
theorem pu3 {x:It} (h1:¬x.f0=1) (h2:¬x.f0=2) (h:x.f0=3):fV x=(iy x && (decide (x.f2.size≠0) && (decide (x.f2.size≤255) && decide (Lib.indexByte (bs x.f2) 0<0)))):=by
 unfold fV;rw[if_neg h1,if_neg h2,if_pos h]
theorem pu4 {x:It} (h1:¬x.f0=1) (h2:¬x.f0=2) (h3:¬x.f0=3) (h:x.f0=4):fV x=(iy x && (eu x.f2 && O9 (mK x.f2) (mK x.f1))):=by
 unfold fV;rw[if_neg h1,if_neg h2,if_neg h3,if_pos h]
theorem pu5 {x:It} (h1:¬x.f0=1) (h2:¬x.f0=2) (h3:¬x.f0=3) (h:¬x.f0=4):fV x=false:=by
 unfold fV;rw[if_neg h1,if_neg h2,if_neg h3,if_neg h]
theorem Ww (x:It) (A4:Option Addr) (c4:Nat) (A5:Option Addr) (c5:Nat) (w:World) (h4:Kd.C dw w A4 x.f4.length x.f4) (l4:x.f4.length≤c4) (h5:Kd.C (Kd.int .u8) w A5 x.f5.length x.f5) (l5:x.f5.length≤c5)
  (hf:Fit x) (hl4:x.f4.length≤140737488351232) (hl5:x.f5.length≤140737488351232) (hs1:x.f1.size<4294967281) :
  Calls Tryz.prog 101 #[.agg #[.int .i64 x.f0,.string x.f1,.string x.f2,.int .i64 x.f3,.slice A4 x.f4.length c4,.slice A5 x.f5.length c5]] w fun e w'=>e=.returned (.bool (fV x))∧Below w.heap.size w w':=by
 obtain⟨X,hX⟩:∃X,#[Value.int .i64 x.f0,.string x.f1,.string x.f2,.int .i64 x.f3,.slice A4 x.f4.length c4,.slice A5 x.f5.length c5]=X:=⟨_,rfl⟩
 obtain⟨W1,hW1⟩:∃W1,w.alloc (.cells X 29)=W1:=⟨_,rfl⟩
 have hbx:=bF w (.cells X 29);have hb0:=(Below.refl w.heap.size w).alloc (Nat.le_refl _) (.cells X 29);rw[hW1] at hbx hb0
 have x0:W1.cell? ⟨w.heap.size,0,none⟩=some (.int .i64 x.f0):=by rw[ak hbx,← hX];rfl
 have x1:W1.cell? ⟨w.heap.size,1,none⟩=some (.string x.f1):=by rw[ak hbx,← hX];rfl
 have x2:W1.cell? ⟨w.heap.size,2,none⟩=some (.string x.f2):=by rw[ak hbx,← hX];rfl
 have x3:W1.cell? ⟨w.heap.size,3,none⟩=some (.int .i64 x.f3):=by rw[ak hbx,← hX];rfl
 have x4:W1.cell? ⟨w.heap.size,4,none⟩=some (.slice A4 x.f4.length c4):=by rw[ak hbx,← hX];rfl
 have x5:W1.cell? ⟨w.heap.size,5,none⟩=some (.slice A5 x.f5.length c5):=by rw[ak hbx,← hX];rfl
 have hlt:=bG hbx;have HB:=ah.mk hb0;have zh:=ah.mk hbx;have HR4:=ah.mk (Kd.aC h4 hb0);have nE:=ah.mk (Kd.aC h5 hb0);have ZC:=ah.mk hf;have HX:=ah.mk hX
 have hX6:X.size=6:=by rw[← hX];rfl
 have H6:=ah.mk hX6;rw[hX];clear hb0 hbx h4 h5 hf hX hX6
 go_enter Tryz.func101,Tryz.ntmps101
 go_upto_region 1 with (fail)
 clear hW1
 go_cut [3] (fun v3 wd=>v3=.bool (iy x)∧ah (wd=W1))
 case first=>
  by_cases b3:x.f3=0
  ·have b3b:(x.f3 == 0)=true:=beq_iff_eq.2 b3;have H3:=ah.mk b3;clear b3;by_cases b4:x.f4.length=0
   ·have b4b:((x.f4.length:Int) == 0)=true:=beq_iff_eq.2 aj;have H4:=ah.mk b4;clear b4;by_cases b5:x.f5.length=0
    ·have b5b:((x.f5.length:Int) == 0)=true:=beq_iff_eq.2 aj;have H5:=ah.mk b5;clear b5
     go_wp2_with fail
     go_meet
     case rel=>exact⟨by unfold iy;rw[decide_eq_true H3.out,decide_eq_true H4.out,decide_eq_true H5.out];rfl,⟨rfl⟩⟩
    have b5b:((x.f5.length:Int) == 0)=false:=beq_eq_false_iff_ne.2 aj;have H5:=ah.mk b5;clear b5
    go_wp2_with fail
    go_meet
    case rel=>exact⟨by unfold iy;rw[decide_eq_true H3.out,decide_eq_true H4.out,decide_eq_false H5.out];rfl,⟨rfl⟩⟩
   have b4b:((x.f4.length:Int) == 0)=false:=beq_eq_false_iff_ne.2 aj;have H4:=ah.mk b4;clear b4
   go_wp2_with fail
   go_meet
   case rel=>exact⟨by unfold iy;rw[decide_eq_true H3.out,decide_eq_false H4.out];rfl,⟨rfl⟩⟩
  have b3b:(x.f3 == 0)=false:=beq_eq_false_iff_ne.2 b3;have H3:=ah.mk b3;clear b3
  go_wp2_with fail
  go_meet
  case rel=>exact⟨by unfold iy;rw[decide_eq_false H3.out];rfl,⟨rfl⟩⟩
 case rest=>
  obtain⟨rfl,Pb⟩:=hcut;have hwb:=Pb.out;subst hwb;clear Pb
  obtain⟨bb,hbb⟩:∃bb,iy x=bb:=⟨_,rfl⟩
  rw[hbb];have AQ:=ah.mk hbb;clear hbb;by_cases k1:x.f0=1
  ·have t1:(x.f0 == 1)=true:=beq_iff_eq.2 k1;have jH:=ah.mk k1;have Mg:=ah.mk (pu1 k1);clear k1
   cases hsz:jk x with
   | none=>
    have HE:=ah.mk (show fV x=false by rw[Mg.out,hsz]);have c:=Dc x A4 c4 (.slice A5 x.f5.length c5) wc HR4.out l4 hl4;rw[hsz,HX.out] at c;simp only[Option.getD_none,Option.isSome_none,Option.getD_some,Option.isSome_some] at c;have C:=ah.mk c;clear c hsz
    go_upto_region 5 with (first|(refine eX (.load 29 (.tmp 1)) rfl ?_;refine wpList_load_row rfl _ _ rfl w.heap.size rfl 29 X (0,0) _ zh.out Tryz.underlying29 rfl (by rw[H6.out];kernel_rfl) ?_)|(go_at_call 133;refine C.out.mono ?_;rintro e w2 ⟨rfl,hb2⟩;have HB2:=ah.mk (HB.out.trans (hb2.mono HB.out.size));have y2:=au hb2 x2;have y3:=au hb2 x3;have y4:=au hb2 x4;have y5:=au hb2 x5;have hlt:=Nat.lt_of_lt_of_le hlt hb2.size;have HR4:=ah.mk (Kd.aC HR4.out hb2);have nE:=ah.mk (Kd.aC nE.out hb2);clear hb2))
    go_wp2_with fail
    go_ret
    exact⟨by rw[HE.out];rfl,HB2.out⟩
   | some all=>
    have c:=Dc x A4 c4 (.slice A5 x.f5.length c5) wc HR4.out l4 hl4;rw[hsz,HX.out] at c;simp only[Option.getD_none,Option.isSome_none,Option.getD_some,Option.isSome_some] at c;have C:=ah.mk c;have hall:=AY hsz;have OD:=ah.mk hsz;clear c hsz;by_cases z2:x.f2.size=0
    ·have e2:=AX z2;have HZ:=ah.mk z2;clear z2;by_cases hd:(x.f5.length:Int)=all*512
     ·have hdb:((x.f5.length:Int) == all*512)=true:=beq_iff_eq.2 hd;have OE:=ah.mk (O8 OD.out hd);have HE:=ah.mk (show fV x=ni x.f4 x.f5 x.f3 by rw[Mg.out,OD.out];dsimp only;rw[decide_eq_true HZ.out,decide_eq_true hd];rfl);have HD:=ah.mk hd;clear hd
      go_upto_region 5 with (first|(refine eX (.load 29 (.tmp 1)) rfl ?_;refine wpList_load_row rfl _ _ rfl w.heap.size rfl 29 X (0,0) _ zh.out Tryz.underlying29 rfl (by rw[H6.out];kernel_rfl) ?_)|(go_at_call 133;refine C.out.mono ?_;rintro e w2 ⟨rfl,hb2⟩;have HB2:=ah.mk (HB.out.trans (hb2.mono HB.out.size));have y2:=au hb2 x2;have y3:=au hb2 x3;have y4:=au hb2 x4;have y5:=au hb2 x5;have hlt:=Nat.lt_of_lt_of_le hlt hb2.size;have HR4:=ah.mk (Kd.aC HR4.out hb2);have nE:=ah.mk (Kd.aC nE.out hb2);clear hb2))
      go_wp2_with (go_at_call 134;refine (Jo A4 c4 x.f4 A5 c5 x.f5 x.f3 _ HR4.out l4 hl4 nE.out l5 hl5 OE.out.1 OE.out.2.1 OE.out.2.2.1 OE.out.2.2.2).mono ?_;rintro e w3 ⟨rfl,hb3⟩;have HB3:=ah.mk (HB2.out.trans (hb3.mono HB2.out.size));clear hb3)
      go_ret
      exact⟨by rw[HE.out];rfl,HB3.out⟩
     have hdb:((x.f5.length:Int) == all*512)=false:=beq_eq_false_iff_ne.2 hd;have HE:=ah.mk (show fV x=false by rw[Mg.out,OD.out];dsimp only;rw[decide_eq_false hd];simp);have HD:=ah.mk hd;clear hd
     go_upto_region 5 with (first|(refine eX (.load 29 (.tmp 1)) rfl ?_;refine wpList_load_row rfl _ _ rfl w.heap.size rfl 29 X (0,0) _ zh.out Tryz.underlying29 rfl (by rw[H6.out];kernel_rfl) ?_)|(go_at_call 133;refine C.out.mono ?_;rintro e w2 ⟨rfl,hb2⟩;have HB2:=ah.mk (HB.out.trans (hb2.mono HB.out.size));have y2:=au hb2 x2;have y3:=au hb2 x3;have y4:=au hb2 x4;have y5:=au hb2 x5;have hlt:=Nat.lt_of_lt_of_le hlt hb2.size;have HR4:=ah.mk (Kd.aC HR4.out hb2);have nE:=ah.mk (Kd.aC nE.out hb2);clear hb2))
     go_wp2_with fail
     go_ret
     exact⟨by rw[HE.out];rfl,HB2.out⟩
    have e2:=F3 z2;have HE:=ah.mk (show fV x=false by rw[Mg.out,OD.out];dsimp only;rw[decide_eq_false z2];rfl);clear z2
    go_upto_region 5 with (first|(refine eX (.load 29 (.tmp 1)) rfl ?_;refine wpList_load_row rfl _ _ rfl w.heap.size rfl 29 X (0,0) _ zh.out Tryz.underlying29 rfl (by rw[H6.out];kernel_rfl) ?_)|(go_at_call 133;refine C.out.mono ?_;rintro e w2 ⟨rfl,hb2⟩;have HB2:=ah.mk (HB.out.trans (hb2.mono HB.out.size));have y2:=au hb2 x2;have y3:=au hb2 x3;have y4:=au hb2 x4;have y5:=au hb2 x5;have hlt:=Nat.lt_of_lt_of_le hlt hb2.size;have HR4:=ah.mk (Kd.aC HR4.out hb2);have nE:=ah.mk (Kd.aC nE.out hb2);clear hb2))
    go_wp2_with fail
    go_ret
    exact⟨by rw[HE.out];rfl,HB2.out⟩
  have t1:(x.f0 == 1)=false:=beq_eq_false_iff_ne.2 k1;have EB:=ah.mk k1;clear k1;by_cases k2:x.f0=2
  ·have t2:(x.f0 == 2)=true:=beq_iff_eq.2 k2;have HE2:=ah.mk (pu2 EB.out k2);clear k2
   cases bb with
   | false=>
    have HE:=ah.mk (show fV x=false by rw[HE2.out,AQ.out];rfl)
    go_wp2_with fail
    go_ret
    exact⟨by rw[HE.out];rfl,HB.out⟩
   | true=>
    by_cases hs:x.f2.size=0
    ·have h2:=AX hs;have HE:=ah.mk (show fV x=true by rw[HE2.out,AQ.out,decide_eq_true hs];rfl);clear hs
     go_wp2_with fail
     go_ret
     exact⟨by rw[HE.out];rfl,HB.out⟩
    have h2:=F3 hs;have HE:=ah.mk (show fV x=false by rw[HE2.out,AQ.out,decide_eq_false hs];rfl);clear hs
    go_wp2_with fail
    go_ret
    exact⟨by rw[HE.out];rfl,HB.out⟩
  have t2:(x.f0 == 2)=false:=beq_eq_false_iff_ne.2 k2;have FT:=ah.mk k2;clear k2;by_cases k3:x.f0=3
  ·have t3:(x.f0 == 3)=true:=beq_iff_eq.2 k3;have HE2:=ah.mk (pu3 EB.out FT.out k3);clear k3
   cases bb with
   | false=>
    have HE:=ah.mk (show fV x=false by rw[HE2.out,AQ.out];rfl)
    go_wp2_with fail
    go_ret
    exact⟨by rw[HE.out];rfl,HB.out⟩
   | true=>
    by_cases hs:x.f2.size=0
    ·have h2:=AX hs;have HE:=ah.mk (show fV x=false by rw[HE2.out,AQ.out,decide_eq_false (fun h=>h hs)];rfl);clear hs
     go_wp2_with fail
     go_ret
     exact⟨by rw[HE.out];rfl,HB.out⟩
    have h2:=F3 hs;have HS:=ah.mk hs;clear hs;by_cases Wx:x.f2.size≤255
    ·have Wy:decide ((x.f2.size:Int)≤255)=true:=decide_eq_true aj;have ZE:=ah.mk Wx
     obtain⟨ib,hib⟩:∃r,decide (0≤Lib.indexByte (bs x.f2) 0)=r:=⟨_,rfl⟩
     have hcl:∀W:World,Calls Tryz.prog 135 #[.string x.f2,.string ⟨#[0]⟩] W fun e w'=>e=.returned (.bool ib)∧w'=W:=fun W=>by
      have c:=Tryz.strings_Contains_one x.f2 0 W;rw[show decide (0≤Lib.indexByte x.f2.data.toList 0)=ib from hib] at c;exact c
     have HE:=ah.mk (show fV x = !ib by
      rw[HE2.out,AQ.out,decide_eq_true HS.out,decide_eq_true ZE.out,← hib];by_cases hh:Lib.indexByte (bs x.f2) 0<0
      ·rw[decide_eq_true hh,decide_eq_false aj];rfl
      rw[decide_eq_false hh,decide_eq_true aj];rfl)
     have OG:=ah.mk hcl;clear hib hcl
     go_wp2_with (go_at_call 135;refine (OG.out _).mono ?_;rintro e w' ⟨rfl,rfl⟩)
     go_ret
     exact⟨by rw[HE.out];rfl,HB.out⟩
    have Wy:decide ((x.f2.size:Int)≤255)=false:=decide_eq_false aj;have HE:=ah.mk (show fV x=false by rw[HE2.out,AQ.out,decide_eq_true HS.out,decide_eq_false Wx];rfl)
    go_wp2_with fail
    go_ret
    exact⟨by rw[HE.out];rfl,HB.out⟩
  have t3:(x.f0 == 3)=false:=beq_eq_false_iff_ne.2 k3;have HN3:=ah.mk k3;clear k3;by_cases k4:x.f0=4
  ·have t4:(x.f0 == 4)=true:=beq_iff_eq.2 k4;have HE2:=ah.mk (pu4 EB.out FT.out HN3.out k4);clear k4
   go_wp2_with fail
   cases bb with
   | false=>
    have HE:=ah.mk (show fV x=false by rw[HE2.out,AQ.out];rfl);have hdr:=bf (Below.refl wc.heap.size wc)
    have hS:(fun w'=>w'.cell? ⟨w.heap.size,1,none⟩=some (.string x.f1)∧w'.cell? ⟨w.heap.size,2,none⟩=some (.string x.f2)∧ah (Below w.heap.size w w')) wc.drew:=⟨au hdr x1,au hdr x2,⟨HB.out.trans (hdr.mono HB.out.size)⟩⟩
    clear hdr x0 x1 x2 x3 x4 x5 hlt;refine jJ (n:=16) (S:=(fun w'=>w'.cell? ⟨w.heap.size,1,none⟩=some (.string x.f1)∧w'.cell? ⟨w.heap.size,2,none⟩=some (.string x.f2)∧ah (Below w.heap.size w w'))) (ds:=[]) (aM 16 0) aD rfl rfl hS (fun hHeld=>?_);clear hS;refine bA 0 83 (aM 16 1) ?_;refine bA 1 84 (aM 16 3) ?_;refine fD 2 85 (aM 16 7) ?_;refine fD 3 86 (aM 16 15) ?_;refine fD 4 87 (aM 16 31) ?_;refine bA 5 88 (aM 16 63) ?_;refine bA 6 89 (aM 16 127) ?_;refine fD 7 90 (aM 16 255) ?_;refine fD 8 91 (aM 16 511) ?_;refine fD 9 92 (aM 16 1023) ?_;refine fD 10 93 (aM 16 2047) ?_;refine fD 11 94 (aM 16 4095) ?_;refine fD 12 95 (aM 16 8191) ?_;refine fD 13 96 (aM 16 16383) ?_;refine bA 14 97 (aM 16 32767) ?_;refine bA 15 2 (aM 16 65535) ?_;refine jK aD ?_;have HB3:=hHeld.2.2;clear hHeld
    go_wp2_with fail
    go_ret
    exact⟨by rw[HE.out];rfl,HB3.out⟩
   | true=>
    have hwf:=Nat.le_trans ZC.out.t (by decide:140737488351232≤140737488351232);have hdr:=bf (Below.refl wc.heap.size wc)
    have hS:(fun w'=>w'.cell? ⟨w.heap.size,1,none⟩=some (.string x.f1)∧w'.cell? ⟨w.heap.size,2,none⟩=some (.string x.f2)∧ah (Below w.heap.size w w')) wc.drew:=⟨au hdr x1,au hdr x2,⟨HB.out.trans (hdr.mono HB.out.size)⟩⟩
    clear hdr x0 x1 x2 x3 x4 x5 hlt;refine jJ (n:=16) (S:=(fun w'=>w'.cell? ⟨w.heap.size,1,none⟩=some (.string x.f1)∧w'.cell? ⟨w.heap.size,2,none⟩=some (.string x.f2)∧ah (Below w.heap.size w w'))) (ds:=[]) (aM 16 0) aD rfl rfl hS (fun hHeld=>?_);clear hS;refine bA 0 83 (aM 16 1) ?_;refine bA 1 84 (aM 16 3) ?_;refine bA 2 85 (aM 16 7) ?_;refine gG 3 86 (aM 16 15) rfl hHeld (by rintro w' ⟨s1,s2,s3⟩;go_simp;with_reducible rfl) ?_;refine mD 4 (some 87) (aM 16 31) (fun K hK=>?_);refine mW Tryz.func100 #[.string x.f2] ?_;refine (ql x.f2 _ hwf).mono ?_;rintro e w2 ⟨rfl,hb2⟩;refine⟨_,rfl,?_⟩;refine hK.out _ _ ⟨au hb2 hHeld.1,au hb2 hHeld.2.1,⟨hHeld.2.2.out.trans (hb2.mono hHeld.2.2.out.size)⟩⟩ ?_;clear hb2 hHeld hK K;intro hHeld;refine fH 87 ?_
    cases hwt:eu x.f2 with
    | false=>
     have HE:=ah.mk (show fV x=false by rw[HE2.out,AQ.out,hwt];rfl);clear hwt;refine bA 5 88 (aM 16 63) ?_;refine bA 6 89 (aM 16 127) ?_;refine fD 7 90 (aM 16 255) ?_;refine fD 8 91 (aM 16 511) ?_;refine fD 9 92 (aM 16 1023) ?_;refine fD 10 93 (aM 16 2047) ?_;refine fD 11 94 (aM 16 4095) ?_;refine fD 12 95 (aM 16 8191) ?_;refine fD 13 96 (aM 16 16383) ?_;refine bA 14 97 (aM 16 32767) ?_;refine bA 15 2 (aM 16 65535) ?_;refine jK aD ?_;have HB3:=hHeld.2.2;clear hHeld
     go_wp2_with fail
     go_ret
     exact⟨by rw[HE.out];rfl,HB3.out⟩
    | true=>
     have HE:=ah.mk (show fV x=O9 (mK x.f2) (mK x.f1) by rw[HE2.out,AQ.out,hwt];rfl);have hw1:=qJ hwt;clear hwt;refine bA 5 88 (aM 16 63) ?_;refine bA 6 89 (aM 16 127) ?_;refine bA 7 90 (aM 16 255) ?_;refine gG 8 91 (aM 16 511) rfl hHeld (by rintro w' ⟨s1,s2,s3⟩;go_simp;with_reducible rfl) ?_;refine bA 10 93 (aM 16 1535) ?_;refine gG 11 94 (aM 16 3583) rfl hHeld (by rintro w' ⟨s1,s2,s3⟩;go_simp;with_reducible rfl) ?_;refine mD 9 (some 92) (aM 16 4095) (fun K hK=>?_);refine mW Tryz.func88 #[.string x.f2] ?_;refine (ou x.f2 _ aj).mono ?_;rintro e w2 ⟨rfl,hb2⟩;refine⟨_,rfl,?_⟩;refine hK.out _ _ ⟨au hb2 hHeld.1,au hb2 hHeld.2.1,⟨hHeld.2.2.out.trans (hb2.mono hHeld.2.2.out.size)⟩⟩ ?_;clear hb2 hHeld hK K;intro hHeld;refine fH 92 ?_;refine mD 12 (some 95) (aM 16 8191) (fun K hK=>?_);refine mW Tryz.func88 #[.string x.f1] ?_;refine (ou x.f1 _ hs1).mono ?_;rintro e w2 ⟨rfl,hb2⟩;refine⟨_,rfl,?_⟩;refine hK.out _ _ ⟨au hb2 hHeld.1,au hb2 hHeld.2.1,⟨hHeld.2.2.out.trans (hb2.mono hHeld.2.2.out.size)⟩⟩ ?_;clear hb2 hHeld hK K;intro hHeld;refine fH 95 ?_;refine bA 13 96 (aM 16 16383) ?_;refine bA 14 97 (aM 16 32767) ?_;refine bA 15 2 (aM 16 65535) ?_;refine jK aD ?_;have HB3:=hHeld.2.2;clear hHeld
     go_wp2_with fail
     go_ret
     exact⟨by rw[HE.out];rfl,HB3.out⟩
  have t4:(x.f0 == 4)=false:=beq_eq_false_iff_ne.2 k4;have HE:=ah.mk (pu5 EB.out FT.out HN3.out k4);clear k4
  go_wp2_with fail
  go_ret
  exact⟨by rw[HE.out];rfl,HB.out⟩
end Go.Proofs.YtknihldkhedpkaaGreatDoor
end
