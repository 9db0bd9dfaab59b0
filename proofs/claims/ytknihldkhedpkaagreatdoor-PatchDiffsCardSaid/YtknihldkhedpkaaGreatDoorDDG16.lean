import Derived.Test.YtknihldkhedpkaaGreatDoorDDG15
set_option linter.all false
set_option maxHeartbeats 16000000
set_option maxRecDepth 100000
section
namespace Go.Proofs.YtknihldkhedpkaaGreatDoor
open Go.RowKit Go.Lib
open Go.Proofs.YtknihldkhedpkaaGreatDoorW.PrintWords Go.Proofs.YtknihldkhedpkaaGreatDoorW.PrintLast Go.Proofs.YtknihldkhedpkaaGreatDoor.PT
theorem BG:∀(k:Nat) (s:List UInt8),Lib.count s [47]≤k→∀a∈Lib.splitK [47] 0 k s,∀c∈a,c≠47
 | k,s,hk,a,ha,c,hc=>by
  have none:Lib.index s [47] = -1→∀c∈s,c≠47:=fun h c hc e=>by
   rw[Lib.index_one] at h;obtain⟨j,hj,hj2⟩:=List.mem_iff_getElem.1 hc;exact Lib.indexByte_none h j (by rw[List.getElem?_eq_getElem hj,hj2,e])
  have hge:=Lib.index_ge s [47];by_cases h:Lib.index s [47] = -1
  ·have e:Lib.splitK [47] 0 k s=[s]:=by
    cases k with
    | zero=>rfl
    | succ k=>rw[Lib.splitK,if_pos (beq_iff_eq.2 h)]
   rw[e,List.mem_singleton] at ha;subst ha;exact none h c hc
  obtain⟨o,ho⟩:∃o:Nat,Lib.index s [47]=o:=⟨(Lib.index s [47]).toNat,by omega⟩
  have hh:=Lib.count_hit (s:=s) (sub:=[47]) bB ho
  cases k with
  | zero=>omega
  | succ k=>
   rw[Lib.splitK,if_neg (fun e=>h (beq_iff_eq.1 e)),ho] at ha
   rcases List.mem_cons.1 ha with rfl|ha
   ·intro e;rw[Lib.index_one] at ho;have h2:=(Lib.indexByte_some ho).2;obtain⟨j,hj,hj2⟩:=List.mem_iff_getElem.1 hc;rw[List.length_take] at hj;rw[List.getElem_take] at hj2;exact h2 j (by simp at hj;omega) (by rw[List.getElem?_eq_getElem aj,hj2,e])
   exact BG k _ (by simp at hh ha ⊢;omega) a ha c hc
theorem zV {p:ByteArray}:∀a∈(dP p).map bs,∀c∈a,c≠47:=by
 have h1:(dP p).map bs=Lib.splitK [47] 0 (Lib.countB (p.extract 1 p.size) ⟨#[47]⟩) (p.extract 1 p.size).data.toList:=Lib.splitB_data ⟨#[47]⟩ 0 _ _;rw[h1];exact BG _ _ (Nat.le_refl _)
def JG (l:List UInt8):Prop:=l=[]∨∃r,l=47::r
theorem WZ:∀{a b X Y:List UInt8},(∀c∈a,c≠47)→(∀c∈b,c≠47)→JG X→JG Y→a++X=b++Y→a=b∧X=Y
 | [],[],X,Y,_,_,_,_,h=>⟨rfl,h⟩
 | [],c::b,X,Y,_,hb,hX,_,h=>by
  rcases hX with rfl|⟨r,rfl⟩
  ·cases h
  injection h with h1 _
  exact absurd h1.symm (hb c List.mem_cons_self)
 | c::a,[],X,Y,ha,_,_,hY,h=>by
  rcases hY with rfl|⟨r,rfl⟩
  ·cases h
  injection h with h1 _
  exact absurd h1 (ha c List.mem_cons_self)
 | c::a,d::b,X,Y,ha,hb,hX,hY,h=>by
  injection h with h1 h2
  obtain⟨e1,e2⟩:=WZ (fun x hx=>ha x (List.mem_cons_of_mem _ hx)) (fun x hx=>hb x (List.mem_cons_of_mem _ hx)) hX hY h2;exact⟨by rw[h1,e1],e2⟩
theorem Dy (l:List (List UInt8)):JG (joinL l):=by
 cases l with
 | nil=>exact .inl rfl
 | cons a l=>exact .inr ⟨_,rfl⟩
theorem zW {A:List (List UInt8)} {cur rest:List UInt8} (hA:∀a∈A,∀c∈a,c≠47) (hc:∀c∈cur,c≠47) (hr:JG rest) (h:joinL A=47::(cur++rest)):∃A',A=cur::A'∧joinL A'=rest:=by
 cases A with
 | nil=>cases h
 | cons a A=>
  injection h with _ h
  obtain⟨e1,e2⟩:=WZ (hA a List.mem_cons_self) hc (Dy A) hr h;exact⟨A,by rw[e1],e2⟩
theorem JH:∀{A B:List (List UInt8)},(∀a∈A,∀c∈a,c≠47)→(∀a∈B,∀c∈a,c≠47)→joinL A=joinL B→A=B
 | A,[],_,_,h=>by
  cases A with
  | nil=>rfl
  | cons a A=>cases h
 | A,b::B,hA,hB,h=>by
  obtain⟨A',rfl,h2⟩:=zW hA (hB b List.mem_cons_self) (Dy B) h;rw[JH (fun a ha=>hA a (List.mem_cons_of_mem _ ha)) (fun a ha=>hB a (List.mem_cons_of_mem _ ha)) h2]
theorem JI:∀{D A:List (List UInt8)} {cur rest:List UInt8},(∀a∈A,∀c∈a,c≠47)→(∀a∈D,∀c∈a,c≠47)→(∀c∈cur,c≠47)→JG rest→joinL A=joinL D++47::(cur++rest)→cur∈A
 | [],A,cur,rest,hA,_,hc,hr,h=>by
  obtain⟨A',rfl,_⟩:=zW hA hc hr h;exact List.mem_cons_self
 | d::D,A,cur,rest,hA,hD,hc,hr,h=>by
  obtain⟨A',rfl,h2⟩:=zW (rest:=joinL D++47::(cur++rest)) hA (hD d List.mem_cons_self) (by
   rcases Dy D with e|⟨r,e⟩
   ·rw[e];exact .inr ⟨_,rfl⟩
   rw[e];exact .inr ⟨_,rfl⟩) (by rw[h,joinL];simp)
  exact List.mem_cons_of_mem _ (JI (fun a ha=>hA a (List.mem_cons_of_mem _ ha)) (fun a ha=>hD a (List.mem_cons_of_mem _ ha)) hc hr h2)
theorem vv:∀(D:List (List UInt8)) (a:List UInt8),joinL (D++[a])=joinL D++47::a
 | [],a=>by simp[joinL]
 | d::D,a=>by rw[List.cons_append,joinL,joinL,vv D a];simp
theorem JJ {D:List ByteArray} (h:∀a∈D,fQ a=true):∀a∈D.map bs,∀c∈a,c≠47:=fun a ha c hc=>by
 obtain⟨q,hq,rfl⟩:=List.mem_map.1 ha;exact (zR (h q hq) c hc).1
theorem aac {p:ByteArray} {D:List ByteArray} (h1:p.size≤1023) (h2:fP p=true) (h3:bs p=joinL (D.map bs)) (h4:∀a∈D,fQ a=true):iW p=(D,true):=by
 have e:=JH (zV (p:=p)) (JJ h4) ((qb h2).symm.trans h3);have e2:dP p=D:=(List.map_inj_right (fun a b h=>nY h)).1 e;unfold iW;rw[if_pos ⟨h1,h2,by rw[e2];exact List.all_eq_true.2 h4⟩,e2]
theorem GD {p:ByteArray} (h:1023<p.size∨fP p=false):iW p=([],false):=by
 unfold iW;rw[if_neg];rintro⟨h1,h2,_⟩
 rcases h with h|h
 ·omega
 rw[h] at h2;cases h2
theorem Xa {p q:ByteArray} {D:List ByteArray} {rest:List UInt8} (h2:fP p=true) (h3:bs p=joinL (D.map bs)++47::(bs q++rest)) (h4:∀a∈D,fQ a=true) (h5:∀c∈bs q,c≠47) (hr:JG rest) (hq:fQ q=false):iW p=([],false):=by
 unfold iW;rw[if_neg];rintro⟨_,_,ha⟩;have hm:=JI (zV (p:=p)) (JJ h4) h5 hr ((qb h2).symm.trans h3);obtain⟨q2,hq2,e⟩:=List.mem_map.1 hm;rw[← nY e,List.all_eq_true.1 ha q2 hq2] at hq;cases hq
theorem P5 {p:ByteArray} (h:0<p.size):fP p=decide (((p[0]'h).toNat:Int)=47):=by
 unfold fP;rw[List.head?_eq_getElem?,List.getElem?_eq_getElem (by rw[cZ];exact h),vo p 0 h]
 congr 1
 refine propext ⟨fun e=>by injection e with e;rw[e];rfl,fun e=>?_⟩
 congr 1
 exact UInt8.toNat.inj (by show _=47;omega)
structure PartsAt (p:ByteArray) (D:List ByteArray) (f i:Nat):Prop where
 ok:∀a∈D,fQ a=true
 one:1≤f
 le:f≤i
 top:i≤p.size+1
 lst:i=p.size+1→f=p.size+1
 pre:joinL (D.map bs)=(bs p).take (f - 1)
 sl:f≤p.size→(bs p)[f - 1]?=some 47
 cl:∀c∈((bs p).take i).drop f,c≠47
 dl:D.length≤f
theorem Xb (p:ByteArray) (f i:Nat):bs (p.extract f i)=((bs p).take i).drop f:=by
 unfold bs;rw[Lib.extract_data,List.drop_take]
theorem PartsAt.ahA {p:ByteArray} {D:List ByteArray} {f i:Nat} (h:PartsAt p D f i) (hi:i≤p.size):(bs p).take i=joinL (D.map bs)++47::bs (p.extract f i):=by
 have h1:=h.one;have h2:=h.le;have hs:=h.sl aj;rw[h.pre,Xb];have e:(bs p).take i=((bs p).take i).take (f - 1)++((bs p).take i).drop (f - 1):=(List.take_append_drop _ _).symm;refine e.trans ?_;rw[List.take_take,Nat.min_eq_left aj]
 congr 1
 have hl:f - 1<((bs p).take i).length:=by rw[List.length_take,cZ];omega
 rw[List.drop_eq_getElem_cons hl]
 congr 1
 ·rw[List.getElem_take]
  have hl2:f - 1<(bs p).length:=by rw[cZ];omega
  rw[List.getElem?_eq_getElem hl2] at hs;exact Option.some.inj hs
 rw[show f - 1+1=f by omega]
theorem PartsAt.next {p:ByteArray} {D:List ByteArray} {f i:Nat} (h:PartsAt p D f i) (hi:i<p.size) (h47:(p[i]'hi)≠47):PartsAt p D f (i+1):=by
 have h1:=h.le;refine⟨h.ok,h.one,by omega,by omega,fun e=>by omega,h.pre,h.sl,fun c hc=>?_,h.dl⟩;rw[List.take_succ_eq_append_getElem (by rw[cZ];exact hi),List.drop_append_of_le_length (by rw[List.length_take,cZ];omega)] at hc
 rcases List.mem_append.1 hc with hc|hc
 ·exact h.cl c hc
 rw[List.mem_singleton.1 hc,vo p i hi];exact h47
theorem PartsAt.piece {p:ByteArray} {D:List ByteArray} {f i:Nat} (h:PartsAt p D f i) (hi:i≤p.size) (hq:fQ (p.extract f i)=true) (h47:i<p.size→(bs p)[i]?=some 47):PartsAt p (D++[p.extract f i]) (i+1) (i+1):=by
 have h1:=h.le;have h2:=h.one;have h3:=h.dl;refine⟨fun a ha=>?_,by omega,Nat.le_refl _,by omega,fun e=>by omega,?_,fun e=>?_,fun c hc=>?_,by rw[List.length_append];simp;omega⟩
 ·rcases List.mem_append.1 ha with ha|ha
  ·exact h.ok a ha
  rw[List.mem_singleton.1 ha];exact hq
 ·rw[List.map_append,List.map_singleton,vv,← h.ahA hi,Nat.add_sub_cancel]
 ·rw[Nat.add_sub_cancel];exact h47 aj
 rw[List.drop_of_length_le (by rw[List.length_take];omega)] at hc;cases hc
theorem PartsAt.bad {p:ByteArray} {D:List ByteArray} {f i:Nat} (h:PartsAt p D f i) (hs:fP p=true) (hi:i≤p.size) (hq:fQ (p.extract f i)=false) (h47:i<p.size→(bs p)[i]?=some 47):iW p=([],false):=by
 refine Xa (q:=p.extract f i) (rest:=(bs p).drop i) hs ?_ h.ok (fun c hc=>h.cl c (by rw[← Xb];exact hc)) ?_ hq
 ·rw[← List.cons_append,← List.append_assoc,← h.ahA hi,List.take_append_drop]
 by_cases hl:i<p.size
 ·right
  have hl2:i<(bs p).length:=by rw[cZ];exact hl
  have h5:=h47 hl;rw[List.getElem?_eq_getElem hl2] at h5;exact⟨_,by rw[List.drop_eq_getElem_cons hl2,Option.some.inj h5]⟩
 left;exact List.drop_of_length_le (by rw[cZ];omega)
theorem PartsAt.done {p:ByteArray} {D:List ByteArray} {f:Nat} (h:PartsAt p D f (p.size+1)) (h1:p.size≤1023) (hs:fP p=true):iW p=(D,true):=by
 have hf:=h.lst rfl;refine aac h1 hs ?_ h.ok;have:=h.pre;rw[hf,Nat.add_sub_cancel] at this;rw[this,← cZ,List.take_length]
theorem PartsAt.start {p:ByteArray} (hs:fP p=true):PartsAt p [] 1 1:=by
 have h1:=lg hs;refine⟨fun a ha=>(by cases ha),Nat.le_refl _,Nat.le_refl _,by omega,fun e=>by omega,rfl,fun _=>?_,fun c hc=>?_,Nat.zero_le _⟩
 ·have:=of_decide_eq_true hs;rw[List.head?_eq_getElem?] at this;exact this
 rw[List.drop_of_length_le (by rw[List.length_take];omega)] at hc;cases hc
def Xc (p:ByteArray) (w:World) (e:Ending) (w':World):Prop:=Below w.heap.size w w'∧∃v,e=.returned (.tuple #[v,.bool (iW p).2])∧Kd.R Kd.string 9 w' w.heap.size (fun _=>True) v (iW p).1
theorem Mq:(Tryz.prog.info? 9).map (fun i=>(i.zero,i.size,i.bytes))=some (some (.string ⟨#[]⟩),1,16):=by kernel_rfl
theorem JK (p:ByteArray) (hp:p.size≤140737488351232) (w:World):Calls Tryz.prog 109 #[.string p] w fun e w'=>Xc p w e w':=by
 by_cases hz:p.size=0
 ·have hc:=ah.mk (GD (p:=p) (.inr (by
   cases hs:fP p with
   | false=>rfl
   | true=>have:=lg hs;omega)))
  have d1:((p.size:Int) == 0)=true:=by rw[hz];rfl
  have d3:(p.size == 0)=true:=by rw[hz];rfl
  go_enter Tryz.func109,Tryz.ntmps109
  go_wp2_with fail
  go_ret2
  exact⟨Below.refl _ _,.slice none 0 0,(by rw[hc.out] <;> rfl),by rw[hc.out];exact Kd.eD _ _ _ _ _⟩
 have d1:((p.size:Int) == 0)=false:=beq_eq_false_iff_ne.2 aj;have d3:(p.size == 0)=false:=beq_eq_false_iff_ne.2 hz;by_cases hm:1023<p.size
 ·have d2:decide (1023<(p.size:Int))=true:=decide_eq_true aj;have d4:decide (1023<p.size)=true:=decide_eq_true hm;have hc:=ah.mk (GD (p:=p) (.inl hm))
  go_enter Tryz.func109,Tryz.ntmps109
  go_wp2_with fail
  go_ret2
  exact⟨Below.refl _ _,.slice none 0 0,(by rw[hc.out] <;> rfl),by rw[hc.out];exact Kd.eD _ _ _ _ _⟩
 have d2:decide (1023<(p.size:Int))=false:=decide_eq_false aj;have d4:decide (1023<p.size)=false:=decide_eq_false hm
 have hp0:0<p.size:=by omega
 have hsl:=P5 hp0
 cases hs:fP p with
 | false=>
  rw[hs] at hsl;have e1:(((p[0]'hp0).toNat:Int) == 47)=false:=beq_eq_false_iff_ne.2 (of_decide_eq_false hsl.symm);have hc:=ah.mk (GD (p:=p) (.inr hs));clear hsl hs
  go_enter Tryz.func109,Tryz.ntmps109
  go_wp2_with fail
  go_ret2
  exact⟨Below.refl _ _,.slice none 0 0,(by rw[hc.out] <;> rfl),by rw[hc.out];exact Kd.eD _ _ _ _ _⟩
 | true=>
  rw[hs] at hsl;have e1:(((p[0]'hp0).toNat:Int) == 47)=true:=beq_iff_eq.2 (of_decide_eq_true hsl.symm)
  have e1b:(((p[0]'hp0).toNat:Int) != 47)=false:=by rw[bne,e1];rfl
  have HS:=ah.mk hs;have HPT:=ah.mk (PartsAt.start hs);clear hsl hs
  go_enter Tryz.func109,Tryz.ntmps109
  go_wp2_with fail
  clear d1 d2 d3 d4
  go_loopg [4,5,6] (p.size+1) (fun g s4 s5 s6 wx=>∃(D:List ByteArray) (f i:Nat) (A:Option Addr) (c:Nat),i+g=p.size+2∧s4=.slice A D.length c∧s5=.int .i64 f∧s6=.int .i64 i∧ah (PartsAt p D f i)∧ah (Kd.R Kd.string 9 wx w.heap.size (fun _=>True) (.slice A D.length c) D)∧ah (Below w.heap.size w wx))
  case atStart=>exact⟨[],1,1,none,0,by omega,rfl,rfl,rfl,HPT,⟨Kd.eD _ _ _ _ _⟩,⟨Below.refl _ _⟩⟩
  case round=>
   obtain⟨D,f,i,A,c,hig,rfl,rfl,rfl,HP,HR,HB⟩:=hrel;clear HPT;have htop:=HP.out.top;have hfi:=HP.out.le;have hf1:=HP.out.one;by_cases hi:i≤p.size
   ·have d1:decide ((i:Int)≤(p.size:Int))=true:=decide_eq_true aj;have d2:decide (i≤p.size)=true:=decide_eq_true hi
    go_upto_region 8 with (fail)
    have hdl:=HP.out.dl;by_cases hcut:i=p.size∨∃h:i<p.size,p[i]'h=47
    ·have H47:ah (i<p.size→(bs p)[i]?=some 47):=⟨fun hl=>by
      rcases hcut with h|⟨h,e⟩
      ·omega
      rw[List.getElem?_eq_getElem (by rw[cZ];exact h),vo p i h,e]⟩
     go_cut [36] (fun v36 wc=>v36=.bool true∧wc=wr)
     case first=>
      rcases hcut with rfl|⟨h,e⟩
      ·have e2:((p.size:Int) == (p.size:Int))=true:=beq_self_eq_true _;have e3:(p.size == p.size)=true:=beq_self_eq_true _
       go_wp2_with fail
       go_meet
       case rel=>exact⟨rfl,rfl⟩
      have e2:((i:Int) == (p.size:Int))=false:=beq_eq_false_iff_ne.2 aj;have e3:(i == p.size)=false:=beq_eq_false_iff_ne.2 aj
      have e4:(((p[i]'h).toNat:Int) == 47)=true:=by rw[e];rfl
      clear e
      go_wp2_with fail
      go_meet
      case rel=>exact⟨rfl,rfl⟩
     case rest=>
      obtain⟨rfl,hwc⟩:=hcut;obtain rfl:wr=wc:=hwc.symm;have q1:(0≤(f:Int))=True:=eq_true aj;have q2:((f:Int)≤(i:Int))=True:=eq_true aj;have q3:((i:Int)≤(p.size:Int))=True:=eq_true aj
      obtain⟨x,hx⟩:∃x,p.extract f i=x:=⟨_,rfl⟩
      have hxs:x.size≤140737488351232:=by rw[← hx,ByteArray.size_extract];omega
      have hxn:=ah.mk hx;have hn:=U2 x hxs wr
      cases hok:fQ x with
      | false=>
       rw[hok] at hn;have hc:=ah.mk (HP.out.bad HS.out hi (by rw[hx];exact hok) H47.out);clear hok;have HN:=ah.mk hn;clear hn
       go_wp2_with (go_at_call 138;refine HN.out.mono ?_;rintro e w1 ⟨⟨n,rfl,hn0⟩,hb1⟩;have hne:(n != 0)=true:=(by simp[bne,hn0]))
       go_ret2
       exact⟨HB.out.trans (hb1.mono HB.out.size),.slice none 0 0,(by rw[hc.out] <;> rfl),by rw[hc.out];exact Kd.eD _ _ _ _ _⟩
      | true=>
       rw[hok] at hn;have wS:=ah.mk (HP.out.piece hi (by rw[hx];exact hok) H47.out);rw[hx] at wS;clear hok;have HN:=ah.mk hn;clear hn
       go_wp2_with (first
        | (go_at_call 138;refine HN.out.mono ?_;rintro e w1 ⟨⟨n,rfl,hn0⟩,hb1⟩;have hne:(n != 0)=false:=(by simp[bne,hn0]);have HB1:=ah.mk (HB.out.trans (hb1.mono HB.out.size));have HR1:=ah.mk (Kd.bO HR.out hb1))
        | ((with_reducible refine bQ (b:=.append) (xs:=#[.tmp 44,.tmp 46]) rfl ?_);at_builtin;refine Kd.gJ Kd.string (w0:=w) w.heap.size rfl (.tmp 44) (.tmp 46) 73 9 (.string ⟨#[]⟩) 16 rfl Tryz.underlying73 Mq rfl aH aj (.slice A D.length c) D x [.string x] (fun _=>True) (fun _=>False) rfl rfl ?aP (fun _ hk=>hk.elim) (fun _ _=>trivial) HR1.out HB1.out HB1.out.size (by (try simp only[List.length_append,List.length_cons,List.length_nil]);omega) ?_;(case aP=>exact rfl);intro v5 w5 yR hb5 hg5 qd;obtain⟨A5,c5,hv5⟩:=Kd.bP yR;subst hv5;have nE:=ah.mk yR;have kW:=ah.mk hb5;clear yR hb5 hg5 qd))
       go_roundg (p.size+1 - i)
       case measure=>omega
       case rel=>exact⟨D++[x],i+1,i+1,A5,c5,by omega,by first|rfl|simp,by first|rfl|(push_cast;rfl)|simp,by first|rfl|(push_cast;rfl)|simp,wS,nE,kW⟩
    have hil:i<p.size:=by
     rcases Nat.lt_or_ge i p.size with h|h
     ·exact h
     exact absurd (.inl aj) hcut
    have hne:(p[i]'hil)≠47:=fun e=>hcut (.inr ⟨hil,e⟩)
    have wS:=ah.mk (HP.out.next hil hne);have e2:((i:Int) == (p.size:Int))=false:=beq_eq_false_iff_ne.2 aj;have e3:(i == p.size)=false:=beq_eq_false_iff_ne.2 aj;have e4:(((p[i]'hil).toNat:Int) == 47)=false:=beq_eq_false_iff_ne.2 (fun e=>hne (UInt8.toNat.inj (by show _=47;omega)));clear hcut hne
    go_wp2_with fail
    go_roundg (p.size+1 - i)
    case measure=>omega
    case rel=>exact⟨D,f,i+1,A,c,by omega,rfl,rfl,by first|rfl|(push_cast;rfl)|simp,wS,HR,HB⟩
   have hie:i=p.size+1:=by omega
   have d1:decide ((i:Int)≤(p.size:Int))=false:=decide_eq_false aj;have d2:decide (i≤p.size)=false:=decide_eq_false hi;have hc:=ah.mk ((hie▸HP.out).done aj HS.out);clear hie
   go_wp2_with fail
   go_ret2
   exact⟨HB.out,.slice A D.length c,(by rw[hc.out] <;> rfl),by rw[hc.out];exact HR.out⟩
theorem JL {size last all:Int} {data:List Int} (hl:(data.length:Int)=all*512) (ha:all=0∨(1≤all∧512*last≤size+511)) (h:all=0∨∀j:Nat,(j:Int)<512*last - size→data[data.length - 1 - j]?=some 0):rJ size data (some (last,all))=true:=by
 unfold rJ;dsimp only;rw[if_pos hl];by_cases h0:all=0
 ·rw[if_pos h0]
 rw[if_neg h0];have hh:=h.resolve_left h0;have hb:=ha.resolve_left h0
 refine List.all_eq_true.2 fun b hb2=>?_
 obtain⟨k,hk,e⟩:=List.mem_iff_getElem.1 hb2;rw[List.length_drop] at hk;rw[List.getElem_drop] at e;have h3:=hh (data.length - 1 - (data.length - (last*512 - size).toNat+k)) aj;rw[show data.length - 1 - (data.length - 1 - (data.length - (last*512 - size).toNat+k))=data.length - (last*512 - size).toNat+k by omega,List.getElem?_eq_getElem aj,e] at h3;rw[Option.some.inj h3];rfl
theorem Xd {size last all:Int} {data:List Int} (h:(data.length:Int)≠all*512):rJ size data (some (last,all))=false:=by
 unfold rJ;dsimp only;rw[if_neg h]
theorem Xe {size last all:Int} {data:List Int} (h0:1≤all) (hl:512*last≤size+511) (j:Nat) (hj:(j:Int)<512*last - size) (hj2:j<data.length) (h:data[data.length - 1 - j]'aj≠0):rJ size data (some (last,all))=false:=by
 unfold rJ;dsimp only;split
 ·rename_i hd;rw[if_neg aj];refine List.all_eq_false.2 ⟨_,List.mem_iff_getElem.2 ⟨(last*512 - size).toNat - 1 - j,by rw[List.length_drop];omega,rfl⟩,?_⟩;rw[List.getElem_drop];simp only[decide_eq_true_eq];rw[show data[data.length - (last*512 - size).toNat+((last*512 - size).toNat - 1 - j)]'aj=data[data.length - 1 - j]'aj by congr 1;omega];exact h
 rfl
theorem Nl (x:It) (A4:Option Addr) (c4:Nat) (A5:Option Addr) (c5:Nat) (w:World) (hr:Kd.C dw w A4 x.f4.length x.f4) (hc4:x.f4.length≤c4) (hd:Kd.C (Kd.int .u8) w A5 x.f5.length x.f5) (IU:x.f5.length≤c5) (hf:Fit x) :
  Calls Tryz.prog 125 #[.agg #[.int .i64 x.f0,.string x.f1,.string x.f2,.int .i64 x.f3,.slice A4 x.f4.length c4,.slice A5 x.f5.length c5]] w fun e w'=>e=.returned (.bool (decide (x.f2.size=0) && dW x.f3 x.f4 x.f5))∧Below w.heap.size w w':=by
 obtain⟨V,hV⟩:∃V,(decide (x.f2.size=0) && dW x.f3 x.f4 x.f5)=V:=⟨_,rfl⟩
 rw[hV]
 obtain⟨W1,hW1⟩:∃W1,w.alloc (.cells #[.int .i64 x.f0,.string x.f1,.string x.f2,.int .i64 x.f3,.slice A4 x.f4.length c4,.slice A5 x.f5.length c5] 29)=W1:=⟨_,rfl⟩
 have hb1:=(Below.refl w.heap.size w).alloc (Nat.le_refl _) (.cells #[.int .i64 x.f0,.string x.f1,.string x.f2,.int .i64 x.f3,.slice A4 x.f4.length c4,.slice A5 x.f5.length c5] 29);have hk1:=bF w (.cells #[.int .i64 x.f0,.string x.f1,.string x.f2,.int .i64 x.f3,.slice A4 x.f4.length c4,.slice A5 x.f5.length c5] 29);rw[hW1] at hb1 hk1;have k2:W1.cell? ⟨w.heap.size,2,none⟩=some (.string x.f2):=ak hk1 2;have k3:W1.cell? ⟨w.heap.size,3,none⟩=some (.int .i64 x.f3):=ak hk1 3;have HB1:=ah.mk hb1;have jH:=ah.mk hk1;have HR:=ah.mk hr;have HD:=ah.mk hd;have hn4:=hf.r;have hn5:=hf.d;clear hb1 hk1 hr hd hf
 have et:decide (x.f2.size=0)=(x.f2.toList == ([]:List UInt8)):=by
  rw[Lib.toList_data]
  cases hb:x.f2.data.toList with
  | nil=>rw[decide_eq_true (by rw[← gI,hb];rfl)];rfl
  | cons a l=>rw[decide_eq_false (by rw[← gI,hb];simp)];rfl
 by_cases hs:x.f3<0∨8459264<x.f3∨(x.f2.toList == ([]:List UInt8))=false
 ·have HV:ah (V=false):=⟨by
   rw[← hV];unfold dW
   rcases hs with h|h|h
   ·rw[if_pos (.inl h),Bool.and_false]
   ·rw[if_pos (.inr h),Bool.and_false]
   rw[et,h,Bool.false_and]⟩
  clear et hV
  go_enter Tryz.func125,Tryz.ntmps125
  go_upto_region 1 with (fail)
  by_cases h1:x.f3<0
  ·have d1:decide (x.f3<0)=true:=decide_eq_true h1;clear hs
   go_wp2_with fail
   go_ret
   exact⟨by rw[HV.out] <;> rfl,HB1.out⟩
  have d1:decide (x.f3<0)=false:=decide_eq_false h1;by_cases h2:8459264<x.f3
  ·have d2:decide (8459264<x.f3)=true:=decide_eq_true h2;clear hs
   go_wp2_with fail
   go_ret
   exact⟨by rw[HV.out] <;> rfl,HB1.out⟩
  have d2:decide (8459264<x.f3)=false:=decide_eq_false h2
  have d3:(x.f2.toList == ([]:List UInt8))=false:=by rcases hs with h|h|h;exact absurd h h1;exact absurd h h2;exact h
  have d4:(x.f2.toList != ([]:List UInt8))=true:=by rw[bne,d3];rfl
  clear hs
  go_wp2_with fail
  go_ret
  exact⟨by rw[HV.out] <;> rfl,HB1.out⟩
 have d1:decide (x.f3<0)=false:=decide_eq_false (fun h=>hs (.inl h));have d2:decide (8459264<x.f3)=false:=decide_eq_false (fun h=>hs (.inr (.inl h)))
 have d3:(x.f2.toList == ([]:List UInt8))=true:=by
  cases h:(x.f2.toList == ([]:List UInt8)) with
  | true=>rfl
  | false=>exact absurd (.inr (.inr h)) hs
 have d4:(x.f2.toList != ([]:List UInt8))=false:=by rw[bne,d3];rfl
 have h0:0≤x.f3:=by have:=of_decide_eq_false d1;omega
 have h9:x.f3≤8459264:=by have:=of_decide_eq_false d2;omega
 have HV:ah (V=rJ x.f3 x.f5 (gy x.f3 (-1) 0 x.f4)):=⟨by
  rw[← hV,et,d3,Bool.true_and];unfold dW
  rw[if_neg aj]⟩
 clear et hs hV
 go_enter Tryz.func125,Tryz.ntmps125
 go_wp2_with fail
 clear d1 d2 d3 d4 k2 k3
 go_loopg [3,4,5] x.f4.length (fun g s3 s4 s5 wx=>∃(i:Nat) (last all:Int),i+g=x.f4.length∧s3=.int .i64 last∧s4=.int .i64 all∧s5=.int .i64 i∧ah (gy x.f3 (-1) 0 x.f4=gy x.f3 last all (x.f4.drop i))∧((last = -1∧all=0)∨(1≤last∧1≤all∧all≤last+1∧512*last≤x.f3+511))∧ah (Below w.heap.size w wx)∧ah (wx.heap[w.heap.size]?=some (.cells #[.int .i64 x.f0,.string x.f1,.string x.f2,.int .i64 x.f3,.slice A4 x.f4.length c4,.slice A5 x.f5.length c5] 29 (0,0))))
 case atStart=>exact⟨0,-1,0,by omega,rfl,rfl,rfl,⟨rfl⟩,.inl ⟨rfl,rfl⟩,HB1,jH⟩
 case round=>
  obtain⟨i,last,all,hig,rfl,rfl,rfl,HO,hla,HB,HK⟩:=hrel;clear HB1 jH hW1;have k3:wr.cell? ⟨w.heap.size,3,none⟩=some (.int .i64 x.f3):=ak HK.out 3;have k4:wr.cell? ⟨w.heap.size,4,none⟩=some (.slice A4 x.f4.length c4):=ak HK.out 4;have k5:wr.cell? ⟨w.heap.size,5,none⟩=some (.slice A5 x.f5.length c5):=ak HK.out 5;by_cases hi:i<x.f4.length
  ·have d1:decide ((i:Int)<(x.f4.length:Int))=true:=decide_eq_true aj;have d2:decide (i<x.f4.length)=true:=decide_eq_true hi;obtain⟨ad,hA,r0,r1⟩:=dQ (Kd.aC HR.out HB.out) (i:Int) aj aj
   have hrd:aQ x.f4 (i:Int)=x.f4[i]:=by simp[aQ,hi]
   rw[hrd,Int.toNat_natCast] at r0 r1;subst hA
   obtain⟨q,hq⟩:∃q,x.f4[i]=q:=⟨_,rfl⟩
   have hO:=HO.out;rw[List.drop_eq_getElem_cons hi,hq,gy] at hO;rw[hq] at r0 r1;have hz:=(Below.refl wr.heap.size wr).alloc (Nat.le_refl _) (.cells #[.int .i64 q.f0,.int .i64 q.f1] 117);have HB2:=ah.mk (HB.out.trans (hz.mono HB.out.size));have jG:=ah.mk (aJ HK.out hz);have k3':(wr.alloc (.cells #[.int .i64 q.f0,.int .i64 q.f1] 117)).cell? ⟨w.heap.size,3,none⟩=some (.int .i64 x.f3):=ak jG.out 3;clear hz hrd hq HO;by_cases hbad:q.f0≤last∨q.f1≤q.f0∨(x.f3+511) / 512<q.f1
   ·rw[if_pos aj] at hO;have wU:=ah.mk (HV.out.trans (by rw[hO];rfl:_=false));clear hO;by_cases h1:q.f0≤last
    ·have e1:decide (q.f0≤last)=true:=decide_eq_true h1;clear hbad
     go_wp2_with fail
     go_ret
     exact⟨by rw[wU.out] <;> rfl,HB2.out⟩
    have e1:decide (q.f0≤last)=false:=decide_eq_false h1;by_cases h2:q.f1≤q.f0
    ·have e2:decide (q.f1≤q.f0)=true:=decide_eq_true h2;clear hbad
     go_wp2_with fail
     go_ret
     exact⟨by rw[wU.out] <;> rfl,HB2.out⟩
    have e2:decide (q.f1≤q.f0)=false:=decide_eq_false h2;have e3:decide ((x.f3+511) / 512<q.f1)=true:=decide_eq_true aj;clear hbad
    go_wp2_with fail
    go_ret
    exact⟨by rw[wU.out] <;> rfl,HB2.out⟩
   rw[if_neg aj] at hO;have e1:decide (q.f0≤last)=false:=decide_eq_false aj;have e2:decide (q.f1≤q.f0)=false:=decide_eq_false aj;have e3:decide ((x.f3+511) / 512<q.f1)=false:=decide_eq_false aj;have yS:=ah.mk hO
   have hn:1≤q.f1∧1≤all+(q.f1 - q.f0)∧all+(q.f1 - q.f0)≤q.f1+1∧512*q.f1≤x.f3+511:=by omega
   clear hO hbad
   go_wp2_with fail
   go_roundg (x.f4.length - (i+1))
   case measure=>omega
   case rel=>exact⟨i+1,q.f1,all+(q.f1 - q.f0),by omega,by first|rfl|simp,by first|rfl|(simp;omega),by first|rfl|(push_cast;rfl)|simp,yS,.inr hn,HB2,jG⟩
  have d1:decide ((i:Int)<(x.f4.length:Int))=false:=decide_eq_false aj;have d2:decide (i<x.f4.length)=false:=decide_eq_false hi;have hO:=HO.out;rw[List.drop_of_length_le aj,gy] at hO;have wU:=ah.mk (HV.out.trans (by rw[hO]));clear hO HV HO;by_cases hl:(x.f5.length:Int)=512*all
  ·have e1:((x.f5.length:Int) != 512*all)=false:=bne_eq_false_iff_eq.2 hl
   rcases hla with⟨rfl,rfl⟩|⟨l1,a1,a2,a3⟩
   ·have JM:=ah.mk (wU.out.trans (JL aj (.inl rfl) (.inl rfl)))
    go_wp2_with fail
    clear d1 d2 e1 k3 k4 k5
    go_loopg [8] 0 (fun g s8 wx=>s8=.int .i64 0∧wx=wr)
    case atStart=>exact⟨rfl,rfl⟩
    case round=>
     rename_i wq gq;obtain⟨rfl,rfl⟩:=hrel;have d1:decide ((0:Int)<512 * -1 - x.f3)=false:=decide_eq_false aj
     go_wp2_with fail
     go_ret
     exact⟨by rw[JM.out] <;> rfl,HB.out⟩
   go_wp2_with fail
   clear d1 d2 e1 k3 k4 k5
   obtain⟨wo,rfl⟩:∃wo,wo=wr:=⟨_,rfl⟩
   have hl2:512*last - x.f3≤(x.f5.length:Int):=by omega
   have HL:=ah.mk hl;clear hl
   go_loopg [8] x.f5.length (fun g s8 wx=>∃j:Nat,j+g=x.f5.length∧s8=.int .i64 j∧ah (∀n:Nat,n<j→x.f5[x.f5.length - 1 - n]?=some 0)∧wx=wo)
   case atStart=>exact⟨0,by omega,rfl,⟨fun n h=>absurd h (Nat.not_lt_zero n)⟩,rfl⟩
   case round=>
    obtain⟨j,hjg,rfl,HN,hwr⟩:=hrel;obtain rfl:wo=wr:=hwr.symm;have e9:decide ((0:Int)<last)=true:=decide_eq_true aj;by_cases hj:(j:Int)<512*last - x.f3
    ·have d1:decide ((j:Int)<512*last - x.f3)=true:=decide_eq_true hj
     have hjl:j<x.f5.length:=by omega
     obtain⟨ad,hA,hxw⟩:=Kd.gZ HD.out ((x.f5.length:Int) - 1 - (j:Int)) aj aj
     have hrd:rd x.f5 ((x.f5.length:Int) - 1 - (j:Int))=x.f5[x.f5.length - 1 - j]'aj:=by
      unfold rd;rw[show ((x.f5.length:Int) - 1 - (j:Int)).toNat=x.f5.length - 1 - j by omega,List.getD_eq_getElem?_getD,List.getElem?_eq_getElem aj];rfl
     have hx0:=(HB.out.cell (World.block_lt_of_cell? w _ hxw)).trans hxw;rw[show ((x.f5.length:Int) - 1 - (j:Int)).toNat=x.f5.length - 1 - j by omega] at hx0;subst hA;have k5:wo.cell? ⟨w.heap.size,5,none⟩=some (.slice (some ad) x.f5.length c5):=ak HK.out 5;have q0:(0≤(x.f5.length:Int) - 1 - (j:Int))=True:=eq_true aj;have q1:((x.f5.length:Int) - 1 - (j:Int)<(x.f5.length:Int))=True:=eq_true aj;clear hxw
     obtain⟨b,hb⟩:∃b,rd x.f5 ((x.f5.length:Int) - 1 - (j:Int))=b:=⟨_,rfl⟩
     rw[hb] at hx0 hrd;clear hb;by_cases h0:b=0
     ·have e1:(b != 0)=false:=bne_eq_false_iff_eq.2 h0
      have FT:ah (∀n:Nat,n<j+1→x.f5[x.f5.length - 1 - n]?=some 0):=⟨fun n hn=>by
       by_cases hnj:n=j
       ·subst hnj;rw[List.getElem?_eq_getElem aj,← hrd,h0]
       exact HN.out n aj⟩
      clear h0 hrd
      go_wp2_with fail
      go_roundg (x.f5.length - (j+1))
      case measure=>omega
      case rel=>exact⟨j+1,by omega,by first|rfl|(push_cast;rfl)|simp,FT,rfl⟩
     have e1:(b != 0)=true:=bne_iff_ne.2 h0;have JM:=ah.mk (wU.out.trans (Xe a1 a3 j hj hjl (by rw[← hrd];exact h0)));clear h0 hrd
     go_wp2_with fail
     go_ret
     exact⟨by rw[JM.out] <;> rfl,HB.out⟩
    have d1:decide ((j:Int)<512*last - x.f3)=false:=decide_eq_false hj;have JM:=ah.mk (wU.out.trans (JL (by have:=HL.out;omega) (.inr ⟨a1,a3⟩) (.inr (fun n hn=>HN.out n aj))))
    go_wp2_with fail
    go_ret
    exact⟨by rw[JM.out] <;> rfl,HB.out⟩
  have e1:((x.f5.length:Int) != 512*all)=true:=bne_iff_ne.2 hl;have JM:=ah.mk (wU.out.trans (Xd aj))
  go_wp2_with fail
  go_ret
  exact⟨by rw[JM.out] <;> rfl,HB.out⟩
theorem Vp.size {p:ByteArray} (h:Vp p):p.size≤1023:=(uE (show iW p=((iW p).1,true) by rw[← (show (iW p).2=true from h)])).1
def qy (l:List It) (p:ByteArray):Int:=((l.find? (fun x=>decide (x.f1=p))).map (·.f0)).getD 0
theorem GH {l:List It} {p:ByteArray} (h:∀x∈l,x.f1≠p):qy l p=0:=by
 unfold qy;rw[List.find?_eq_none.2 (fun x hx=>by simpa using h x hx)];rfl
theorem Dz:∀{l:List It},kH l→∀{x:It},x∈l→qy l x.f1=x.f0
 | [],_,x,hx=>by cases hx
 | y::l,h,x,hx=>by
  unfold qy;rw[List.find?_cons];by_cases e:y.f1=x.f1
  ·rw[decide_eq_true e]
   have hk:kl y=kl x:=by show bs (bY 47 0 y.f1)=bs (bY 47 0 x.f1);rw[e]
   rw[h.inj y List.mem_cons_self x hx hk];rfl
  rw[decide_eq_false e]
  rcases List.mem_cons.1 hx with rfl|hx
  ·exact absurd rfl e
  exact Dz h.tail hx
theorem kH.get {l:List It} (h:kH l) {i j:Nat} (hij:i<j) (hj:j<l.length):Less (kl (l[i]'aj)) (kl l[j]):=List.pairwise_iff_getElem.1 h.keys i j aj hj hij
structure rW (t:List It) (k:List UInt8) (lo hi:Nat):Prop where
 le:lo≤hi
 top:hi≤t.length
 lw:∀j (h:j<t.length),j<lo→Less (kl t[j]) k
 up:∀j (h:j<t.length),hi≤j→¬Less (kl t[j]) k
theorem rW.right {t:List It} {k:List UInt8} {lo hi m:Nat} (h:rW t k lo hi) (ht:kH t) (h1:lo≤m) (h2:m<hi) (hm:Less (kl (t[m]'(by have:=h.top;omega))) k):rW t k (m+1) hi:=by
 refine⟨by omega,h.top,fun j hj hl=>?_,h.up⟩
 rcases Nat.lt_or_ge j m with h'|h'
 ·exact (ht.get h' (by have:=h.top;omega)).trans hm
 obtain rfl:j=m:=by omega
 exact hm
theorem rW.left {t:List It} {k:List UInt8} {lo hi m:Nat} (h:rW t k lo hi) (ht:kH t) (h1:lo≤m) (h2:m<hi) (hm:¬Less (kl (t[m]'(by have:=h.top;omega))) k):rW t k lo m:=by
 refine⟨h1,by have:=h.top;omega,h.lw,fun j hj hl hk=>?_⟩
 rcases Nat.lt_or_ge m j with h'|h'
 ·exact hm ((ht.get h' hj).trans hk)
 obtain rfl:j=m:=by omega
 exact hm hk
theorem rW.none {t:List It} {p:ByteArray} {lo:Nat} (h:rW t (bs (bY 47 0 p)) lo lo) (ht:kH t) (hn:∀hl:lo<t.length,(t[lo]'hl).f1≠p):qy t p=0:=by
 refine GH fun x hx e=>?_
 obtain⟨j,hj,rfl⟩:=List.mem_iff_getElem.1 hx
 have hk:kl t[j]=bs (bY 47 0 p):=by show bs (bY 47 0 (t[j]).f1)=_;rw[e]
 rcases Nat.lt_or_ge j lo with h'|h'
 ·exact (h.lw j hj h').ne hk
 rcases Nat.lt_or_ge lo j with h2|h2
 ·exact h.up lo aj (Nat.le_refl _) (hk▸ht.get h2 hj)
 obtain rfl:j=lo:=by omega
 exact hn hj e
theorem Nn (A0:Option Addr) (c0:Nat) (l:List It) (n:Nat) (p:ByteArray) (w:World) (hr:Kd.C mV w A0 l.length l) (hc:l.length≤c0) (hn:n≤l.length) (ht:kH (l.take n)) (hp:p.size≤140737488351232) (hll:l.length≤4096) :
  Calls Tryz.prog 124 #[.slice A0 l.length c0,.int .i64 n,.string p] w fun e w'=>e=.returned (.int .i64 (qy (l.take n) p))∧Below w.heap.size w w':=by
 obtain⟨V,hV⟩:∃V,qy (l.take n) p=V:=⟨_,rfl⟩
 rw[hV];have HV:=ah.mk hV;have HT:=ah.mk ht;have HR:=ah.mk hr
 have htl:(l.take n).length=n:=by rw[List.length_take];omega
 have OE:=ah.mk htl;have HF:=ah.mk (show rW (l.take n) (bs (bY 47 0 p)) 0 n from⟨Nat.zero_le _,by omega,fun j _ h=>absurd h (Nat.not_lt_zero j),fun j h h2=>by omega⟩);have hk:=yu p hp w
 have hget:ah (∀(j:Nat) (h:j<n),(l.take n)[j]'(by rw[OE.out];exact h)=l[j]'(Nat.lt_of_lt_of_le h hn)):=⟨fun j h=>List.getElem_take⟩
 clear hV ht hr htl
 go_enter Tryz.func124,Tryz.ntmps124
 have HKc:=ah.mk hk;clear hk
 go_wp2_with (go_at_call 107;refine HKc.out.mono ?_;rintro e w1 ⟨rfl,hb1⟩;have HB1:=ah.mk hb1;clear hb1)
 obtain⟨k,hk⟩:∃k,bY 47 0 p=k:=⟨_,rfl⟩
 have HK:=ah.mk hk;rw[hk];rw[hk] at HF;clear hk HKc
 go_loopg [7,8] n (fun g s7 s8 wx=>∃lo hi:Nat,hi - lo=g∧s7=.int .i64 lo∧s8=.int .i64 hi∧ah (rW (l.take n) (bs k) lo hi)∧ah (Below w.heap.size w wx))
 case atStart=>exact⟨0,n,by omega,rfl,rfl,HF,HB1⟩
 case round=>
  obtain⟨lo,hi,hig,rfl,rfl,HF,HB⟩:=hrel;clear HB1;have hle:=HF.out.le;have htop:hi≤n:=OE.out▸HF.out.top;by_cases hlt:lo<hi
  ·have d1:decide ((lo:Int)<(hi:Int))=true:=decide_eq_true aj;have d2:decide (lo<hi)=true:=decide_eq_true hlt
   obtain⟨m,hm⟩:∃m:Nat,(lo+hi) / 2=m:=⟨_,rfl⟩
   have hm0:((lo:Int)+(hi:Int)) / 2=(m:Int):=by omega
   have hm1:lo≤m∧m<hi:=by omega
   obtain⟨ad,A4,C4,A5,C5,hA,r0,r1,_⟩:=jh (Kd.aC HR.out HB.out) (m:Int) aj aj
   have hrd:aI l (m:Int)=l[m]:=by simp[aI,show m<l.length by omega]
   rw[hrd,Int.toNat_natCast] at r1;subst hA
   obtain⟨q,hq⟩:∃q,l[m].f1=q:=⟨_,rfl⟩
   rw[hq] at r1
   have hqm:kl ((l.take n)[m]'(by rw[OE.out];omega))=bs (bY 47 0 q):=by rw[hget.out m aj,← hq];rfl
   have JN:q.size≤1023:=by
    have:=HT.out.path ((l.take n)[m]'(by rw[OE.out];omega)) (List.getElem_mem _);rw[hget.out m aj,hq] at this;exact Vp.size this
   have hkc:=yu q aj wr;have HKc:=ah.mk hkc;have HQ:=ah.mk hqm;clear hrd hq hkc hqm r0
   obtain⟨kq,hkq⟩:∃k,bY 47 0 q=k:=⟨_,rfl⟩
   rw[hkq] at HKc HQ;clear hkq;by_cases hless:Op.bytesLess kq.toList k.toList=true
   ·have FR:=ah.mk (HF.out.right HT.out hm1.1 hm1.2 (by rw[HQ.out];rw[Lib.toList_data,Lib.toList_data] at hless;exact hless))
    go_wp2_with (go_at_call 107;refine HKc.out.mono ?_;rintro e w1 ⟨rfl,hb1⟩;have HB2:=ah.mk (HB.out.trans (hb1.mono HB.out.size));clear hb1)
    go_roundg (hi - (m+1))
    case measure=>omega
    case rel=>exact⟨m+1,hi,rfl,by first|rfl|(push_cast;rfl)|simp,rfl,FR,HB2⟩
   have hless:=Bool.eq_false_iff.2 hless;have FR:=ah.mk (HF.out.left HT.out hm1.1 hm1.2 (by rw[HQ.out];unfold Less;rw[Lib.toList_data,Lib.toList_data] at hless;exact fun h=>by rw[show Op.bytesLess (bs kq) (bs k)=false from hless] at h;cases h))
   go_wp2_with (go_at_call 107;refine HKc.out.mono ?_;rintro e w1 ⟨rfl,hb1⟩;have HB2:=ah.mk (HB.out.trans (hb1.mono HB.out.size));clear hb1)
   go_roundg (m - lo)
   case measure=>omega
   case rel=>exact⟨lo,m,rfl,rfl,by first|rfl|(push_cast;rfl)|simp,FR,HB2⟩
  obtain rfl:lo=hi:=by omega
  have d1:decide ((lo:Int)<(lo:Int))=false:=decide_eq_false aj;have d2:decide (lo<lo)=false:=decide_eq_false hlt
  have HFK:ah (rW (l.take n) (bs (bY 47 0 p)) lo lo):=⟨HK.out▸HF.out⟩
  clear hlt;by_cases hln:lo<n
  ·have e1:decide ((lo:Int)<(n:Int))=true:=decide_eq_true aj;have e2:decide (lo<n)=true:=decide_eq_true hln;obtain⟨ad,A4,C4,A5,C5,hA,r0,r1,_⟩:=jh (Kd.aC HR.out HB.out) (lo:Int) aj aj
   have hrd:aI l (lo:Int)=l[lo]:=by simp[aI,show lo<l.length by omega]
   rw[hrd,Int.toNat_natCast] at r0 r1;subst hA;clear hrd;by_cases he:l[lo].f1=p
   ·have e3:(l[lo].f1.toList == p.toList)=true:=(Lib.bytes_beq_iff _ _).2 he
    have wU:ah (V=l[lo].f0):=⟨by
     have h3:=Dz HT.out (x:=(l.take n)[lo]'(by rw[OE.out];omega)) (List.getElem_mem _);rw[hget.out lo hln,he] at h3
     exact HV.out.symm.trans h3⟩
    clear he
    go_wp2_with fail
    go_ret
    exact⟨by rw[wU.out] <;> rfl,HB.out⟩
   have e3:(l[lo].f1.toList == p.toList)=false:=(Lib.bytes_beq_false_iff _ _).2 he
   have wU:ah (V=0):=⟨HV.out.symm.trans (HFK.out.none HT.out (fun hl=>by rw[hget.out lo hln];exact he))⟩
   clear he
   go_wp2_with fail
   go_ret
   exact⟨by rw[wU.out] <;> rfl,HB.out⟩
  have e1:decide ((lo:Int)<(n:Int))=false:=decide_eq_false aj;have e2:decide (lo<n)=false:=decide_eq_false hln
  have wU:ah (V=0):=⟨HV.out.symm.trans (HFK.out.none HT.out (fun hl=>absurd (OE.out▸hl) hln))⟩
  go_wp2_with fail
  go_ret
  exact⟨by rw[wU.out] <;> rfl,HB.out⟩
end Go.Proofs.YtknihldkhedpkaaGreatDoor
end
