import Derived.Test.YtmcnpaelaieniaaGreatDoorQX91
import Derived.Test.YtmcnpaelaieniaaGreatDoorQX110
import Derived.Test.YtmcnpaelaieniaaGreatDoorQX101
import Derived.Test.YtmcnpaelaieniaaGreatDoorQX78
/- A part of the proof; see NOTES.md. -/
set_option linter.unusedVariables false
set_option linter.unusedSimpArgs false
namespace Go.Proofs.YtmcnpaelaieniaaGreatDoor
open Go.RowKit
open Lib
section
variable {X:Cx} {E:Env} {H:Heap}
theorem DK{o:Oper}{x:Operand}{n c:Nat}{ts:Array TypeId}(ho:o.op=.call ⟨.builtin .unsafeSliceData,#[x],ts⟩)(hx:val E x=some (.slice none n c)):gq X o E H (.pointer none):=by
 intro ac w hA hH;have:=run_unsafeSliceData_nil (P:=Tryz.prog) (w:=w) ts o.type n c;simp[execOp,ho,resolve,invoke,builtin,hA.val hx,this]
theorem Do{o:Oper}{x y:Operand}{p:OA}{pt it:Nat}(ho:o.op=.call ⟨.builtin .unsafeString,#[x,y],#[pt,it]⟩)(hx:val E x=some (.pointer p))(hy:val E y=some (.int .i64 0)):gq X o E H (dK []):=by
 intro ac w hA hH;have:(Builtin.unsafeString_ #[pt,it] o.type #[.pointer p,.int .i64 0]).run Tryz.prog w=.ok (dK []) w:=run_unsafeString_none (P:=Tryz.prog) (w:=w) pt it o.type p;simp[execOp,ho,resolve,invoke,builtin,hA.val hx,hA.val hy,this]
end
theorem Ba(e b:Nat)(p:Value):Fn 55 [.pointer (some ⟨b,0,none⟩)] (aJ (ny e b p none 0 [])) ([]++ny e b p none 0 []) λ v H'=>v=dK []/\H'=[]:=by
 refine aH Tryz.func55 rfl rfl λ w0=>?_;refine ad (aa (ae [] rfl ?_));refine ad ?_;refine bq 12 (cY [0,1,2,3,5,6,7,8,9]++[(4,false),(10,false)]++cY [11]) [0] (by kernel_rfl) (by decide) rfl ?_;refine az [] rfl ?_;refine aj [] (v:=.slice none 0 0) rfl (af 0 rfl) rfl ?_;refine az [] rfl ?_;refine aj [] (v:=.slice none 0 0) rfl (af 0 rfl) rfl ?_;refine az [] rfl ?_;refine aY rfl ?_;refine ab [] (DK rfl rfl) rfl ?_;refine ai ⟨⟨[0],by decide,rfl⟩,?_⟩;refine aY rfl ?_;refine ab [] (Do rfl rfl rfl) rfl ?_;refine ai ⟨⟨[0],by decide,rfl⟩,?_⟩;refine az [] rfl ?_;refine bp ?_;refine ai ?_;exact aA [] (by decide) rfl (ax ⟨_,rfl,rfl,rfl⟩)
theorem qt{l:LI}:ay l=[]↔l=[]:=by unfold ay;exact List.map_eq_nil_iff
theorem yP(N:aO){l:List It}(h:l≠[]):c9 N l≠[]:=by
 cases l with
 |nil=>exact absurd rfl h
 |cons x r=>
  unfold c9;rw[GM,HX];unfold jt;exact λ h0=>zM _ _ (List.append_eq_nil_iff.1 h0).1
theorem r5{l:LI}{t:Nat}{e:Int}(h:l[t]?=some e):(l.take (t+1)).getLastD 0=e:=by
 rw[GW,h,List.getLastD_eq_getLast?,Hl];rfl
set_option maxHeartbeats 4000000 in
theorem yd(V:cj)(N:aO)(hN:N.Fits)(hR:N.Right)(A:OA)(c b o:Nat)(hA:N.arcs≠[]->A=some ⟨b,o,none⟩)(its:List zJ)(hok:∀ x∈its.map d8,jw N x)(hl:its.length<=2001)(I:OA)(ci:Nat):
 Fn 131 [bx N A c,.slice I its.length ci] (aJ (lF I ci its)) (([.seg b o (arcs N.arcs)]++V.heap)++lF I ci its) λ v H'=>v=pH N (its.map d8)/\H'=lF I ci its:=by
 have hl2:=hR.len
 generalize hM:aJ _=M
 refine aH Tryz.func131 rfl rfl λ w0=>?_;refine ad (aa ?_);refine bz (cs:=bJ N A c) rfl rfl rfl (λ _=>rfl) λ p=>?_;refine ae [] rfl ?_;show J _ _ _ _ ([blk p 33 (bJ N A c),.seg b o (arcs N.arcs),.tab 0 V.oM,.tab 3 V.oP,.tab 5 V.oE,.own (.slice I its.length ci) 235 3 its.length (mR its)]++its.map λ x=>aV 3 x.2.1);refine ad (ad (aa ?_));refine ab [] (v:=bx N A c) (af 0 rfl) rfl ?_;refine ah [] rfl ?_;refine aw (fst:=[]) (cap:=[]) [] (CA N hN hR A c b o hA its hok hl I ci) rfl rfl rfl rfl (by kernel_rfl) (K:=[blk p 33 (bJ N A c),.seg b o (arcs N.arcs),.tab 0 V.oM,.tab 3 V.oP,.tab 5 V.oE]) (aF.mid [5] [0,1,2,3,4] rfl rfl (by decide)) ⟨⟨1,_,by simp,rfl,ak _ _ _,au⟩,an⟩ (λ _=>rfl) ?_;rintro v H' ⟨⟨F,n,cf,rfl⟩,rfl⟩;refine⟨lq I ci its,?_⟩;refine bX aF.swap ?_;refine ae [] rfl ?_;by_cases hz:mu N (its.map d8)=0
 case neg=>
  refine ad (aa (ae [] rfl ?_));refine aC rfl (λ _=>?_) (λ h=>absurd hz h);refine ad (aa (ae [] rfl ?_));refine bH (aF.re (A:=[_,_,_,_,_,_]) [0] rfl (by decide)) ?_;refine ax ⟨_,rfl,?_,rfl⟩;unfold pH;rw[if_neg hz];rfl
 rw[hz];refine ad (aa (ae [] rfl ?_));refine aC rfl (λ h=>absurd rfl h) (λ _=>aq ?_)
 have hlen:∀ j,j<=its.length->(c9 N ((its.take j).map d8)).length<=100000000:=λ j hj=>by
  have:=nU hR (its:=(its.take j).map d8) (λ x hx=>by
   obtain⟨y,hy,rfl⟩:=G0.1 hx;exact hok _ (H7 (HA hy)))
  rw[GH,G2] at this;omega
 refine ad (aa ?_);refine bu rfl rfl rfl (λ _=>rfl) λ p8=>?_;refine ae [] rfl ?_;refine cd 5 1 ?_;refine ad (ad (aa (ae [] rfl ?_)));refine av ?_
 refine b8 (σ:=Nat×Value×OA×Nat) (λ s=>[(26,.int .i64 s.1),(25,.int .i64 its.length),(24,.slice I its.length ci),(8,.pointer (some ⟨p8,0,none⟩)),(2,.pointer (some ⟨p,0,none⟩))])
  (λ s=>(ny 129 p8 s.2.1 s.2.2.1 s.2.2.2 (c9 N ((its.take s.1).map d8))++[.own (.slice I its.length ci) 235 3 its.length (mR its),blk p 33 (bJ N A c),.seg b o (arcs N.arcs),.tab 0 V.oM,.tab 3 V.oP,.tab 5 V.oE])++its.map λ x=>aV 3 x.2.1)
  (λ s=>s.1<=its.length/\Es p8 s.2.1/\(s.1=0->s.2.2.1=none/\s.2.2.2=0)) (λ s=>its.length-s.1) (0,.pointer none,none,0) ⟨rfl,rfl,rfl,rfl,rfl,an⟩ (aF.re (A:=[_,_,_,_,_,_,_,_]) [1,0,2,3,4,5,6,7] rfl (by decide)) ⟨GI _,.inl rfl,λ _=>⟨rfl,rfl⟩⟩ ?_
 rintro⟨j,pv,Ab,cb⟩ ⟨hj,hpv,hb0⟩;simp only at hj hpv hb0 ⊢;refine bv (a8 2 rfl) λ ⟨_,_,hI0,_⟩=>?_;refine ad (aa (ae [] rfl ?_));refine ad (aC rfl (λ hlt=>aq ?_) (λ hge=>a9 ?_))
 ·have hlt:j<its.length:=by omega
  obtain⟨x,hx⟩:∃ x,its[j]?=some x:=⟨its[j],Gy hlt⟩;obtain⟨gI,rfl⟩:=hI0 (by omega);have hxo:jw N (d8 x):=hok _ (H7 (GB hx));have hxl:x.2.1.l.length<=2000:=hxo.len;have hxa:0<x.2.2/\x.2.2<=4611686018427387903:=hxo.amt;have hxr:∀ e∈x.2.1.l,0<=e/\e<N.arcs.length:=hxo.rng;have hxne:x.2.1.l≠[]:=hxo.ne;have hxk:x.1=112\/x.1=98\/x.1=99:=hxo.kind;have htj:c9 N ((its.take (j+1)).map d8)=c9 N ((its.take j).map d8)++jt N (d8 x):=by rw[GW,hx,G5];exact uF N _ _
  have hmj:=hlen j hj;have hrow:(its.map λ x=>aV 3 x.2.1)[j]?=some (aV 3 x.2.1):=by rw[GJ,hx];rfl
  obtain⟨hin,hinl⟩:=xp hR hxo;refine bH (aF.front (i:=j) (c:=aV 3 x.2.1) hrow) ?_;refine bv (a8 0 (show _=some (aV 3 x.2.1) from rfl)) λ ⟨_,_,hr0,hrl⟩=>?_;obtain⟨gr,hgr⟩:=bQ hr0 hrl;have hrA:x.2.1.A=some ⟨gr,0,none⟩:=hgr (by intro h0;have:=bI x.2.1.l;rw[h0] at this;exact hxne (GT.1 (by simpa using this.symm)));refine ad (av ?_);refine ad (aa (ah [] rfl ?_));refine ab [] (aM rfl hlt) rfl ?_;refine ab [] (aE 3 rfl rfl rfl (mr hx)) rfl ?_;refine bu rfl rfl rfl (λ _=>rfl) λ p10=>?_;refine aB 0 rfl [] rfl ?_;refine ai ?_;refine ad (aa (ah [] rfl ?_));refine ab [] (v:=.int .i64 x.2.2) (af 0 rfl) rfl ?_;refine bC rfl rfl rfl rfl rfl rfl rfl (λ _=>rfl) λ g0=>?_;refine fk 1 1 (by rfl) (by decide) ?_;refine ae [] rfl ?_;refine ad (aa (ae [] rfl ?_));refine ad (ad (aa (ah [] rfl ?_)));refine ab [] (v:=.slice x.2.1.A x.2.1.l.length x.2.1.c) (af 1 rfl) rfl ?_;refine ae [] rfl ?_;refine av ?_
  refine b8 (σ:=Nat×Int×OA×Nat) (λ s=>[(36,.int .i64 s.1),(35,.int .i64 x.2.1.l.length),(34,.slice x.2.1.A x.2.1.l.length x.2.1.c),(12,.int .i64 s.2.1),(11,.slice s.2.2.1 (x.2.2::(x.2.1.l.take s.1).map (ij N)).length s.2.2.2),(10,.pointer (some ⟨p10,0,none⟩)),(26,.int .i64 j),(25,.int .i64 its.length),(24,.slice (some ⟨gI,0,none⟩) its.length ci),(8,.pointer (some ⟨p8,0,none⟩)),(2,.pointer (some ⟨p,0,none⟩))])
   (λ s=>[.own (.slice s.2.2.1 (x.2.2::(x.2.1.l.take s.1).map (ij N)).length s.2.2.2) 2 1 (x.2.2::(x.2.1.l.take s.1).map (ij N)).length (ay (x.2.2::(x.2.1.l.take s.1).map (ij N))),blk p10 235 [.int .u8 x.1,.slice x.2.1.A x.2.1.l.length x.2.1.c,.int .i64 x.2.2],aV 3 x.2.1,blk p8 129 [pv,.slice Ab (c9 N ((its.take j).map d8)).length cb],.own (.slice Ab (c9 N ((its.take j).map d8)).length cb) 5 1 (c9 N ((its.take j).map d8)).length (byteCells (c9 N ((its.take j).map d8))),.own (.slice (some ⟨gI,0,none⟩) its.length ci) 235 3 its.length (mR its),blk p 33 (bJ N A c),.seg b o (arcs N.arcs),.tab 0 V.oM,.tab 3 V.oP,.tab 5 V.oE]++(its.map λ x=>aV 3 x.2.1).eraseIdx j)
   (λ s=>s.1<=x.2.1.l.length/\(0<s.1->s.2.1=yT N ((x.2.1.l.take s.1).getLastD 0))) (λ s=>x.2.1.l.length-s.1) (0,0,some ⟨g0,0,none⟩,1) ⟨rfl,rfl,rfl,rfl,rfl,rfl,rfl,rfl,rfl,rfl,rfl,an⟩ aF.refl ⟨GI _,λ h=>absurd h (Nat.lt_irrefl _)⟩ ?_
  rintro⟨t,last,An,cn⟩ ⟨ht,hlast⟩;simp only at ht hlast ⊢;have hnl:(x.2.2::(x.2.1.l.take t).map (ij N)).length=t+1:=by rw[GG,GH,G2];omega
  refine ad (aa (ae [] rfl ?_));refine ad (aC rfl (λ hlt2=>aq ?_) (λ hge2=>a9 ?_))
  ·have hlt2:t<x.2.1.l.length:=by omega
   obtain⟨e,he⟩:∃ e,x.2.1.l[t]?=some e:=⟨x.2.1.l[t],Gy hlt2⟩;obtain⟨i,a,rfl,ha,hil,hfr,hto,_⟩:=DT (hxr e (GB he));obtain rfl:=hA (by rintro h0;rw[h0] at hil;simp at hil);obtain⟨q0,q1,q2⟩:=eg ha;have hlt3:=r5 he;refine ad (av ?_);refine ad (aa (ah [] rfl ?_));refine ab [] (oF (b:=gr) rfl (by rw[<- hrA];rfl) rfl rfl rfl hlt2) rfl ?_;refine ab [] (v:=.int .i64 (i:Int)) (dz 2 rfl (show _=some (Value.pointer (some ⟨gr,0+t,none⟩)) by rw[G6];rfl) rfl (aL (A:=x.2.1.A) hgr) (bi he)) rfl ?_;refine ae [] rfl ?_;refine bq 17 (cY [0,1,2,3,4,5,6,9,10,11,12,13,14]++[(7,false),(8,false)]++cY [15,16]) [1,2,3,4,5,6,7,8,9,10] (by kernel_rfl) (by decide) rfl ?_;refine az [] rfl ?_;refine aj [] (v:=.slice (some ⟨b,o,none⟩) N.arcs.length c) rfl (af 5 rfl) rfl ?_;refine az [] rfl ?_;refine aj [] rfl (eo rfl hil) rfl ?_;refine az [] rfl ?_;refine aj [] (v:=.int .i64 a.fr) rfl (ff 6 rfl rfl rfl (Hh _ _ _) q0) rfl ?_;refine az [] rfl ?_;refine aj [] (v:=.slice (some ⟨b,o,none⟩) N.arcs.length c) rfl (af 5 rfl) rfl ?_;refine az [] rfl ?_;refine aj [] rfl (eo rfl hil) rfl ?_;refine az [] rfl ?_;refine aj [] (v:=.int .i64 a.to) rfl (ff 6 rfl rfl rfl (Hh _ _ _) q1) rfl ?_;refine aY rfl ?_;refine bC rfl rfl rfl rfl rfl rfl rfl (λ _=>rfl) λ g2=>?_;refine ai ⟨⟨[2,3,4,5,6,7,8,9,10,11],by decide,rfl⟩,?_⟩;refine aY rfl ?_;refine bn (n:=(x.2.2::(x.2.1.l.take t).map (ij N)).length) (m:=1) (off:=0) (news:=ay [a.fr]) 1 0 rfl rfl rfl rfl rfl rfl (by decide) rfl rfl (aD g2 _ _ (0,0)) (λ _=>rfl) rfl rfl (by omega) (by omega) (λ _ _=>rfl) λ A3 c3=>?_;refine ai ⟨⟨[2,3,4,5,6,7,8,9,10,11],by decide,rfl⟩,?_⟩;refine az [] rfl ?_;refine bp ?_;refine ai ?_;refine aa (ae [] rfl ?_);have htk:x.2.2::(x.2.1.l.take (t+1)).map (ij N)=(x.2.2::(x.2.1.l.take t).map (ij N))++[a.fr]:=by rw[GW,he];simp[hfr]
   refine⟨(t+1,a.to,A3,c3),⟨Gz (λ z=>some (Value.int .i64 z)) (b5 (by omega)),rfl,rfl,rfl,?_,rfl,rfl,rfl,rfl,rfl,rfl,an⟩,?_,⟨by simp only;omega,λ _=>by simp only;rw[hlt3,hto]⟩,by simp only;omega⟩
   ·simp only[htk];rw[GE];rfl
   ·simp only[htk];rw[GE,show ay ((x.2.2::(x.2.1.l.take t).map (ij N))++[a.fr])=ay (x.2.2::(x.2.1.l.take t).map (ij N))++ay [a.fr] by simp[ay]];exact aF.sub (Hg _ _)
  obtain rfl:t=x.2.1.l.length:=by omega
  have hlast:=hlast (Hj.2 hxne);rw[G8] at*;have hnn:(x.2.2::x.2.1.l.map (ij N)).length=x.2.1.l.length+1:=hnl;refine ad (aa (ah [] rfl ?_));refine ab [] (v:=.int .u8 x.1) (af 1 rfl) rfl ?_;refine ae [] rfl ?_;refine av (ad (aa (ae [] rfl ?_)));by_cases k1:x.1=112
  ·refine eP 60 rfl k1 ?_;refine bh rfl ?_;have eN:dV N (d8 x)=(x.2.2::x.2.1.l.map (ij N))++[last]:=by unfold dV d8;simp only;rw[if_pos (.inl k1),hlast]
   have eT:jt N (d8 x)=hQ [112,97,116,104] (dV N (d8 x)):=by unfold jt;rw[show kj (d8 x).1=[112,97,116,104] by unfold kj d8;simp only;rw[if_pos k1]]
   refine aa (ah [] rfl ?_);refine bC rfl rfl rfl rfl rfl rfl rfl (λ _=>rfl) λ g5=>?_;refine bn (n:=(x.2.2::x.2.1.l.map (ij N)).length) (m:=1) (off:=0) (news:=ay [last]) 1 0 rfl rfl rfl rfl rfl rfl (by decide) rfl rfl (aD g5 _ _ (0,0)) (λ _=>rfl) rfl rfl (by omega) (by omega) (λ _ _=>rfl) λ A5 c5=>?_;rw[show (x.2.2::x.2.1.l.map (ij N)).length+1=(dV N (d8 x)).length by rw[eN,GE];rfl,show ay (x.2.2::x.2.1.l.map (ij N))++ay [last]=ay (dV N (d8 x)) by rw[eN];simp[ay]];refine eL (a8 1 rfl) λ ⟨_,_,hn0,hnl0⟩=>?_;obtain⟨gn,hgn⟩:=bQ hn0 hnl0
   refine aw (fst:=[]) (cap:=[]) [] (qm V p8 pv hpv Ab cb (c9 N ((its.take j).map d8)) [112,97,116,104] (by decide) (dV N (d8 x)) hin (by omega) (by omega) A5 _ c5 gn 0 (fun h=>hgn (by rw[ne_eq,qt];exact h)) rfl) rfl rfl rfl rfl (by kernel_rfl)
    (K:=[.own (.slice A5 (dV N (d8 x)).length c5) 2 1 (dV N (d8 x)).length (ay (dV N (d8 x))),aV 3 x.2.1,.own (.slice (some ⟨gI,0,none⟩) its.length ci) 235 3 its.length (mR its),blk p 33 (bJ N A c),.seg b o (arcs N.arcs),.tab 0 V.oM,.tab 3 V.oP,.tab 5 V.oE]++(its.map λ x=>aV 3 x.2.1).eraseIdx j)
    (aF.re (A:=[_,_,_,_,_,_,_,_,_,_,_,_]) [4,5,1,3,6,7,8,9,10,11] rfl (by decide)) ⟨⟨0,_,by simp,rfl,aL hgn,a7 hgn⟩,⟨5,by simp,rfl⟩,⟨6,by simp,rfl⟩,⟨7,by simp,rfl⟩,an⟩ (λ _=>rfl) ?_
   rintro v H' ⟨A6,c6,rfl⟩;refine⟨rfl,?_⟩;rw[<- eT,<- htj];refine ai ?_;refine aa (ae [] rfl ?_);refine⟨(j+1,.pointer (some ⟨p8,0,none⟩),A6,c6),⟨Gz (λ z=>some (Value.int .i64 z)) (b5 (by omega)),rfl,rfl,rfl,rfl,an⟩,?_,⟨by simp only;omega,.inr rfl,λ h=>absurd h (by simp only;omega)⟩,by simp only;omega⟩;exact aF.trans (aF.re (A:=[_,_,_,_,_,_,_,_,_,_]) [3,0,1,4,5,6,7,8,9] rfl (by decide)) (aF.unfront (A:=[_,_,_,_,_,_,_,_]) hrow)
  refine eu 60 rfl k1 ?_;refine bG rfl ?_;refine ad (aa (ae [] rfl ?_));by_cases k2:x.1=98
  ·refine eP 67 rfl k2 ?_;refine bh rfl ?_;have eN:dV N (d8 x)=(x.2.2::x.2.1.l.map (ij N))++[last]:=by unfold dV d8;simp only;rw[if_pos (.inr k2),hlast]
   have eT:jt N (d8 x)=hQ [98,97,99,107] (dV N (d8 x)):=by unfold jt;rw[show kj (d8 x).1=[98,97,99,107] by unfold kj d8;simp only;rw[if_neg k1,if_pos k2]]
   refine aa (ah [] rfl ?_);refine bC rfl rfl rfl rfl rfl rfl rfl (λ _=>rfl) λ g5=>?_;refine bn (n:=(x.2.2::x.2.1.l.map (ij N)).length) (m:=1) (off:=0) (news:=ay [last]) 1 0 rfl rfl rfl rfl rfl rfl (by decide) rfl rfl (aD g5 _ _ (0,0)) (λ _=>rfl) rfl rfl (by omega) (by omega) (λ _ _=>rfl) λ A5 c5=>?_;rw[show (x.2.2::x.2.1.l.map (ij N)).length+1=(dV N (d8 x)).length by rw[eN,GE];rfl,show ay (x.2.2::x.2.1.l.map (ij N))++ay [last]=ay (dV N (d8 x)) by rw[eN];simp[ay]];refine eL (a8 1 rfl) λ ⟨_,_,hn0,hnl0⟩=>?_;obtain⟨gn,hgn⟩:=bQ hn0 hnl0
   refine aw (fst:=[]) (cap:=[]) [] (qm V p8 pv hpv Ab cb (c9 N ((its.take j).map d8)) [98,97,99,107] (by decide) (dV N (d8 x)) hin (by omega) (by omega) A5 _ c5 gn 0 (fun h=>hgn (by rw[ne_eq,qt];exact h)) rfl) rfl rfl rfl rfl (by kernel_rfl)
    (K:=[.own (.slice A5 (dV N (d8 x)).length c5) 2 1 (dV N (d8 x)).length (ay (dV N (d8 x))),aV 3 x.2.1,.own (.slice (some ⟨gI,0,none⟩) its.length ci) 235 3 its.length (mR its),blk p 33 (bJ N A c),.seg b o (arcs N.arcs),.tab 0 V.oM,.tab 3 V.oP,.tab 5 V.oE]++(its.map λ x=>aV 3 x.2.1).eraseIdx j)
    (aF.re (A:=[_,_,_,_,_,_,_,_,_,_,_,_]) [4,5,1,3,6,7,8,9,10,11] rfl (by decide)) ⟨⟨0,_,by simp,rfl,aL hgn,a7 hgn⟩,⟨5,by simp,rfl⟩,⟨6,by simp,rfl⟩,⟨7,by simp,rfl⟩,an⟩ (λ _=>rfl) ?_
   rintro v H' ⟨A6,c6,rfl⟩;refine⟨rfl,?_⟩;rw[<- eT,<- htj];refine ai ?_;refine aa (ae [] rfl ?_);refine⟨(j+1,.pointer (some ⟨p8,0,none⟩),A6,c6),⟨Gz (λ z=>some (Value.int .i64 z)) (b5 (by omega)),rfl,rfl,rfl,rfl,an⟩,?_,⟨by simp only;omega,.inr rfl,λ h=>absurd h (by simp only;omega)⟩,by simp only;omega⟩;exact aF.trans (aF.re (A:=[_,_,_,_,_,_,_,_,_,_]) [3,0,1,4,5,6,7,8,9] rfl (by decide)) (aF.unfront (A:=[_,_,_,_,_,_,_,_]) hrow)
  refine eu 67 rfl k2 ?_;refine bG rfl ?_;have eN:dV N (d8 x)=x.2.2::x.2.1.l.map (ij N):=by unfold dV d8;simp only;rw[if_neg (not_or.2 ⟨k1,k2⟩),Hc]
  have eT:jt N (d8 x)=hQ [99,121,99,108,101] (dV N (d8 x)):=by unfold jt;rw[show kj (d8 x).1=[99,121,99,108,101] by unfold kj d8;simp only;rw[if_neg k1,if_neg k2]]
  rw[<- eN];refine aa (ah [] rfl ?_);refine eL (a8 0 rfl) λ ⟨_,_,hn0,hnl0⟩=>?_;obtain⟨gn,hgn⟩:=bQ hn0 hnl0
  refine aw (fst:=[]) (cap:=[]) [] (qm V p8 pv hpv Ab cb (c9 N ((its.take j).map d8)) [99,121,99,108,101] (by decide) (dV N (d8 x)) hin (by omega) (by omega) An _ cn gn 0 (fun h=>hgn (by rw[ne_eq,qt];exact h)) rfl) rfl rfl rfl rfl (by kernel_rfl)
   (K:=[.own (.slice An (dV N (d8 x)).length cn) 2 1 (dV N (d8 x)).length (ay (dV N (d8 x))),aV 3 x.2.1,.own (.slice (some ⟨gI,0,none⟩) its.length ci) 235 3 its.length (mR its),blk p 33 (bJ N A c),.seg b o (arcs N.arcs),.tab 0 V.oM,.tab 3 V.oP,.tab 5 V.oE]++(its.map λ x=>aV 3 x.2.1).eraseIdx j)
   (aF.re (A:=[_,_,_,_,_,_,_,_,_,_,_]) [3,4,0,2,5,6,7,8,9,10] rfl (by decide)) ⟨⟨0,_,by simp,rfl,aL hgn,a7 hgn⟩,⟨5,by simp,rfl⟩,⟨6,by simp,rfl⟩,⟨7,by simp,rfl⟩,an⟩ (λ _=>rfl) ?_
  rintro v H' ⟨A6,c6,rfl⟩;refine⟨rfl,?_⟩;rw[<- eT,<- htj];refine ai ?_;refine aa (ae [] rfl ?_);refine⟨(j+1,.pointer (some ⟨p8,0,none⟩),A6,c6),⟨Gz (λ z=>some (Value.int .i64 z)) (b5 (by omega)),rfl,rfl,rfl,rfl,an⟩,?_,⟨by simp only;omega,.inr rfl,λ h=>absurd h (by simp only;omega)⟩,by simp only;omega⟩;exact aF.trans (aF.re (A:=[_,_,_,_,_,_,_,_,_,_]) [3,0,1,4,5,6,7,8,9] rfl (by decide)) (aF.unfront (A:=[_,_,_,_,_,_,_,_]) hrow)
 obtain rfl:j=its.length:=by omega
 rw[G8];refine ad (aa (ah [] rfl ?_));by_cases h0:its=[]
 ·subst h0;obtain⟨rfl,rfl⟩:=hb0 rfl;refine aw (fst:=[]) (cap:=[]) [] (Ba 129 p8 pv) rfl rfl rfl rfl (by kernel_rfl) (K:=[.own (.slice I 0 ci) 235 3 0 (mR [])]) (aF.picks [0,1,2] (by decide) rfl) an (λ _=>rfl) ?_;rintro v H' ⟨rfl,rfl⟩;refine⟨rfl,?_⟩;refine ae [] rfl ?_;refine ax ⟨_,rfl,?_,rfl⟩;unfold pH;rw[if_pos hz,hz];rfl
 ·refine aw (fst:=[]) (cap:=[]) [] (BD 129 p8 pv Ab cb (c9 N (its.map d8)) (yP N (by simpa using h0))) rfl rfl rfl rfl (by kernel_rfl) (K:=lF I ci its) (aF.re (A:=[_,_,_,_,_,_,_,_]) [0,1,2] rfl (by decide)) an (λ _=>rfl) ?_;rintro v H' ⟨rfl,rfl⟩;refine⟨rfl,?_⟩;refine ae [] rfl ?_;refine ax ⟨_,rfl,?_,rfl⟩;unfold pH;rw[if_pos hz,hz];rfl
open Lib
def dA(pp p:Nat)(m:cF)(t:cR):Heap:=[blk pp 80 [.pointer (some ⟨p,0,none⟩),dK t]]++eO p m
def fV(pp p:Nat)(m:cF)(t:cR)(ba bf bs:Nat):Heap:=[.seg pp 0 [.pointer (some ⟨p,0,none⟩),dK t]]++fj p m ba bf bs
def zK(pp p:Nat)(R:List cR->du->cR->Prop)(v:Value)(H':Heap):Prop:=∃ (o:List cR) (m':cF) (t':cR) (A:OA) (c:Nat),R o m'.sta t'/\v=.slice A o.length c/\H'=[EB A c o]++dA pp p m' t'
def z4:cR:=[108,111,97,100]
set_option maxHeartbeats 1000000 in
theorem AV(V:cj)(pp p:Nat)(m:cF)(t:cR)(ht:t.length<=9999999):
 Fn 102 [.pointer (some ⟨pp,0,none⟩)] (aJ (dA pp p m t)) (V.heap++dA pp p m t) (zK pp p (fd m.sta t z4)):=by
 have hpc:=vE t
 generalize hM:aJ _=M
 refine aH Tryz.func102 rfl rfl λ w0=>?_;refine ad (aa (ae [] rfl ?_));refine ad ?_;refine eK 14 [0,1,2,3,4,5,6,7] 8 (cY [9,10,11,12,13]) (by kernel_rfl) ?_
 (repeat' (first|refine ep (gs:=[999]) rfl rfl ?_|refine bA [999] (v:=.pointer (some ⟨p,0,none⟩)) rfl rfl (af 3 rfl) rfl ?_|refine bA [999] (v:=dK t) rfl rfl (af 3 rfl) rfl ?_))
 refine dZ rfl ?_;refine aw (fst:=[]) (cap:=[]) [] (DX V p m t ht) rfl rfl rfl rfl (by kernel_rfl) (K:=V.heap++[blk pp 80 [.pointer (some ⟨p,0,none⟩),dK t]]) (aF.picks [4,5,6,7,0,1,2,3] (by decide) rfl) ⟨⟨0,by simp,rfl⟩,⟨1,by simp,rfl⟩,⟨2,by simp,rfl⟩,an⟩ (λ _=>rfl) ?_;rintro v H' (⟨hz,rfl,rfl⟩|⟨hz,A2,c2,rfl,rfl⟩)
 ·refine⟨rfl,?_⟩;refine ai ⟨⟨[],by decide,rfl⟩,?_⟩;refine az [] rfl ?_;refine bp ?_;refine ai ?_;refine ad (aa (ah [] rfl ?_));refine aB 7 rfl [] rfl ?_;refine ai ?_;refine ad (ad (aa (ae [] rfl ?_)));refine aC rfl (λ _=>?_) (λ h=>absurd hz h);obtain⟨_,hl1,hl2⟩:=xT hz;have hl3:=uL t;have hw1:=CS [108,105,110,101] (by decide) (n:=((bW t).2.1:Int)) (by unfold bU;omega);have hw2:=DY hpc;refine ad (aa (ah [] rfl ?_));refine bC rfl rfl rfl rfl rfl rfl rfl (λ _=>rfl) λ g=>?_;refine ao [] (sp V [108,105,110,101] (by decide) [((bW t).2.1:Int)] (λ x hx=>by rw[GF.1 hx];unfold bU;omega) (by simp) (some ⟨g,0,none⟩) 1 1 g 0 (λ _=>rfl) rfl) rfl (by kernel_rfl) ⟨⟨0,_,by simp,rfl,aD _ _ _ (0,0),.inr rfl⟩,⟨5,by simp,rfl⟩,⟨6,by simp,rfl⟩,⟨7,by simp,rfl⟩,an⟩ (λ _=>rfl) ?_;rintro v H' ⟨rfl,rfl⟩;refine⟨rfl,?_⟩;refine ab [] (gi (l:=fH [108,105,110,101] [((bW t).2.1:Int)]) (m:=[32]) rfl rfl rfl (by simp;omega)) rfl ?_;refine ah [] rfl ?_;refine bC rfl rfl rfl rfl rfl rfl rfl (λ _=>rfl) λ g2=>?_;refine ao [] (sp V sy (by decide) [(bW t).2.2] (λ x hx=>by rw[GF.1 hx];exact hpc.inB) (by simp) (some ⟨g2,0,none⟩) 1 1 g2 0 (λ _=>rfl) rfl) rfl (by kernel_rfl) ⟨⟨0,_,by simp,rfl,aD _ _ _ (0,0),.inr rfl⟩,⟨6,by simp,rfl⟩,⟨7,by simp,rfl⟩,⟨8,by simp,rfl⟩,an⟩ (λ _=>rfl) ?_;rintro v H' ⟨rfl,rfl⟩;refine⟨rfl,?_⟩;refine ab [] (gi (l:=fH [108,105,110,101] [((bW t).2.1:Int)]++[32]) (m:=fH sy [(bW t).2.2]) rfl rfl rfl (by simp;omega)) rfl ?_;refine bC rfl rfl rfl rfl rfl rfl rfl (λ _=>rfl) λ g3=>?_;refine fk 1 1 (by rfl) (by decide) ?_;refine ae [] rfl ?_;refine aA [0,10,3,4,5,6] (by decide) rfl (ax ⟨_,rfl,[fH [108,105,110,101] [((bW t).2.1:Int)]++[32]++fH sy [(bW t).2.2]],m,[],some ⟨g3,0,none⟩,1,?_,rfl,rfl⟩);unfold fd;rw[if_pos (show z4=[108,111,97,100] from rfl)];exact⟨rfl,.inl ⟨hz,rfl,rfl⟩⟩
 ·refine⟨rfl,?_⟩;refine ai ⟨⟨[],by decide,rfl⟩,?_⟩;refine az [] rfl ?_;refine bp ?_;refine ai ?_;refine ad (aa (ah [] rfl ?_));refine aB 7 rfl [] rfl ?_;refine ai ?_;refine ad (ad (aa (ae [] rfl ?_)));refine aC rfl (λ h=>absurd rfl h) (λ _=>aq ?_);refine ad (aa (ah [] rfl ?_));refine bC rfl rfl rfl rfl rfl rfl rfl (λ _=>rfl) λ g3=>?_;refine fk 1 1 (by rfl) (by decide) ?_;refine ae [] rfl ?_;refine aA [0,8,1,2,3,4] (by decide) rfl (ax ⟨_,rfl,w5,m.load (bW t).1 A2 c2,[],some ⟨g3,0,none⟩,1,?_,rfl,rfl⟩);unfold fd;rw[if_pos (show z4=[108,111,97,100] from rfl)];exact⟨rfl,.inr ⟨hz,rfl,rfl⟩⟩
open Lib
theorem jO:∀ (l cur:LU),∀ x∈b9 cur l,x≠[]
 |[],cur,x,hx=>by
  unfold b9 at hx;split at hx
  ·exact absurd hx GV
  ·rename_i h;rw[GF.1 hx];exact h
 |b::l,cur,x,hx=>by
  unfold b9 at hx;split at hx
  ·split at hx
   ·exact jO l [] x hx
   ·rename_i h
    rcases GL.1 hx with rfl|hx
    ·exact h
    ·exact jO l [] x hx
  ·exact jO l _ x hx
structure zd where
 A:OA
 c:Nat
 l:List cR
def Fs(r:zd):Value:=.slice r.A r.l.length r.c
def Cr(r:zd):aR:=EB r.A r.c r.l
def wn:zd:=⟨none,0,[]⟩
theorem aF.nilsT{X:Cx}{H:Heap}:∀ n:Nat,aF X H (H++(List.replicate n wn).map Cr)
 |0=>by simp;exact aF.refl
 |n+1=>λ w h=>by
  have h1:=(aF.nilsT n w h).addnil 9 1;refine h1.perm ?_;rw[HE,GM];exact List.perm_middle.symm
def BY(A:OA)(c:Nat)(rows:List zd):Heap:=[.own (.slice A rows.length c) 22 1 rows.length (rows.map Fs)]++rows.map Cr
theorem yj(V:cj)(l:cR)(hl:l.length<4294967281):Fn 34 [dK l] [] V.heap λ v H'=>∃ (A:OA),v=.tuple #[.slice A (aP l).length (aP l).length,.bool (dk (l.length<=20000/\(aP l).length<=300))]/\H'=[.own (.slice A (aP l).length (aP l).length) 9 1 (aP l).length (cO (aP l))]:=by
 refine aH Tryz.func34 rfl rfl λ w0=>?_;refine ad (aa (ae [] rfl ?_));refine ad (aa (ah [] rfl ?_));refine ao [] (pY V l hl) rfl (by kernel_rfl) ⟨⟨0,by simp[cj.heap],rfl⟩,⟨1,by simp[cj.heap],rfl⟩,⟨2,by simp[cj.heap],rfl⟩,an⟩ (λ _=>rfl) ?_;rintro v H' ⟨A,n,hn,rfl,rfl⟩;subst hn;refine⟨rfl,?_⟩;refine ae [] rfl ?_;refine ad (aa (ah [] rfl ?_));by_cases h1:l.length<=20000
 ·refine bj 11 rfl (by rw[cP];omega) ?_;refine ah [4] rfl ?_;refine ai (aA [0] (by decide) rfl (ax ⟨_,rfl,A,?_,rfl⟩));exact Gz (λ z=>Value.tuple #[.slice A (aP l).length (aP l).length,.bool z]) (em ⟨λ h=>⟨h1,by omega⟩,λ h=>by have:=h.2;omega⟩)
 ·refine bd 11 rfl (by rw[cP];omega) ?_;refine ah [4] rfl ?_;refine ai (aA [0] (by decide) rfl (ax ⟨_,rfl,A,?_,rfl⟩));exact Gz (λ z=>Value.tuple #[.slice A (aP l).length (aP l).length,.bool z]) (aZ (λ h=>h1 h.1)).symm
def FD(V:cj)(Lk:cR->Prop):Prop:=∀ (pp p:Nat) (m:cF) (t line w:cR) (T:Ws) (cb bb ob:Nat),m.sta.OK->Lk line->line.length<=3000->t.length<=9999999->bw line=w::T->w.head?≠some 35->T.length+1<=cb->
 Fn 36 [.pointer (some ⟨pp,0,none⟩),dK line,.slice (some ⟨bb,ob,none⟩) (T.length+1) cb] (aJ (dA pp p m t)) ([.seg bb ob (cO (w::T))]++V.heap++dA pp p m t) (zK pp p (sw m.sta t line w T))
def D9(s:cR)(v:Value)(H':Heap):Prop:=∃ (rows:List zd) (A:OA) (c:Nat),(s.length<=20000->(aP s).length<=300->∃ q t,iU zw [] (aP s) (rows.map (·.l)) q t)/\(¬ (s.length<=20000/\(aP s).length<=300)->rows=[])/\v=.slice A rows.length c/\H'=BY A c rows
set_option maxHeartbeats 2000000 in
theorem By(V:cj){Lk:cR->Prop}(hdo:FD V Lk)(s:cR)(hs:s.length<4294967281)(hL:s.length<=20000->(aP s).length<=300->∀ l∈aP s,Lk l/\l.length<=3000):Fn 9 [dK s] [] V.heap (D9 s):=by
 refine aH Tryz.func9 rfl rfl λ w0=>?_;refine ad (aa (ae [] rfl ?_));refine ad (aa (ah [] rfl ?_));refine ao [] (yj V s hs) rfl (by kernel_rfl) ⟨⟨0,by simp[cj.heap],rfl⟩,⟨1,by simp[cj.heap],rfl⟩,⟨2,by simp[cj.heap],rfl⟩,an⟩ (λ _=>rfl) ?_;rintro v H' ⟨Al,rfl,rfl⟩;refine⟨rfl,?_⟩;refine ae [] rfl ?_;by_cases hok:s.length<=20000/\(aP s).length<=300
 case neg=>
  rw[aZ hok];refine ad (ad (aa (ae [] rfl ?_)));refine bh rfl ?_;refine ad (aa (ae [] rfl ?_));refine cd 22 1 ?_;exact aA [0] (by decide) rfl (ax ⟨_,rfl,[],none,0,λ h1 h2=>absurd ⟨h1,h2⟩ hok,λ _=>rfl,rfl,rfl⟩)
 rw[aT hok];have hLL:=hL hok.1 hok.2;obtain⟨B,hB⟩:∃ B,B=3001:=⟨_,rfl⟩;obtain⟨ls,hls⟩:∃ ls,ls=aP s:=⟨_,rfl⟩;have hl300:ls.length<=300:=by rw[hls];exact hok.2
 rw[<- hls] at hLL ⊢;refine ad (ad (aa (ae [] rfl ?_)));refine bG rfl (aq ?_);refine ad (aa (ah [] rfl ?_));refine cL [] Dm rfl rfl rfl rfl (by kernel_rfl) an (λ _=>rfl) ?_;rintro v H' ⟨p,rfl,rfl⟩;refine⟨rfl,?_⟩;refine ab [] (be rfl rfl rfl rfl rfl rfl) rfl ?_;refine bz (cs:=[.pointer (some ⟨p,0,none⟩),dK []]) rfl rfl rfl (λ _=>rfl) λ pp=>?_;refine ae [] rfl ?_;refine bv (a8 2 rfl) λ ⟨_,_,hAl0,hAll⟩=>?_;refine ad (aa (ah [] rfl ?_));refine di (n:=ls.length) (c:=ls.length) rfl rfl rfl rfl rfl rfl (by omega) (by omega) (by omega) (λ _=>rfl) λ go=>?_;rw[show made [Value.slice none 0 0] (ls.length*1)=(List.replicate ls.length wn).map Fs by rw[dm,Hf,HY];rfl];refine ae [] rfl ?_;refine ad (ad (aa (ae [] rfl ?_)));refine av ?_;refine cd 3 1 ?_;refine cd 2 1 ?_;refine cd 37 3 ?_;refine bH (K:=[.own (.slice (some ⟨go,0,none⟩) ls.length ls.length) 22 1 ls.length ((List.replicate ls.length wn).map Fs),.own (.slice Al ls.length ls.length) 9 1 ls.length (cO ls)]++(V.heap++dA pp p C6 [])) (aF.picks [3,6,7,8,9,4,5,0,1,2] (by decide) rfl) ?_;refine bH (aF.nilsT ls.length) ?_
 refine b8 (σ:=Nat×List zd×cF×cR) (λ q=>[(25,.int .i64 q.1),(24,.int .i64 ls.length),(23,.slice Al ls.length ls.length),(6,.slice (some ⟨go,0,none⟩) ls.length ls.length),(5,.pointer (some ⟨pp,0,none⟩))])
  (λ q=>([.own (.slice (some ⟨go,0,none⟩) ls.length ls.length) 22 1 ls.length (q.2.1.map Fs),.own (.slice Al ls.length ls.length) 9 1 ls.length (cO ls)]++(V.heap++dA pp p q.2.2.1 q.2.2.2))++q.2.1.map Cr)
  (λ q=>q.1<=ls.length/\q.2.1.length=ls.length/\(∀ j,q.1<=j->j<ls.length->q.2.1[j]?=some wn)/\iU zw [] (ls.take q.1) ((q.2.1.take q.1).map (·.l)) q.2.2.1.sta q.2.2.2/\q.2.2.1.sta.OK/\q.2.2.2.length<=q.1*B) (λ q=>ls.length-q.1)
  (0,List.replicate ls.length wn,C6,[]) ⟨rfl,rfl,rfl,rfl,rfl,an⟩ aF.refl ⟨GI _,by simp,λ j _ hj=>by rw[GU,if_pos hj],⟨rfl,rfl,rfl⟩,C8,by simp⟩ ?_
 rintro⟨k,rows,m,t⟩ ⟨hk,hrl,hnil,htr,hm,ht⟩;simp only at hk hrl hnil htr hm ht ⊢;refine ad (aa (ae [] rfl ?_));refine ad (aC rfl (λ hlt=>aq ?_) (λ hge=>a9 ?_))
 ·have hlt:k<ls.length:=by omega
  obtain⟨x,hx⟩:∃ x,ls[k]?=some x:=⟨ls[k],Gy hlt⟩;obtain⟨hLx,hxl⟩:=hLL x (GB hx);obtain⟨gl,rfl⟩:=hAl0 (by omega);have hrk:=hnil k (GN _) hlt;have hwl:=na x;have hB0:(k+1)*B=k*B+B:=Nat.succ_mul k B;have hB1:t.length<=(k+1)*B:=by omega
  have hB2:k*B<=300*B:=HB B (by omega);have htk:ls.take (k+1)=ls.take k++[x]:=by rw[GW,hx];rfl
  have hkl:k<rows.length:=by omega
  refine ad (av ?_);refine ad (aa (ah [] rfl ?_));refine ab [] (aG rfl hlt) rfl ?_;refine ab [] (aE 1 rfl rfl rfl (fq hx)) rfl ?_;refine ae [] rfl ?_;refine ad (aa (ah [] rfl ?_));refine ao [] (uA x (by omega)) rfl (by kernel_rfl) an (λ _=>rfl) ?_;rintro v H' ⟨Aw,n,hn,rfl,rfl⟩;subst hn;refine⟨rfl,?_⟩;refine ae [] rfl ?_;have hq0:(rows.take (k+1)).map (·.l)=(rows.take k).map (·.l)++[[]]:=by rw[GW,hrk,G5];rfl
  have hstay:dW m.sta t x [] m.sta t->iU zw [] (ls.take (k+1)) ((rows.take (k+1)).map (·.l)) m.sta t:=λ h=>by
   rw[htk,hq0];exact qo htr h
  cases hw:bw x with
  |nil=>
   refine ad (aa (ah [] rfl ?_));refine bd 35 rfl (by decide) ?_;refine ah [3] rfl ?_;refine ai ?_;refine bG rfl (aq ?_);refine aa (ae [] rfl ?_);refine⟨(k+1,rows,m,t),⟨Gz (λ z=>some (Value.int .i64 z)) (b5 (by omega)),rfl,rfl,rfl,rfl,an⟩,aF.sub (Hg _ _),⟨by simp only;omega,hrl,λ j hj=>hnil j (by simp only at hj;omega),hstay ?_,hm,hB1⟩,by simp only;omega⟩;unfold dW;rw[hw];exact⟨rfl,rfl,rfl⟩
  |cons w T=>
   have hne:=jO x [] w (by show w∈bw x;rw[hw];simp);have hwe:=me x;rw[hw] at hwe hwl;simp only[GG] at hwl
   obtain⟨b,w',rfl⟩:∃ b w',w=b::w':=by
    cases w with
    |nil=>exact absurd rfl hne
    |cons b w'=>exact⟨b,w',rfl⟩
   refine bv (a8 0 rfl) λ ⟨_,_,hAw0,_⟩=>?_;obtain⟨gw,rfl⟩:=hAw0 (by simp);refine ad (aa (ah [] rfl ?_));refine bj 35 rfl (by simp only[GG];omega) ?_;refine ah [3] rfl ?_;refine ab [3] (v:=.pointer (some ⟨gw,0,none⟩)) (aG (m:=0) rfl (by simp)) rfl ?_;refine ab [3] (v:=dK (b::w')) (aE 0 rfl rfl rfl rfl) rfl ?_;refine ab [3] (v:=.int .u8 (b.toNat:Int)) (xC (i:=0) rfl rfl rfl rfl rfl) rfl ?_;refine ah [3] rfl ?_;by_cases h35:b=35
   ·subst h35;refine bd 41 rfl (by decide) ?_;refine ai ?_;refine bG rfl (aq ?_);refine aa (ae [] rfl ?_);refine⟨(k+1,rows,m,t),⟨Gz (λ z=>some (Value.int .i64 z)) (b5 (by omega)),rfl,rfl,rfl,rfl,an⟩,aF.sub (Hg _ _),⟨by simp only;omega,hrl,λ j hj=>hnil j (by simp only at hj;omega),hstay ?_,hm,hB1⟩,by simp only;omega⟩;unfold dW;rw[hw];show (if _ then _ else _);rw[if_pos (by rfl)];exact⟨rfl,rfl,rfl⟩
   have hb:(b.toNat:Int)≠35:=λ h=>h35 (UInt8.toNat_inj.1 (show b.toNat=35 by omega));refine bj 41 rfl hb ?_;refine ai ?_;refine bh rfl ?_;have hh:(b::w').head?≠some 35:=λ h=>h35 (G4 h);have hrow:(rows.map Cr)[k]?=some (Cr wn):=by rw[GJ,hrk];rfl
   show J _ _ _ _ ([_,_,_,_,_,_,_,_,_,_,_]++rows.map Cr);refine bH (aF.front (i:=k) (c:=Cr wn) hrow) ?_;refine aa (ah [] rfl ?_)
   refine aw (fst:=[]) (cap:=[]) [] (hdo pp p m t x (b::w') T (T.length+1) gw 0 hm hLx hxl (by omega) hw hh (Nat.le_refl _)) rfl rfl rfl rfl (by kernel_rfl)
    (K:=[.own (.slice (some ⟨gw,0,none⟩) ((b::w')::T).length ((b::w')::T).length) 9 1 ((b::w')::T).length (cO ((b::w')::T)),.tab 0 V.oM,.tab 3 V.oP,.tab 5 V.oE,.own (.slice (some ⟨go,0,none⟩) ls.length ls.length) 22 1 ls.length (rows.map Fs),.own (.slice (some ⟨gl,0,none⟩) ls.length ls.length) 9 1 ls.length (cO ls)]++(rows.map Cr).eraseIdx k)
    (aF.re (A:=[_,_,_,_,_,_,_,_,_,_,_,_]) [7,8,9,10,11,1,4,5,6,2,3] rfl (by decide)) ⟨⟨0,_,by simp,rfl,cD,.inr rfl⟩,⟨1,by simp,rfl⟩,⟨2,by simp,rfl⟩,⟨3,by simp,rfl⟩,an⟩ (λ _=>rfl) ?_
   rintro v H' ⟨o,m',t',A2,c2,hR,rfl,rfl⟩;refine⟨rfl,?_⟩
   have hsl:dW m.sta t x o m'.sta t':=by
    unfold dW;rw[hw];simp only;rw[if_neg hh];exact hR
   have htx:=dW.txt hsl;refine ab [] (aG rfl hlt) rfl ?_;refine aS 10 rfl rfl rfl rfl (dC rfl rfl rfl (by rw[GH];omega)) [] rfl ?_;refine ai ?_;refine aa (ae [] rfl ?_);refine⟨(k+1,rows.set k ⟨A2,c2,o⟩,m',t'),⟨Gz (λ z=>some (Value.int .i64 z)) (b5 (by omega)),rfl,rfl,rfl,rfl,an⟩,?_,⟨by simp only;omega,by simp only[Hp];exact hrl,λ j hj hj2=>?_,?_,dW.ok hm hxl hsl,(by show t'.length<=(k+1)*B;omega)⟩,by simp only;omega⟩
   ·simp only[Iv];refine aF.trans (aF.re (A:=[_,_,_,_,_,_,_,_,_,_,_,_]) [0,10,11,7,8,9,1,2,3,4,5] rfl (by decide)) (aF.back (A:=[_,_,_,_,_,_,_,_,_,_]) (c:=Cr ⟨A2,c2,o⟩) (by rw[GH];exact hkl))
   ·simp only at hj ⊢;rw[GR (by omega)];exact hnil j (by omega) hj2
   ·simp only;rw[htk,GW,GO hkl,List.take_set_of_le (GN _)];rw[G5];exact qo htr hsl
 obtain rfl:k=ls.length:=by omega
 rw[G8] at htr;rw[Hy (by omega)] at htr;refine ad (aa (ae [] rfl ?_));show J _ _ _ _ ([_,_,_,_,_,_,_,_,_,_]++rows.map Cr);refine bH (aF.re [0] rfl (by decide)) ?_;rw[hls] at htr;refine ax ⟨_,rfl,rows,some ⟨go,0,none⟩,ls.length,λ _ _=>⟨_,_,htr⟩,λ h=>absurd hok h,by rw[hrl];rfl,?_⟩;unfold BY;rw[hrl]
open Lib
set_option maxHeartbeats 1000000 in
theorem zB(V:cj)(pp p:Nat)(m:cF)(hm:m.sta.OK)(t:cR)(ba bf bs:Nat)(hat:m.At ba bf bs):
 Fn 105 [.pointer (some ⟨pp,0,none⟩)] [] (fV pp p m t ba bf bs++V.heap) (Ey m.sta.itemsT):=by
 refine aH Tryz.func105 rfl rfl λ w0=>?_;refine ad (aa (ae [] rfl ?_));refine ad (aa (ah [] rfl ?_));refine ab [] (v:=.pointer (some ⟨p,0,none⟩)) (bc (i:=0) 0 rfl rfl rfl) rfl ?_;refine ao [] (xU m hm p ba bf bs hat) rfl (by kernel_rfl) ⟨⟨1,_,by simp[fV,fj],rfl,ak _ _ _,au⟩,⟨2,_,by simp[fV,fj],rfl,ak _ _ _,au⟩,⟨3,_,by simp[fV,fj],rfl,ak _ _ _,au⟩,⟨4,_,by simp[fV,fj],rfl,ak _ _ _,au⟩,an⟩ (λ _=>rfl) ?_;rintro v H' ⟨its,A',c',hits,rfl,rfl⟩;refine⟨lq _ _ _,?_⟩;refine bX aF.swap ?_;refine ae [] rfl ?_;refine ad (ad (aa (ae [] rfl ?_)));refine aC rfl (λ hz=>?_) (λ hz=>aq ?_)
 ·refine ad (aa (ah [] rfl ?_));refine ao [] (oX V m.sta.itemsZ.2 (m.sta.items_code).inB none 0 0) rfl (by kernel_rfl) ⟨⟨6,by simp[fV,fj],rfl⟩,⟨7,by simp[fV,fj],rfl⟩,⟨8,by simp[fV,fj],rfl⟩,trivial⟩ (fun _=>rfl) ?_;rintro v H' (⟨h0,_⟩|⟨_,A2,c2,rfl,rfl⟩)
  case inl=>exact absurd h0 hz
  refine⟨rfl,?_⟩;refine ae [] rfl ?_;refine aA [0] (by decide) rfl (ax ⟨_,rfl,?_⟩);unfold du.itemsT;rw[if_pos hz];exact⟨A2,c2,rfl,rfl⟩
 have hz0:m.sta.itemsZ.2=0:=GQ.1 hz
 have hl0:m.sta.lack [false]=0:=Hn λ h=>by
  unfold du.itemsZ at hz0;rw[if_pos h] at hz0;exact h hz0
 have ha:=mB hl0;have hR:m.N.Right:=hm.net ha;have hl00:m.sta.lack []=0:=by unfold du.lack;rw[if_neg (by rw[ha];decide),if_pos (λ c hc=>absurd hc GV)]
 have hpz:m.sta.printZ=(iK m.N,0):=by unfold du.printZ;rw[if_neg (λ h=>h hl00)];rfl
 have hpl:=xM hR;obtain⟨hi1,hi2,hi3⟩:=m.sta.items_len hm;rw[<- hits] at hi1 hi2 hi3;rw[GH] at hi2;refine ad (aa (ah [] rfl ?_));refine ab [] (v:=.pointer (some ⟨p,0,none⟩)) (bc (i:=0) 1 rfl rfl rfl) rfl ?_;refine ao [] (yB V m hm p ba bf bs hat) rfl (by kernel_rfl) ⟨⟨2,_,by simp[fV,fj],rfl,ak _ _ _,au⟩,⟨3,_,by simp[fV,fj],rfl,ak _ _ _,au⟩,⟨4,_,by simp[fV,fj],rfl,ak _ _ _,au⟩,⟨5,_,by simp[fV,fj],rfl,ak _ _ _,au⟩,⟨6,by simp[fV,fj],rfl⟩,⟨7,by simp[fV,fj],rfl⟩,⟨8,by simp[fV,fj],rfl⟩,an⟩ (λ _=>rfl) ?_;rintro v H' ⟨rfl,rfl⟩;refine⟨rfl,?_⟩;rw[hpz];refine ae [] rfl ?_;refine ad (aa (ah [] rfl ?_));have TP:=tH V (iK m.N) (by omega);rw[tS hR] at TP;refine cL [] TP rfl rfl rfl rfl (by kernel_rfl) ⟨⟨6,by simp[fV,fj],rfl⟩,⟨7,by simp[fV,fj],rfl⟩,⟨8,by simp[fV,fj],rfl⟩,an⟩ (λ _=>rfl) ?_;rintro v H' ⟨A3,c3,rfl,rfl⟩;refine⟨rfl,?_⟩;refine ah [] rfl ?_;refine bu rfl rfl rfl (λ _=>rfl) λ p7=>?_;refine aB 0 rfl [] rfl ?_;refine eL (a8 1 rfl) λ ⟨_,_,hA3,hla⟩=>?_;obtain⟨g3,hA3⟩:=bQ hA3 hla;refine ae [] rfl ?_;refine ad (aa ?_);refine ab [] (v:=bx m.N A3 c3) (af 0 rfl) rfl ?_;refine ah [] rfl ?_
 refine aw (fst:=[]) (cap:=[]) [] (yd V m.N hR.fits4 hR A3 c3 g3 0 (gQ hA3) its (fun x hx=>hi1 x (by rw[← hits] at*;exact hx)) hi2 A' c') rfl rfl rfl rfl (by kernel_rfl)
  (K:=[.own (.slice A3 m.N.arcs.length c3) 37 3 m.N.arcs.length (arcs m.N.arcs),.tab 0 V.oM,.tab 3 V.oP,.tab 5 V.oE]) ?_ ⟨⟨0,_,by simp,rfl,aL hA3,a7 hA3⟩,⟨1,by simp,rfl⟩,⟨2,by simp,rfl⟩,⟨3,by simp,rfl⟩,an⟩ (λ _=>rfl) ?_
 ·exact aF.mid (A:=[_,_,_,_,_,_,_,_,_,_,_]) [2] [1,8,9,10] rfl rfl (by decide)
 rintro v H' ⟨rfl,rfl⟩;refine⟨lq _ _ _,?_⟩;refine bX aF.swap ?_;unfold pH;refine ae [] rfl ?_;have hsc:=BW m.N (its.map d8)
 have hln:(if mu m.N (its.map d8)=0 then c9 m.N (its.map d8) else []).length<4294967281:=by
  split
  ·have:(c9 m.N (its.map d8)).length<=85000000:=hi3;omega
  ·simp
 refine ad (aa ?_);refine am (gs:=[999]) rfl ?_;refine am (gs:=[999]) rfl ?_;refine ao [] (pY V (if mu m.N (its.map d8)=0 then c9 m.N (its.map d8) else []) hln) rfl (by kernel_rfl) ⟨⟨2,by simp,rfl⟩,⟨3,by simp,rfl⟩,⟨4,by simp,rfl⟩,an⟩ (λ _=>rfl) ?_;rintro v H' ⟨Al,n,hn,rfl,rfl⟩;subst hn;refine⟨rfl,?_⟩;refine ao [] (oX V (mu m.N (its.map d8)) hsc.inB Al _ _) rfl (by kernel_rfl) ⟨⟨3,by simp,rfl⟩,⟨4,by simp,rfl⟩,⟨5,by simp,rfl⟩,an⟩ (λ _=>rfl) ?_
 have hit:m.sta.itemsT=ey (mu m.N (its.map d8)) (aP (c9 m.N (its.map d8))):=by
  unfold du.itemsT;rw[if_neg hz,<- hits];rfl
 rw[hit];rintro v H' (⟨h0,rfl,rfl⟩|⟨h0,A2,c2,rfl,rfl⟩)
 ·refine⟨rfl,?_⟩;rw[if_pos h0];refine ae [] rfl ?_;refine aA [0] (by decide) rfl (ax ⟨_,rfl,?_⟩);unfold ey;rw[if_neg (λ h=>h h0)];exact⟨Al,_,rfl,rfl⟩
 ·refine⟨rfl,?_⟩;refine ae [] rfl ?_;refine aA [0] (by decide) rfl (ax ⟨_,rfl,?_⟩);unfold ey;rw[if_pos h0];exact⟨A2,c2,rfl,rfl⟩
end Go.Proofs.YtmcnpaelaieniaaGreatDoor
