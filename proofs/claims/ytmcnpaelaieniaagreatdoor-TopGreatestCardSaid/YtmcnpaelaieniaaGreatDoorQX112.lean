import Derived.Test.YtmcnpaelaieniaaGreatDoorQX89
import Derived.Test.YtmcnpaelaieniaaGreatDoorQX109
import Derived.Test.YtmcnpaelaieniaaGreatDoorQX99
import Derived.Test.YtmcnpaelaieniaaGreatDoorQX76
/- A part of the proof; see NOTES.md. -/
set_option linter.unusedVariables false
set_option linter.unusedSimpArgs false
namespace Go.Proofs.YtmcnpaelaieniaaGreatDoor
open Go.RowKit
open Lib
section
variable {X:Cx} {E:Env} {H:Heap}
theorem CC{o:Oper}{x:Operand}{n c:Nat}{ts:Array TypeId}(ho:o.op=.call ⟨.builtin .unsafeSliceData,#[x],ts⟩)(hx:val E x=some (.slice none n c)):gz X o E H (.pointer none):=by
 intro ac w hA hH;have:=run_unsafeSliceData_nil (P:=Tryz.prog) (w:=w) ts o.type n c;simp[execOp,ho,resolve,invoke,builtin,hA.val hx,this]
theorem DO{o:Oper}{x y:Operand}{p:OA}{pt it:Nat}(ho:o.op=.call ⟨.builtin .unsafeString,#[x,y],#[pt,it]⟩)(hx:val E x=some (.pointer p))(hy:val E y=some (.int .i64 0)):gz X o E H (dF []):=by
 intro ac w hA hH;have:(Builtin.unsafeString_ #[pt,it] o.type #[.pointer p,.int .i64 0]).run Tryz.prog w=.ok (dF []) w:=run_unsafeString_none (P:=Tryz.prog) (w:=w) pt it o.type p;simp[execOp,ho,resolve,invoke,builtin,hA.val hx,hA.val hy,this]
end
theorem AQ(e b:Nat)(p:Value):Fn 55 [.pointer (some ⟨b,0,none⟩)] (aL (nU e b p none 0 [])) ([]++nU e b p none 0 []) λ v H'=>v=dF []/\H'=[]:=by
 refine aJ Tryz.func55 rfl rfl λ w0=>?_;refine ad (aa (ae [] rfl ?_));refine ad ?_;refine bu 12 (cZ [0,1,2,3,5,6,7,8,9]++[(4,false),(10,false)]++cZ [11]) [0] (by kernel_rfl) (by decide) rfl ?_;refine aB [] rfl ?_;refine aj [] (v:=.slice none 0 0) rfl (af 0 rfl) rfl ?_;refine aB [] rfl ?_;refine aj [] (v:=.slice none 0 0) rfl (af 0 rfl) rfl ?_;refine aB [] rfl ?_;refine bg rfl ?_;refine ab [] (CC rfl rfl) rfl ?_;refine ai ⟨⟨[0],by decide,rfl⟩,?_⟩;refine bg rfl ?_;refine ab [] (DO rfl rfl rfl) rfl ?_;refine ai ⟨⟨[0],by decide,rfl⟩,?_⟩;refine aB [] rfl ?_;refine bq ?_;refine ai ?_;exact az [] (by decide) rfl (ay ⟨_,rfl,rfl,rfl⟩)
theorem pW{l:LI}:ax l=[]↔l=[]:=by unfold ax;exact List.map_eq_nil_iff
theorem yw(N:aU){l:List It}(h:l≠[]):cY N l≠[]:=by
 cases l with
 |nil=>exact absurd rfl h
 |cons x r=>
  unfold cY;rw[GG,HR];unfold jy;exact λ h0=>Cd _ _ (List.append_eq_nil_iff.1 h0).1
theorem sZ{l:LI}{t:Nat}{e:Int}(h:l[t]?=some e):(l.take (t+1)).getLastD 0=e:=by
 rw[GO,h,List.getLastD_eq_getLast?,Hd];rfl
set_option maxHeartbeats 4000000 in
theorem yM(V:b5)(N:aU)(hN:N.Fits)(hR:N.Right)(A:OA)(c b o:Nat)(hA:N.arcs≠[]->A=some ⟨b,o,none⟩)(its:List zK)(hok:∀ x∈its.map d8,jp N x)(hl:its.length<=2001)(I:OA)(ci:Nat):
 Fn 131 [bp N A c,.slice I its.length ci] (aL (lO I ci its)) (([.seg b o (arcs N.arcs)]++V.heap)++lO I ci its) λ v H'=>v=pE N (its.map d8)/\H'=lO I ci its:=by
 have hl2:=hR.len
 generalize hM:aL _=M
 refine aJ Tryz.func131 rfl rfl λ w0=>?_;refine ad (aa ?_);refine bx (cs:=bI N A c) rfl rfl rfl (λ _=>rfl) λ p=>?_;refine ae [] rfl ?_;show J _ _ _ _ ([blk p 33 (bI N A c),.seg b o (arcs N.arcs),.tab 0 V.oM,.tab 3 V.oP,.tab 5 V.oE,.own (.slice I its.length ci) 235 3 its.length (mI its)]++its.map λ x=>aZ 3 x.2.1);refine ad (ad (aa ?_));refine ab [] (v:=bp N A c) (af 0 rfl) rfl ?_;refine ah [] rfl ?_;refine aw (fst:=[]) (cap:=[]) [] (Cy N hN hR A c b o hA its hok hl I ci) rfl rfl rfl rfl (by kernel_rfl) (K:=[blk p 33 (bI N A c),.seg b o (arcs N.arcs),.tab 0 V.oM,.tab 3 V.oP,.tab 5 V.oE]) (aH.mid [5] [0,1,2,3,4] rfl rfl (by decide)) ⟨⟨1,_,by simp,rfl,ak _ _ _,av⟩,an⟩ (λ _=>rfl) ?_;rintro v H' ⟨⟨F,n,cf,rfl⟩,rfl⟩;refine⟨kV I ci its,?_⟩;refine bY aH.swap ?_;refine ae [] rfl ?_;by_cases hz:l5 N (its.map d8)=0
 case neg=>
  refine ad (aa (ae [] rfl ?_));refine aC rfl (λ _=>?_) (λ h=>absurd hz h);refine ad (aa (ae [] rfl ?_));refine bJ (aH.re (A:=[_,_,_,_,_,_]) [0] rfl (by decide)) ?_;refine ay ⟨_,rfl,?_,rfl⟩;unfold pE;rw[if_neg hz];rfl
 rw[hz];refine ad (aa (ae [] rfl ?_));refine aC rfl (λ h=>absurd rfl h) (λ _=>aq ?_)
 have hlen:∀ j,j<=its.length->(cY N ((its.take j).map d8)).length<=100000000:=λ j hj=>by
  have:=nM hR (its:=(its.take j).map d8) (λ x hx=>by
   obtain⟨y,hy,rfl⟩:=GR.1 hx;exact hok _ (HY (Hl hy)))
  rw[GA,GV] at this;omega
 refine ad (aa ?_);refine bo rfl rfl rfl (λ _=>rfl) λ p8=>?_;refine ae [] rfl ?_;refine cd 5 1 ?_;refine ad (ad (aa (ae [] rfl ?_)));refine au ?_
 refine b6 (σ:=Nat×Value×OA×Nat) (λ s=>[(26,.int .i64 s.1),(25,.int .i64 its.length),(24,.slice I its.length ci),(8,.pointer (some ⟨p8,0,none⟩)),(2,.pointer (some ⟨p,0,none⟩))])
  (λ s=>(nU 129 p8 s.2.1 s.2.2.1 s.2.2.2 (cY N ((its.take s.1).map d8))++[.own (.slice I its.length ci) 235 3 its.length (mI its),blk p 33 (bI N A c),.seg b o (arcs N.arcs),.tab 0 V.oM,.tab 3 V.oP,.tab 5 V.oE])++its.map λ x=>aZ 3 x.2.1)
  (λ s=>s.1<=its.length/\Ed p8 s.2.1/\(s.1=0->s.2.2.1=none/\s.2.2.2=0)) (λ s=>its.length-s.1) (0,.pointer none,none,0) ⟨rfl,rfl,rfl,rfl,rfl,an⟩ (aH.re (A:=[_,_,_,_,_,_,_,_]) [1,0,2,3,4,5,6,7] rfl (by decide)) ⟨GB _,.inl rfl,λ _=>⟨rfl,rfl⟩⟩ ?_
 rintro⟨j,pv,Ab,cb⟩ ⟨hj,hpv,hb0⟩;simp only at hj hpv hb0 ⊢;refine bh (aW 2 rfl) λ ⟨_,_,hI0,_⟩=>?_;refine ad (aa (ae [] rfl ?_));refine ad (aC rfl (λ hlt=>aq ?_) (λ hge=>bc ?_))
 ·have hlt:j<its.length:=by omega
  obtain⟨x,hx⟩:∃ x,its[j]?=some x:=⟨its[j],Gq hlt⟩;obtain⟨gI,rfl⟩:=hI0 (by omega);have hxo:jp N (d8 x):=hok _ (HY (Gu hx));have hxl:x.2.1.l.length<=2000:=hxo.len;have hxa:0<x.2.2/\x.2.2<=4611686018427387903:=hxo.amt;have hxr:∀ e∈x.2.1.l,0<=e/\e<N.arcs.length:=hxo.rng;have hxne:x.2.1.l≠[]:=hxo.ne;have hxk:x.1=112\/x.1=98\/x.1=99:=hxo.kind;have htj:cY N ((its.take (j+1)).map d8)=cY N ((its.take j).map d8)++jy N (d8 x):=by rw[GO,hx,GX];exact tL N _ _
  have hmj:=hlen j hj;have hrow:(its.map λ x=>aZ 3 x.2.1)[j]?=some (aZ 3 x.2.1):=by rw[GC,hx];rfl
  obtain⟨hin,hinl⟩:=xE hR hxo;refine bJ (aH.front (i:=j) (c:=aZ 3 x.2.1) hrow) ?_;refine bh (aW 0 (show _=some (aZ 3 x.2.1) from rfl)) λ ⟨_,_,hr0,hrl⟩=>?_;obtain⟨gr,hgr⟩:=bL hr0 hrl;have hrA:x.2.1.A=some ⟨gr,0,none⟩:=hgr (by intro h0;have:=bK x.2.1.l;rw[h0] at this;exact hxne (GM.1 (by simpa using this.symm)));refine ad (au ?_);refine ad (aa (ah [] rfl ?_));refine ab [] (aN rfl hlt) rfl ?_;refine ab [] (aD 3 rfl rfl rfl (ma hx)) rfl ?_;refine bo rfl rfl rfl (λ _=>rfl) λ p10=>?_;refine aA 0 rfl [] rfl ?_;refine ai ?_;refine ad (aa (ah [] rfl ?_));refine ab [] (v:=.int .i64 x.2.2) (af 0 rfl) rfl ?_;refine bF rfl rfl rfl rfl rfl rfl rfl (λ _=>rfl) λ g0=>?_;refine fb 1 1 (by rfl) (by decide) ?_;refine ae [] rfl ?_;refine ad (aa (ae [] rfl ?_));refine ad (ad (aa (ah [] rfl ?_)));refine ab [] (v:=.slice x.2.1.A x.2.1.l.length x.2.1.c) (af 1 rfl) rfl ?_;refine ae [] rfl ?_;refine au ?_
  refine b6 (σ:=Nat×Int×OA×Nat) (λ s=>[(36,.int .i64 s.1),(35,.int .i64 x.2.1.l.length),(34,.slice x.2.1.A x.2.1.l.length x.2.1.c),(12,.int .i64 s.2.1),(11,.slice s.2.2.1 (x.2.2::(x.2.1.l.take s.1).map (ie N)).length s.2.2.2),(10,.pointer (some ⟨p10,0,none⟩)),(26,.int .i64 j),(25,.int .i64 its.length),(24,.slice (some ⟨gI,0,none⟩) its.length ci),(8,.pointer (some ⟨p8,0,none⟩)),(2,.pointer (some ⟨p,0,none⟩))])
   (λ s=>[.own (.slice s.2.2.1 (x.2.2::(x.2.1.l.take s.1).map (ie N)).length s.2.2.2) 2 1 (x.2.2::(x.2.1.l.take s.1).map (ie N)).length (ax (x.2.2::(x.2.1.l.take s.1).map (ie N))),blk p10 235 [.int .u8 x.1,.slice x.2.1.A x.2.1.l.length x.2.1.c,.int .i64 x.2.2],aZ 3 x.2.1,blk p8 129 [pv,.slice Ab (cY N ((its.take j).map d8)).length cb],.own (.slice Ab (cY N ((its.take j).map d8)).length cb) 5 1 (cY N ((its.take j).map d8)).length (byteCells (cY N ((its.take j).map d8))),.own (.slice (some ⟨gI,0,none⟩) its.length ci) 235 3 its.length (mI its),blk p 33 (bI N A c),.seg b o (arcs N.arcs),.tab 0 V.oM,.tab 3 V.oP,.tab 5 V.oE]++(its.map λ x=>aZ 3 x.2.1).eraseIdx j)
   (λ s=>s.1<=x.2.1.l.length/\(0<s.1->s.2.1=ys N ((x.2.1.l.take s.1).getLastD 0))) (λ s=>x.2.1.l.length-s.1) (0,0,some ⟨g0,0,none⟩,1) ⟨rfl,rfl,rfl,rfl,rfl,rfl,rfl,rfl,rfl,rfl,rfl,an⟩ aH.refl ⟨GB _,λ h=>absurd h (Nat.lt_irrefl _)⟩ ?_
  rintro⟨t,last,An,cn⟩ ⟨ht,hlast⟩;simp only at ht hlast ⊢;have hnl:(x.2.2::(x.2.1.l.take t).map (ie N)).length=t+1:=by rw[Gz,GA,GV];omega
  refine ad (aa (ae [] rfl ?_));refine ad (aC rfl (λ hlt2=>aq ?_) (λ hge2=>bc ?_))
  ·have hlt2:t<x.2.1.l.length:=by omega
   obtain⟨e,he⟩:∃ e,x.2.1.l[t]?=some e:=⟨x.2.1.l[t],Gq hlt2⟩;obtain⟨i,a,rfl,ha,hil,hfr,hto,_⟩:=DN (hxr e (Gu he));obtain rfl:=hA (by rintro h0;rw[h0] at hil;simp at hil);obtain⟨q0,q1,q2⟩:=eO ha;have hlt3:=sZ he;refine ad (au ?_);refine ad (aa (ah [] rfl ?_));refine ab [] (oy (b:=gr) rfl (by rw[<- hrA];rfl) rfl rfl rfl hlt2) rfl ?_;refine ab [] (v:=.int .i64 (i:Int)) (dr 2 rfl (show _=some (Value.pointer (some ⟨gr,0+t,none⟩)) by rw[GZ];rfl) rfl (aE (A:=x.2.1.A) hgr) (be he)) rfl ?_;refine ae [] rfl ?_;refine bu 17 (cZ [0,1,2,3,4,5,6,9,10,11,12,13,14]++[(7,false),(8,false)]++cZ [15,16]) [1,2,3,4,5,6,7,8,9,10] (by kernel_rfl) (by decide) rfl ?_;refine aB [] rfl ?_;refine aj [] (v:=.slice (some ⟨b,o,none⟩) N.arcs.length c) rfl (af 5 rfl) rfl ?_;refine aB [] rfl ?_;refine aj [] rfl (e6 rfl hil) rfl ?_;refine aB [] rfl ?_;refine aj [] (v:=.int .i64 a.fr) rfl (fm 6 rfl rfl rfl (He _ _ _) q0) rfl ?_;refine aB [] rfl ?_;refine aj [] (v:=.slice (some ⟨b,o,none⟩) N.arcs.length c) rfl (af 5 rfl) rfl ?_;refine aB [] rfl ?_;refine aj [] rfl (e6 rfl hil) rfl ?_;refine aB [] rfl ?_;refine aj [] (v:=.int .i64 a.to) rfl (fm 6 rfl rfl rfl (He _ _ _) q1) rfl ?_;refine bg rfl ?_;refine bF rfl rfl rfl rfl rfl rfl rfl (λ _=>rfl) λ g2=>?_;refine ai ⟨⟨[2,3,4,5,6,7,8,9,10,11],by decide,rfl⟩,?_⟩;refine bg rfl ?_;refine bv (n:=(x.2.2::(x.2.1.l.take t).map (ie N)).length) (m:=1) (off:=0) (news:=ax [a.fr]) 1 0 rfl rfl rfl rfl rfl rfl (by decide) rfl rfl (aF g2 _ _ (0,0)) (λ _=>rfl) rfl rfl (by omega) (by omega) (λ _ _=>rfl) λ A3 c3=>?_;refine ai ⟨⟨[2,3,4,5,6,7,8,9,10,11],by decide,rfl⟩,?_⟩;refine aB [] rfl ?_;refine bq ?_;refine ai ?_;refine aa (ae [] rfl ?_);have htk:x.2.2::(x.2.1.l.take (t+1)).map (ie N)=(x.2.2::(x.2.1.l.take t).map (ie N))++[a.fr]:=by rw[GO,he];simp[hfr]
   refine⟨(t+1,a.to,A3,c3),⟨Gt (λ z=>some (Value.int .i64 z)) (cv (by omega)),rfl,rfl,rfl,?_,rfl,rfl,rfl,rfl,rfl,rfl,an⟩,?_,⟨by simp only;omega,λ _=>by simp only;rw[hlt3,hto]⟩,by simp only;omega⟩
   ·simp only[htk];rw[Gx];rfl
   ·simp only[htk];rw[Gx,show ax ((x.2.2::(x.2.1.l.take t).map (ie N))++[a.fr])=ax (x.2.2::(x.2.1.l.take t).map (ie N))++ax [a.fr] by simp[ax]];exact aH.sub (G9 _ _)
  obtain rfl:t=x.2.1.l.length:=by omega
  have hlast:=hlast (Hc.2 hxne);rw[GY] at*;have hnn:(x.2.2::x.2.1.l.map (ie N)).length=x.2.1.l.length+1:=hnl;refine ad (aa (ah [] rfl ?_));refine ab [] (v:=.int .u8 x.1) (af 1 rfl) rfl ?_;refine ae [] rfl ?_;refine au (ad (aa (ae [] rfl ?_)));by_cases k1:x.1=112
  ·refine fd 60 rfl k1 ?_;refine bi rfl ?_;have eN:dR N (d8 x)=(x.2.2::x.2.1.l.map (ie N))++[last]:=by unfold dR d8;simp only;rw[if_pos (.inl k1),hlast]
   have eT:jy N (d8 x)=ic [112,97,116,104] (dR N (d8 x)):=by unfold jy;rw[show kz (d8 x).1=[112,97,116,104] by unfold kz d8;simp only;rw[if_pos k1]]
   refine aa (ah [] rfl ?_);refine bF rfl rfl rfl rfl rfl rfl rfl (λ _=>rfl) λ g5=>?_;refine bv (n:=(x.2.2::x.2.1.l.map (ie N)).length) (m:=1) (off:=0) (news:=ax [last]) 1 0 rfl rfl rfl rfl rfl rfl (by decide) rfl rfl (aF g5 _ _ (0,0)) (λ _=>rfl) rfl rfl (by omega) (by omega) (λ _ _=>rfl) λ A5 c5=>?_;rw[show (x.2.2::x.2.1.l.map (ie N)).length+1=(dR N (d8 x)).length by rw[eN,Gx];rfl,show ax (x.2.2::x.2.1.l.map (ie N))++ax [last]=ax (dR N (d8 x)) by rw[eN];simp[ax]];refine eu (aW 1 rfl) λ ⟨_,_,hn0,hnl0⟩=>?_;obtain⟨gn,hgn⟩:=bL hn0 hnl0
   refine aw (fst:=[]) (cap:=[]) [] (pR V p8 pv hpv Ab cb (cY N ((its.take j).map d8)) [112,97,116,104] (by decide) (dR N (d8 x)) hin (by omega) (by omega) A5 _ c5 gn 0 (fun h=>hgn (by rw[ne_eq,pW];exact h)) rfl) rfl rfl rfl rfl (by kernel_rfl)
    (K:=[.own (.slice A5 (dR N (d8 x)).length c5) 2 1 (dR N (d8 x)).length (ax (dR N (d8 x))),aZ 3 x.2.1,.own (.slice (some ⟨gI,0,none⟩) its.length ci) 235 3 its.length (mI its),blk p 33 (bI N A c),.seg b o (arcs N.arcs),.tab 0 V.oM,.tab 3 V.oP,.tab 5 V.oE]++(its.map λ x=>aZ 3 x.2.1).eraseIdx j)
    (aH.re (A:=[_,_,_,_,_,_,_,_,_,_,_,_]) [4,5,1,3,6,7,8,9,10,11] rfl (by decide)) ⟨⟨0,_,by simp,rfl,aE hgn,aM hgn⟩,⟨5,by simp,rfl⟩,⟨6,by simp,rfl⟩,⟨7,by simp,rfl⟩,an⟩ (λ _=>rfl) ?_
   rintro v H' ⟨A6,c6,rfl⟩;refine⟨rfl,?_⟩;rw[<- eT,<- htj];refine ai ?_;refine aa (ae [] rfl ?_);refine⟨(j+1,.pointer (some ⟨p8,0,none⟩),A6,c6),⟨Gt (λ z=>some (Value.int .i64 z)) (cv (by omega)),rfl,rfl,rfl,rfl,an⟩,?_,⟨by simp only;omega,.inr rfl,λ h=>absurd h (by simp only;omega)⟩,by simp only;omega⟩;exact aH.trans (aH.re (A:=[_,_,_,_,_,_,_,_,_,_]) [3,0,1,4,5,6,7,8,9] rfl (by decide)) (aH.unfront (A:=[_,_,_,_,_,_,_,_]) hrow)
  refine eE 60 rfl k1 ?_;refine bG rfl ?_;refine ad (aa (ae [] rfl ?_));by_cases k2:x.1=98
  ·refine fd 67 rfl k2 ?_;refine bi rfl ?_;have eN:dR N (d8 x)=(x.2.2::x.2.1.l.map (ie N))++[last]:=by unfold dR d8;simp only;rw[if_pos (.inr k2),hlast]
   have eT:jy N (d8 x)=ic [98,97,99,107] (dR N (d8 x)):=by unfold jy;rw[show kz (d8 x).1=[98,97,99,107] by unfold kz d8;simp only;rw[if_neg k1,if_pos k2]]
   refine aa (ah [] rfl ?_);refine bF rfl rfl rfl rfl rfl rfl rfl (λ _=>rfl) λ g5=>?_;refine bv (n:=(x.2.2::x.2.1.l.map (ie N)).length) (m:=1) (off:=0) (news:=ax [last]) 1 0 rfl rfl rfl rfl rfl rfl (by decide) rfl rfl (aF g5 _ _ (0,0)) (λ _=>rfl) rfl rfl (by omega) (by omega) (λ _ _=>rfl) λ A5 c5=>?_;rw[show (x.2.2::x.2.1.l.map (ie N)).length+1=(dR N (d8 x)).length by rw[eN,Gx];rfl,show ax (x.2.2::x.2.1.l.map (ie N))++ax [last]=ax (dR N (d8 x)) by rw[eN];simp[ax]];refine eu (aW 1 rfl) λ ⟨_,_,hn0,hnl0⟩=>?_;obtain⟨gn,hgn⟩:=bL hn0 hnl0
   refine aw (fst:=[]) (cap:=[]) [] (pR V p8 pv hpv Ab cb (cY N ((its.take j).map d8)) [98,97,99,107] (by decide) (dR N (d8 x)) hin (by omega) (by omega) A5 _ c5 gn 0 (fun h=>hgn (by rw[ne_eq,pW];exact h)) rfl) rfl rfl rfl rfl (by kernel_rfl)
    (K:=[.own (.slice A5 (dR N (d8 x)).length c5) 2 1 (dR N (d8 x)).length (ax (dR N (d8 x))),aZ 3 x.2.1,.own (.slice (some ⟨gI,0,none⟩) its.length ci) 235 3 its.length (mI its),blk p 33 (bI N A c),.seg b o (arcs N.arcs),.tab 0 V.oM,.tab 3 V.oP,.tab 5 V.oE]++(its.map λ x=>aZ 3 x.2.1).eraseIdx j)
    (aH.re (A:=[_,_,_,_,_,_,_,_,_,_,_,_]) [4,5,1,3,6,7,8,9,10,11] rfl (by decide)) ⟨⟨0,_,by simp,rfl,aE hgn,aM hgn⟩,⟨5,by simp,rfl⟩,⟨6,by simp,rfl⟩,⟨7,by simp,rfl⟩,an⟩ (λ _=>rfl) ?_
   rintro v H' ⟨A6,c6,rfl⟩;refine⟨rfl,?_⟩;rw[<- eT,<- htj];refine ai ?_;refine aa (ae [] rfl ?_);refine⟨(j+1,.pointer (some ⟨p8,0,none⟩),A6,c6),⟨Gt (λ z=>some (Value.int .i64 z)) (cv (by omega)),rfl,rfl,rfl,rfl,an⟩,?_,⟨by simp only;omega,.inr rfl,λ h=>absurd h (by simp only;omega)⟩,by simp only;omega⟩;exact aH.trans (aH.re (A:=[_,_,_,_,_,_,_,_,_,_]) [3,0,1,4,5,6,7,8,9] rfl (by decide)) (aH.unfront (A:=[_,_,_,_,_,_,_,_]) hrow)
  refine eE 67 rfl k2 ?_;refine bG rfl ?_;have eN:dR N (d8 x)=x.2.2::x.2.1.l.map (ie N):=by unfold dR d8;simp only;rw[if_neg (not_or.2 ⟨k1,k2⟩),G5]
  have eT:jy N (d8 x)=ic [99,121,99,108,101] (dR N (d8 x)):=by unfold jy;rw[show kz (d8 x).1=[99,121,99,108,101] by unfold kz d8;simp only;rw[if_neg k1,if_neg k2]]
  rw[<- eN];refine aa (ah [] rfl ?_);refine eu (aW 0 rfl) λ ⟨_,_,hn0,hnl0⟩=>?_;obtain⟨gn,hgn⟩:=bL hn0 hnl0
  refine aw (fst:=[]) (cap:=[]) [] (pR V p8 pv hpv Ab cb (cY N ((its.take j).map d8)) [99,121,99,108,101] (by decide) (dR N (d8 x)) hin (by omega) (by omega) An _ cn gn 0 (fun h=>hgn (by rw[ne_eq,pW];exact h)) rfl) rfl rfl rfl rfl (by kernel_rfl)
   (K:=[.own (.slice An (dR N (d8 x)).length cn) 2 1 (dR N (d8 x)).length (ax (dR N (d8 x))),aZ 3 x.2.1,.own (.slice (some ⟨gI,0,none⟩) its.length ci) 235 3 its.length (mI its),blk p 33 (bI N A c),.seg b o (arcs N.arcs),.tab 0 V.oM,.tab 3 V.oP,.tab 5 V.oE]++(its.map λ x=>aZ 3 x.2.1).eraseIdx j)
   (aH.re (A:=[_,_,_,_,_,_,_,_,_,_,_]) [3,4,0,2,5,6,7,8,9,10] rfl (by decide)) ⟨⟨0,_,by simp,rfl,aE hgn,aM hgn⟩,⟨5,by simp,rfl⟩,⟨6,by simp,rfl⟩,⟨7,by simp,rfl⟩,an⟩ (λ _=>rfl) ?_
  rintro v H' ⟨A6,c6,rfl⟩;refine⟨rfl,?_⟩;rw[<- eT,<- htj];refine ai ?_;refine aa (ae [] rfl ?_);refine⟨(j+1,.pointer (some ⟨p8,0,none⟩),A6,c6),⟨Gt (λ z=>some (Value.int .i64 z)) (cv (by omega)),rfl,rfl,rfl,rfl,an⟩,?_,⟨by simp only;omega,.inr rfl,λ h=>absurd h (by simp only;omega)⟩,by simp only;omega⟩;exact aH.trans (aH.re (A:=[_,_,_,_,_,_,_,_,_,_]) [3,0,1,4,5,6,7,8,9] rfl (by decide)) (aH.unfront (A:=[_,_,_,_,_,_,_,_]) hrow)
 obtain rfl:j=its.length:=by omega
 rw[GY];refine ad (aa (ah [] rfl ?_));by_cases h0:its=[]
 ·subst h0;obtain⟨rfl,rfl⟩:=hb0 rfl;refine aw (fst:=[]) (cap:=[]) [] (AQ 129 p8 pv) rfl rfl rfl rfl (by kernel_rfl) (K:=[.own (.slice I 0 ci) 235 3 0 (mI [])]) (aH.picks [0,1,2] (by decide) rfl) an (λ _=>rfl) ?_;rintro v H' ⟨rfl,rfl⟩;refine⟨rfl,?_⟩;refine ae [] rfl ?_;refine ay ⟨_,rfl,?_,rfl⟩;unfold pE;rw[if_pos hz,hz];rfl
 ·refine aw (fst:=[]) (cap:=[]) [] (B7 129 p8 pv Ab cb (cY N (its.map d8)) (yw N (by simpa using h0))) rfl rfl rfl rfl (by kernel_rfl) (K:=lO I ci its) (aH.re (A:=[_,_,_,_,_,_,_,_]) [0,1,2] rfl (by decide)) an (λ _=>rfl) ?_;rintro v H' ⟨rfl,rfl⟩;refine⟨rfl,?_⟩;refine ae [] rfl ?_;refine ay ⟨_,rfl,?_,rfl⟩;unfold pE;rw[if_pos hz,hz];rfl
open Lib
def dy(pp p:Nat)(m:cD)(t:cN):Heap:=[blk pp 80 [.pointer (some ⟨p,0,none⟩),dF t]]++eM p m
def fZ(pp p:Nat)(m:cD)(t:cN)(ba bf bs:Nat):Heap:=[.seg pp 0 [.pointer (some ⟨p,0,none⟩),dF t]]++fw p m ba bf bs
def zM(pp p:Nat)(R:List cN->dp->cN->Prop)(v:Value)(H':Heap):Prop:=∃ (o:List cN) (m':cD) (t':cN) (A:OA) (c:Nat),R o m'.sta t'/\v=.slice A o.length c/\H'=[Eg A c o]++dy pp p m' t'
def Bc:cN:=[108,111,97,100]
set_option maxHeartbeats 1000000 in
theorem AC(V:b5)(pp p:Nat)(m:cD)(t:cN)(ht:t.length<=9999999):
 Fn 102 [.pointer (some ⟨pp,0,none⟩)] (aL (dy pp p m t)) (V.heap++dy pp p m t) (zM pp p (fg m.sta t Bc)):=by
 have hpc:=vz t
 generalize hM:aL _=M
 refine aJ Tryz.func102 rfl rfl λ w0=>?_;refine ad (aa (ae [] rfl ?_));refine ad ?_;refine eK 14 [0,1,2,3,4,5,6,7] 8 (cZ [9,10,11,12,13]) (by kernel_rfl) ?_
 (repeat' (first|refine ev (gs:=[999]) rfl rfl ?_|refine bA [999] (v:=.pointer (some ⟨p,0,none⟩)) rfl rfl (af 3 rfl) rfl ?_|refine bA [999] (v:=dF t) rfl rfl (af 3 rfl) rfl ?_))
 refine d6 rfl ?_;refine aw (fst:=[]) (cap:=[]) [] (wY V p m t ht) rfl rfl rfl rfl (by kernel_rfl) (K:=V.heap++[blk pp 80 [.pointer (some ⟨p,0,none⟩),dF t]]) (aH.picks [4,5,6,7,0,1,2,3] (by decide) rfl) ⟨⟨0,by simp,rfl⟩,⟨1,by simp,rfl⟩,⟨2,by simp,rfl⟩,an⟩ (λ _=>rfl) ?_;rintro v H' (⟨hz,rfl,rfl⟩|⟨hz,A2,c2,rfl,rfl⟩)
 ·refine⟨rfl,?_⟩;refine ai ⟨⟨[],by decide,rfl⟩,?_⟩;refine aB [] rfl ?_;refine bq ?_;refine ai ?_;refine ad (aa (ah [] rfl ?_));refine aA 7 rfl [] rfl ?_;refine ai ?_;refine ad (ad (aa (ae [] rfl ?_)));refine aC rfl (λ _=>?_) (λ h=>absurd hz h);obtain⟨_,hl1,hl2⟩:=rM hz;have hl3:=uX t;have hw1:=CH [108,105,110,101] (by decide) (n:=((bW t).2.1:Int)) (by unfold dn;omega);have hw2:=Dw hpc;refine ad (aa (ah [] rfl ?_));refine bF rfl rfl rfl rfl rfl rfl rfl (λ _=>rfl) λ g=>?_;refine ap [] (sd V [108,105,110,101] (by decide) [((bW t).2.1:Int)] (λ x hx=>by rw[Gy.1 hx];unfold dn;omega) (by simp) (some ⟨g,0,none⟩) 1 1 g 0 (λ _=>rfl) rfl) rfl (by kernel_rfl) ⟨⟨0,_,by simp,rfl,aF _ _ _ (0,0),.inr rfl⟩,⟨5,by simp,rfl⟩,⟨6,by simp,rfl⟩,⟨7,by simp,rfl⟩,an⟩ (λ _=>rfl) ?_;rintro v H' ⟨rfl,rfl⟩;refine⟨rfl,?_⟩;refine ab [] (gA (l:=fF [108,105,110,101] [((bW t).2.1:Int)]) (m:=[32]) rfl rfl rfl (by simp;omega)) rfl ?_;refine ah [] rfl ?_;refine bF rfl rfl rfl rfl rfl rfl rfl (λ _=>rfl) λ g2=>?_;refine ap [] (sd V td (by decide) [(bW t).2.2] (λ x hx=>by rw[Gy.1 hx];exact hpc.inB) (by simp) (some ⟨g2,0,none⟩) 1 1 g2 0 (λ _=>rfl) rfl) rfl (by kernel_rfl) ⟨⟨0,_,by simp,rfl,aF _ _ _ (0,0),.inr rfl⟩,⟨6,by simp,rfl⟩,⟨7,by simp,rfl⟩,⟨8,by simp,rfl⟩,an⟩ (λ _=>rfl) ?_;rintro v H' ⟨rfl,rfl⟩;refine⟨rfl,?_⟩;refine ab [] (gA (l:=fF [108,105,110,101] [((bW t).2.1:Int)]++[32]) (m:=fF td [(bW t).2.2]) rfl rfl rfl (by simp;omega)) rfl ?_;refine bF rfl rfl rfl rfl rfl rfl rfl (λ _=>rfl) λ g3=>?_;refine fb 1 1 (by rfl) (by decide) ?_;refine ae [] rfl ?_;refine az [0,10,3,4,5,6] (by decide) rfl (ay ⟨_,rfl,[fF [108,105,110,101] [((bW t).2.1:Int)]++[32]++fF td [(bW t).2.2]],m,[],some ⟨g3,0,none⟩,1,?_,rfl,rfl⟩);unfold fg;rw[if_pos (show Bc=[108,111,97,100] from rfl)];exact⟨rfl,.inl ⟨hz,rfl,rfl⟩⟩
 ·refine⟨rfl,?_⟩;refine ai ⟨⟨[],by decide,rfl⟩,?_⟩;refine aB [] rfl ?_;refine bq ?_;refine ai ?_;refine ad (aa (ah [] rfl ?_));refine aA 7 rfl [] rfl ?_;refine ai ?_;refine ad (ad (aa (ae [] rfl ?_)));refine aC rfl (λ h=>absurd rfl h) (λ _=>aq ?_);refine ad (aa (ah [] rfl ?_));refine bF rfl rfl rfl rfl rfl rfl rfl (λ _=>rfl) λ g3=>?_;refine fb 1 1 (by rfl) (by decide) ?_;refine ae [] rfl ?_;refine az [0,8,1,2,3,4] (by decide) rfl (ay ⟨_,rfl,xp,m.load (bW t).1 A2 c2,[],some ⟨g3,0,none⟩,1,?_,rfl,rfl⟩);unfold fg;rw[if_pos (show Bc=[108,111,97,100] from rfl)];exact⟨rfl,.inr ⟨hz,rfl,rfl⟩⟩
open Lib
theorem jW:∀ (l cur:LU),∀ x∈b7 cur l,x≠[]
 |[],cur,x,hx=>by
  unfold b7 at hx;split at hx
  ·exact absurd hx GP
  ·rename_i h;rw[Gy.1 hx];exact h
 |b::l,cur,x,hx=>by
  unfold b7 at hx;split at hx
  ·split at hx
   ·exact jW l [] x hx
   ·rename_i h
    rcases GD.1 hx with rfl|hx
    ·exact h
    ·exact jW l [] x hx
  ·exact jW l _ x hx
structure yu where
 A:OA
 c:Nat
 l:List cN
def Fz(r:yu):Value:=.slice r.A r.l.length r.c
def Ct(r:yu):aV:=Eg r.A r.c r.l
def vW:yu:=⟨none,0,[]⟩
theorem aH.nilsT{X:Cx}{H:Heap}:∀ n:Nat,aH X H (H++(List.replicate n vW).map Ct)
 |0=>by simp;exact aH.refl
 |n+1=>λ w h=>by
  have h1:=(aH.nilsT n w h).addnil 9 1;refine h1.perm ?_;rw[Hw,GG];exact List.perm_middle.symm
def Bn(A:OA)(c:Nat)(rows:List yu):Heap:=[.own (.slice A rows.length c) 22 1 rows.length (rows.map Fz)]++rows.map Ct
theorem yV(V:b5)(l:cN)(hl:l.length<4294967281):Fn 34 [dF l] [] V.heap λ v H'=>∃ (A:OA),v=.tuple #[.slice A (aT l).length (aT l).length,.bool (di (l.length<=20000/\(aT l).length<=300))]/\H'=[.own (.slice A (aT l).length (aT l).length) 9 1 (aT l).length (cK (aT l))]:=by
 refine aJ Tryz.func34 rfl rfl λ w0=>?_;refine ad (aa (ae [] rfl ?_));refine ad (aa (ah [] rfl ?_));refine ap [] (pK V l hl) rfl (by kernel_rfl) ⟨⟨0,by simp[b5.heap],rfl⟩,⟨1,by simp[b5.heap],rfl⟩,⟨2,by simp[b5.heap],rfl⟩,an⟩ (λ _=>rfl) ?_;rintro v H' ⟨A,n,hn,rfl,rfl⟩;subst hn;refine⟨rfl,?_⟩;refine ae [] rfl ?_;refine ad (aa (ah [] rfl ?_));by_cases h1:l.length<=20000
 ·refine bd 11 rfl (by rw[cC];omega) ?_;refine ah [4] rfl ?_;refine ai (az [0] (by decide) rfl (ay ⟨_,rfl,A,?_,rfl⟩));exact Gt (λ z=>Value.tuple #[.slice A (aT l).length (aT l).length,.bool z]) (ey ⟨λ h=>⟨h1,by omega⟩,λ h=>by have:=h.2;omega⟩)
 ·refine aX 11 rfl (by rw[cC];omega) ?_;refine ah [4] rfl ?_;refine ai (az [0] (by decide) rfl (ay ⟨_,rfl,A,?_,rfl⟩));exact Gt (λ z=>Value.tuple #[.slice A (aT l).length (aT l).length,.bool z]) (a6 (λ h=>h1 h.1)).symm
def FB(V:b5)(Lk:cN->Prop):Prop:=∀ (pp p:Nat) (m:cD) (t line w:cN) (T:Ws) (cb bb ob:Nat),m.sta.OK->Lk line->line.length<=3000->t.length<=9999999->bw line=w::T->w.head?≠some 35->T.length+1<=cb->
 Fn 36 [.pointer (some ⟨pp,0,none⟩),dF line,.slice (some ⟨bb,ob,none⟩) (T.length+1) cb] (aL (dy pp p m t)) ([.seg bb ob (cK (w::T))]++V.heap++dy pp p m t) (zM pp p (r5 m.sta t line w T))
def D9(s:cN)(v:Value)(H':Heap):Prop:=∃ (rows:List yu) (A:OA) (c:Nat),(s.length<=20000->(aT s).length<=300->∃ q t,iS zp [] (aT s) (rows.map (·.l)) q t)/\(¬ (s.length<=20000/\(aT s).length<=300)->rows=[])/\v=.slice A rows.length c/\H'=Bn A c rows
set_option maxHeartbeats 2000000 in
theorem BW(V:b5){Lk:cN->Prop}(hdo:FB V Lk)(s:cN)(hs:s.length<4294967281)(hL:s.length<=20000->(aT s).length<=300->∀ l∈aT s,Lk l/\l.length<=3000):Fn 9 [dF s] [] V.heap (D9 s):=by
 refine aJ Tryz.func9 rfl rfl λ w0=>?_;refine ad (aa (ae [] rfl ?_));refine ad (aa (ah [] rfl ?_));refine ap [] (yV V s hs) rfl (by kernel_rfl) ⟨⟨0,by simp[b5.heap],rfl⟩,⟨1,by simp[b5.heap],rfl⟩,⟨2,by simp[b5.heap],rfl⟩,an⟩ (λ _=>rfl) ?_;rintro v H' ⟨Al,rfl,rfl⟩;refine⟨rfl,?_⟩;refine ae [] rfl ?_;by_cases hok:s.length<=20000/\(aT s).length<=300
 case neg=>
  rw[a6 hok];refine ad (ad (aa (ae [] rfl ?_)));refine bi rfl ?_;refine ad (aa (ae [] rfl ?_));refine cd 22 1 ?_;exact az [0] (by decide) rfl (ay ⟨_,rfl,[],none,0,λ h1 h2=>absurd ⟨h1,h2⟩ hok,λ _=>rfl,rfl,rfl⟩)
 rw[aR hok];have hLL:=hL hok.1 hok.2;obtain⟨B,hB⟩:∃ B,B=3001:=⟨_,rfl⟩;obtain⟨ls,hls⟩:∃ ls,ls=aT s:=⟨_,rfl⟩;have hl300:ls.length<=300:=by rw[hls];exact hok.2
 rw[<- hls] at hLL ⊢;refine ad (ad (aa (ae [] rfl ?_)));refine bG rfl (aq ?_);refine ad (aa (ah [] rfl ?_));refine b9 [] wZ rfl rfl rfl rfl (by kernel_rfl) an (λ _=>rfl) ?_;rintro v H' ⟨p,rfl,rfl⟩;refine⟨rfl,?_⟩;refine ab [] (bz rfl rfl rfl rfl rfl rfl) rfl ?_;refine bx (cs:=[.pointer (some ⟨p,0,none⟩),dF []]) rfl rfl rfl (λ _=>rfl) λ pp=>?_;refine ae [] rfl ?_;refine bh (aW 2 rfl) λ ⟨_,_,hAl0,hAll⟩=>?_;refine ad (aa (ah [] rfl ?_));refine cX (n:=ls.length) (c:=ls.length) rfl rfl rfl rfl rfl rfl (by omega) (by omega) (by omega) (λ _=>rfl) λ go=>?_;rw[show made [Value.slice none 0 0] (ls.length*1)=(List.replicate ls.length vW).map Fz by rw[dh,G8,HT];rfl];refine ae [] rfl ?_;refine ad (ad (aa (ae [] rfl ?_)));refine au ?_;refine cd 3 1 ?_;refine cd 2 1 ?_;refine cd 37 3 ?_;refine bJ (K:=[.own (.slice (some ⟨go,0,none⟩) ls.length ls.length) 22 1 ls.length ((List.replicate ls.length vW).map Fz),.own (.slice Al ls.length ls.length) 9 1 ls.length (cK ls)]++(V.heap++dy pp p zm [])) (aH.picks [3,6,7,8,9,4,5,0,1,2] (by decide) rfl) ?_;refine bJ (aH.nilsT ls.length) ?_
 refine b6 (σ:=Nat×List yu×cD×cN) (λ q=>[(25,.int .i64 q.1),(24,.int .i64 ls.length),(23,.slice Al ls.length ls.length),(6,.slice (some ⟨go,0,none⟩) ls.length ls.length),(5,.pointer (some ⟨pp,0,none⟩))])
  (λ q=>([.own (.slice (some ⟨go,0,none⟩) ls.length ls.length) 22 1 ls.length (q.2.1.map Fz),.own (.slice Al ls.length ls.length) 9 1 ls.length (cK ls)]++(V.heap++dy pp p q.2.2.1 q.2.2.2))++q.2.1.map Ct)
  (λ q=>q.1<=ls.length/\q.2.1.length=ls.length/\(∀ j,q.1<=j->j<ls.length->q.2.1[j]?=some vW)/\iS zp [] (ls.take q.1) ((q.2.1.take q.1).map (·.l)) q.2.2.1.sta q.2.2.2/\q.2.2.1.sta.OK/\q.2.2.2.length<=q.1*B) (λ q=>ls.length-q.1)
  (0,List.replicate ls.length vW,zm,[]) ⟨rfl,rfl,rfl,rfl,rfl,an⟩ aH.refl ⟨GB _,by simp,λ j _ hj=>by rw[GN,if_pos hj],⟨rfl,rfl,rfl⟩,C8,by simp⟩ ?_
 rintro⟨k,rows,m,t⟩ ⟨hk,hrl,hnil,htr,hm,ht⟩;simp only at hk hrl hnil htr hm ht ⊢;refine ad (aa (ae [] rfl ?_));refine ad (aC rfl (λ hlt=>aq ?_) (λ hge=>bc ?_))
 ·have hlt:k<ls.length:=by omega
  obtain⟨x,hx⟩:∃ x,ls[k]?=some x:=⟨ls[k],Gq hlt⟩;obtain⟨hLx,hxl⟩:=hLL x (Gu hx);obtain⟨gl,rfl⟩:=hAl0 (by omega);have hrk:=hnil k (GF _) hlt;have hwl:=mK x;have hB0:(k+1)*B=k*B+B:=Nat.succ_mul k B;have hB1:t.length<=(k+1)*B:=by omega
  have hB2:k*B<=300*B:=HE B (by omega);have htk:ls.take (k+1)=ls.take k++[x]:=by rw[GO,hx];rfl
  have hkl:k<rows.length:=by omega
  refine ad (au ?_);refine ad (aa (ah [] rfl ?_));refine ab [] (aG rfl hlt) rfl ?_;refine ab [] (aD 1 rfl rfl rfl (fy hx)) rfl ?_;refine ae [] rfl ?_;refine ad (aa (ah [] rfl ?_));refine ap [] (uH x (by omega)) rfl (by kernel_rfl) an (λ _=>rfl) ?_;rintro v H' ⟨Aw,n,hn,rfl,rfl⟩;subst hn;refine⟨rfl,?_⟩;refine ae [] rfl ?_;have hq0:(rows.take (k+1)).map (·.l)=(rows.take k).map (·.l)++[[]]:=by rw[GO,hrk,GX];rfl
  have hstay:dS m.sta t x [] m.sta t->iS zp [] (ls.take (k+1)) ((rows.take (k+1)).map (·.l)) m.sta t:=λ h=>by
   rw[htk,hq0];exact qE htr h
  cases hw:bw x with
  |nil=>
   refine ad (aa (ah [] rfl ?_));refine aX 35 rfl (by decide) ?_;refine ah [3] rfl ?_;refine ai ?_;refine bG rfl (aq ?_);refine aa (ae [] rfl ?_);refine⟨(k+1,rows,m,t),⟨Gt (λ z=>some (Value.int .i64 z)) (cv (by omega)),rfl,rfl,rfl,rfl,an⟩,aH.sub (G9 _ _),⟨by simp only;omega,hrl,λ j hj=>hnil j (by simp only at hj;omega),hstay ?_,hm,hB1⟩,by simp only;omega⟩;unfold dS;rw[hw];exact⟨rfl,rfl,rfl⟩
  |cons w T=>
   have hne:=jW x [] w (by show w∈bw x;rw[hw];simp);have hwe:=mq x;rw[hw] at hwe hwl;simp only[Gz] at hwl
   obtain⟨b,w',rfl⟩:∃ b w',w=b::w':=by
    cases w with
    |nil=>exact absurd rfl hne
    |cons b w'=>exact⟨b,w',rfl⟩
   refine bh (aW 0 rfl) λ ⟨_,_,hAw0,_⟩=>?_;obtain⟨gw,rfl⟩:=hAw0 (by simp);refine ad (aa (ah [] rfl ?_));refine bd 35 rfl (by simp only[Gz];omega) ?_;refine ah [3] rfl ?_;refine ab [3] (v:=.pointer (some ⟨gw,0,none⟩)) (aG (m:=0) rfl (by simp)) rfl ?_;refine ab [3] (v:=dF (b::w')) (aD 0 rfl rfl rfl rfl) rfl ?_;refine ab [3] (v:=.int .u8 (b.toNat:Int)) (wS (i:=0) rfl rfl rfl rfl rfl) rfl ?_;refine ah [3] rfl ?_;by_cases h35:b=35
   ·subst h35;refine aX 41 rfl (by decide) ?_;refine ai ?_;refine bG rfl (aq ?_);refine aa (ae [] rfl ?_);refine⟨(k+1,rows,m,t),⟨Gt (λ z=>some (Value.int .i64 z)) (cv (by omega)),rfl,rfl,rfl,rfl,an⟩,aH.sub (G9 _ _),⟨by simp only;omega,hrl,λ j hj=>hnil j (by simp only at hj;omega),hstay ?_,hm,hB1⟩,by simp only;omega⟩;unfold dS;rw[hw];show (if _ then _ else _);rw[if_pos (by rfl)];exact⟨rfl,rfl,rfl⟩
   have hb:(b.toNat:Int)≠35:=λ h=>h35 (UInt8.toNat_inj.1 (show b.toNat=35 by omega));refine bd 41 rfl hb ?_;refine ai ?_;refine bi rfl ?_;have hh:(b::w').head?≠some 35:=λ h=>h35 (G0 h);have hrow:(rows.map Ct)[k]?=some (Ct vW):=by rw[GC,hrk];rfl
   show J _ _ _ _ ([_,_,_,_,_,_,_,_,_,_,_]++rows.map Ct);refine bJ (aH.front (i:=k) (c:=Ct vW) hrow) ?_;refine aa (ah [] rfl ?_)
   refine aw (fst:=[]) (cap:=[]) [] (hdo pp p m t x (b::w') T (T.length+1) gw 0 hm hLx hxl (by omega) hw hh (Nat.le_refl _)) rfl rfl rfl rfl (by kernel_rfl)
    (K:=[.own (.slice (some ⟨gw,0,none⟩) ((b::w')::T).length ((b::w')::T).length) 9 1 ((b::w')::T).length (cK ((b::w')::T)),.tab 0 V.oM,.tab 3 V.oP,.tab 5 V.oE,.own (.slice (some ⟨go,0,none⟩) ls.length ls.length) 22 1 ls.length (rows.map Fz),.own (.slice (some ⟨gl,0,none⟩) ls.length ls.length) 9 1 ls.length (cK ls)]++(rows.map Ct).eraseIdx k)
    (aH.re (A:=[_,_,_,_,_,_,_,_,_,_,_,_]) [7,8,9,10,11,1,4,5,6,2,3] rfl (by decide)) ⟨⟨0,_,by simp,rfl,cp,.inr rfl⟩,⟨1,by simp,rfl⟩,⟨2,by simp,rfl⟩,⟨3,by simp,rfl⟩,an⟩ (λ _=>rfl) ?_
   rintro v H' ⟨o,m',t',A2,c2,hR,rfl,rfl⟩;refine⟨rfl,?_⟩
   have hsl:dS m.sta t x o m'.sta t':=by
    unfold dS;rw[hw];simp only;rw[if_neg hh];exact hR
   have htx:=dS.txt hsl;refine ab [] (aG rfl hlt) rfl ?_;refine aO 10 rfl rfl rfl rfl (df rfl rfl rfl (by rw[GA];omega)) [] rfl ?_;refine ai ?_;refine aa (ae [] rfl ?_);refine⟨(k+1,rows.set k ⟨A2,c2,o⟩,m',t'),⟨Gt (λ z=>some (Value.int .i64 z)) (cv (by omega)),rfl,rfl,rfl,rfl,an⟩,?_,⟨by simp only;omega,by simp only[Ha];exact hrl,λ j hj hj2=>?_,?_,dS.ok hm hxl hsl,(by show t'.length<=(k+1)*B;omega)⟩,by simp only;omega⟩
   ·simp only[In];refine aH.trans (aH.re (A:=[_,_,_,_,_,_,_,_,_,_,_,_]) [0,10,11,7,8,9,1,2,3,4,5] rfl (by decide)) (aH.back (A:=[_,_,_,_,_,_,_,_,_,_]) (c:=Ct ⟨A2,c2,o⟩) (by rw[GA];exact hkl))
   ·simp only at hj ⊢;rw[GJ (by omega)];exact hnil j (by omega) hj2
   ·simp only;rw[htk,GO,GH hkl,List.take_set_of_le (GF _)];rw[GX];exact qE htr hsl
 obtain rfl:k=ls.length:=by omega
 rw[GY] at htr;rw[Hr (by omega)] at htr;refine ad (aa (ae [] rfl ?_));show J _ _ _ _ ([_,_,_,_,_,_,_,_,_,_]++rows.map Ct);refine bJ (aH.re [0] rfl (by decide)) ?_;rw[hls] at htr;refine ay ⟨_,rfl,rows,some ⟨go,0,none⟩,ls.length,λ _ _=>⟨_,_,htr⟩,λ h=>absurd hok h,by rw[hrl];rfl,?_⟩;unfold Bn;rw[hrl]
open Lib
set_option maxHeartbeats 1000000 in
theorem zA(V:b5)(pp p:Nat)(m:cD)(hm:m.sta.OK)(t:cN)(ba bf bs:Nat)(hat:m.At ba bf bs):
 Fn 105 [.pointer (some ⟨pp,0,none⟩)] [] (fZ pp p m t ba bf bs++V.heap) (EB m.sta.itemsT):=by
 refine aJ Tryz.func105 rfl rfl λ w0=>?_;refine ad (aa (ae [] rfl ?_));refine ad (aa (ah [] rfl ?_));refine ab [] (v:=.pointer (some ⟨p,0,none⟩)) (a8 (i:=0) 0 rfl rfl rfl) rfl ?_;refine ap [] (zI m hm p ba bf bs hat) rfl (by kernel_rfl) ⟨⟨1,_,by simp[fZ,fw],rfl,ak _ _ _,av⟩,⟨2,_,by simp[fZ,fw],rfl,ak _ _ _,av⟩,⟨3,_,by simp[fZ,fw],rfl,ak _ _ _,av⟩,⟨4,_,by simp[fZ,fw],rfl,ak _ _ _,av⟩,an⟩ (λ _=>rfl) ?_;rintro v H' ⟨its,A',c',hits,rfl,rfl⟩;refine⟨kV _ _ _,?_⟩;refine bY aH.swap ?_;refine ae [] rfl ?_;refine ad (ad (aa (ae [] rfl ?_)));refine aC rfl (λ hz=>?_) (λ hz=>aq ?_)
 ·refine ad (aa (ah [] rfl ?_));refine ap [] (o7 V m.sta.itemsZ.2 (m.sta.items_code).inB none 0 0) rfl (by kernel_rfl) ⟨⟨6,by simp[fZ,fw],rfl⟩,⟨7,by simp[fZ,fw],rfl⟩,⟨8,by simp[fZ,fw],rfl⟩,trivial⟩ (fun _=>rfl) ?_;rintro v H' (⟨h0,_⟩|⟨_,A2,c2,rfl,rfl⟩)
  case inl=>exact absurd h0 hz
  refine⟨rfl,?_⟩;refine ae [] rfl ?_;refine az [0] (by decide) rfl (ay ⟨_,rfl,?_⟩);unfold dp.itemsT;rw[if_pos hz];exact⟨A2,c2,rfl,rfl⟩
 have hz0:m.sta.itemsZ.2=0:=GK.1 hz
 have hl0:m.sta.lack [false]=0:=Hg λ h=>by
  unfold dp.itemsZ at hz0;rw[if_pos h] at hz0;exact h hz0
 have ha:=nf hl0;have hR:m.N.Right:=hm.net ha;have hl00:m.sta.lack []=0:=by unfold dp.lack;rw[if_neg (by rw[ha];decide),if_pos (λ c hc=>absurd hc GP)]
 have hpz:m.sta.printZ=(iM m.N,0):=by unfold dp.printZ;rw[if_neg (λ h=>h hl00)];rfl
 have hpl:=yU hR;obtain⟨hi1,hi2,hi3⟩:=m.sta.items_len hm;rw[<- hits] at hi1 hi2 hi3;rw[GA] at hi2;refine ad (aa (ah [] rfl ?_));refine ab [] (v:=.pointer (some ⟨p,0,none⟩)) (a8 (i:=0) 1 rfl rfl rfl) rfl ?_;refine ap [] (yd V m hm p ba bf bs hat) rfl (by kernel_rfl) ⟨⟨2,_,by simp[fZ,fw],rfl,ak _ _ _,av⟩,⟨3,_,by simp[fZ,fw],rfl,ak _ _ _,av⟩,⟨4,_,by simp[fZ,fw],rfl,ak _ _ _,av⟩,⟨5,_,by simp[fZ,fw],rfl,ak _ _ _,av⟩,⟨6,by simp[fZ,fw],rfl⟩,⟨7,by simp[fZ,fw],rfl⟩,⟨8,by simp[fZ,fw],rfl⟩,an⟩ (λ _=>rfl) ?_;rintro v H' ⟨rfl,rfl⟩;refine⟨rfl,?_⟩;rw[hpz];refine ae [] rfl ?_;refine ad (aa (ah [] rfl ?_));have TP:=qw V (iM m.N) (by omega);rw[um hR] at TP;refine b9 [] TP rfl rfl rfl rfl (by kernel_rfl) ⟨⟨6,by simp[fZ,fw],rfl⟩,⟨7,by simp[fZ,fw],rfl⟩,⟨8,by simp[fZ,fw],rfl⟩,an⟩ (λ _=>rfl) ?_;rintro v H' ⟨A3,c3,rfl,rfl⟩;refine⟨rfl,?_⟩;refine ah [] rfl ?_;refine bo rfl rfl rfl (λ _=>rfl) λ p7=>?_;refine aA 0 rfl [] rfl ?_;refine eu (aW 1 rfl) λ ⟨_,_,hA3,hla⟩=>?_;obtain⟨g3,hA3⟩:=bL hA3 hla;refine ae [] rfl ?_;refine ad (aa ?_);refine ab [] (v:=bp m.N A3 c3) (af 0 rfl) rfl ?_;refine ah [] rfl ?_
 refine aw (fst:=[]) (cap:=[]) [] (yM V m.N hR.fits4 hR A3 c3 g3 0 (gJ hA3) its (fun x hx=>hi1 x (by rw[← hits] at*;exact hx)) hi2 A' c') rfl rfl rfl rfl (by kernel_rfl)
  (K:=[.own (.slice A3 m.N.arcs.length c3) 37 3 m.N.arcs.length (arcs m.N.arcs),.tab 0 V.oM,.tab 3 V.oP,.tab 5 V.oE]) ?_ ⟨⟨0,_,by simp,rfl,aE hA3,aM hA3⟩,⟨1,by simp,rfl⟩,⟨2,by simp,rfl⟩,⟨3,by simp,rfl⟩,an⟩ (λ _=>rfl) ?_
 ·exact aH.mid (A:=[_,_,_,_,_,_,_,_,_,_,_]) [2] [1,8,9,10] rfl rfl (by decide)
 rintro v H' ⟨rfl,rfl⟩;refine⟨kV _ _ _,?_⟩;refine bY aH.swap ?_;unfold pE;refine ae [] rfl ?_;have hsc:=Bi m.N (its.map d8)
 have hln:(if l5 m.N (its.map d8)=0 then cY m.N (its.map d8) else []).length<4294967281:=by
  split
  ·have:(cY m.N (its.map d8)).length<=85000000:=hi3;omega
  ·simp
 refine ad (aa ?_);refine am (gs:=[999]) rfl ?_;refine am (gs:=[999]) rfl ?_;refine ap [] (pK V (if l5 m.N (its.map d8)=0 then cY m.N (its.map d8) else []) hln) rfl (by kernel_rfl) ⟨⟨2,by simp,rfl⟩,⟨3,by simp,rfl⟩,⟨4,by simp,rfl⟩,an⟩ (λ _=>rfl) ?_;rintro v H' ⟨Al,n,hn,rfl,rfl⟩;subst hn;refine⟨rfl,?_⟩;refine ap [] (o7 V (l5 m.N (its.map d8)) hsc.inB Al _ _) rfl (by kernel_rfl) ⟨⟨3,by simp,rfl⟩,⟨4,by simp,rfl⟩,⟨5,by simp,rfl⟩,an⟩ (λ _=>rfl) ?_
 have hit:m.sta.itemsT=ex (l5 m.N (its.map d8)) (aT (cY m.N (its.map d8))):=by
  unfold dp.itemsT;rw[if_neg hz,<- hits];rfl
 rw[hit];rintro v H' (⟨h0,rfl,rfl⟩|⟨h0,A2,c2,rfl,rfl⟩)
 ·refine⟨rfl,?_⟩;rw[if_pos h0];refine ae [] rfl ?_;refine az [0] (by decide) rfl (ay ⟨_,rfl,?_⟩);unfold ex;rw[if_neg (λ h=>h h0)];exact⟨Al,_,rfl,rfl⟩
 ·refine⟨rfl,?_⟩;refine ae [] rfl ?_;refine az [0] (by decide) rfl (ay ⟨_,rfl,?_⟩);unfold ex;rw[if_pos h0];exact⟨A2,c2,rfl,rfl⟩
end Go.Proofs.YtmcnpaelaieniaaGreatDoor
