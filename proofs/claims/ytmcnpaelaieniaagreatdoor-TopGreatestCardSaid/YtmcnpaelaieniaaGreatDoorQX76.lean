import Derived.Test.YtmcnpaelaieniaaGreatDoorQX89
import Derived.Test.YtmcnpaelaieniaaGreatDoorQX85
import Derived.Test.YtmcnpaelaieniaaGreatDoorQX59
import Derived.Test.YtmcnpaelaieniaaGreatDoorScrZ
/- A part of the proof; see NOTES.md. -/
set_option linter.unusedVariables false
set_option linter.unusedSimpArgs false
namespace Go.Proofs.YtmcnpaelaieniaaGreatDoor
open Go.RowKit
theorem vj(N:aU)(hN:N.Fits)(hR:N.Right)(A:OA)(c b o:Nat)(hA:N.arcs≠[]->A=some ⟨b,o,none⟩)(f:LI)(F:OA)(cf bf of:Nat)(hF:f≠[]->F=some ⟨bf,of,none⟩)(hf:∀ x∈f,dn x)(hfl:f.length*8<=140737488351232)(hno:¬ aK N f):
 Fn 157 [bp N A c,.slice F f.length cf] [] [.seg b o (arcs N.arcs),.seg bf of (ax f)] λ v H'=>v=.tuple #[.slice none 0 0,.int .i64 (en N f)]/\H'=[]:=by
 refine aJ Tryz.func157 rfl rfl λ w0=>?_;refine ad (aa ?_);refine bx (cs:=bI N A c) rfl rfl rfl (λ _=>rfl) λ p=>?_;refine ae [] rfl ?_;refine ad (aa ?_);refine ab [] (v:=bp N A c) (af 0 rfl) rfl ?_;refine ah [] rfl ?_;refine ap [] (gq N hN hR A c b o hA f F cf bf of hF hf hfl) rfl (by kernel_rfl) ⟨⟨1,_,by simp,rfl,ak _ _ _,av⟩,⟨2,_,by simp,rfl,ak _ _ _,av⟩,an⟩ (λ _=>rfl) ?_;rintro v H' ⟨⟨_,h⟩|⟨rfl,_⟩,rfl⟩
 case inl=>exact absurd h hno
 refine⟨rfl,?_⟩;refine ae [] rfl ?_;refine ad (ad (aa (ae [] rfl ?_)));refine aC rfl (λ _=>?_) (λ h=>absurd (cU.1 (GK.1 h)) hno);refine ad (aa (ae [] rfl ?_));exact az [] (by decide) rfl (ay ⟨_,rfl,rfl,rfl⟩)
set_option maxHeartbeats 2000000 in
theorem vD(N:aU)(hN:N.Fits)(hR:N.Right)(A:OA)(c b o:Nat)(he:N.arcs=[])(F:OA)(cf bf of:Nat)(hflow:aK N []):
 Fn 157 [bp N A c,.slice F ([]:LI).length cf] [] [.seg b o (arcs N.arcs),.seg bf of (ax [])] (wy N []):=by
 have hnn:=hR.nodes;have hl0:N.arcs.length=0:=by rw[he];rfl
 obtain⟨n,hn⟩:∃ n:Nat,N.nodes=n:=⟨N.nodes.toNat,by omega⟩;have hv0:cS (N.arcs.zip []) N.snk=0:=by rw[he];rfl
 refine aJ Tryz.func157 rfl rfl λ w0=>?_;refine ad (aa ?_);refine bx (cs:=bI N A c) rfl rfl rfl (λ _=>rfl) λ p=>?_;refine ae [] rfl ?_;refine ad (aa ?_);refine ab [] (v:=bp N A c) (af 0 rfl) rfl ?_;refine ah [] rfl ?_;refine ap [] (gq N hN hR A c b o (λ h=>absurd he h) [] F cf bf of (λ h=>absurd rfl h) (λ _ h=>absurd h GP) (by simp)) rfl (by kernel_rfl) ⟨⟨1,_,by simp,rfl,ak _ _ _,av⟩,⟨2,_,by simp,rfl,ak _ _ _,av⟩,an⟩ (λ _=>rfl) ?_;rintro v H' ⟨⟨rfl,_⟩|⟨_,hno⟩,rfl⟩
 case inr=>exact absurd hflow hno
 refine⟨rfl,?_⟩;rw[hv0];refine ae [] rfl ?_;refine ad (ad (aa (ae [] rfl ?_)));refine aC rfl (λ h=>absurd rfl h) (λ _=>aq ?_)
 refine jg (σ:=Nat×OA×Nat×Nat) (λ t=>[(8,.pointer (some ⟨t.1,0,none⟩)),(2,.pointer (some ⟨p,0,none⟩))])
  (λ t=>[blk t.1 256 (lU N A c t.2.1 0 t.2.2.1 0 (some ⟨t.2.2.2,0,none⟩) (n+1) (n+1) 0),blk p 33 (bI N A c),.own (.slice t.2.1 0 t.2.2.1) 2 1 0 (ax [])]) ?_ ?_
 ·refine sA (Sf:=[blk p 33 (bI N A c)]) ?_;refine sw [0,1,3,4,5,6] (by decide+kernel) [0] (by decide) rfl ?_
  (repeat' (first|refine bB (gs:=[999]) rfl rfl ?_|refine aj [999] (v:=bp N A c) rfl (af 0 rfl) rfl ?_|refine aj [999] (v:=.int .i64 N.nodes) rfl (af 0 rfl) rfl ?_))
  refine bq ?_;refine r9 27 (v':=.int .i64 ((n+1:Nat):Int)) rfl (Gt (Value.int .i64) ((cv (n:=N.nodes+1) (by omega)).trans (by omega))) ?_;refine bT 2 [7] (by decide+kernel) (by decide) ⟨⟨_,rfl,?_⟩,⟨_,rfl,?_⟩,an⟩
  ·refine ap (fst:=[]) (cap:=[]) [] (fB F cf bf of [] (λ h=>absurd rfl h) (by simp)) rfl (by kernel_rfl) ⟨⟨2,_,by simp,rfl,ak _ _ _,av⟩,an⟩ (λ _=>rfl) ?_;rintro u H' ⟨Al,cl,rfl,rfl⟩;refine⟨rfl,?_⟩;refine ai ⟨⟨[1],by decide,rfl⟩,?_⟩;refine bT 7 [] (by decide+kernel) (by decide) ⟨⟨_,rfl,?_⟩,an⟩;refine cX (n:=n+1) (c:=n+1) rfl rfl rfl rfl rfl rfl (by omega) (by omega) (by omega) (λ _=>rfl) λ go=>?_;refine ai ⟨⟨[2],by decide,rfl⟩,?_⟩;refine bT 8 [] (by decide+kernel) (by decide) ⟨⟨_,rfl,?_⟩,an⟩;refine ab [] (bz rfl rfl rfl rfl rfl rfl) rfl ?_;refine ai ⟨⟨[2],by decide,rfl⟩,?_⟩;refine bT 9 [] (by decide+kernel) (by decide) ⟨⟨_,rfl,?_⟩,an⟩;refine bx (cs:=lU N A c Al 0 cl 0 (some ⟨go,0,none⟩) (n+1) (n+1) 0) rfl rfl rfl (λ _=>rfl) λ pw=>?_;refine ai ⟨⟨[3],by decide,rfl⟩,?_⟩;refine bT 10 [] (by decide+kernel) (by decide) ⟨⟨_,rfl,?_⟩,an⟩;refine ae [] rfl ?_;refine⟨⟨[3],by decide,rfl⟩,?_⟩;exact kY (by decide+kernel) ⟨(pw,Al,cl,go),⟨rfl,rfl,an⟩,aH.picks [0,3,2] (by decide) rfl⟩
  ·refine cX (n:=n+1) (c:=n+1) rfl rfl rfl rfl rfl rfl (by omega) (by omega) (by omega) (λ _=>rfl) λ go=>?_;refine ai ⟨⟨[1],by decide,rfl⟩,?_⟩;refine bT 2 [] (by decide+kernel) (by decide) ⟨⟨_,rfl,?_⟩,an⟩;refine ap (fst:=[]) (cap:=[]) [] (fB F cf bf of [] (λ h=>absurd rfl h) (by simp)) rfl (by kernel_rfl) ⟨⟨3,_,by simp,rfl,ak _ _ _,av⟩,an⟩ (λ _=>rfl) ?_;rintro u H' ⟨Al,cl,rfl,rfl⟩;refine⟨rfl,?_⟩;refine ai ⟨⟨[2],by decide,rfl⟩,?_⟩;refine bT 8 [] (by decide+kernel) (by decide) ⟨⟨_,rfl,?_⟩,an⟩;refine ab [] (bz rfl rfl rfl rfl rfl rfl) rfl ?_;refine ai ⟨⟨[2],by decide,rfl⟩,?_⟩;refine bT 9 [] (by decide+kernel) (by decide) ⟨⟨_,rfl,?_⟩,an⟩;refine bx (cs:=lU N A c Al 0 cl 0 (some ⟨go,0,none⟩) (n+1) (n+1) 0) rfl rfl rfl (λ _=>rfl) λ pw=>?_;refine ai ⟨⟨[3],by decide,rfl⟩,?_⟩;refine bT 10 [] (by decide+kernel) (by decide) ⟨⟨_,rfl,?_⟩,an⟩;refine ae [] rfl ?_;refine⟨⟨[3],by decide,rfl⟩,?_⟩;exact kY (by decide+kernel) ⟨(pw,Al,cl,go),⟨rfl,rfl,an⟩,aH.picks [0,3,1] (by decide) rfl⟩
 rintro⟨pw,Al,cl,go⟩;refine bh (aW 2 rfl) λ ⟨_,hcl,_,_⟩=>?_;refine ad (ad (aa (ah [] rfl ?_)));refine ab [] (v:=.slice A N.arcs.length c) (af 1 rfl) rfl ?_;refine ae [] rfl ?_;refine au ?_;refine bO (σ:=Unit) (λ _=>[(34,.int .i64 0),(33,.int .i64 (N.arcs.length:Int)),(8,.pointer (some ⟨pw,0,none⟩)),(2,.pointer (some ⟨p,0,none⟩))]) (λ _=>[blk pw 256 (lU N A c Al 0 cl 0 (some ⟨go,0,none⟩) (n+1) (n+1) 0),.own (.slice Al 0 cl) 2 1 0 (ax [])]) (λ _=>True) (λ _=>0) () [0,2] ⟨rfl,rfl,rfl,rfl,an⟩ (by decide) rfl an ?_;rintro⟨⟩-;refine ad (aa (ae [] rfl ?_));refine ad (aC rfl (λ hlt=>absurd hlt (by omega)) (λ hge=>bc ?_));refine ad (aa (ae [] rfl ?_));refine ad (au ?_);refine bO (σ:=Unit) (λ _=>[(11,.slice none 0 0),(8,.pointer (some ⟨pw,0,none⟩))]) (λ _=>[blk pw 256 (lU N A c Al 0 cl 0 (some ⟨go,0,none⟩) (n+1) (n+1) 0),.own (.slice Al 0 cl) 2 1 0 (ax [])]) (λ _=>True) (λ _=>0) () [0,1] ⟨rfl,rfl,an⟩ (by decide) rfl an ?_;rintro⟨⟩-;refine ad (ad (aa (ah [] rfl ?_)));refine aw (fst:=[]) (cap:=[]) [] (tA N A c [] (by simp) Al cl 0 (GB _) (λ h=>absurd rfl h) 0 (some ⟨go,0,none⟩) (n+1) (n+1) 0 (GF _) (λ j x _ hx=>by simp at hx) pw) rfl rfl rfl rfl (by kernel_rfl) (K:=[.own (.slice Al 0 cl) 2 1 0 (ax [])]) (aH.picks [0,1] (by decide) rfl) ⟨⟨0,_,by simp,rfl,ge,.inl rfl⟩,an⟩ (λ _=>rfl) ?_;rintro u H' ⟨rfl,rfl⟩;refine⟨rfl,?_⟩;refine ae [] rfl ?_;refine aC rfl (λ hp=>absurd hp (by decide)) (λ _=>bc ?_);refine ad (aa (ae [] rfl ?_));refine cd 235 3 ?_;refine az [0] (by decide) rfl (ay ⟨_,rfl,[],none,0,?_,rfl,rfl⟩);rw[hv0];rfl
theorem Fn.mono0{f:FuncId}{args:LV_}{M:LN}{H:Heap}{P:Value->Prop}{R:Value->Heap->Prop}(h:Fn f args M H λ v H'=>P v/\H'=[])(e sz:Nat)(hr:∀ v,P v->R v [.own (.slice none 0 0) e sz 0 []]):Fn f args M H R:=λ w hw=>
 (h w hw).mono λ x w' ⟨v,H',he,hH,hP,hH0⟩=>⟨v,_,he,(by subst hH0;exact hH.addnil e sz),hr v hP⟩
def xc(N:aU)(f:LI)(v:Value)(H':Heap):Prop:=∃ (its:List zK) (A':OA) (c':Nat),(aK N f->its.map d8=mz N f)/\(¬ aK N f->its=[])/\v=.tuple #[.slice A' its.length c',.int .i64 (en N f)]/\H'=lO A' c' its
theorem vB(N:aU)(hN:N.Fits)(hR:N.Right)(A:OA)(c b o:Nat)(hA:N.arcs≠[]->A=some ⟨b,o,none⟩)(f:LI)(F:OA)(cf bf of:Nat)(hF:f≠[]->F=some ⟨bf,of,none⟩)(hf:∀ x∈f,dn x)(hfl:f.length*8<=140737488351232):
 Fn 157 [bp N A c,.slice F f.length cf] [] [.seg b o (arcs N.arcs),.seg bf of (ax f)] (xc N f):=by
 by_cases hflow:aK N f
 ·have hz:en N f=0:=cU.2 hflow;have key:∀ v H',wy N f v H'→xc N f v H':=fun v H' ⟨its,A',c',h1,h2,h3⟩=>⟨its,A',c',fun _=>h1,fun h=>absurd hflow h,by rw[hz];exact h2,h3⟩;by_cases he:N.arcs=[]
  ·have hf0:f=[]:=GM.1 (by have:=hflow.len;rw[he] at this;exact this);subst hf0;exact (vD N hN hR A c b o he F cf bf of hflow).mono key
  ·exact (yQ N hN hR A c b o hA f F cf bf of hF hf hfl hflow he).mono key
 ·refine (vj N hN hR A c b o hA f F cf bf of hF hf hfl hflow).mono0 235 3 λ v hv=>?_;subst hv;exact⟨[],none,0,λ h=>absurd h hflow,λ _=>rfl,rfl,rfl⟩
def C3(q:dp)(v:Value)(H':Heap):Prop:=∃ (its:List zK) (A':OA) (c':Nat),its.map d8=q.itemsZ.1/\v=.tuple #[.slice A' its.length c',.int .i64 q.itemsZ.2]/\H'=lO A' c' its
theorem zI(m:cD)(hm:m.sta.OK)(p ba bf bs:Nat)(hat:m.At ba bf bs):Fn 130 [.pointer (some ⟨p,0,none⟩)] [] (fw p m ba bf bs) (C3 m.sta):=by
 have hfl:=hm.flen;have hfl':m.f.length<=100000:=hfl;refine aJ Tryz.func130 rfl rfl λ w0=>?_;refine ad (aa (ae [] rfl ?_));refine ad (ad (aa (ah [] rfl ?_)));refine bF rfl rfl rfl rfl rfl rfl rfl (λ _=>rfl) λ g=>?_;refine ap (fst:=[]) (cap:=[]) [] (jn m p ([false]) (by decide) (some ⟨g,0,none⟩) 1 1 g 0 (λ _=>rfl) rfl) rfl (by kernel_rfl) ⟨⟨1,_,by simp[fw],rfl,ak _ _ _,av⟩,⟨0,_,by simp,rfl,aF _ _ _ (0,0),.inr rfl⟩,an⟩ (λ _=>rfl) ?_;rintro v H' ⟨rfl,rfl⟩;refine⟨rfl,?_⟩;refine ae [] rfl ?_;refine ad (aa (ae [] rfl ?_));refine aC rfl (λ hz=>?_) (λ hz=>aq ?_)
 ·refine ad (aa (ae [] rfl ?_));refine cd 235 3 ?_;refine az [0] (by decide) rfl (ay ⟨_,rfl,[],none,0,?_,?_,rfl⟩)
  ·unfold dp.itemsZ;rw[if_pos (show m.sta.lack [false]≠0 from hz)];rfl
  ·unfold dp.itemsZ;rw[if_pos (show m.sta.lack [false]≠0 from hz)];rfl
 have hz0:m.sta.lack [false]=0:=GK.1 hz;have hR:m.N.Right:=hm.net (nf hz0);refine ad ?_;refine eK 13 [0,1,2,3,4,5,6,7] 8 (cZ [9,10,11,12]) (by kernel_rfl) ?_
 (repeat' (first|refine ev (gs:=[999]) rfl rfl ?_|refine bA [999] (v:=bp m.N m.An m.cn) rfl rfl (a8 (i:=0) 1 rfl rfl rfl) rfl ?_|refine bA [999] (v:=.slice m.Af m.f.length m.cf) rfl rfl (a8 (i:=4) 1 rfl rfl rfl) rfl ?_))
 refine d6 rfl ?_;refine ap [] (vB m.N hR.fits' hR m.An m.cn ba 0 hat.n m.f m.Af m.cf bf 0 hat.f hm.fin (by omega)) rfl (by kernel_rfl) ⟨⟨2,_,by simp[fw],rfl,ak _ _ _,av⟩,⟨3,_,by simp[fw],rfl,ak _ _ _,av⟩,an⟩ (λ _=>rfl) ?_;rintro v H' ⟨its,A',c',h1,h2,rfl,rfl⟩;refine⟨kV _ _ _,?_⟩;refine ai ⟨⟨[],by decide,rfl⟩,?_⟩;refine aB [] rfl ?_;refine bq ?_;refine ai ?_;refine bJ (aH.sub (List.sublist_append_left _ _)) ?_
 have hzz:m.sta.itemsZ=(its.map d8,en m.N m.f):=by
  unfold dp.itemsZ;rw[if_neg (λ h=>h hz0)];by_cases hf:aK m.N m.f
  ·rw[if_pos (show aK m.sta.N m.sta.f from hf),h1 hf,cU.2 hf];rfl
  ·rw[if_neg (show ¬ aK m.sta.N m.sta.f from hf),h2 hf];rfl
 refine ay ⟨_,rfl,its,A',c',by rw[hzz],by rw[hzz];rfl,rfl⟩
theorem yd(V:b5)(m:cD)(hm:m.sta.OK)(p ba bf bs:Nat)(hat:m.At ba bf bs):Fn 107 [.pointer (some ⟨p,0,none⟩)] [] (fw p m ba bf bs++V.heap) λ v H'=>v=.tuple #[dF m.sta.printZ.1,.int .i64 m.sta.printZ.2]/\H'=[]:=by
 refine aJ Tryz.func107 rfl rfl λ w0=>?_;refine ad (aa (ae [] rfl ?_));refine ad (ad (aa (ah [] rfl ?_)));refine ap (fst:=[]) (cap:=[]) [] (jn m p [] (by decide) none 0 0 0 0 (λ h=>absurd rfl h) rfl) rfl (by kernel_rfl) ⟨⟨0,_,by simp[fw],rfl,ak _ _ _,av⟩,⟨0,_,by simp[fw],rfl,ge,.inl rfl⟩,an⟩ (λ _=>rfl) ?_;rintro v H' ⟨rfl,rfl⟩;refine⟨rfl,?_⟩;refine ae [] rfl ?_;refine ad (aa (ae [] rfl ?_));refine aC rfl (λ hz=>?_) (λ hz=>aq ?_)
 ·refine ad (aa (ae [] rfl ?_));refine az [] (by decide) rfl (ay ⟨_,rfl,?_,rfl⟩);unfold dp.printZ;rw[if_pos (show m.sta.lack []≠0 from hz)];rfl
 have hz0:m.sta.lack []=0:=GK.1 hz;have hR:m.N.Right:=hm.net (nf hz0);refine ad (aa (ah [] rfl ?_));refine ab [] (v:=bp m.N m.An m.cn) (a8 (i:=0) 0 rfl rfl rfl) rfl ?_;refine ap [] (B5 V m.N hR.fits4 m.An m.cn ba 0 hat.n) rfl (by kernel_rfl) ⟨⟨1,_,by simp[fw],rfl,ak _ _ _,av⟩,⟨4,by simp,rfl⟩,⟨5,by simp,rfl⟩,⟨6,by simp,rfl⟩,an⟩ (λ _=>rfl) ?_;rintro v H' ⟨rfl,rfl⟩;refine⟨rfl,?_⟩
 have hpr:qm m.N=.tuple #[dF m.sta.printZ.1,.int .i64 m.sta.printZ.2]:=by
  unfold qm dp.printZ;rw[if_pos hR.check,if_pos hR.check,if_neg (λ h=>h hz0)];rfl
 rw[hpr];refine ae [] rfl ?_;exact az [] (by decide) rfl (ay ⟨_,rfl,rfl,rfl⟩)
end Go.Proofs.YtmcnpaelaieniaaGreatDoor
