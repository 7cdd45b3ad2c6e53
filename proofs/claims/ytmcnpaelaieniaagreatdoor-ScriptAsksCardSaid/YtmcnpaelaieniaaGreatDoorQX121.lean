import Derived.Test.YtmcnpaelaieniaaGreatDoorQX120
/- A part of the proof. -/
set_option linter.unusedVariables false
set_option linter.unusedSimpArgs false
set_option maxHeartbeats 8000000
namespace Go.Proofs.YtmcnpaelaieniaaGreatDoor
open Go.RowKit
def Mt(g:Gr)(v:Value)(H':Heap):Prop:=(ex g=0/\∃ (A':OA_) (c':Nat),v=.tuple #[cd (dO g) A' c',.int .i64 0]/\H'=[.own (.slice A' (dO g).arcs.length c') 37 3 (dO g).arcs.length (arcs (dO g).arcs)])\/
 (ex g≠0/\v=.tuple #[cd ⟨0,0,0,[]⟩ none 0,.int .i64 (ex g)]/\H'=[])
theorem FM(g:Gr)(d:g.Fits)(A:OA_)(c b o:Nat)(e:g.edges≠[]->A=some ⟨b,o,none⟩):Fn 152 [xj g A c] [] [.seg b o (fL g.edges)] (Mt g):=by
 by_cases a:ex g=0
 ·refine (Cs g ((iL d).1 a) A c b o e).mono ?_;rintro v H' ⟨f,i,rfl,rfl⟩;exact .inl ⟨a,f,i,rfl,rfl⟩
 refine ie Tryz.func152 rfl rfl λ w0=>bA ?_;refine dh (cs:=rE g A c) λ k=>?_;refine dM λ j=>?_;refine fR ?_;refine bh (v:=xj g A c) 1 ?_;refine cH (Be g d A c b o e) rfl ⟨bx 2 rfl,be⟩ ?_;refine cS ?_;refine ak rfl (λ _=>?_) (λ h=>absurd a h);refine bA ?_;refine fv ?_;refine iu ?_;refine tT ?_;exact bM<|⟨[_,_],[],_,⟨⟨j,0,_,_,rfl,rfl,rfl⟩,rfl,be⟩,ab,rfl,.inr ⟨a,rfl,rfl⟩⟩
theorem Ds(sg:Int)(y:sg=112\/sg=116)(g:Gr)(p:g.Right)(A:OA_)(c b o:Nat)(S:g.edges≠[]->A=some ⟨b,o,none⟩)(nl:Nat)(hnl:g.left=nl):Fn 125 [xj g A c,.int .u8 sg] [] [.seg b o (fL g.edges)] λ v H'=>∃ (f:LI_) (z B:Nat) (L:OA_) (M:Nat),jA (dO g) f/\Dn (dO g) 1 (List.replicate (dO g).arcs.length 0) z B f/\
 v=.tuple #[.slice L (dV f nl g.edges.length).length M,.int .i64 0]/\H'=[.own (.slice L (dV f nl g.edges.length).length M) 3 1 (dV f nl g.edges.length).length (aj (dV f nl g.edges.length))]:=by
 have h1:=p.left;have h2:=p.right;have h3:=p.len;have w:=mp p;have U:=qK g;refine aT Tryz.func125 λ w0=>?_;refine bA ?_;refine dh (cs:=rE g A c) λ p2=>?_;refine fR ?_;refine bh (v:=xj g A c) 0 ?_;refine fh (Cs g p A c b o S) rfl ⟨bx 1 rfl,be⟩ ?_;rintro v H' ⟨A1,N,rfl,rfl⟩;refine fj (aH 0 rfl) λ ⟨_,_,d,C⟩=>?_;obtain⟨g1,d⟩:=bo d C;have q:(dO g).arcs≠[]->A1=aJ g1 0:=λ h=>d (λ D=>h (Nw.1 (by have:=n7 (dO g).arcs;rw[D] at this;simp at this;omega)));refine az ?_;refine dM λ p6=>?_;refine nW ?_;refine ak rfl (λ h=>absurd rfl h) (λ _=>ag ?_);refine bA ?_;refine bh (v:=cd (dO g) A1 N) 0 ?_;refine az ?_;refine dB (xW (dO g) w.fits' w A1 N g1 0 q sg y) rfl ⟨gy 1 rfl d,be⟩ ?_;rintro v H' ⟨f,z,B,st,Af,cf,r,_,_,_,_,_,rfl,rfl⟩;obtain⟨E,_,_,lv,F,hlt⟩:=r.keeps w ab (iS _ w);have H:=uQ E.toRanged F hlt;have V:=E.len;refine rN ?_;refine dM λ p8=>?_;refine nW ?_;refine ak rfl (λ h=>absurd rfl h) (λ _=>ag ?_);refine aP (aH 1 rfl) λ ⟨_,I,j,K⟩=>?_;obtain⟨gf,j⟩:=bo j K;refine Ly ?_
 refine bS (σ:=Nat×OA_×Nat) (λ s=>[(41,af s.1),(40,af g.edges.length),(39,.slice (fT Af cf nl 1) g.edges.length (cf-nl)),(9,.slice s.2.1 (dV f nl s.1).length s.2.2)])
  (λ s=>[.own (.slice s.2.1 (dV f nl s.1).length s.2.2) 3 1 (dV f nl s.1).length (aj (dV f nl s.1)),.own (.slice Af f.length cf) 2 1 f.length (aj f)]) (λ s=>s.1<=g.edges.length) (λ s=>g.edges.length-s.1)
  (0,none,0) [0,2] a8 ab rfl (Nk _) ?_
 rintro⟨k,O,c2⟩ X;simp only at X ⊢;have Y:=pF f nl k;have a:=sF f nl k;refine ao ?_;refine am (ak rfl (λ hlt=>ag ?_) (λ Z=>aO ?_))
 ·have hlt:k<g.edges.length:=by omega
  obtain⟨x,P⟩:∃ x,f[nl+k]?=some x:=⟨f[nl+k]'aa,an aa⟩;have hy:f.getD (nl+k) 0=x:=by rw[Nc,P];rfl
  have t:aj f≠[]:=by
   intro D;have:f.length=0:=by rw[<- bU,D];rfl
   omega
  obtain rfl:=j t
  have u:fT (aJ gf 0) cf nl 1=aJ gf nl:=by
   have:=e8 (A:=aJ gf 0) (c:=cf) (l:=nl) (n:=f.length) (sz:=1) aE I aa;rw[this];simp
  rw[u];have Q:IntKind.i64.wrap ((k:Int)+1)=((k+1:Nat):Int):=cv aa;refine am (au ?_);refine jc ?_
  refine ae [] (dW (b:=gf) (off:=nl) (i:=k) (cs:=(aj f).drop nl) (v:=af x) (c:=.own (ax gf 0 f.length cf) 2 1 f.length (aj f)) 1 rfl rfl rfl
   (by have:=dI (b8 (g:=gf) (e:=2) (sz:=1) (n:=f.length) (cap:=cf) (xs:=aj f)) nl;rw[NO] at this;exact this)
   (by show ((aj f).drop nl)[k]?=_;rw[Og];exact ep P)) rfl ?_
  refine cS ?_;refine ak rfl (λ hv=>?_) (λ R=>ag ?_)
  ·rw[if_pos aa] at a;refine aC (fS [] rfl ?_);refine dp λ g2=>?_;refine bp (n:=(dV f nl k).length) (m:=1) (off:=0) (news:=aj [(k:Int)]) 1 0 rfl rfl rfl rfl rfl rfl ab rfl rfl (aQ g2 _ _ (0,0)) aE rfl rfl aa aa (λ _ _=>rfl) λ A3 c3=>?_;rw[show (dV f nl k).length+1=(dV f nl (k+1)).length by rw[a];simp,show aj (dV f nl k)++aj [(k:Int)]=aj (dV f nl (k+1)) by rw[a];simp[aj]];refine cS ?_;exact⟨(k+1,A3,c3),[1,2],⟨M8 some (M8 (Value.int .i64) Q),rfl,rfl,rfl,be⟩,ab,rfl,by simp only;omega,by simp only;omega⟩
  ·rw[if_neg aa,NL] at a;refine ao ?_;exact⟨(k+1,O,c2),[0,1],⟨M8 some (M8 (Value.int .i64) Q),rfl,rfl,by simp only[a];rfl,be⟩,ab,by simp only[a];rfl,by simp only;omega,by simp only;omega⟩
 ·obtain rfl:k=g.edges.length:=by omega
  refine ao ?_;exact aL [0] ⟨_,rfl,f,z,B,O,c2,⟨E,H⟩,r,rfl,rfl⟩
noncomputable def js(N:aR)(f:LI_):Int:=if dt N≠0 then dt N else eQ N f
theorem qi{N:aR}{f:LI_}:js N f=0↔N.Right/\aD N f:=by
 constructor
 ·intro h;unfold js at h;by_cases a:dt N≠0
  ·rw[if_pos a] at h;exact absurd h a
  ·rw[if_neg a] at h;exact⟨lj (Nn.1 a),de.1 h⟩
 ·rintro⟨b,c⟩;unfold js;rw[if_neg (λ h=>h b.check)];exact de.2 c
noncomputable def kU(N:aR)(f:LI_)(least:Int):Int:=if js N f≠0 then js N f else if least<1 then 3 else 0
theorem ud{N:aR}{f:LI_}{least:Int}(h:js N f≠0):kU N f least=js N f:=by unfold kU;rw[if_pos h]
theorem Bd{N:aR}{f:LI_}{least:Int}(h:js N f=0)(hl:least<1):kU N f least=3:=by unfold kU;rw[if_neg (λ k=>k h),if_pos hl]
theorem rO{N:aR}{f:LI_}{least:Int}:kU N f least=0↔N.Right/\aD N f/\1<=least:=by
 unfold kU
 constructor
 ·intro h;by_cases hw:js N f≠0
  ·rw[if_pos hw] at h;exact absurd h hw
  ·rw[if_neg hw] at h;obtain⟨a,b⟩:=qi.1 (Nn.1 hw);refine⟨a,b,?_⟩;split at h
   ·omega
   ·omega
 ·rintro⟨a,b,hl⟩;rw[if_neg (λ h=>h (qi.2 ⟨a,b⟩)),if_neg aa]
theorem Bx(N:aR)(d:N.Fits)(e:dt N≠0)(A:OA_)(c b o:Nat)(g:N.arcs≠[]->A=some ⟨b,o,none⟩)(f:LI_)(F:OA_)(cf a of:Nat)(j:f≠[]->F=some ⟨a,of,none⟩)(k:∀ x∈f,b9 x)(i:f.length*8<=140737488351232):
 Fn 77 [cd N A c,.slice F f.length cf] [] [.seg b o (arcs N.arcs),.seg a of (aj f)] λ v H'=>v=.int .i64 (dt N)/\H'=[]:=by
 refine aT Tryz.func77 λ w0=>?_;refine bA ?_;refine dh (cs:=bY N A c) λ p=>?_;refine ip ?_;refine cH (nX N d A c b o g) rfl ⟨bx 1 rfl,be⟩ ?_;refine cS ?_;refine ak rfl (λ _=>?_) (λ h=>absurd e h);exact jV
theorem BN(N:aR)(g:N.Fits)(e:dt N≠0)(A:OA_)(c b o:Nat)(i:N.arcs≠[]->A=some ⟨b,o,none⟩)(f:LI_)(F:OA_)(cf a of:Nat)(j:f≠[]->F=some ⟨a,of,none⟩)(k:∀ x∈f,b9 x)(d:f.length*8<=140737488351232):
 Fn 39 [cd N A c,.slice F f.length cf] [] [.seg b o (arcs N.arcs),.seg a of (aj f)] λ v H'=>v=.int .i64 (dt N)/\H'=[]:=by
 refine aT Tryz.func39 λ w0=>?_;refine bA ?_;refine dh (cs:=bY N A c) λ p=>?_;refine ip ?_;refine cH (Bx N g e A c b o i f F cf a of j k d) rfl ⟨bx 1 rfl,bx 2 rfl,be⟩ ?_;refine cS ?_;refine ak rfl (λ _=>?_) (λ h=>absurd e h);exact jV
theorem Gw(N:aR)(g:N.Fits)(e:dt N≠0)(A:OA_)(c b o:Nat)(i:N.arcs≠[]->A=some ⟨b,o,none⟩)(f:LI_)(F:OA_)(cf a of:Nat)(j:f≠[]->F=some ⟨a,of,none⟩)(k:∀ x∈f,b9 x)(d:f.length*8<=140737488351232):
 Fn 88 [cd N A c,.slice F f.length cf] [] [.seg b o (arcs N.arcs),.seg a of (aj f)] λ v H'=>v=.tuple #[.slice none 0 0,.int .i64 (dt N)]/\H'=[]:=by
 refine aT Tryz.func88 λ w0=>?_;refine bA ?_;refine dh (cs:=bY N A c) λ p=>?_;refine ip ?_;refine cH (BN N g e A c b o i f F cf a of j k d) rfl ⟨bx 1 rfl,bx 2 rfl,be⟩ ?_;refine cS ?_;refine ak rfl (λ _=>?_) (λ h=>absurd e h);exact jV
theorem BC(N:aR)(g:N.Fits)(e:dt N≠0)(A:OA_)(c b o:Nat)(i:N.arcs≠[]->A=some ⟨b,o,none⟩)(f:LI_)(F:OA_)(cf a of:Nat)(j:f≠[]->F=some ⟨a,of,none⟩)(k:∀ x∈f,b9 x)(d:f.length*8<=140737488351232)(least:Int):
 Fn 109 [cd N A c,.slice F f.length cf,.int .i64 least] [] [.seg b o (arcs N.arcs),.seg a of (aj f)] λ v H'=>v=.tuple #[.slice none 0 0,.int .i64 (dt N)]/\H'=[]:=by
 refine aT Tryz.func109 λ w0=>?_;refine bA ?_;refine dh (cs:=bY N A c) λ p=>?_;refine ip ?_;refine cH (Gw N g e A c b o i f F cf a of j k d) rfl ⟨bx 1 rfl,bx 2 rfl,be⟩ ?_;refine ik ?_;refine ao ?_;refine ak rfl (λ _=>?_) (λ h=>absurd e h);exact jV
theorem Hc(N:aR)(hN:N.Fits)(hz:dt N≠0)(A:OA_)(c b o:Nat)(hA:N.arcs≠[]->A=some ⟨b,o,none⟩)(f:LI_)(F:OA_)(cf bf of:Nat)(hF:f≠[]->F=some ⟨bf,of,none⟩)(hf:∀ x∈f,b9 x)(hfl:f.length*8<=140737488351232)(least:Int):
 Fn 74 [cd N A c,.slice F f.length cf,.int .i64 least] [] [.seg b o (arcs N.arcs),.seg bf of (aj f)] λ v H'=>v=td (0,dt N)/\H'=[]:=by
 refine aT Tryz.func74 λ w0=>?_;refine bA ?_;refine dh (cs:=bY N A c) λ p=>?_;refine Lr ?_;refine ak rfl (λ _=>?_) (λ h=>absurd hz h);exact jV
theorem BP{N:aR}{f:LI_}{least:Int}(a:dt N≠0):kU N f least=dt N:=by
 have:js N f=dt N:=by unfold js;rw[if_pos a]
 rw[ud (by rw[this];exact a),this]
theorem Ex{N:aR}{f:LI_}{least:Int}(b:N.Right)(c:¬ aD N f):kU N f least=eQ N f/\eQ N f≠0:=by
 have a:eQ N f≠0:=λ h=>c (de.1 h);have:js N f=eQ N f:=by unfold js;rw[if_neg (λ h=>h b.check)]
 exact⟨by rw[ud (by rw[this];exact a),this],a⟩
def MB(N:aR)(f:LI_)(least:Int)(v:Value)(H':Heap):Prop:=
 (kU N f least=0/\∃ d:Int,v=td (d,0)/\H'=[])\/(kU N f least≠0/\∃ d:Int,v=td (d,kU N f least)/\H'=[])
theorem IM(N:aR)(l:N.Fits)(A:OA_)(c b o:Nat)(m:N.arcs≠[]->A=some ⟨b,o,none⟩)(f:LI_)(F:OA_)(cf g of:Nat)(n:f≠[]->F=some ⟨g,of,none⟩)(p:∀ x∈f,b9 x)(d:f.length*8<=140737488351232)(least:Int):
 Fn 74 [cd N A c,.slice F f.length cf,.int .i64 least] [] [.seg b o (arcs N.arcs),.seg g of (aj f)] (MB N f least):=by
 by_cases i:dt N=0
 ·have j:=lj i;refine (tn N l j A c b o m f F cf g of n p d least).mono ?_;rintro v H' (⟨e,k,lv,q,rfl,rfl⟩|⟨e,rfl,rfl⟩|⟨e,k,rfl,rfl⟩)
  ·exact .inl ⟨rO.2 ⟨j,e,k⟩,_,rfl,rfl⟩
  ·obtain⟨a,r⟩:=Ex (least:=least) j e;exact .inr ⟨by rw[a];exact r,_,by rw[a],rfl⟩
  ·have a:=Bd (N:=N) (f:=f) (qi.2 ⟨j,e⟩) k;exact .inr ⟨by rw[a];decide,_,by rw[a],rfl⟩
 ·refine (Hc N l i A c b o m f F cf g of n p d least).mono ?_;refine jH ?_;have a:=BP (f:=f) (least:=least) i;exact .inr ⟨by rw[a];exact i,_,by rw[a],rfl⟩
theorem Bv(sg:Int)(a:sg≠112)(b:sg≠116):Fn 75 [.int .u8 sg] [] [] λ v H'=>v=.nilIface/\H'=[]:=by
 refine aT Tryz.func75 λ w0=>?_;refine mI ?_;refine ao ?_;refine ak rfl (λ h=>absurd h a) (λ _=>?_);refine ao ?_;refine ak rfl (λ h=>absurd h b) (λ _=>?_);refine cA ?_
 (repeat' (first|refine c8 [] rfl ?_|refine E4 rfl rfl rfl rfl (λ _=>?_) (λ _=>?_)|refine cD (gs:=[999]) rfl ?_|refine HU rfl rfl rfl rfl (λ _=>?_) (λ _=>?_)|refine am ?_|refine aC ?_|refine ak rfl (λ _=>?_) (λ _=>?_)|refine bD rfl ?_|refine bu rfl ?_|refine nZ rfl (λ _=>?_) (λ _=>?_)|refine ag ?_|refine bM ?_))
 exact⟨_,rfl,rfl,rfl⟩
def Cq(N:aR)(f:LI_)(least sg:Int)(v:Value)(H':Heap):Prop:=
 (kU N f least=0/\(sg=112\/sg=116)/\∃ (f':LI_) (p k s:Nat) (A':OA_) (c':Nat),Dn N least f p k f'/\(sg=112->s=0)/\v=.tuple #[rh A' f'.length c' p k s,.int .i64 0]/\H'=[.own (.slice A' f'.length c') 2 1 f'.length (aj f')])\/
 (kU N f least=0/\sg≠112/\sg≠116/\v=.tuple #[rh none 0 0 0 0 0,.int .i64 1]/\H'=[])\/
 (kU N f least≠0/\v=.tuple #[rh none 0 0 0 0 0,.int .i64 (kU N f least)]/\H'=[])
theorem Gu(N:aR)(k:N.Fits)(A:OA_)(c b o:Nat)(l:N.arcs≠[]->A=some ⟨b,o,none⟩)(f:LI_)(F:OA_)(cf g of:Nat)(m:f≠[]->F=some ⟨g,of,none⟩)(n:∀ x∈f,b9 x)(i:f.length*8<=140737488351232)(least sg:Int)(p:kU N f least≠0\/sg≠112/\sg≠116):
 Fn 38 [cd N A c,.slice F f.length cf,.int .i64 least,.int .u8 sg] [] [.seg b o (arcs N.arcs),.seg g of (aj f)] (Cq N f least sg):=by
 refine ie Tryz.func38 rfl rfl λ w0=>bA ?_;refine dh (cs:=bY N A c) λ q=>?_;refine dM λ j=>?_;refine fR ?_;refine bh (v:=cd N A c) 1 ?_;refine az ?_;refine dB (IM N k A c b o l f F cf g of m n i least) rfl ⟨bx 2 rfl,bx 3 rfl,be⟩ ?_;rintro v H' (⟨a,d,rfl,rfl⟩|⟨he,d,rfl,rfl⟩)
 ·refine fO ?_;refine ak rfl (λ h=>absurd rfl h) (λ _=>ag ?_);have e:sg≠112/\sg≠116:=p.resolve_left (λ h=>h a);refine aI ?_;refine cH (Bv sg e.1 e.2) rfl be ?_;refine cS ?_;refine cA ?_;refine bA ?_;refine aG (v:=rh none 0 0 0 0 0) (eF rfl rfl rfl rfl rfl rfl) ?_;refine az ?_;refine qW ?_;exact⟨[_,_],[],_,⟨⟨j,0,_,_,rfl,rfl,rfl⟩,rfl,be⟩,ab,rfl,.inr (.inl ⟨a,e.1,e.2,rfl,rfl⟩)⟩
 ·refine fO ?_;refine ak rfl (λ _=>?_) (λ h=>absurd he h);refine bA ?_;refine aG (v:=rh none 0 0 0 0 0) (eF rfl rfl rfl rfl rfl rfl) ?_;refine az ?_;refine qW ?_;exact⟨[_,_],[],_,⟨⟨j,0,_,_,rfl,rfl,rfl⟩,rfl,be⟩,ab,rfl,.inr (.inr ⟨he,rfl,rfl⟩)⟩
theorem Hd(N:aR)(g:N.Fits)(A:OA_)(c b o:Nat)(i:N.arcs≠[]->A=some ⟨b,o,none⟩)(f:LI_)(F:OA_)(cf a of:Nat)(j:f≠[]->F=some ⟨a,of,none⟩)(n:∀ x∈f,b9 x)(d:f.length*8<=140737488351232)(least:Int)(e:b9 least)(sg:Int):
 Fn 38 [cd N A c,.slice F f.length cf,.int .i64 least,.int .u8 sg] [] [.seg b o (arcs N.arcs),.seg a of (aj f)] (Cq N f least sg):=by
 by_cases l:kU N f least≠0\/sg≠112/\sg≠116
 ·exact Gu N g A c b o i f F cf a of j n d least sg l
 ·have he:kU N f least=0:=NE λ h=>l (.inl h);have m:sg=112\/sg=116:=aa;obtain⟨q,r,hle⟩:=rO.1 he;refine (yr N g q A c b o i f r F cf a of j least hle e sg m).mono ?_;rintro v H' ⟨f',p,k,s,t,u,w,_,_,y,_,_,rfl,rfl⟩;exact .inl ⟨he,m,f',p,k,s,t,u,w,y,rfl,rfl⟩
theorem Jm(N:aR)(f:N.Fits)(i:N.arcs.length<=2000)(A:OA_)(c b o:Nat)(j:N.arcs≠[]->A=some ⟨b,o,none⟩)(sg:Int):
 Fn 16 [cd N A c,.int .u8 sg] [] [.seg b o (arcs N.arcs)] (Cq N (List.replicate N.arcs.length 0) 1 sg):=by
 refine ie Tryz.func16 rfl rfl λ w0=>bA ?_;refine dh (cs:=bY N A c) λ y=>?_;refine dM λ d=>?_;refine F3 ?_
 (first|refine aF [] rfl (ad 0 rfl) rfl ?_|refine aF [] rfl (ad 1 rfl) rfl ?_|refine aF [] rfl (ad 2 rfl) rfl ?_|refine aF [] rfl (ad 3 rfl) rfl ?_|refine aF [] rfl (ad 4 rfl) rfl ?_|refine aF [] rfl (ad 5 rfl) rfl ?_)
 refine jM ?_;refine cY (n:=N.arcs.length) (c:=N.arcs.length) rfl rfl rfl rfl rfl rfl aa aa aa aE λ g=>bZ [2,3]<|?_;rw[show made [af 0] (N.arcs.length*1)=aj (List.replicate N.arcs.length 0) by rw[db,NR];simp[aj]];refine cz ?_;refine bj [] (Hd N f A c b o j (List.replicate N.arcs.length 0) (aJ g 0) N.arcs.length g 0 aE (λ x l=>by rw[List.eq_of_mem_replicate l];decide) (by rw[NN];omega) 1 ab sg) rfl rfl rfl (by rw[NN];rfl) aW ⟨bx 3 rfl,gC 0 rfl b8 (bO aE),be⟩ aE ?_;rintro v H' (⟨a,e,f',p,k,s,m,q,r,t,rfl,rfl⟩|⟨a,u,w,rfl,rfl⟩|⟨he,rfl,rfl⟩)
 ·refine⟨rfl,bZ [3,4] ?_⟩;refine ib [] rfl<|dz 2 ?_;refine lI ?_;exact⟨[_,_],[0],_,⟨⟨d,2,_,_,rfl,rfl,rfl⟩,rfl,be⟩,ab,rfl,.inl ⟨a,e,f',p,k,s,m,q,r,t,rfl,rfl⟩⟩
 ·refine⟨rfl,bZ [2,3] ?_⟩;refine ib [] rfl<|dz 1 ?_;refine lI ?_;exact⟨[_,_],[],_,⟨⟨d,1,_,_,rfl,rfl,rfl⟩,rfl,be⟩,ab,rfl,.inr (.inl ⟨a,u,w,rfl,rfl⟩)⟩
 ·refine⟨rfl,bZ [2,3] ?_⟩;refine ib [] rfl<|dz 1 ?_;refine lI ?_;exact⟨[_,_],[],_,⟨⟨d,1,_,_,rfl,rfl,rfl⟩,rfl,be⟩,ab,rfl,.inr (.inr ⟨he,rfl,rfl⟩)⟩
section
variable {N:aR} {ls:LN_} {least:Int} {rm:LI_} {D:LB_}
end
section
variable {N:aR} {ls:LN_} {least:Int} {rm:LI_} {D:LB_}
def More(D D':LB_):Prop:=∀ v:Nat,D[v]?=some true->D'[v]?=some true
end
section
variable {N:aR} {rm:LI_} {least:Int} {k j:Nat} {lv:LI_}
end
theorem Gh{l:LI_}{A B:OA_}(h:aj l≠[]->A=B)(hl:l≠[]):A=B:=h λ b=>hl (by
 have a:(aj l).length=0:=by rw[b];rfl
 rw[bU] at a;exact Nw.1 a)
structure KS where
 g:LI_
 acc:List (LN_×Int)
 Ao:OA_
 co:Nat
 Ak:OA_
 ck:Nat
 xs:LV_
end Go.Proofs.YtmcnpaelaieniaaGreatDoor
