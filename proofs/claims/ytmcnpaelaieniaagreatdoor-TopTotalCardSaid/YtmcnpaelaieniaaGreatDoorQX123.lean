import Derived.Test.YtmcnpaelaieniaaGreatDoorQX122
/- A part of the proof. -/
set_option linter.unusedVariables false
set_option linter.unusedSimpArgs false
set_option maxHeartbeats 8000000
namespace Go.Proofs.YtmcnpaelaieniaaGreatDoor
open Go.RowKit
def Md(g:Gr)(v:Value)(H':Heap):Prop:=(ex g=0/\∃ (A':OA_) (c':Nat),v=.tuple #[bZ (dP g) A' c',.int .i64 0]/\H'=[.own (.slice A' (dP g).arcs.length c') 37 3 (dP g).arcs.length (arcs (dP g).arcs)])\/
 (ex g≠0/\v=.tuple #[bZ ⟨0,0,0,[]⟩ none 0,.int .i64 (ex g)]/\H'=[])
theorem GT(g:Gr)(d:g.Fits)(A:OA_)(c b o:Nat)(e:g.edges≠[]->A=some ⟨b,o,none⟩):Fn 152 [xQ g A c] [] [.seg b o (fO g.edges)] (Md g):=by
 by_cases a:ex g=0
 ·refine (Cs g ((j9 d).1 a) A c b o e).mono ?_;rintro v H' ⟨f,i,rfl,rfl⟩;exact .inl ⟨a,f,i,rfl,rfl⟩
 refine ia Tryz.func152 rfl rfl λ w0=>bu ?_;refine cY (cs:=rL g A c) λ k=>?_;refine dD λ j=>?_;refine fP ?_;refine bj (v:=xQ g A c) 1 ?_;refine cj (BO g d A c b o e) rfl ⟨bz 2 rfl,an⟩ ?_;refine cR ?_;refine ak rfl (λ _=>?_) (λ h=>absurd a h);refine bu ?_;refine fv ?_;refine io ?_;refine nZ ?_;exact bN<|⟨[_,_],[],_,⟨⟨j,0,_,_,rfl,rfl,rfl⟩,rfl,an⟩,ab,rfl,.inr ⟨a,rfl,rfl⟩⟩
theorem D7(sg:Int)(y:sg=112\/sg=116)(g:Gr)(p:g.Right)(A:OA_)(c b o:Nat)(S:g.edges≠[]->A=some ⟨b,o,none⟩)(nl:Nat)(hnl:g.left=nl):Fn 125 [xQ g A c,.int .u8 sg] [] [.seg b o (fO g.edges)] λ v H'=>∃ (f:LI_) (z B:Nat) (L:OA_) (M:Nat),jy (dP g) f/\Dn (dP g) 1 (List.replicate (dP g).arcs.length 0) z B f/\
 v=.tuple #[.slice L (dV f nl g.edges.length).length M,.int .i64 0]/\H'=[.own (.slice L (dV f nl g.edges.length).length M) 3 1 (dV f nl g.edges.length).length (aj (dV f nl g.edges.length))]:=by
 have h1:=p.left;have h2:=p.right;have h3:=p.len;have w:=qf p;have U:=qX g;refine aT Tryz.func125 λ w0=>?_;refine bu ?_;refine cY (cs:=rL g A c) λ p2=>?_;refine fP ?_;refine bj (v:=xQ g A c) 0 ?_;refine eW (Cs g p A c b o S) rfl ⟨bz 1 rfl,an⟩ ?_;rintro v H' ⟨A1,N,rfl,rfl⟩;refine eF (aH 0 rfl) λ ⟨_,_,d,C⟩=>?_;obtain⟨g1,d⟩:=bg d C;have q:(dP g).arcs≠[]->A1=aL g1 0:=λ h=>d (λ D=>h (Ny.1 (by have:=nA (dP g).arcs;rw[D] at this;simp at this;omega)));refine az ?_;refine dD λ p6=>?_;refine oa ?_;refine ak rfl (λ h=>absurd rfl h) (λ _=>ag ?_);refine bu ?_;refine bj (v:=bZ (dP g) A1 N) 0 ?_;refine az ?_;refine dG (xF (dP g) w.fits' w A1 N g1 0 q sg y) rfl ⟨ff 1 rfl d,an⟩ ?_;rintro v H' ⟨f,z,B,st,Af,cf,r,_,_,_,_,_,rfl,rfl⟩;obtain⟨E,_,_,lv,F,hlt⟩:=r.keeps w ab (iV _ w);have H:=uA E.toRanged F hlt;have V:=E.len;refine rM ?_;refine dD λ p8=>?_;refine oa ?_;refine ak rfl (λ h=>absurd rfl h) (λ _=>ag ?_);refine aR (aH 1 rfl) λ ⟨_,I,j,K⟩=>?_;obtain⟨gf,j⟩:=bg j K;refine LB ?_
 refine bP (σ:=Nat×OA_×Nat) (λ s=>[(41,af s.1),(40,af g.edges.length),(39,.slice (fA Af cf nl 1) g.edges.length (cf-nl)),(9,.slice s.2.1 (dV f nl s.1).length s.2.2)])
  (λ s=>[.own (.slice s.2.1 (dV f nl s.1).length s.2.2) 3 1 (dV f nl s.1).length (aj (dV f nl s.1)),.own (.slice Af f.length cf) 2 1 f.length (aj f)]) (λ s=>s.1<=g.edges.length) (λ s=>g.edges.length-s.1)
  (0,none,0) [0,2] a7 ab rfl (Nl _) ?_
 rintro⟨k,O,c2⟩ X;simp only at X ⊢;have Y:=pJ f nl k;have a:=sZ f nl k;refine ao ?_;refine am (ak rfl (λ hlt=>ag ?_) (λ Z=>aO ?_))
 ·have hlt:k<g.edges.length:=by omega
  obtain⟨x,P⟩:∃ x,f[nl+k]?=some x:=⟨f[nl+k]'aa,be aa⟩;have hy:f.getD (nl+k) 0=x:=by rw[Nf,P];rfl
  have t:aj f≠[]:=by
   intro D;have:f.length=0:=by rw[<- bY,D];rfl
   omega
  obtain rfl:=j t
  have u:fA (aL gf 0) cf nl 1=aL gf nl:=by
   have:=eS (A:=aL gf 0) (c:=cf) (l:=nl) (n:=f.length) (sz:=1) aK I aa;rw[this];simp
  rw[u];have Q:IntKind.i64.wrap ((k:Int)+1)=((k+1:Nat):Int):=cp aa;refine am (aq ?_);refine iz ?_
  refine ae [] (dY (b:=gf) (off:=nl) (i:=k) (cs:=(aj f).drop nl) (v:=af x) (c:=.own (ax gf 0 f.length cf) 2 1 f.length (aj f)) 1 rfl rfl rfl
   (by have:=dz (ca (g:=gf) (e:=2) (sz:=1) (n:=f.length) (cap:=cf) (xs:=aj f)) nl;rw[NR] at this;exact this)
   (by show ((aj f).drop nl)[k]?=_;rw[Ol];exact ep P)) rfl ?_
  refine cR ?_;refine ak rfl (λ hv=>?_) (λ R=>ag ?_)
  ·rw[if_pos aa] at a;refine aE (fV [] rfl ?_);refine dp λ g2=>?_;refine bx (n:=(dV f nl k).length) (m:=1) (off:=0) (news:=aj [(k:Int)]) 1 0 rfl rfl rfl rfl rfl rfl ab rfl rfl (aS g2 _ _ (0,0)) aK rfl rfl aa aa (λ _ _=>rfl) λ A3 c3=>?_;rw[show (dV f nl k).length+1=(dV f nl (k+1)).length by rw[a];simp,show aj (dV f nl k)++aj [(k:Int)]=aj (dV f nl (k+1)) by rw[a];simp[aj]];refine cR ?_;exact⟨(k+1,A3,c3),[1,2],⟨Na some (Na (Value.int .i64) Q),rfl,rfl,rfl,an⟩,ab,rfl,by simp only;omega,by simp only;omega⟩
  ·rw[if_neg aa,NN] at a;refine ao ?_;exact⟨(k+1,O,c2),[0,1],⟨Na some (Na (Value.int .i64) Q),rfl,rfl,by simp only[a];rfl,an⟩,ab,by simp only[a];rfl,by simp only;omega,by simp only;omega⟩
 ·obtain rfl:k=g.edges.length:=by omega
  refine ao ?_;exact aM [0] ⟨_,rfl,f,z,B,O,c2,⟨E,H⟩,r,rfl,rfl⟩
noncomputable def jp(N:aV)(f:LI_):Int:=if de N≠0 then de N else eP N f
theorem qn{N:aV}{f:LI_}:jp N f=0↔N.Right/\aD N f:=by
 constructor
 ·intro h;unfold jp at h;by_cases a:de N≠0
  ·rw[if_pos a] at h;exact absurd h a
  ·rw[if_neg a] at h;exact⟨iB (No.1 a),cZ.1 h⟩
 ·rintro⟨b,c⟩;unfold jp;rw[if_neg (λ h=>h b.check)];exact cZ.2 c
noncomputable def kP(N:aV)(f:LI_)(least:Int):Int:=if jp N f≠0 then jp N f else if least<1 then 3 else 0
theorem ve{N:aV}{f:LI_}{least:Int}(h:jp N f≠0):kP N f least=jp N f:=by unfold kP;rw[if_pos h]
theorem AF{N:aV}{f:LI_}{least:Int}(h:jp N f=0)(hl:least<1):kP N f least=3:=by unfold kP;rw[if_neg (λ k=>k h),if_pos hl]
theorem r5{N:aV}{f:LI_}{least:Int}:kP N f least=0↔N.Right/\aD N f/\1<=least:=by
 unfold kP
 constructor
 ·intro h;by_cases hw:jp N f≠0
  ·rw[if_pos hw] at h;exact absurd h hw
  ·rw[if_neg hw] at h;obtain⟨a,b⟩:=qn.1 (No.1 hw);refine⟨a,b,?_⟩;split at h
   ·omega
   ·omega
 ·rintro⟨a,b,hl⟩;rw[if_neg (λ h=>h (qn.2 ⟨a,b⟩)),if_neg aa]
theorem Bz(N:aV)(d:N.Fits)(e:de N≠0)(A:OA_)(c b o:Nat)(g:N.arcs≠[]->A=some ⟨b,o,none⟩)(f:LI_)(F:OA_)(cf a of:Nat)(j:f≠[]->F=some ⟨a,of,none⟩)(k:∀ x∈f,b7 x)(i:f.length*8<=140737488351232):
 Fn 77 [bZ N A c,.slice F f.length cf] [] [.seg b o (arcs N.arcs),.seg a of (aj f)] λ v H'=>v=.int .i64 (de N)/\H'=[]:=by
 refine aT Tryz.func77 λ w0=>?_;refine bu ?_;refine cY (cs:=bU N A c) λ p=>?_;refine ie ?_;refine cj (ox N d A c b o g) rfl ⟨bz 1 rfl,an⟩ ?_;refine cR ?_;refine ak rfl (λ _=>?_) (λ h=>absurd e h);exact jS
theorem BB(N:aV)(g:N.Fits)(e:de N≠0)(A:OA_)(c b o:Nat)(i:N.arcs≠[]->A=some ⟨b,o,none⟩)(f:LI_)(F:OA_)(cf a of:Nat)(j:f≠[]->F=some ⟨a,of,none⟩)(k:∀ x∈f,b7 x)(d:f.length*8<=140737488351232):
 Fn 39 [bZ N A c,.slice F f.length cf] [] [.seg b o (arcs N.arcs),.seg a of (aj f)] λ v H'=>v=.int .i64 (de N)/\H'=[]:=by
 refine aT Tryz.func39 λ w0=>?_;refine bu ?_;refine cY (cs:=bU N A c) λ p=>?_;refine ie ?_;refine cj (Bz N g e A c b o i f F cf a of j k d) rfl ⟨bz 1 rfl,bz 2 rfl,an⟩ ?_;refine cR ?_;refine ak rfl (λ _=>?_) (λ h=>absurd e h);exact jS
theorem HP(N:aV)(g:N.Fits)(e:de N≠0)(A:OA_)(c b o:Nat)(i:N.arcs≠[]->A=some ⟨b,o,none⟩)(f:LI_)(F:OA_)(cf a of:Nat)(j:f≠[]->F=some ⟨a,of,none⟩)(k:∀ x∈f,b7 x)(d:f.length*8<=140737488351232):
 Fn 88 [bZ N A c,.slice F f.length cf] [] [.seg b o (arcs N.arcs),.seg a of (aj f)] λ v H'=>v=.tuple #[.slice none 0 0,.int .i64 (de N)]/\H'=[]:=by
 refine aT Tryz.func88 λ w0=>?_;refine bu ?_;refine cY (cs:=bU N A c) λ p=>?_;refine ie ?_;refine cj (BB N g e A c b o i f F cf a of j k d) rfl ⟨bz 1 rfl,bz 2 rfl,an⟩ ?_;refine cR ?_;refine ak rfl (λ _=>?_) (λ h=>absurd e h);exact jS
theorem Ba(N:aV)(g:N.Fits)(e:de N≠0)(A:OA_)(c b o:Nat)(i:N.arcs≠[]->A=some ⟨b,o,none⟩)(f:LI_)(F:OA_)(cf a of:Nat)(j:f≠[]->F=some ⟨a,of,none⟩)(k:∀ x∈f,b7 x)(d:f.length*8<=140737488351232)(least:Int):
 Fn 109 [bZ N A c,.slice F f.length cf,.int .i64 least] [] [.seg b o (arcs N.arcs),.seg a of (aj f)] λ v H'=>v=.tuple #[.slice none 0 0,.int .i64 (de N)]/\H'=[]:=by
 refine aT Tryz.func109 λ w0=>?_;refine bu ?_;refine cY (cs:=bU N A c) λ p=>?_;refine ie ?_;refine cj (HP N g e A c b o i f F cf a of j k d) rfl ⟨bz 1 rfl,bz 2 rfl,an⟩ ?_;refine im ?_;refine ao ?_;refine ak rfl (λ _=>?_) (λ h=>absurd e h);exact jS
theorem HO(N:aV)(hN:N.Fits)(hz:de N≠0)(A:OA_)(c b o:Nat)(hA:N.arcs≠[]->A=some ⟨b,o,none⟩)(f:LI_)(F:OA_)(cf bf of:Nat)(hF:f≠[]->F=some ⟨bf,of,none⟩)(hf:∀ x∈f,b7 x)(hfl:f.length*8<=140737488351232)(least:Int):
 Fn 74 [bZ N A c,.slice F f.length cf,.int .i64 least] [] [.seg b o (arcs N.arcs),.seg bf of (aj f)] λ v H'=>v=tg (0,de N)/\H'=[]:=by
 refine aT Tryz.func74 λ w0=>?_;refine bu ?_;refine cY (cs:=bU N A c) λ p=>?_;refine K8 ?_;refine ak rfl (λ _=>?_) (λ h=>absurd hz h);exact jS
theorem BK{N:aV}{f:LI_}{least:Int}(a:de N≠0):kP N f least=de N:=by
 have:jp N f=de N:=by unfold jp;rw[if_pos a]
 rw[ve (by rw[this];exact a),this]
theorem EZ{N:aV}{f:LI_}{least:Int}(b:N.Right)(c:¬ aD N f):kP N f least=eP N f/\eP N f≠0:=by
 have a:eP N f≠0:=λ h=>c (cZ.1 h);have:jp N f=eP N f:=by unfold jp;rw[if_neg (λ h=>h b.check)]
 exact⟨by rw[ve (by rw[this];exact a),this],a⟩
def MA(N:aV)(f:LI_)(least:Int)(v:Value)(H':Heap):Prop:=
 (kP N f least=0/\∃ d:Int,v=tg (d,0)/\H'=[])\/(kP N f least≠0/\∃ d:Int,v=tg (d,kP N f least)/\H'=[])
theorem GE(N:aV)(l:N.Fits)(A:OA_)(c b o:Nat)(m:N.arcs≠[]->A=some ⟨b,o,none⟩)(f:LI_)(F:OA_)(cf g of:Nat)(n:f≠[]->F=some ⟨g,of,none⟩)(p:∀ x∈f,b7 x)(d:f.length*8<=140737488351232)(least:Int):
 Fn 74 [bZ N A c,.slice F f.length cf,.int .i64 least] [] [.seg b o (arcs N.arcs),.seg g of (aj f)] (MA N f least):=by
 by_cases i:de N=0
 ·have j:=iB i;refine (tu N l j A c b o m f F cf g of n p d least).mono ?_;rintro v H' (⟨e,k,lv,q,rfl,rfl⟩|⟨e,rfl,rfl⟩|⟨e,k,rfl,rfl⟩)
  ·exact .inl ⟨r5.2 ⟨j,e,k⟩,_,rfl,rfl⟩
  ·obtain⟨a,r⟩:=EZ (least:=least) j e;exact .inr ⟨by rw[a];exact r,_,by rw[a],rfl⟩
  ·have a:=AF (N:=N) (f:=f) (qn.2 ⟨j,e⟩) k;exact .inr ⟨by rw[a];decide,_,by rw[a],rfl⟩
 ·refine (HO N l i A c b o m f F cf g of n p d least).mono ?_;refine j2 ?_;have a:=BK (f:=f) (least:=least) i;exact .inr ⟨by rw[a];exact i,_,by rw[a],rfl⟩
theorem z8(sg:Int)(a:sg≠112)(b:sg≠116):Fn 75 [.int .u8 sg] [] [] λ v H'=>v=.nilIface/\H'=[]:=by
 refine aT Tryz.func75 λ w0=>?_;refine mG ?_;refine ao ?_;refine ak rfl (λ h=>absurd h a) (λ _=>?_);refine ao ?_;refine ak rfl (λ h=>absurd h b) (λ _=>?_);refine cq ?_
 (repeat' (first|refine db [] rfl ?_|refine DG rfl rfl rfl rfl (λ _=>?_) (λ _=>?_)|refine cE (gs:=[999]) rfl ?_|refine GK rfl rfl rfl rfl (λ _=>?_) (λ _=>?_)|refine am ?_|refine aE ?_|refine ak rfl (λ _=>?_) (λ _=>?_)|refine bF rfl ?_|refine bo rfl ?_|refine nW rfl (λ _=>?_) (λ _=>?_)|refine ag ?_|refine bN ?_))
 exact⟨_,rfl,rfl,rfl⟩
def Ct(N:aV)(f:LI_)(least sg:Int)(v:Value)(H':Heap):Prop:=
 (kP N f least=0/\(sg=112\/sg=116)/\∃ (f':LI_) (p k s:Nat) (A':OA_) (c':Nat),Dn N least f p k f'/\(sg=112->s=0)/\v=.tuple #[qT A' f'.length c' p k s,.int .i64 0]/\H'=[.own (.slice A' f'.length c') 2 1 f'.length (aj f')])\/
 (kP N f least=0/\sg≠112/\sg≠116/\v=.tuple #[qT none 0 0 0 0 0,.int .i64 1]/\H'=[])\/
 (kP N f least≠0/\v=.tuple #[qT none 0 0 0 0 0,.int .i64 (kP N f least)]/\H'=[])
theorem G7(N:aV)(k:N.Fits)(A:OA_)(c b o:Nat)(l:N.arcs≠[]->A=some ⟨b,o,none⟩)(f:LI_)(F:OA_)(cf g of:Nat)(m:f≠[]->F=some ⟨g,of,none⟩)(n:∀ x∈f,b7 x)(i:f.length*8<=140737488351232)(least sg:Int)(p:kP N f least≠0\/sg≠112/\sg≠116):
 Fn 38 [bZ N A c,.slice F f.length cf,.int .i64 least,.int .u8 sg] [] [.seg b o (arcs N.arcs),.seg g of (aj f)] (Ct N f least sg):=by
 refine ia Tryz.func38 rfl rfl λ w0=>bu ?_;refine cY (cs:=bU N A c) λ q=>?_;refine dD λ j=>?_;refine fP ?_;refine bj (v:=bZ N A c) 1 ?_;refine az ?_;refine dG (GE N k A c b o l f F cf g of m n i least) rfl ⟨bz 2 rfl,bz 3 rfl,an⟩ ?_;rintro v H' (⟨a,d,rfl,rfl⟩|⟨he,d,rfl,rfl⟩)
 ·refine fD ?_;refine ak rfl (λ h=>absurd rfl h) (λ _=>ag ?_);have e:sg≠112/\sg≠116:=p.resolve_left (λ h=>h a);refine aI ?_;refine cj (z8 sg e.1 e.2) rfl an ?_;refine cR ?_;refine cq ?_;refine bu ?_;refine aF (v:=qT none 0 0 0 0 0) (eE rfl rfl rfl rfl rfl rfl) ?_;refine az ?_;refine qN ?_;exact⟨[_,_],[],_,⟨⟨j,0,_,_,rfl,rfl,rfl⟩,rfl,an⟩,ab,rfl,.inr (.inl ⟨a,e.1,e.2,rfl,rfl⟩)⟩
 ·refine fD ?_;refine ak rfl (λ _=>?_) (λ h=>absurd he h);refine bu ?_;refine aF (v:=qT none 0 0 0 0 0) (eE rfl rfl rfl rfl rfl rfl) ?_;refine az ?_;refine qN ?_;exact⟨[_,_],[],_,⟨⟨j,0,_,_,rfl,rfl,rfl⟩,rfl,an⟩,ab,rfl,.inr (.inr ⟨he,rfl,rfl⟩)⟩
theorem Hn(N:aV)(g:N.Fits)(A:OA_)(c b o:Nat)(i:N.arcs≠[]->A=some ⟨b,o,none⟩)(f:LI_)(F:OA_)(cf a of:Nat)(j:f≠[]->F=some ⟨a,of,none⟩)(n:∀ x∈f,b7 x)(d:f.length*8<=140737488351232)(least:Int)(e:b7 least)(sg:Int):
 Fn 38 [bZ N A c,.slice F f.length cf,.int .i64 least,.int .u8 sg] [] [.seg b o (arcs N.arcs),.seg a of (aj f)] (Ct N f least sg):=by
 by_cases l:kP N f least≠0\/sg≠112/\sg≠116
 ·exact G7 N g A c b o i f F cf a of j n d least sg l
 ·have he:kP N f least=0:=NG λ h=>l (.inl h);have m:sg=112\/sg=116:=aa;obtain⟨q,r,hle⟩:=r5.1 he;refine (zn N g q A c b o i f r F cf a of j least hle e sg m).mono ?_;rintro v H' ⟨f',p,k,s,t,u,w,_,_,y,_,_,rfl,rfl⟩;exact .inl ⟨he,m,f',p,k,s,t,u,w,y,rfl,rfl⟩
theorem Ki(N:aV)(f:N.Fits)(i:N.arcs.length<=2000)(A:OA_)(c b o:Nat)(j:N.arcs≠[]->A=some ⟨b,o,none⟩)(sg:Int):
 Fn 16 [bZ N A c,.int .u8 sg] [] [.seg b o (arcs N.arcs)] (Ct N (List.replicate N.arcs.length 0) 1 sg):=by
 refine ia Tryz.func16 rfl rfl λ w0=>bu ?_;refine cY (cs:=bU N A c) λ y=>?_;refine dD λ d=>?_;refine H0 ?_
 (first|refine aG [] rfl (ad 0 rfl) rfl ?_|refine aG [] rfl (ad 1 rfl) rfl ?_|refine aG [] rfl (ad 2 rfl) rfl ?_|refine aG [] rfl (ad 3 rfl) rfl ?_|refine aG [] rfl (ad 4 rfl) rfl ?_|refine aG [] rfl (ad 5 rfl) rfl ?_)
 refine jI ?_;refine cX (n:=N.arcs.length) (c:=N.arcs.length) rfl rfl rfl rfl rfl rfl aa aa aa aK λ g=>b6 [2,3]<|?_;rw[show made [af 0] (N.arcs.length*1)=aj (List.replicate N.arcs.length 0) by rw[c8,NT];simp[aj]];refine cz ?_;refine bA [] (Hn N f A c b o j (List.replicate N.arcs.length 0) (aL g 0) N.arcs.length g 0 aK (λ x l=>by rw[List.eq_of_mem_replicate l];decide) (by rw[NP];omega) 1 ab sg) rfl rfl rfl (by rw[NP];rfl) aX ⟨bz 3 rfl,fX 0 rfl ca (bW aK),an⟩ aK ?_;rintro v H' (⟨a,e,f',p,k,s,m,q,r,t,rfl,rfl⟩|⟨a,u,w,rfl,rfl⟩|⟨he,rfl,rfl⟩)
 ·refine⟨rfl,b6 [3,4] ?_⟩;refine hZ [] rfl<|dE 2 ?_;refine lz ?_;exact⟨[_,_],[0],_,⟨⟨d,2,_,_,rfl,rfl,rfl⟩,rfl,an⟩,ab,rfl,.inl ⟨a,e,f',p,k,s,m,q,r,t,rfl,rfl⟩⟩
 ·refine⟨rfl,b6 [2,3] ?_⟩;refine hZ [] rfl<|dE 1 ?_;refine lz ?_;exact⟨[_,_],[],_,⟨⟨d,1,_,_,rfl,rfl,rfl⟩,rfl,an⟩,ab,rfl,.inr (.inl ⟨a,u,w,rfl,rfl⟩)⟩
 ·refine⟨rfl,b6 [2,3] ?_⟩;refine hZ [] rfl<|dE 1 ?_;refine lz ?_;exact⟨[_,_],[],_,⟨⟨d,1,_,_,rfl,rfl,rfl⟩,rfl,an⟩,ab,rfl,.inr (.inr ⟨he,rfl,rfl⟩)⟩
section
variable {N:aV} {ls:LN_} {least:Int} {rm:LI_} {D:LB_}
end
section
variable {N:aV} {ls:LN_} {least:Int} {rm:LI_} {D:LB_}
def More(D D':LB_):Prop:=∀ v:Nat,D[v]?=some true->D'[v]?=some true
end
section
variable {N:aV} {rm:LI_} {least:Int} {k j:Nat} {lv:LI_}
end
theorem HL{l:LI_}{A B:OA_}(h:aj l≠[]->A=B)(hl:l≠[]):A=B:=h λ b=>hl (by
 have a:(aj l).length=0:=by rw[b];rfl
 rw[bY] at a;exact Ny.1 a)
structure KS where
 g:LI_
 acc:List (LN_×Int)
 Ao:OA_
 co:Nat
 Ak:OA_
 ck:Nat
 xs:LV_
end Go.Proofs.YtmcnpaelaieniaaGreatDoor
