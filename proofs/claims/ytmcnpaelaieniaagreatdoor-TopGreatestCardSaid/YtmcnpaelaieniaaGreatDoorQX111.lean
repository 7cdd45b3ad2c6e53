import Derived.Test.YtmcnpaelaieniaaGreatDoorQX84
/- A part of the proof; see NOTES.md. -/
set_option linter.unusedVariables false
set_option linter.unusedSimpArgs false
namespace Go.Proofs.YtmcnpaelaieniaaGreatDoor
open Go.RowKit
def Dq(bE bV:Nat):Value:=.func (.func 272) #[] #[.pointer (some ⟨bE,0,none⟩),.pointer (some ⟨bV,0,none⟩)]
abbrev EP.box(P:EP)(bE:Nat):aV:=.seg bE 0 [.pointer (some ⟨P.pe,0,none⟩)]
abbrev qO(bV v:Nat):aV:=.seg bV 0 [.int .i64 (v:Int)]
theorem xm(P:EP)(k w bE bV v u:Nat):Fn 272 [.int .i64 (u:Int),.pointer (some ⟨bE,0,none⟩),.pointer (some ⟨bV,0,none⟩)] (aL [P.pc k w]) ([P.box bE,qO bV v]++[P.pc k w])
 λ r H'=>r=.bool (di ((u:Int)=v))/\H'=[P.pc (k+1) w]:=by
 generalize hM:aL _=M
 refine aJ Tryz.func272 rfl rfl λ w0=>?_;refine ad (aa (ae [] rfl ?_));refine ad (aa ?_);refine ab [] (a8 (i:=0) 0 rfl rfl rfl) rfl ?_;refine bY (aH.re (A:=[P.box bE,qO bV v,P.pc k w]) (R:=[]) [2,0,1] rfl (by decide)) ?_;refine aw [] (kf P k w) rfl rfl rfl rfl (by kernel_rfl) aH.refl an (λ _=>rfl) ?_;rintro v0 H' rfl;refine⟨rfl,?_⟩;refine ae [] rfl ?_;refine ad (aa ?_);refine am (gs:=[999]) rfl ?_;refine ab [] (a8 (i:=0) 2 rfl rfl rfl) rfl ?_;refine ae [] rfl ?_;exact az [0] (by decide) rfl (ay ⟨_,rfl,rfl,rfl⟩)
theorem yP{pre post:LN}{v i:Nat}(h:i<=pre.length)(hv:v∉pre):∃ u,(pre++v::post)[i]?=some u/\(i<pre.length->u≠v)/\(i=pre.length->u=v):=by
 by_cases e:i<pre.length
 ·refine⟨pre[i],by rw[Hi e];exact Gq e,λ _ he=>hv (he▸H4 _),λ h=>by omega⟩
 ·obtain rfl:i=pre.length:=by omega
  exact⟨v,by rw[GL (GF _),HC];rfl,λ h=>by omega,λ _=>rfl⟩
theorem zf(P:EP)(k w bE bV v:Nat)(pre post:LN)(hv:v∉pre)(g c:Nat)(hl:(pre++v::post).length<=20000):
 Fn 229 [.slice (some ⟨g,0,none⟩) (pre++v::post).length c,Dq bE bV] (aL [P.pc k w]) ([P.box bE,qO bV v,.seg g 0 (bS (pre++v::post))]++[P.pc k w])
  λ r H'=>r=.int .i64 (pre.length:Int)/\H'=[P.pc (k+pre.length+1) w]:=by
 generalize hM:aL _=M
 refine aJ Tryz.func229 rfl rfl λ w0=>?_;refine ad (aa (ae [] rfl ?_));refine ad (ad (aa (ae [] rfl ?_)));refine au ?_;refine bO (σ:=Nat) (λ i=>[(8,.int .i64 (i:Int)),(7,.int .i64 ((pre++v::post).length:Int)),(1,Dq bE bV),(0,.slice (some ⟨g,0,none⟩) (pre++v::post).length c)]) (λ i=>[P.box bE,qO bV v,.seg g 0 (bS (pre++v::post)),P.pc (k+i) w]) (λ i=>i<=pre.length) (λ i=>pre.length+1-i) 0 [0,1,2,3] ⟨rfl,rfl,rfl,rfl,an⟩ (by decide) rfl (GB _) ?_;intro i hi;have hlen:(pre++v::post).length=pre.length+post.length+1:=by simp;omega
 obtain⟨u,hu,hu1,hu2⟩:=yP (post:=post) hi hv;refine ad (aa (ae [] rfl ?_));have hc:((i:Nat):Int)<((pre++v::post).length:Int):=by omega
 refine ad ?_;refine aC rfl (λ _=>aq ?_) (λ h=>absurd hc h);refine ad (au ?_);refine ad (aa (ae [] rfl ?_));refine ad (aa ?_);refine am (gs:=[999]) rfl ?_;refine am (gs:=[999]) rfl ?_;refine am (gs:=[999]) rfl ?_;refine ab [] (aG rfl (by omega)) rfl ?_;refine ab [] (fm 2 rfl rfl rfl (GZ _).symm (dl hu)) rfl ?_;refine bY (aH.re (A:=[P.box bE,qO bV v,.seg g 0 (bS (pre++v::post)),P.pc (k+i) w]) (R:=[]) [3,0,1,2] rfl (by decide)) ?_;refine aw [] (xm P (k+i) w bE bV v u) rfl rfl rfl rfl (by kernel_rfl) aH.refl ⟨⟨0,_,by simp,rfl,ak _ _ _,av⟩,⟨1,_,by simp,rfl,ak _ _ _,av⟩,an⟩ (λ _=>rfl) ?_;rintro v0 H' ⟨rfl,rfl⟩;refine⟨rfl,?_⟩;refine ae [] rfl ?_;refine aC rfl (λ h=>?_) (λ h=>aq ?_)
 ·have:i=pre.length:=by
   rcases Nat.lt_or_ge i pre.length with h1|h1
   ·exact absurd (by omega) (hu1 h1)
   ·omega
  subst this;refine ad (aa (ae [] rfl ?_));refine az [0] (by decide) rfl (ay ⟨_,rfl,rfl,rfl⟩)
 ·have hlt:i<pre.length:=by
   rcases Nat.lt_or_ge i pre.length with h1|h1
   ·exact h1
   ·exact absurd (by rw[hu2 (by omega)]) h
  refine aa (ae [] rfl ?_);refine⟨i+1,[1,2,3,0],⟨?_,rfl,rfl,rfl,an⟩,by decide,rfl,hlt,by omega⟩;show some (Value.int .i64 (IntKind.i64.wrap ((i:Int)+1)))=_;rw[cv (by omega)];rfl
def gW(pre post:LN)(v q:Nat):LN:=pre++(post.take q++(v::post).drop q)
theorem lQ{pre post:LN}{v q:Nat}(h:q<=post.length):(gW pre post v q).length=(pre++v::post).length:=by
 simp[gW];omega
theorem vH{pre post:LN}{v q u:Nat}(h:post[q]?=some u):(gW pre post v q)[pre.length+(q+1)]?=some u:=by
 have hq:=(Gv.1 h).1;unfold gW;rw[GL (by omega),Hb,GL (by simp;omega),GV,H9 (by omega),Hu];show (v::post)[q+(q+1-q)]?=_;rw[show q+(q+1-q)=q+1 by omega,ID];exact h
theorem vX{pre post:LN}{v q u:Nat}(h:post[q]?=some u):(gW pre post v q).set (pre.length+q) u=gW pre post v (q+1):=by
 have hq:=(Gv.1 h).1;unfold gW;rw[HJ _ _ (by omega),Hb,HJ _ _ (by simp;omega),GV,H9 (by omega),HC];have hd:(v::post).drop q=(v::post)[q]'(by simp;omega)::(v::post).drop (q+1):=Hf (by simp;omega);rw[hd,HU,GO,h];simp
theorem vS{pre post:LN}{v:Nat}:(gW pre post v post.length).take (pre.length+post.length)=pre++post:=by
 unfold gW;rw[GY,<- G4,List.take_append_of_le_length (by simp)];exact Hr (by simp)
theorem yc{W:LN}{i u:Nat}:(bS W).set i (.int .i64 (u:Int))=bS (W.set i u):=by simp[bS,ax]
theorem qv{W:LN}{m:Nat}:(bS W).take m=bS (W.take m):=by simp[bS,ax]
abbrev lI(g n c:Nat)(W:LN):aV:=.own (.slice (some ⟨g,0,none⟩) n c) 3 1 n (bS W)
theorem xJ(P:EP)(k w bE bV v:Nat)(pre post:LN)(hv:v∉pre)(hv2:v∉post)(g n c:Nat)(hn:n=(pre++v::post).length)(hl:n<=20000)(hc:n<=c):
 Fn 271 [.slice (some ⟨g,0,none⟩) n c,Dq bE bV] (aL [P.pc k w,lI g n c (pre++v::post)]) ([P.box bE,qO bV v]++[P.pc k w,lI g n c (pre++v::post)])
  λ r H'=>r=.slice (some ⟨g,0,none⟩) (pre.length+post.length) c/\H'=[P.pc (k+n) w,lI g (pre.length+post.length) c (pre++post)]:=by
 have hlen:n=pre.length+post.length+1:=by rw[hn];simp;omega
 generalize hM:aL _=M
 refine aJ Tryz.func271 rfl rfl λ w0=>?_;refine ad (aa (ae [] rfl ?_));refine ad (aa ?_);refine am (gs:=[999]) rfl ?_;refine am (gs:=[999]) rfl ?_;refine bY (aH.re (A:=[P.box bE,qO bV v,P.pc k w,lI g n c (pre++v::post)]) (R:=[]) [2,0,1,3] rfl (by decide)) ?_;have T:=zf P k w bE bV v pre post hv g c (by omega);rw[<- hn] at T;refine aw [] T rfl rfl rfl rfl (by kernel_rfl) aH.refl ⟨⟨0,_,by simp,rfl,ak _ _ _,av⟩,⟨1,_,by simp,rfl,ak _ _ _,av⟩,⟨2,_,by simp,rfl,cp,.inr rfl⟩,an⟩ (λ _=>rfl) ?_;rintro v0 H' ⟨rfl,rfl⟩;refine⟨rfl,?_⟩;refine ae [] rfl ?_;refine ad (ad (aa (ae [] rfl ?_)));refine a7 12 (v':=.bool false) rfl (Gt Value.bool (a6 (by omega))) (bG rfl (aq ?_));refine ad (ad (aa (ae [] rfl ?_)));refine a7 6 (v':=.int .i64 ((pre.length+(0+1):Nat):Int)) rfl (Gt (Value.int .i64) ((cv (by omega)).trans (by omega))) ?_;refine a7 5 (v':=.int .i64 ((pre.length+0:Nat):Int)) rfl rfl ?_;refine au ?_;refine bO (σ:=Nat) (λ q=>[(6,.int .i64 ((pre.length+(q+1):Nat):Int)),(5,.int .i64 ((pre.length+q:Nat):Int)),(1,Dq bE bV),(0,.slice (some ⟨g,0,none⟩) n c)]) (λ q=>[P.box bE,qO bV v,lI g n c (gW pre post v q),P.pc (k+pre.length+1+q) w]) (λ q=>q<=post.length) (λ q=>post.length-q) 0 [1,2,3,0] ⟨rfl,rfl,rfl,rfl,an⟩ (by decide) rfl (GB _) ?_;intro q hq;refine ad (ad (aa (ae [] rfl ?_)));refine aC rfl (λ hlt=>aq ?_) (λ hge=>?_)
 ·have hqp:q<post.length:=by omega
  obtain⟨u,hu⟩:∃ u,post[q]?=some u:=⟨post[q],Gq hqp⟩;have huv:u≠v:=λ e=>hv2 (e▸Gu hu);refine ad (au ?_);refine ad (aa ?_);refine am (gs:=[999]) rfl ?_;refine am (gs:=[999]) rfl ?_;refine ab [] (aG rfl (by omega)) rfl ?_;refine ab [] (aD 2 rfl rfl rfl (dl (vH hu))) rfl ?_;refine ae [] rfl ?_;refine ad (aa ?_);refine am (gs:=[999]) rfl ?_;refine am (gs:=[999]) rfl ?_;refine bY (aH.re (A:=[P.box bE,qO bV v,lI g n c (gW pre post v q),P.pc (k+pre.length+1+q) w]) (R:=[]) [3,0,1,2] rfl (by decide)) ?_;refine aw [] (xm P _ w bE bV v u) rfl rfl rfl rfl (by kernel_rfl) aH.refl ⟨⟨0,_,by simp,rfl,ak _ _ _,av⟩,⟨1,_,by simp,rfl,ak _ _ _,av⟩,an⟩ (λ _=>rfl) ?_;rintro v0 H' ⟨rfl,rfl⟩;refine⟨rfl,?_⟩;refine aX 28 rfl (by omega) ?_;refine ae [] rfl ?_;refine bi rfl ?_;refine ad (aa ?_);refine am (gs:=[999]) rfl ?_;refine am (gs:=[999]) rfl ?_;refine am (gs:=[999]) rfl ?_;refine ab [] (aG rfl (by omega)) rfl ?_;refine aO 3 rfl rfl rfl rfl (df rfl rfl rfl (by rw[eq,lQ hq];omega)) [] rfl ?_;rw[yc,vX hu];refine ai ?_;refine aa (ae [] rfl ?_);refine aa (ae [] rfl ?_);refine⟨q+1,[1,2,3,0],⟨?_,?_,rfl,rfl,an⟩,by decide,rfl,hqp,by omega⟩
  ·show some (Value.int .i64 (IntKind.i64.wrap (((pre.length+(q+1):Nat):Int)+1)))=_;rw[cv (by omega)];rfl
  ·show some (Value.int .i64 (IntKind.i64.wrap (((pre.length+q:Nat):Int)+1)))=_;rw[cv (by omega)];rfl
 ·obtain rfl:q=post.length:=by omega
  refine bc ?_;refine ad (aa ?_);refine am (gs:=[999]) rfl ?_;refine am (gs:=[999]) rfl ?_;refine ab [] (dE (i:=pre.length+post.length) rfl rfl rfl rfl rfl (by omega)) rfl ?_;refine aI 38 (v':=.slice (some ⟨g,pre.length+post.length,none⟩) 1 (c-(pre.length+post.length))) rfl ?_ ?_
  ·have:=fT (A:=some ⟨g,0,none⟩) (c:=c) (l:=pre.length+post.length) (n:=n) (sz:=1) (b:=g) (o:=0) (λ _=>rfl) hc (by omega);rw[G8,GZ] at this;show Value.slice (gj _ _ _ 1) _ _=_;rw[this,show n-(pre.length+post.length)=1 by omega]
  refine ze 2 rfl rfl rfl rfl rfl rfl rfl (by rw[eq,lQ (GF _)];omega) [] rfl ?_;refine ai ?_;refine ad (aa ?_);refine am (gs:=[999]) rfl ?_;refine am (gs:=[999]) rfl ?_;refine ab [] (gF (i:=pre.length+post.length) rfl rfl rfl rfl rfl (by omega)) rfl ?_;refine ae [] rfl ?_
  have e0:((bS (gW pre post v post.length)).set (pre.length+post.length) (.int .i64 0)).take ((pre.length+post.length)*1)=bS (pre++post):=by
   rw[G8,List.take_set_of_le (GF _),qv,vS]
  refine bJ (aH.shrink (m:=pre.length+post.length) 2 rfl (by omega)) ?_;show J _ _ _ _ [_,_,.own _ _ _ _ (List.take _ _),_];rw[e0];refine bJ (aH.re (A:=[P.box bE,qO bV v,lI g (pre.length+post.length) c (pre++post),P.pc (k+pre.length+1+post.length) w]) (R:=[]) [3,2] rfl (by decide)) (ay ⟨_,rfl,rfl,?_⟩);rw[show k+n=k+pre.length+1+post.length by omega];rfl
theorem mh:∀ (l m:LN),l.Nodup->(∀ x∈l,x∈m)->l.length<=m.length
 |[],_,_,_=>GB _
 |x::l,m,h,hs=>by
  obtain⟨h1,h2⟩:=GS.1 h;have hx:=hs x (by simp);have ih:=mh l (m.erase x) h2 λ y hy=>(List.mem_erase_of_ne (λ e=>h1 (by rw[<- e];exact hy))).2 (hs y (by simp[hy]));rw[List.length_erase_of_mem hx] at ih;have:0<m.length:=List.length_pos_of_mem hx;simp only[Gz];omega
def iR(W:LN):LI:=W.map λ (i:Nat)=>(i:Int)
theorem dK(W:LN):(iR W).length=W.length:=by simp[iR]
structure TB (n:Nat) (par:OV) (un:List d9):Prop where
 len:un.length=n+1
 at_:∀ (w:Nat) (row:d9),un[w]?=some row->∃ W:LN,row.l=iR W/\W.Nodup/\∀ v,v∈W↔v<=n/\par v=some w
theorem TB.get{n:Nat}{par:OV}{un:List d9}(h:TB n par un){w:Nat}(hw:w<=n):∃ (A:OA) (c:Nat) (W:LN),un[w]?=some ⟨A,c,iR W⟩/\W.Nodup/\(∀ v,v∈W↔v<=n/\par v=some w)/\W.length<=n+1:=by
 have hl:=h.len;obtain⟨row,hr⟩:∃ row,un[w]?=some row:=⟨un[w]'(by omega),Gq (by omega)⟩;obtain⟨W,h1,h2,h3⟩:=h.at_ w row hr;obtain⟨A,c,l⟩:=row;simp only at h1;subst h1;refine⟨A,c,W,hr,h2,h3,?_⟩;have:=mh W (List.range (n+1)) h2 λ x hx=>Hm.2 (by have:=((h3 x).1 hx).1;omega)
 rwa [HM] at this
theorem TB.del{n:Nat}{par:OV}{un:List d9}(h:TB n par un){v w:Nat}{A:OA}{c:Nat}{pre post:LN}(hr:un[w]?=some ⟨A,c,iR (pre++v::post)⟩)(hd:(pre++v::post).Nodup)(hm:∀ u,u∈pre++v::post↔u<=n/\par u=some w)(hw:par v=some w){A':OA}{c':Nat}:TB n (bj par v none) (un.set w ⟨A',c',iR (pre++post)⟩):=by
 have hwl:=(Gv.1 hr).1;obtain⟨d1,d2,d3⟩:=GI.1 hd;obtain⟨d4,d5⟩:=GS.1 d2;have hvpre:v∉pre:=λ hx=>d3 v hx v (by simp) rfl;refine⟨by rw[Ha];exact h.len,λ z row hz=>?_⟩;by_cases e:w=z
 ·subst e;rw[List.getElem?_set_self hwl] at hz;simp only[Option.some.injEq] at hz;subst hz;refine⟨pre++post,rfl,List.nodup_append.2 ⟨d1,d5,fun x hx y hy=>d3 x hx y (by simp[hy])⟩,fun u=>?_⟩;have:=hm u;simp only[List.mem_append,List.mem_cons] at this ⊢;by_cases e:u=v
  ·subst e;simp[bj,hvpre,d4]
  ·simp only[bj,e,IQ,false_or] at this ⊢;exact this
 ·rw[GJ e] at hz;obtain⟨W,h1,h2,h3⟩:=h.at_ z row hz;refine⟨W,h1,h2,λ u=>?_⟩;rw[h3 u];by_cases e2:u=v
  ·subst e2;simp[bj,hw,e]
  ·simp[bj,e2]
theorem TB.add{n:Nat}{par:OV}{un:List d9}(h:TB n par un){v w:Nat}{A:OA}{c:Nat}{W:LN}(hr:un[w]?=some ⟨A,c,iR W⟩)(hd:W.Nodup)(hm:∀ u,u∈W↔u<=n/\par u=some w)(hv:v<=n)(hn:par v=none){A':OA}{c':Nat}:TB n (bj par v (some w)) (un.set w ⟨A',c',iR (W++[v])⟩):=by
 have hwl:=(Gv.1 hr).1;have hvW:v∉W:=λ hx=>by have:=((hm v).1 hx).2;rw[hn] at this;cases this
 refine⟨by rw[Ha];exact h.len,λ z row hz=>?_⟩;by_cases e:w=z
 ·subst e;rw[List.getElem?_set_self hwl] at hz;simp only[Option.some.injEq] at hz;subst hz;refine⟨W++[v],rfl,List.nodup_append.2 ⟨hd,by simp,fun x hx y hy=>by rw[List.mem_singleton.1 hy];rintro rfl;exact hvW hx⟩,fun u=>?_⟩;simp only[List.mem_append,List.mem_singleton,hm u];by_cases e:u=v
  ·subst e;simp[bj,hv]
  ·simp[bj,e]
 ·rw[GJ e] at hz;obtain⟨W,h1,h2,h3⟩:=h.at_ z row hz;refine⟨W,h1,h2,λ u=>?_⟩;rw[h3 u];by_cases e2:u=v
  ·subst e2;simp[bj,hn,e]
  ·simp[bj,e2]
structure jc (P:EP) (L:Nat->LN) (gv:Nat->Nat) (rm0 tr:LI) (pos:LN) (par:OV) (val:Nat->Int) (s:ES):Prop where
 fa:∃ row,fE (P.n+1) s.fs par val row
 ta:TA P L rm0 tr pos par val s.rm
 vo:oY P.rowsL gv pos s.vals
 tb:TB P.n par s.un
def ES.cost(s:ES):Nat:=s.k+s.fs.k
theorem u3{g c:Nat}{W:LN}:aZ 3 ⟨some ⟨g,0,none⟩,c,iR W⟩=lI g W.length c W:=by
 unfold aZ cz;simp only[dK];rfl
section
variable {P:EP} {L:Nat->LN} {lv:Nat->Int} {gv:Nat->Nat} {rm0 tr:LI} {pos:LN} {par:OV} {val:Nat->Int}
def qQ(P:EP)(s:ES)(bE bV v:Nat):Heap:=(P.fo s.fs++[P.sg,P.pc s.k s.w,P.rc s.rm,P.lc s.vals,P.uc s.un,blk bE 306 [.pointer (some ⟨P.pe,0,none⟩)],blk bV 3 [.int .i64 (v:Int)]])++P.rows s.un
theorem Bz{X:Cx}{s:ES}{bE bV v:Nat}:aH X (blk bV 3 [.int .i64 (v:Int)]::blk bE 306 [.pointer (some ⟨P.pe,0,none⟩)]::([P.sg]++eW P s)) (qQ P s bE bV v):=
 aH.re (A:=[blk bV 3 [.int .i64 (v:Int)],blk bE 306 [.pointer (some ⟨P.pe,0,none⟩)],P.sg]++(P.fo s.fs++[P.pc s.k s.w,P.rc s.rm,P.lc s.vals,P.uc s.un])) (R:=P.rows s.un) [3,4,5,6,2,7,8,9,10,1,0] rfl (by decide)
theorem wA{X:Cx}{s:ES}{bE bV v:Nat}:aH X (qQ P s bE bV v) (eW P s++[P.sg,blk bE 306 [.pointer (some ⟨P.pe,0,none⟩)],blk bV 3 [.int .i64 (v:Int)]]):=
 aH.mid (A:=P.fo s.fs++[P.sg,P.pc s.k s.w,P.rc s.rm,P.lc s.vals,P.uc s.un,blk bE 306 [.pointer (some ⟨P.pe,0,none⟩)],blk bV 3 [.int .i64 (v:Int)]]) (R:=P.rows s.un) [0,1,2,3,5,6,7,8] [4,9,10] rfl rfl (by decide)
theorem vu{X:Cx}{s:ES}{bE bV v:Nat}:aH X (eW P s++[P.sg,blk bE 306 [.pointer (some ⟨P.pe,0,none⟩)],blk bV 3 [.int .i64 (v:Int)]]) (qQ P s bE bV v):=by
 refine aH.trans (aH.swap (A:=P.fo s.fs++[P.pc s.k s.w,P.rc s.rm,P.lc s.vals,P.uc s.un]) (R:=P.rows s.un) (B:=[P.sg,blk bE 306 [.pointer (some ⟨P.pe,0,none⟩)],blk bV 3 [.int .i64 (v:Int)]])) ?_;exact aH.re (A:=(P.fo s.fs++[P.pc s.k s.w,P.rc s.rm,P.lc s.vals,P.uc s.un])++[P.sg,blk bE 306 [.pointer (some ⟨P.pe,0,none⟩)],blk bV 3 [.int .i64 (v:Int)]]) (R:=P.rows s.un) [0,1,2,3,8,4,5,6,7,9,10] rfl (by decide)
theorem FX{A:Heap}{un:List d9}{v:Nat}{rw_:d9}(h:P.rowsL[v]?=some rw_):(A++P.rows un)[A.length+v]?=some (aZ 3 rw_):=by
 rw[GL (by omega),Hb];unfold EP.rows;rw[GC,Hi (Gv.1 h).1,h];rfl
theorem u4{un:List d9}{w:Nat}{x:d9}:(P.rows un).set (P.rowsL.length+w) (aZ 3 x)=P.rows (un.set w x):=by
 unfold EP.rows;rw[<- In,HJ _ _ (by omega),Hb]
theorem yv{A A1:Heap}{un:List d9}{v:Nat}{rw_:d9}(ix:LN)(h:Proofs.YtmcnpaelaieniaaGreatDoor.bU A ix=some A1)(hr:P.rowsL[v]?=some rw_):Proofs.YtmcnpaelaieniaaGreatDoor.bU (A++P.rows un) (ix++[A.length+v])=some (A1++[aZ 3 rw_]):=
 lg (iD.2 ⟨_,[],FX hr,rfl,rfl⟩) (jv h).1
theorem y8{A A1:Heap}{v:Nat}(ix:LN)(h:Proofs.YtmcnpaelaieniaaGreatDoor.bU A ix=some A1)(hn:ix.Nodup):(ix++[A.length+v]).Nodup:=
 GI.2 ⟨hn,by simp,λ x hx y hy=>by have:=(jv (R:=[]) h).2 x hx;rw[Gy.1 hy];omega⟩
theorem rF(hP:jY P L lv gv)(s:ES)(hI:jc P L gv rm0 tr pos par val s){v w q r:Nat}(hv:v<=P.n)(hw:par v=some w)(hq:pos[v]?=some q)(hr:(L v)[q]?=some r)(hto:eV P.N r=w)(hval:val v=tr.getD r 0):
 Fn 256 [.pointer (some ⟨P.pe,0,none⟩),.int .i64 (v:Int)] (aL (eW P s)) ([P.sg]++eW P s)
  λ _ H'=>∃ s',H'=eW P s'/\jc P L gv rm0 tr (pos.set v (q+1)) (bj par v none) (fQ val v (4611686018427387904-val v)) s'/\s'.w=s.w/\s'.cost<=s.cost+2*dd (P.n+1)+12*(P.n+1)+1:=by
 have hN:=hP.small;have hvN:v<P.n+1:=by omega
 obtain⟨row,hF⟩:=hI.fa;obtain⟨rw_,c',hrow,hvv,hlc,hql,hrl,hrA,hrlen⟩:=xb hP hI.vo hv hq hr;have hvl:v<s.vals.length:=(Gv.1 hvv).1;have hrm:=Gu hr;have hr2:=(fD hP hrm).1;have hte:=gU hP.right hr2;rw[hto] at hte;have hwn:w<=P.n:=by have:=hP.nodes;omega
 obtain⟨Aw,cw,W,hun,hWd,hWm,hWl⟩:=hI.tb.get hwn;obtain⟨pre,post,rfl⟩:=Io ((hWm v).2 ⟨hv,hw⟩)
 generalize hM:aL _=M
 refine aJ Tryz.func256 rfl rfl λ w0=>?_;refine ad (aa ?_);refine bx rfl rfl rfl (λ _=>rfl) λ bE=>?_;refine bx rfl rfl rfl (λ _=>rfl) λ bV=>?_;refine ai ?_;refine bJ Bz ?_;refine ad ?_;have hpk:=yv (A:=P.fo s.fs++[P.sg,P.pc s.k s.w,P.rc s.rm,P.lc s.vals,P.uc s.un,blk bE 306 [.pointer (some ⟨P.pe,0,none⟩)],blk bV 3 [.int .i64 (v:Int)]]) (un:=s.un) [4,5,7,9,10] rfl hrow;have hnd:=y8 (A:=P.fo s.fs++[P.sg,P.pc s.k s.w,P.rc s.rm,P.lc s.vals,P.uc s.un,blk bE 306 [.pointer (some ⟨P.pe,0,none⟩)],blk bV 3 [.int .i64 (v:Int)]]) (v:=v) [4,5,7,9,10] rfl (by decide);refine bu 19 (cZ [0,1,2,3,4,5,6,7,8,9,10,11,12]++[(13,false)]++cZ [14,15,16,17,18]) _ (by kernel_rfl) hnd hpk ?_
 (repeat' (first|refine bB (gs:=[999]) rfl rfl ?_|refine aj [999] rfl (af 1 rfl) rfl ?_|refine aj [999] rfl (af 3 rfl) rfl ?_|refine aj [999] rfl (af 4 rfl) rfl ?_))
 refine aj [999] rfl (aG rfl hvN) rfl ?_;refine aj [999] rfl (aD 2 rfl rfl rfl hvv) rfl ?_;refine aj [999] rfl (bR rfl (m:=0) (by omega)) rfl ?_;refine aj [999] rfl (pI rfl rfl (i:=5) rfl rfl hrA hrl) rfl ?_;refine bg rfl ?_;refine ap [] (gC P.N P.A P.c P.b P.o hP.arcs hP.right.len r hr2) rfl (by kernel_rfl) ⟨⟨4,_,by simp[qQ],rfl,ak _ _ _,av⟩,an⟩ (λ _=>rfl) ?_;rintro _ H' ⟨rfl,rfl⟩;refine⟨rfl,?_⟩;refine ai ⟨⟨_,hnd,hpk⟩,?_⟩
 (repeat' (first|refine bB (gs:=[999]) rfl rfl ?_|refine aj [999] rfl (af 1 rfl) rfl ?_|refine aj [999] rfl (af 3 rfl) rfl ?_|refine aj [999] rfl (af 4 rfl) rfl ?_))
 refine bq ?_;refine ai ?_;refine a7 5 (v':=.int .i64 (w:Int)) rfl (Gt (Value.int .i64) hte.1) ?_;show J _ _ _ _ (qQ P s bE bV v);refine ad (aa ?_)
 (repeat' (first|refine am (gs:=[999]) rfl ?_|refine ab [999] (af 5 rfl) rfl ?_|refine ab [999] (af 9 rfl) rfl ?_|refine ab [999] (af 10 rfl) rfl ?_))
 refine aw [] (ru hP s hI.ta hF hI.vo hv hw hq hr hval) rfl rfl rfl rfl (by kernel_rfl) wA ⟨⟨0,_,by simp,rfl,ak _ _ _,av⟩,an⟩ (λ _=>rfl) ?_;rintro _ H' ⟨fs',row',rfl,hF',hk'⟩;refine⟨cP rfl (cF _ _),?_⟩;refine bY vu ?_;refine ai ?_;refine ad ?_;refine eK 15 [0,1,2,3,4,5,6,7,8,9,10,11,12,13] 14 [] (by kernel_rfl) ?_
 (repeat' (first|refine ev (gs:=[999]) rfl rfl ?_|refine bA [999] rfl rfl (af 5 rfl) rfl ?_|refine bA [999] rfl rfl (af 9 rfl) rfl ?_|refine bA [999] rfl rfl (af 10 rfl) rfl ?_))
 refine cE [999] rfl (aG rfl hvN) rfl ?_;refine bA [999] rfl rfl (aD 7 rfl rfl rfl hvv) rfl ?_;refine cE [999] rfl (dE (i:=1) rfl rfl rfl rfl rfl (by omega)) rfl ?_;refine cE [999] rfl (aG rfl hvN) rfl ?_;refine d6 rfl ?_;refine aO 7 rfl rfl rfl rfl (df rfl rfl rfl hvl) [] rfl ?_;refine ai ⟨⟨[],by decide,rfl⟩,?_⟩;refine bq ?_;refine ai ?_;obtain⟨vals',hvals'⟩:∃ x,x=s.vals.set v (.slice (gj (some ⟨gv v,q,none⟩) c' 1 1) (rw_.l.length-q-1) (c'-1)):=⟨_,rfl⟩;refine bJ (K:=qQ P { s with fs:=fs',rm:=s.rm.set r (val v),k:=s.k+1,vals:=vals' } bE bV v) (by rw[hvals'];exact aH.refl) ?_;have hrl2:=hP.rl;have hul:=hI.tb.len;have hwu:w<s.un.length:=by omega
 refine bJ (aH.front (A:=P.fo fs'++[P.sg,P.pc (s.k+1) s.w,P.rc (s.rm.set r (val v)),P.lc vals',P.uc s.un,blk bE 306 [.pointer (some ⟨P.pe,0,none⟩)],blk bV 3 [.int .i64 (v:Int)]]) (R:=P.rows s.un) (i:=P.rowsL.length+w) (c:=aZ 3 ⟨Aw,cw,iR (pre++v::post)⟩) (by unfold EP.rows;rw[GC,GL (by omega),Hb,hun];rfl)) ?_;refine bh (aW 0 rfl) λ ⟨_,hcw,hAw,_⟩=>?_;obtain⟨gw,rfl⟩:=hAw (by rw[dK];simp;omega);rw[u3];rw[dK] at hcw;obtain⟨R,hR⟩:∃ R,R=(P.rows s.un).eraseIdx (P.rowsL.length+w):=⟨_,rfl⟩;rw[<- hR];refine bJ (K:=(P.fo fs'++[P.sg,P.pc (s.k+1) s.w,P.rc (s.rm.set r (val v)),P.lc vals',P.uc s.un,blk bE 306 [.pointer (some ⟨P.pe,0,none⟩)],blk bV 3 [.int .i64 (v:Int)],lI gw (pre++v::post).length cw (pre++v::post)])++R) (aH.re (A:=lI gw (pre++v::post).length cw (pre++v::post)::(P.fo fs'++[P.sg,P.pc (s.k+1) s.w,P.rc (s.rm.set r (val v)),P.lc vals',P.uc s.un,blk bE 306 [.pointer (some ⟨P.pe,0,none⟩)],blk bV 3 [.int .i64 (v:Int)]])) (R:=R) [1,2,3,4,5,6,7,8,9,10,11,0] rfl (by decide)) ?_
 have hfs:∀ {kk:Nat} {W:LN} {X:Cx},aH X ((P.fo fs'++[P.sg,P.pc kk s.w,P.rc (s.rm.set r (val v)),P.lc vals',P.uc s.un,blk bE 306 [.pointer (some ⟨P.pe,0,none⟩)],blk bV 3 [.int .i64 (v:Int)],lI gw W.length cw W])++R)
  ([.seg P.pe 0 ((EG P 0 0).take 9),P.uc s.un,blk bE 306 [.pointer (some ⟨P.pe,0,none⟩)],blk bV 3 [.int .i64 (v:Int)]]++R):=by
  intro kk W X;refine aH.trans (aH.re (A1:=[P.pc kk s.w,P.uc s.un,blk bE 306 [.pointer (some ⟨P.pe,0,none⟩)],blk bV 3 [.int .i64 (v:Int)]]) [5,8,9,10] rfl (by decide)) ?_;refine aH.seg (off:=0) 0 rfl λ i v hi=>?_;rw[GZ];have hi9:i<9:=by have:=(Gv.1 hi).1;simpa [EG] using this
  rw[List.getElem?_take,if_pos hi9] at hi;rw[<- hi]
  match i,hi9 with
  |0,_=>rfl
  |1,_=>rfl
  |2,_=>rfl
  |3,_=>rfl
  |4,_=>rfl
  |5,_=>rfl
  |6,_=>rfl
  |7,_=>rfl
  |8,_=>rfl
 refine DQ 15 (cZ [0,1,2,3,4,5,6,7,8,9,10,11,12]++[(13,false)]++cZ [14]) (by kernel_rfl) (hfs (W:=pre++v::post)) ?_
 (repeat' (first|refine bB (gs:=[999]) rfl rfl ?_|refine aj [999] rfl (a8 (i:=7) 0 rfl rfl rfl) rfl ?_|refine aj [999] rfl (af 2 rfl) rfl ?_|refine aj [999] rfl (aG rfl (show w<P.n+1 by omega)) rfl ?_))
 have hunv:(s.un.map cz)[w]?=some (.slice (some ⟨gw,0,none⟩) (pre++v::post).length cw):=by
  rw[GC,hun];show some (Value.slice _ (iR (pre++v::post)).length _)=_;rw[dK]
 refine aj [999] rfl (aD 1 rfl rfl rfl hunv) rfl ?_;refine bB (gs:=[999]) rfl rfl ?_;refine Dc rfl ?_
 have hvp:v∉pre/\v∉post:=by
  obtain⟨_,d2,d3⟩:=GI.1 hWd;exact⟨λ hx=>d3 v hx v (by simp) rfl,(GS.1 d2).1⟩
 refine aw (K:=P.fo fs'++[P.sg,P.rc (s.rm.set r (val v)),P.lc vals',P.uc s.un,blk bE 306 [.pointer (some ⟨P.pe,0,none⟩)],blk bV 3 [.int .i64 (v:Int)]]++R) [999] (xJ P (s.k+1) s.w bE bV v pre post hvp.1 hvp.2 gw (pre++v::post).length cw rfl (by omega) hcw) rfl rfl rfl rfl (by kernel_rfl)
  (aH.re (A:=P.fo fs'++[P.sg,P.pc (s.k+1) s.w,P.rc (s.rm.set r (val v)),P.lc vals',P.uc s.un,blk bE 306 [.pointer (some ⟨P.pe,0,none⟩)],blk bV 3 [.int .i64 (v:Int)],lI gw (pre++v::post).length cw (pre++v::post)]) (R:=R) [5,11,0,1,2,3,4,6,7,8,9,10] rfl (by decide)) ⟨⟨8,_,by simp,rfl,aF _ _ _ (0,0),.inr rfl⟩,⟨9,_,by simp,rfl,aF _ _ _ (0,0),.inr rfl⟩,an⟩ (λ _=>rfl) ?_
 rintro _ H' ⟨rfl,rfl⟩;refine⟨rfl,?_⟩;obtain⟨k2,hk2⟩:∃ x,x=s.k+1+(pre++v::post).length:=⟨_,rfl⟩;rw[<- hk2]
 refine bY (K:=(P.fo fs'++[P.sg,P.pc k2 s.w,P.rc (s.rm.set r (val v)),P.lc vals',P.uc s.un,blk bE 306 [.pointer (some ⟨P.pe,0,none⟩)],blk bV 3 [.int .i64 (v:Int)],lI gw (pre.length+post.length) cw (pre++post)])++R)
  (aH.re (A:=[P.pc k2 s.w,lI gw (pre.length+post.length) cw (pre++post)]++(P.fo fs'++[P.sg,P.rc (s.rm.set r (val v)),P.lc vals',P.uc s.un,blk bE 306 [.pointer (some ⟨P.pe,0,none⟩)],blk bV 3 [.int .i64 (v:Int)]])) (R:=R) [2,3,4,5,6,0,7,8,9,10,11,1] rfl (by decide)) ?_
 rw[show pre.length+post.length=(pre++post).length by simp];refine ai ⟨hfs (W:=pre++post),?_⟩;refine aj [999] rfl (aG rfl (show w<P.n+1 by omega)) rfl ?_;refine bq ?_;refine aO 8 rfl rfl rfl rfl (df rfl rfl rfl (by rw[GA];exact hwu)) [] rfl ?_;obtain⟨un',hun'⟩:∃ x,x=s.un.set w ⟨some ⟨gw,0,none⟩,cw,iR (pre++post)⟩:=⟨_,rfl⟩
 rw[show (s.un.map cz).set w (.slice (some ⟨gw,0,none⟩) (pre++post).length cw)=un'.map cz from by
  rw[hun',In];unfold cz;simp only[dK]]
 have hfin:∀ {X:Cx},aH X ((P.fo fs'++[P.sg,P.pc k2 s.w,P.rc (s.rm.set r (val v)),P.lc vals',P.uc un',blk bE 306 [.pointer (some ⟨P.pe,0,none⟩)],blk bV 3 [.int .i64 (v:Int)],lI gw (pre++post).length cw (pre++post)])++R)
  (eW P ⟨vals',un',fs',s.rm.set r (val v),k2,s.w⟩):=by
  intro X;refine aH.trans (aH.re (A1:=lI gw (pre++post).length cw (pre++post)::(P.fo fs'++[P.pc k2 s.w,P.rc (s.rm.set r (val v)),P.lc vals',P.uc un'])) [11,0,1,2,3,5,6,7,8] rfl (by decide)) ?_;rw[hR,<- u3];refine aH.trans (aH.back (A:=P.fo fs'++[P.pc k2 s.w,P.rc (s.rm.set r (val v)),P.lc vals',P.uc un']) (by unfold EP.rows;rw[GA,Gx];omega)) ?_;rw[u4,<- hun'];exact aH.refl
 refine bY hfin ?_;refine ai ?_;refine⟨_,rfl,⟨vals',un',fs',s.rm.set r (val v),k2,s.w⟩,rfl,⟨⟨row',hF'⟩,(hI.ta.settle hP hv hw hq hr hval).bump (by simp[bj]),?_,?_⟩,rfl,?_⟩
 ·rw[hvals'];exact hI.vo.bump hrow hq hql hlc
 ·rw[hun'];exact hI.tb.del hun hWd hWm hw
 ·show k2+fs'.k<=s.k+s.fs.k+_+_+1;omega
end
section
variable {P:EP} {L:Nat->LN} {lv:Nat->Int} {gv:Nat->Nat} {rm0 tr:LI} {pos:LN} {par:OV} {val:Nat->Int}
def Fx(P:EP)(L:Nat->LN)(gv:Nat->Nat)(rm0 tr:LI)(pos:LN)(par:OV)(val:Nat->Int)(s:ES)(v:Nat)(b:Bool)(s':ES):Prop:=
 ∃ pos',PI P.N L P.least tr pos' []/\s'.w=s.w/\cI L P.n pos'<=cI L P.n pos/\
   ((b=true/\∃ q r,pos'[v]?=some q/\(L v)[q]?=some r/\P.least<=tr.getD r 0/\jc P L gv rm0 tr pos' (bj par v (some (eV P.N r))) (fQ val v (tr.getD r 0-4611686018427387904)) s'/\s'.cost+cI L P.n pos'<=s.cost+cI L P.n pos+4*dd (P.n+1)+12*(P.n+1)+1)\/
    (b=false/\m0 L pos' v/\jc P L gv rm0 tr pos' par val s'/\s'.cost+cI L P.n pos'<=s.cost+cI L P.n pos))
theorem DE(hP:jY P L lv gv)(s:ES)(hI:jc P L gv rm0 tr pos par val s)(hPI:PI P.N L P.least tr pos []){v:Nat}(hv:v<=P.n)(hvn:par v=none):
 Fn 242 [.pointer (some ⟨P.pe,0,none⟩),.int .i64 (v:Int)] (aL (eW P s)) ([P.sg]++eW P s)
  λ x H'=>∃ b s',x=.bool b/\H'=eW P s'/\Fx P L gv rm0 tr pos par val s v b s':=by
 have hN:=hP.small;have hvN:v<P.n+1:=by omega
 generalize hM:aL _=M
 refine aJ Tryz.func242 rfl rfl λ w0=>?_;refine ad (aa (ae [] rfl ?_));refine bJ lz ?_;refine ad (au ?_);refine b6 (σ:=LN×ES) (λ _=>[(1,.int .i64 (v:Int)),(0,.pointer (some ⟨P.pe,0,none⟩))]) (λ t=>mZ P t.2) (λ t=>jc P L gv rm0 tr t.1 par val t.2/\PI P.N L P.least tr t.1 []/\t.2.w=s.w/\cI L P.n t.1<=cI L P.n pos/\t.2.cost+cI L P.n t.1<=s.cost+cI L P.n pos) (λ t=>cI L P.n t.1) (pos,s) ⟨rfl,rfl,an⟩ aH.refl ⟨hI,hPI,rfl,GF _,GF _⟩ ?_;rintro⟨pos1,s1⟩ ⟨hI1,hPI1,hw1,hr1,hk1⟩;simp only at hI1 hPI1 hw1 hr1 hk1 ⊢;obtain⟨q,hq⟩:=hI1.ta.pos_at hv;have hrl0:=hP.rl;obtain⟨rw_,hrow⟩:∃ rw_,P.rowsL[v]?=some rw_:=⟨P.rowsL[v]'(by omega),Gq (by omega)⟩;obtain⟨A',c',hvv,hlc,hA'⟩:=hI1.vo.at_ v rw_ q hrow hq;have hvl:v<s1.vals.length:=(Gv.1 hvv).1;have hrwl:=hP.rows v rw_ hrow;have hrlen:rw_.l.length<=4000:=by rw[hrwl,GA];exact hP.len v
 refine ad (ad (aa ?_))
 (repeat' (first|refine am (gs:=[999]) rfl ?_|refine ab [999] (af 5 rfl) rfl ?_))
 refine ab [999] (aG rfl hvN) rfl ?_;refine ab [999] (aD 7 rfl rfl rfl hvv) rfl ?_
 (repeat' (first|refine am (gs:=[999]) rfl ?_|refine ab [999] (af 5 rfl) rfl ?_))
 refine ai ?_;refine aC rfl (λ hlt=>aq ?_) (λ hge=>bc ?_)
 ·have hql:q<rw_.l.length:=by omega
  obtain rfl:=hA' hql;obtain⟨r,hr⟩:∃ r,(L v)[q]?=some r:=⟨(L v)[q]'(by rw[hrwl,GA] at hql;exact hql),Gq _⟩;have hrl:rw_.l[q]?=some (r:Int):=by rw[hrwl,GC,hr];rfl
  have hrA:=hP.at_ v rw_ hrow (fun e=>by have:rw_.l.length=0:=by rw[← bK,e];rfl
                                         omega)
  have hrm:=Gu hr;have hr2:=(fD hP hrm).1;have hte:=gU hP.right hr2;have htn:eV P.N r<=P.n:=by have:=hP.nodes;omega
  have hrr:s1.rm.getD r 0=tr.getD r 0:=hI1.ta.lead v r hrm (λ _ h=>absurd hvn h);have htb:=hI1.ta.trb r;have hAr:=hP.room hr2
  have hri:(ax s1.rm)[r]?=some (.int .i64 (tr.getD r 0)):=by
   have hl:r<s1.rm.length:=by rw[hI1.ta.rml];exact hr2
   refine dx ?_;rw[<- hrr,Gw,Gq hl];rfl
  refine au (ad (aa ?_))
  (repeat' (first|refine am (gs:=[999]) rfl ?_|refine ab [999] (af 5 rfl) rfl ?_))
  refine bY (aH.re (A:=P.fo s1.fs++[P.sg,P.pc s1.k s1.w,P.rc s1.rm,P.lc s1.vals,P.uc s1.un]) (R:=P.rows s1.un) [5,0,1,2,3,4,6,7,8] rfl (by decide)) ?_;refine aw [999] (kf P s1.k s1.w) rfl rfl rfl rfl (by kernel_rfl) aH.refl an (λ _=>rfl) ?_;rintro v0 H' rfl;refine⟨rfl,?_⟩;refine bY (aH.re (A:=[P.pc (s1.k+1) s1.w]++(P.fo s1.fs++[P.sg,P.rc s1.rm,P.lc s1.vals,P.uc s1.un])) (R:=P.rows s1.un) [1,2,3,4,5,0,6,7,8] rfl (by decide)) ?_;refine ai ?_;obtain⟨s2,hs2⟩:∃ x:ES,x={ s1 with k:=s1.k+1 }:=⟨_,rfl⟩;refine bJ (K:=mZ P s2) (by rw[hs2];exact aH.refl) ?_;have hI2:jc P L gv rm0 tr pos1 par val s2:=by rw[hs2];exact⟨hI1.fa,hI1.ta,hI1.vo,hI1.tb⟩
  have hk2:s2.cost=s1.cost+1:=by rw[hs2];show s1.k+1+s1.fs.k=s1.k+s1.fs.k+1;omega
  have hw2:s2.w=s.w:=by rw[hs2];exact hw1
  have hrm2:s2.rm=s1.rm:=by rw[hs2]
  have hva2:s2.vals=s1.vals:=by rw[hs2]
  rw[<- hrm2] at hri;rw[<- hva2] at hvv hvl
  clear hs2
  refine ad (aa ?_)
  (repeat' (first|refine am (gs:=[999]) rfl ?_|refine ab [999] (af 5 rfl) rfl ?_))
  refine ab [999] (aG rfl hvN) rfl ?_;refine ab [999] (aD 7 rfl rfl rfl hvv) rfl ?_;refine ab [999] (bR rfl (m:=0) (by omega)) rfl ?_;refine ab [999] (pI rfl rfl (zW hrow) rfl hrA hrl) rfl ?_
  (repeat' (first|refine am (gs:=[999]) rfl ?_|refine ab [999] (af 5 rfl) rfl ?_))
  refine ai ?_;refine ad (ad ?_);refine bu 12 (cZ [0,1,2,3,4,5,6,7,8,9,10,11]) [5,6] (by kernel_rfl) (by decide) rfl ?_
  (repeat' (first|refine bB (gs:=[999]) rfl rfl ?_|refine aj [999] rfl (af 0 rfl) rfl ?_|refine aj [999] rfl (oy (b:=P.gr) (n:=2*P.N.arcs.length) (c:=P.cr) rfl (Gt (λ A=>some (Value.slice A (2*P.N.arcs.length) P.cr)) hAr) rfl rfl rfl hr2) rfl ?_|refine aj [999] rfl (aD (g:=P.gr) (n:=2*P.N.arcs.length) (cap:=P.cr) 1 rfl rfl (Gt (λ A=>some (aV.own (.slice A (2*P.N.arcs.length) P.cr) 2 1 (2*P.N.arcs.length) (ax s2.rm))) hAr) hri) rfl ?_))
  refine bq ?_;refine ai ?_;refine aC rfl (λ hsm=>?_) (λ hbig=>aq ?_)
  ·refine ad ?_;refine eK 15 [0,1,2,3,4,5,6,7,8,9,10,11,12,13] 14 [] (by kernel_rfl) ?_
   (repeat' (first|refine ev (gs:=[999]) rfl rfl ?_|refine bA [999] rfl rfl (af 5 rfl) rfl ?_))
   refine cE [999] rfl (aG rfl hvN) rfl ?_;refine bA [999] rfl rfl (aD 7 rfl rfl rfl hvv) rfl ?_;refine cE [999] rfl (dE (i:=1) rfl rfl rfl rfl rfl (by omega)) rfl ?_;refine cE [999] rfl (aG rfl hvN) rfl ?_;refine d6 rfl ?_;refine aO 7 rfl rfl rfl rfl (df rfl rfl rfl hvl) [] rfl ?_;refine ai ⟨⟨[],by decide,rfl⟩,?_⟩;refine bq ?_;refine ai ?_;obtain⟨vals',hvals'⟩:∃ x,x=s2.vals.set v (.slice (gj (some ⟨gv v,q,none⟩) c' 1 1) (rw_.l.length-q-1) (c'-1)):=⟨_,rfl⟩;have hrem:=gi (L:=L) hq hv (by rw[hrwl,GA] at hql;exact hql);refine bc ?_;refine⟨(pos1.set v (q+1),{ s2 with vals:=vals' }),⟨rfl,rfl,an⟩,by rw[hvals'];exact aH.refl,⟨⟨hI2.fa,hI2.ta.bump hvn,by rw[hvals'];exact hI2.vo.bump hrow hq hql hlc,hI2.tb⟩,hPI1.bump (λ _ h=>by cases h) hq hr (.inl hsm),hw2,?_,?_⟩,?_⟩
   ·show cI L P.n (pos1.set v (q+1))<=_;omega
   ·show s2.cost+_<=_;simp only;omega
   ·show cI L P.n (pos1.set v (q+1))<cI L P.n pos1;omega
  ·refine ad (aa ?_)
   (repeat' (first|refine am (gs:=[999]) rfl ?_|refine ab [999] (af 5 rfl) rfl ?_))
   refine ap [] (gC P.N P.A P.c P.b P.o hP.arcs hP.right.len r hr2) rfl (by kernel_rfl) ⟨⟨4,_,by simp[mZ],rfl,ak _ _ _,av⟩,an⟩ (λ _=>rfl) ?_;rintro _ H' ⟨rfl,rfl⟩;refine⟨rfl,?_⟩
   (repeat' (first|refine am (gs:=[999]) rfl ?_|refine ab [999] (af 5 rfl) rfl ?_))
   refine ai ?_;refine a7 7 (v':=.int .i64 (eV P.N r:Int)) rfl (Gt (Value.int .i64) hte.1) ?_;refine ad ?_;refine bu 14 (cZ [0,1,2,3,4,5,6,7,8,9,10,11,12]++[(13,false)]) [5,6] (by kernel_rfl) (by decide) rfl ?_
   (repeat' (first|refine bB (gs:=[999]) rfl rfl ?_|refine aj [999] rfl (af 0 rfl) rfl ?_|refine aj [999] rfl (oy (b:=P.gr) (n:=2*P.N.arcs.length) (c:=P.cr) rfl (Gt (λ A=>some (Value.slice A (2*P.N.arcs.length) P.cr)) hAr) rfl rfl rfl hr2) rfl ?_|refine aj [999] rfl (aD (g:=P.gr) (n:=2*P.N.arcs.length) (cap:=P.cr) 1 rfl rfl (Gt (λ A=>some (aV.own (.slice A (2*P.N.arcs.length) P.cr) 2 1 (2*P.N.arcs.length) (ax s2.rm))) hAr) hri) rfl ?_))
   refine eg 75 (v':=.int .i64 (tr.getD r 0-4611686018427387904)) rfl (Gt (Value.int .i64) (cv (by omega))) ?_;refine bg rfl ?_;obtain⟨row2,hF2⟩:=hI2.fa;have hvfr:=hI2.ta.free v hv hvn;refine aw [] (w7 hF2 hN hvN (p:=[v]) ⟨rfl,hvn⟩ (d:=tr.getD r 0-4611686018427387904) (by omega) (by intro y hy;rw[Gy.1 hy];omega)) rfl rfl rfl rfl (by kernel_rfl) aH.refl an (λ _=>rfl) ?_;rintro _ H' ⟨fs3,row3,rfl,hF3,hk3⟩;refine⟨rfl,ai ⟨⟨[5,6],by decide,rfl⟩,?_⟩⟩;refine bq ?_;refine ai ?_;obtain⟨p,hp⟩:=hF3.path (eV P.N r) (by omega)
   have hvp:v∉p:=λ hin=>by
    have h1:=(hI2.ta.path_lv hP hp htn v hin).1;have h2:=(fD hP hrm).2.2;omega
   refine ad (aa ?_)
   (repeat' (first|refine am (gs:=[999]) rfl ?_|refine ab [999] (af 5 rfl) rfl ?_))
   refine aw [] (ED hF3 hN hvN (show eV P.N r<P.n+1 by omega) hvn hp hvp) rfl rfl rfl rfl (by kernel_rfl) aH.refl an (λ _=>rfl) ?_;rintro _ H' ⟨fs4,row4,rfl,hF4,hk4⟩;refine⟨rfl,?_⟩
   (repeat' (first|refine am (gs:=[999]) rfl ?_|refine ab [999] (af 5 rfl) rfl ?_))
   refine ai ?_;obtain⟨w,hw⟩:∃ w,eV P.N r=w:=⟨_,rfl⟩;rw[hw] at hF4 htn;rw[hw];obtain⟨Aw,cw,W,hun,hWd,hWm,hWl⟩:=hI2.tb.get htn;have hul:=hI2.tb.len;have hwu:w<s2.un.length:=by omega
   obtain⟨rw2,hrw2⟩:∃ x:d9,x=⟨Aw,cw,iR W⟩:=⟨_,rfl⟩;have hrw2l:rw2.l=iR W:=by rw[hrw2]
   have hrw2n:rw2.l.length<=10000:=by rw[hrw2l,dK];omega
   have hun2:s2.un[w]?=some rw2:=by rw[hrw2];exact hun
   obtain⟨R,hR⟩:∃ R,R=(P.rows s2.un).eraseIdx (P.rowsL.length+w):=⟨_,rfl⟩
   refine bJ (K:=aZ 3 rw2::((P.fo fs4++[P.sg,P.pc s2.k s2.w,P.rc s2.rm,P.lc s2.vals,P.uc s2.un])++R)) (by
    rw[hR];exact aH.front (A:=P.fo fs4++[P.sg,P.pc s2.k s2.w,P.rc s2.rm,P.lc s2.vals,P.uc s2.un]) (R:=P.rows s2.un) (i:=P.rowsL.length+w) (c:=aZ 3 rw2) (by unfold EP.rows;rw[GC,GL (by omega),Hb,hun2];rfl)) ?_
   refine ad ?_;refine bu 16 (cZ [0,1,2,3,4,5,6,7,8,9,10,11,12]++[(13,false),(14,false)]++cZ [15]) [6,9] (by kernel_rfl) (by decide) rfl ?_
   (repeat' (first|refine bB (gs:=[999]) rfl rfl ?_|refine aj [999] rfl (af 0 rfl) rfl ?_|refine aj [999] rfl (aG rfl (show w<P.n+1 by omega)) rfl ?_|refine aj [999] rfl (aD (v:=cz rw2) 1 rfl rfl rfl (show (s2.un.map cz)[w]?=some (cz rw2) by rw[GC,hun2];rfl)) rfl ?_))
   refine bg rfl ?_;refine bF rfl rfl rfl rfl rfl rfl rfl (λ _=>rfl) λ g2=>?_;refine ai ⟨⟨[7,10],by decide,rfl⟩,?_⟩;refine bg rfl ?_;refine bv (n:=rw2.l.length) (m:=1) (off:=0) (news:=ax [(v:Int)]) 1 0 rfl rfl rfl rfl rfl rfl (by decide) rfl rfl (aF g2 _ _ (0,0)) (λ _=>rfl) rfl rfl (by omega) (by omega) (λ _ _=>rfl) λ A2 c2=>?_;rw[show rw2.l.length+1=(rw2.l++[(v:Int)]).length by simp,show ax rw2.l++ax [(v:Int)]=ax (rw2.l++[(v:Int)]) by simp[ax]];refine ai ⟨⟨[7,10],by decide,rfl⟩,?_⟩;refine aj [] rfl (aG rfl (show w<P.n+1 by omega)) rfl ?_;refine bq ?_;refine aO 10 rfl rfl rfl rfl (df rfl rfl rfl (by rw[GA];exact hwu)) [] rfl ?_;refine ai ?_;obtain⟨un',hun'⟩:∃ x,x=s2.un.set w ⟨A2,c2,rw2.l++[(v:Int)]⟩:=⟨_,rfl⟩
   have hfin:∀ {X:Cx} {c0:aV},aH X (c0::aZ 3 ⟨A2,c2,rw2.l++[(v:Int)]⟩::((P.fo fs4++[P.sg,P.pc s2.k s2.w,P.rc s2.rm,P.lc s2.vals,P.uc un'])++R)) (eW P ⟨s2.vals,un',fs4,s2.rm,s2.k,s2.w⟩):=by
    intro X c0;refine aH.trans (aH.re (A:=c0::aZ 3 ⟨A2,c2,rw2.l++[(v:Int)]⟩::(P.fo fs4++[P.sg,P.pc s2.k s2.w,P.rc s2.rm,P.lc s2.vals,P.uc un'])) (A1:=aZ 3 ⟨A2,c2,rw2.l++[(v:Int)]⟩::(P.fo fs4++[P.pc s2.k s2.w,P.rc s2.rm,P.lc s2.vals,P.uc un'])) [1,2,3,4,5,7,8,9,10] rfl (by decide)) ?_;rw[hR];refine aH.trans (aH.back (A:=P.fo fs4++[P.pc s2.k s2.w,P.rc s2.rm,P.lc s2.vals,P.uc un']) (by unfold EP.rows;rw[GA,Gx];omega)) ?_;rw[u4,<- hun'];exact aH.refl
   rw[show (s2.un.map cz).set w (.slice A2 (rw2.l++[(v:Int)]).length c2)=un'.map cz from by rw[hun',In];rfl];refine bJ hfin ?_;refine ad (aa (ae [] rfl ?_));refine ay ⟨_,rfl,true,⟨s2.vals,un',fs4,s2.rm,s2.k,s2.w⟩,rfl,rfl,pos1,hPI1,hw2,hr1,.inl ⟨rfl,q,r,hq,hr,by omega,?_,?_⟩⟩
   ·have hh:=hI2.ta.hook hP hv hvn hq hr;have hrr2:s2.rm.getD r 0=tr.getD r 0:=hI2.ta.lead v r hrm (λ _ h=>absurd hvn h);rw[hrr2,hw] at hh;rw[hw];exact⟨⟨row4,hF4⟩,hh,hI2.vo,by rw[hun',hrw2l,show iR W++[(v:Int)]=iR (W++[v]) by simp[iR]];exact hI2.tb.add hun hWd hWm hv hvn⟩
   ·show s2.k+fs4.k+_<=_;have:s2.cost=s2.k+s2.fs.k:=rfl;omega
 ·refine ad (aa (ae [] rfl ?_));refine bJ mW (ay ⟨_,rfl,false,s1,rfl,rfl,pos1,hPI1,hw1,hr1,.inr ⟨rfl,λ p hp=>?_,hI1,hk1⟩⟩);rw[hq] at hp;simp only[Gs] at hp;subst hp;rw[hrwl,GA] at hge;omega
end
end Go.Proofs.YtmcnpaelaieniaaGreatDoor
