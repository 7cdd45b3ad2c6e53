import Derived.Test.YtmcnpaelaieniaaGreatDoorQX113
import Derived.Test.YtmcnpaelaieniaaGreatDoorQF
/- A part of the proof; see NOTES.md. -/
set_option linter.unusedVariables false
set_option linter.unusedSimpArgs false
namespace Go.Proofs.YtmcnpaelaieniaaGreatDoor
open Go.RowKit
theorem Ez(V:b5)(w:Ws)(hw:∀ x∈w,x.length<=10000000)(hn:w.length<=10000000)(B:OA)(n bb ob:Nat)(hB:w≠[]->B=some ⟨bb,ob,none⟩)(hnl:n=w.length)(p:Nat)(r:Rd)(ok:r.OK)(A:OA)(c:Nat):
 Fn 82 [.pointer (some ⟨p,0,none⟩),.slice B n n] (aL (nz p A c r)) ([.seg bb ob (cK w)]++V.heap++nz p A c r) (jk p (r.arc w)):=by
 subst hnl
 have bad:(w.length≠4\/r.src=0\/r.snk=0)->jk p (r.arc w) (.int .i64 2) (nz p A c r):=λ h=>by
  unfold Rd.arc;rw[if_pos h];exact⟨rfl,A,c,rfl⟩
 have hlen:=ok.len;have hsum:=ok.sum_ge;have hml:=ok.most_le;refine aJ Tryz.func82 rfl rfl λ w0=>?_;refine ad (aa (ae [] rfl ?_));refine ad (ad (aa (ah [] rfl ?_)));by_cases h1:w.length=4
 case neg=>
  refine bd 11 rfl (by simp;omega) ?_;refine ah [3] rfl ?_;refine aI 19 (v':=.bool true) rfl rfl ?_;refine ae [3,11] rfl ?_;refine bi rfl ?_;refine ad (aa (ae [] rfl ?_));exact az [4,5] (by decide) rfl (ay ⟨_,rfl,bad (.inl h1)⟩)
 obtain⟨x0,x1,x2,x3,rfl⟩:=FQ h1;obtain rfl:=hB (by simp);refine aX 11 rfl (by simp) ?_;refine ah [3] rfl ?_;refine ab [3] (cB (i:=1) (v:=.int .i64 r.src) 4 rfl rfl rfl rfl) rfl ?_;refine ah [3] rfl ?_;by_cases h2:r.src=0
 ·refine bd 19 rfl h2 ?_;refine ae [3,11] rfl ?_;refine bi rfl ?_;refine ad (aa (ae [] rfl ?_));exact az [4,5] (by decide) rfl (ay ⟨_,rfl,bad (.inr (.inl h2))⟩)
 refine aX 19 rfl h2 ?_;refine ah [3,11] rfl ?_;refine ab [3,11] (cB (i:=2) (v:=.int .i64 r.snk) 4 rfl rfl rfl rfl) rfl ?_;refine ae [3,11] rfl ?_;refine aC rfl (λ h3=>?_) (λ h3=>aq ?_)
 ·refine ad (aa (ae [] rfl ?_));exact az [4,5] (by decide) rfl (ay ⟨_,rfl,bad (.inr (.inr h3))⟩)
 refine ad (aa (ah [] rfl ?_));refine ab [] (dE (i:=1) rfl rfl rfl rfl rfl (by simp)) rfl ?_;refine ap [] (l0 V [x1,x2,x3] (λ x hx=>hw x (HW _ hx)) (by simp) _ 3 _ bb (ob+1) (λ _=>rfl) rfl) rfl (by kernel_rfl) ⟨⟨0,_,by simp,rfl,pF 1 (λ i=>by rw[I5];rfl),.inr rfl⟩,⟨1,by simp,rfl⟩,⟨2,by simp,rfl⟩,⟨3,by simp,rfl⟩,an⟩ (λ _=>rfl) ?_;rintro v H' ⟨An,cn,rfl,rfl⟩;refine⟨rfl,?_⟩
 generalize hq:bn [x1,x2,x3]=q
 have hql:=λ h=>(nN (ws:=[x1,x2,x3]) h).1;have hqi:=nq (ws:=[x1,x2,x3]);rw[hq] at hql hqi;obtain⟨L,e⟩:=q
 have good:∀ z:Rd×Int,(if e≠0 then (r,e) else
  if ¬ (1<=L.getD 0 0/\L.getD 0 0<=r.nodes)\/¬ (1<=L.getD 1 0/\L.getD 1 0<=r.nodes) then (r,4) else
  if L.getD 2 0<0 then (r,3) else if (r.arcs.length:Int)=r.most then (r,6) else
  if 4611686018427387903<r.sum+L.getD 2 0 then (r,7) else
  ({ r with sum:=r.sum+L.getD 2 0,arcs:=r.arcs++[⟨L.getD 0 0,L.getD 1 0,L.getD 2 0⟩] },0))=z->r.arc [x0,x1,x2,x3]=z:=λ z hz=>by
  unfold Rd.arc;rw[if_neg (by simp[h2,h3]),show List.drop 1 [x0,x1,x2,x3]=[x1,x2,x3] from rfl,hq];exact hz
 refine ae [] rfl ?_;refine ad (ad (aa (ae [] rfl ?_)));refine aC rfl (λ he=>?_) (λ he=>aq ?_)
 ·refine ad (aa (ae [] rfl ?_));exact az [5,6] (by decide) rfl (ay ⟨_,rfl,by rw[good _ (if_pos he)];exact⟨rfl,A,c,rfl⟩⟩)
 have he0:e=0:=GK.1 he
 obtain⟨a,b,d,rfl⟩:∃ a b d,L=[a,b,d]:=by
  match L,hql he0 with
  |[a,b,d],_=>exact⟨a,b,d,rfl⟩
 refine bh (aW 0 rfl) (λ ho=>?_);obtain⟨g,rfl⟩:=ho.2.2.1 (by simp);have ha:dn a:=hqi a (by simp);have hb:dn b:=hqi b (by simp);have hd:dn d:=hqi d (by simp);have hsi:dn r.sum:=by unfold dn;omega
 simp only[List.getD_cons_zero,List.getD_cons_succ] at good;rw[if_neg he] at good;refine ad ?_;refine bu 13 (cZ [0,1,2,3,4,5,6]++[(7,false)]++cZ [8,9,10,11,12]) [0,5] (by kernel_rfl) (by decide) rfl ?_;refine aB [] rfl ?_;refine aj [] rfl (cB (i:=5) (v:=.int .i64 r.sum) 1 rfl rfl rfl rfl) rfl ?_;refine aB [] rfl ?_;refine aj [] rfl (bR rfl (by simp)) rfl ?_;refine aj [] rfl (aD (i:=2) 0 rfl rfl rfl (be rfl)) rfl ?_;refine aB [] rfl ?_;refine bg rfl ?_;refine ap [] (BE hsi hd) rfl (by kernel_rfl) an (λ _=>rfl) ?_;rintro v H' ⟨rfl,rfl⟩
 have hse:((iO (r.sum+d)).2=0->(iO (r.sum+d)).1=r.sum+d)/\((iO (r.sum+d)).2≠0->0<=d->4611686018427387903<r.sum+d):=by
  unfold iO;split
  ·exact⟨λ _=>rfl,λ k=>absurd rfl k⟩
  ·rename_i hni;refine⟨λ k=>by simp at k,λ _ h0=>?_⟩;unfold dn at hni;omega
 generalize iO (r.sum+d)=oe at hse
 obtain⟨s,e2⟩:=oe;refine⟨rfl,ai ⟨⟨[0,5],by decide,rfl⟩,?_⟩⟩;refine dw [] rfl ?_;refine ai ?_;refine ad (au ?_);refine ad (aa (ah [] rfl ?_));refine ab [] (bR rfl (by simp)) rfl ?_;refine ab [] (aD (i:=0) 0 rfl rfl rfl (be rfl)) rfl ?_;refine ap [] (n7 p r A c a) rfl (by kernel_rfl) ⟨⟨5,_,by simp,rfl,aF _ _ _ (0,0),.inr rfl⟩,an⟩ (λ _=>rfl) ?_;rintro v H' ⟨rfl,rfl⟩;refine⟨rfl,?_⟩;refine ah [] rfl ?_
 have h4bad:(¬ (1<=a/\a<=r.nodes)\/¬ (1<=b/\b<=r.nodes))->jk p (r.arc [x0,x1,x2,x3]) (.int .i64 4) (nz p A c r):=λ h=>by
  rw[good _ (if_pos h)];exact⟨rfl,A,c,rfl⟩
 by_cases h4:1<=a/\a<=r.nodes
 case neg=>
  refine aI 54 (v':=.bool true) rfl (by rw[a6 h4];rfl) ?_;refine ae [6] rfl ?_;refine bi rfl ?_;refine ad (aa (ae [] rfl ?_));exact az [5,6] (by decide) rfl (ay ⟨_,rfl,h4bad (.inl h4)⟩)
 refine aI 54 (v':=.bool false) rfl (by rw[aR h4];rfl) ?_;refine ah [6] rfl ?_;refine ab [6] (bR rfl (by simp)) rfl ?_;refine ab [6] (aD (i:=1) 0 rfl rfl rfl (be rfl)) rfl ?_;refine ap [6] (n7 p r A c b) rfl (by kernel_rfl) ⟨⟨5,_,by simp,rfl,aF _ _ _ (0,0),.inr rfl⟩,an⟩ (λ _=>rfl) ?_;rintro v H' ⟨rfl,rfl⟩;refine⟨rfl,?_⟩;refine ae [6] rfl ?_;by_cases h5:1<=b/\b<=r.nodes
 case neg=>
  refine a7 47 (v':=.bool true) rfl (by rw[a6 h5];rfl) ?_;refine bi rfl ?_;refine ad (aa (ae [] rfl ?_));exact az [5,6] (by decide) rfl (ay ⟨_,rfl,h4bad (.inr h5)⟩)
 refine a7 47 (v':=.bool false) rfl (by rw[aR h5];rfl) ?_;refine bG rfl ?_;rw[if_neg (λ k=>k.elim (λ k=>k h4) (λ k=>k h5))] at good;refine ad (aa (ah [] rfl ?_));refine ab [] (bR rfl (by simp)) rfl ?_;refine ab [] (aD (i:=2) 0 rfl rfl rfl (be rfl)) rfl ?_;refine ae [] rfl ?_;refine aC rfl (λ h6=>?_) (λ h6=>?_)
 ·refine ad (aa (ae [] rfl ?_));exact az [5,6] (by decide) rfl (ay ⟨_,rfl,by rw[good _ (if_pos h6)];exact⟨rfl,A,c,rfl⟩⟩)
 rw[if_neg h6] at good;refine ad ?_;refine bu 12 (cZ [0,1,2,3,4,5,6,7,8,9,10,11]) [5] (by kernel_rfl) (by decide) rfl ?_;refine aB [] rfl ?_;refine aj [] rfl (cB (i:=3) (v:=.slice A r.arcs.length c) 0 rfl rfl rfl rfl) rfl ?_;refine aB [] rfl ?_;refine aj [] rfl (cB (i:=4) (v:=.int .i64 r.most) 0 rfl rfl rfl rfl) rfl ?_;refine dw [] rfl ?_;refine ai ?_;refine aC rfl (λ h7=>?_) (λ h7=>?_)
 ·refine ad (aa (ae [] rfl ?_));exact az [5,6] (by decide) rfl (ay ⟨_,rfl,by rw[good _ (if_pos h7)];exact⟨rfl,A,c,rfl⟩⟩)
 rw[if_neg h7] at good
 have h8bad:4611686018427387903<r.sum+d->jk p (r.arc [x0,x1,x2,x3]) (.int .i64 7) (nz p A c r):=λ h=>by
  rw[good _ (if_pos h)];exact⟨rfl,A,c,rfl⟩
 refine ad (aa (ah [] rfl ?_));by_cases h8:e2=0
 case neg=>
  refine bd 82 rfl h8 ?_;refine ae [2] rfl ?_;refine bi rfl ?_;refine ad (aa (ae [] rfl ?_));exact az [5,6] (by decide) rfl (ay ⟨_,rfl,h8bad (hse.2 h8 (by omega))⟩)
 refine aX 82 rfl (λ k=>k h8) ?_;refine ae [2] rfl ?_;have hs:s=r.sum+d:=hse.1 h8;refine aC rfl (λ h9=>?_) (λ h9=>aq ?_)
 ·refine ad (aa (ae [] rfl ?_));exact az [5,6] (by decide) rfl (ay ⟨_,rfl,h8bad (by rw[<- hs];exact h9)⟩)
 have h9':¬ 4611686018427387903<s:=h9;rw[if_neg (by omega)] at good;refine ad (aa (ah [] rfl ?_));refine aA 5 rfl [] rfl ?_;refine ae [] rfl ?_;refine ad ?_;refine bu 21 (cZ [0,1,2,3,4,5,6,7,8,9,10,11,12,13,14,15]++[(16,false),(17,false)]++cZ [18,19,20]) [0,5] (by kernel_rfl) (by decide) rfl ?_;refine aB [] rfl ?_;refine aj [] rfl (cB (i:=3) (v:=.slice A r.arcs.length c) 1 rfl rfl rfl rfl) rfl ?_;refine aB [] rfl ?_;refine aj [] rfl (bR rfl (by simp)) rfl ?_;refine aj [] rfl (aD (i:=0) 0 rfl rfl rfl (be rfl)) rfl ?_;refine aB [] rfl ?_;refine aj [] rfl (bR rfl (by simp)) rfl ?_;refine aj [] rfl (aD (i:=1) 0 rfl rfl rfl (be rfl)) rfl ?_;refine aB [] rfl ?_;refine aj [] rfl (bR rfl (by simp)) rfl ?_;refine aj [] rfl (aD (i:=2) 0 rfl rfl rfl (be rfl)) rfl ?_;refine aB [] rfl ?_;refine aj [] rfl (bz rfl rfl rfl rfl rfl rfl) rfl ?_;refine bg rfl ?_;refine bF rfl rfl rfl rfl rfl rfl rfl (λ _=>rfl) λ g2=>?_;refine ai ⟨⟨[1,6],by decide,rfl⟩,?_⟩;refine bg rfl ?_;refine bv (n:=r.arcs.length) (m:=1) (off:=0) (news:=arcs [dI.mk a b d]) 7 0 rfl rfl rfl rfl rfl rfl (by decide) rfl rfl (aF g2 _ _ (0,0)) (λ _=>rfl) rfl rfl (by omega) (by omega) (λ _ _=>rfl) λ A2 c2=>?_;refine ai ⟨⟨[1,6],by decide,rfl⟩,?_⟩;refine aB [] rfl ?_;refine bq ?_;refine aA 6 rfl [] rfl ?_;refine ai ?_;refine ad (aa (ae [] rfl ?_));refine az [6,7] (by decide) rfl (ay ⟨_,rfl,?_⟩);rw[good _ rfl,<- hs];refine⟨rfl,A2,c2,?_⟩;rw[<- AH,show r.arcs.length+1=(r.arcs++[dI.mk a b d]).length by simp];rfl
variable {V:b5} {bb ob:Nat} {w:Ws}
theorem yk(S:Heap)(hS:S=[.seg bb ob (cK w)]++V.heap)(B:Value)(p:Nat)(r:Rd)(A:OA)(c:Nat):Fn 79 [.pointer (some ⟨p,0,none⟩),B] (aL (nz p A c r)) (S++nz p A c r) λ v H'=>v=.int .i64 0/\H'=nz p A c r:=by
 subst hS;refine aJ Tryz.func79 rfl rfl λ w0=>?_;refine ad (aa (ae [] rfl ?_));refine ad (aa (ae [] rfl ?_));exact az [4,5] (by decide) rfl (ay ⟨_,rfl,rfl,rfl⟩)
theorem BN(S:Heap)(hS:S=[.seg bb ob (cK w)]++V.heap)(B:Value)(p:Nat)(r:Rd)(A:OA)(c:Nat):Fn 83 [.pointer (some ⟨p,0,none⟩),B] (aL (nz p A c r)) (S++nz p A c r) λ v H'=>v=.int .i64 2/\H'=nz p A c r:=by
 subst hS;refine aJ Tryz.func83 rfl rfl λ w0=>?_;refine ad (aa (ae [] rfl ?_));refine ad (aa (ae [] rfl ?_));exact az [4,5] (by decide) rfl (ay ⟨_,rfl,rfl,rfl⟩)
def Fc(w:Ws):FuncId:=match w with
 |[]=>79
 |x::_=>if x=[99] then 79 else if x=[112] then 80 else if x=[110] then 81 else if x=[97] then 82 else 83
def EZ(B:OA)(n:Nat)(f:FuncId):Value:=.agg #[.slice B n n,.func (.func f) #[] #[]]
theorem EJ(w:Ws)(hn:w.length<=10000000)(B:OA)(bb ob:Nat)(hB:w≠[]->B=some ⟨bb,ob,none⟩):Fn 42 [.slice B w.length w.length] [] [.seg bb ob (cK w)] λ v H'=>v=EZ B w.length (Fc w)/\H'=[]:=by
 refine iN Tryz.func42 rfl rfl λ w0=>?_;refine ad (aa ?_);refine bo rfl rfl rfl (λ _=>rfl) λ p2=>?_;refine ae [] rfl ?_;refine ad (ad (aa (ae [] rfl ?_)));refine aC rfl (λ h=>?_) (λ h=>aq ?_)
 ·obtain rfl:w=[]:=IK (by omega);refine ad (aa (ah [] rfl ?_));refine ab [] (v:=EZ B 0 79) (bz rfl rfl rfl rfl rfl rfl) rfl ?_;refine aA 0 rfl [] rfl ?_;refine ae [] rfl ?_;refine ay ?_;exact⟨[_],[],_,⟨⟨p2,0,_,_,rfl,rfl,rfl⟩,an⟩,by decide,rfl,rfl,rfl⟩
 obtain⟨x,r,rfl⟩:∃ x r,w=x::r:=by
  match w,h with
  |x::r,_=>exact⟨x,r,rfl⟩
 obtain rfl:=hB (by simp);refine ad (ad (aa (ah [] rfl ?_)));refine ab [] (bR rfl (by simp)) rfl ?_;refine ab [] (a8 (i:=0) 1 rfl rfl (fy (l:=x::r) (x:=x) rfl)) rfl ?_;refine ae [] rfl ?_;refine au (ad (aa (ae [] rfl ?_)));refine a7 11 (v':=.bool (di (x=[99]))) rfl (Gt Value.bool (de x [99])) ?_;refine aC rfl (λ h1=>?_) (λ h1=>?_)
 ·refine ad (aa (ah [] rfl ?_));refine ab [] (v:=EZ (some ⟨bb,ob,none⟩) (x::r).length (79)) (bz rfl rfl rfl rfl rfl rfl) rfl ?_;refine aA 0 rfl [] rfl ?_;refine ae [] rfl ?_;refine ay ?_;refine⟨[_],[],_,⟨⟨p2,0,_,_,rfl,rfl,rfl⟩,an⟩,by decide,rfl,?_,rfl⟩;subst h1;rfl
 refine ad (aa (ae [] rfl ?_));refine a7 15 (v':=.bool (di (x=[112]))) rfl (Gt Value.bool (de x [112])) ?_;refine aC rfl (λ h2=>?_) (λ h2=>?_)
 ·refine ad (aa (ah [] rfl ?_));refine ab [] (v:=EZ (some ⟨bb,ob,none⟩) (x::r).length (80)) (bz rfl rfl rfl rfl rfl rfl) rfl ?_;refine aA 0 rfl [] rfl ?_;refine ae [] rfl ?_;refine ay ?_;refine⟨[_],[],_,⟨⟨p2,0,_,_,rfl,rfl,rfl⟩,an⟩,by decide,rfl,?_,rfl⟩;subst h2;rfl
 refine ad (aa (ae [] rfl ?_));refine a7 19 (v':=.bool (di (x=[110]))) rfl (Gt Value.bool (de x [110])) ?_;refine aC rfl (λ h3=>?_) (λ h3=>?_)
 ·refine ad (aa (ah [] rfl ?_));refine ab [] (v:=EZ (some ⟨bb,ob,none⟩) (x::r).length (81)) (bz rfl rfl rfl rfl rfl rfl) rfl ?_;refine aA 0 rfl [] rfl ?_;refine ae [] rfl ?_;refine ay ?_;refine⟨[_],[],_,⟨⟨p2,0,_,_,rfl,rfl,rfl⟩,an⟩,by decide,rfl,?_,rfl⟩;subst h3;rfl
 refine ad (aa (ae [] rfl ?_));refine a7 23 (v':=.bool (di (x=[97]))) rfl (Gt Value.bool (de x [97])) ?_;refine aC rfl (λ h4=>?_) (λ h4=>?_)
 ·refine ad (aa (ah [] rfl ?_));refine ab [] (v:=EZ (some ⟨bb,ob,none⟩) (x::r).length (82)) (bz rfl rfl rfl rfl rfl rfl) rfl ?_;refine aA 0 rfl [] rfl ?_;refine ae [] rfl ?_;refine ay ?_;refine⟨[_],[],_,⟨⟨p2,0,_,_,rfl,rfl,rfl⟩,an⟩,by decide,rfl,?_,rfl⟩;subst h4;rfl
 refine aq (ad (aa (ah [] rfl ?_)));refine ab [] (v:=EZ (some ⟨bb,ob,none⟩) (x::r).length (83)) (bz rfl rfl rfl rfl rfl rfl) rfl ?_;refine aA 0 rfl [] rfl ?_;refine ae [] rfl ?_;refine ay ?_;refine⟨[_],[],_,⟨⟨p2,0,_,_,rfl,rfl,rfl⟩,an⟩,by decide,rfl,?_,rfl⟩;unfold Fc;simp only[if_neg h1,if_neg h2,if_neg h3,if_neg h4];rfl
theorem B0(w:Ws):ew (Fc w)=true:=by
 unfold Fc;split
 ·kernel_rfl
 ·split
  ·kernel_rfl
  ·split
   ·kernel_rfl
   ·split
    ·kernel_rfl
    ·split<;>kernel_rfl
theorem DI(V:b5)(w:Ws)(hw:∀ x∈w,x.length<=10000000)(hn:w.length<=10000000)(B:OA)(bb ob:Nat)(hB:w≠[]->B=some ⟨bb,ob,none⟩)(p:Nat)(r:Rd)(ok:r.OK)(A:OA)(c:Nat):
 Fn (Fc w) [.pointer (some ⟨p,0,none⟩),.slice B w.length w.length] (aL (nz p A c r)) ([.seg bb ob (cK w)]++V.heap++nz p A c r) (jk p (r.line w)):=by
 have hs:Fn 79 [.pointer (some ⟨p,0,none⟩),.slice B w.length w.length] (aL (nz p A c r)) ([.seg bb ob (cK w)]++V.heap++nz p A c r) (jk p (r,0)):=Fn.mono (yk _ rfl _ p r A c) λ v H' h=>⟨h.1,A,c,h.2⟩;have hwr:Fn 83 [.pointer (some ⟨p,0,none⟩),.slice B w.length w.length] (aL (nz p A c r)) ([.seg bb ob (cK w)]++V.heap++nz p A c r) (jk p (r,2)):=Fn.mono (BN _ rfl _ p r A c) λ v H' h=>⟨h.1,A,c,h.2⟩;unfold Fc Rd.line
 cases w with
 |nil=>exact hs
 |cons x l=>
  simp only;by_cases h1:x=[99]
  ·rw[if_pos h1,if_pos h1];exact hs
  rw[if_neg h1,if_neg h1];by_cases h2:x=[112]
  ·rw[if_pos h2,if_pos h2];exact v8 V _ hw hn B _ bb ob hB rfl p r ok A c
  rw[if_neg h2,if_neg h2];by_cases h3:x=[110]
  ·rw[if_pos h3,if_pos h3];exact Du V _ hw hn B _ bb ob hB rfl p r ok A c
  rw[if_neg h3,if_neg h3];by_cases h4:x=[97]
  ·rw[if_pos h4,if_pos h4];exact Ez V _ hw hn B _ bb ob hB rfl p r ok A c
  rw[if_neg h4,if_neg h4];exact hwr
def AL(q:aU×Nat×Int)(v:Value)(H':Heap):Prop:=∃ (A:OA) (c:Nat),v=.tuple #[bp q.1 A c,.int .i64 q.2.1,.int .i64 q.2.2]/\H'=[.own (.slice A q.1.arcs.length c) 37 3 q.1.arcs.length (arcs q.1.arcs)]
theorem ii:∀ (l cur:LU),∀ x∈b7 cur l,x.length<=cur.length+l.length
 |[],cur,x,hx=>by
  unfold b7 at hx;split at hx
  ·cases hx
  ·obtain rfl:=Gy.1 hx;simp
 |b::l,cur,x,hx=>by
  unfold b7 at hx;rw[Gz];split at hx
  ·split at hx
   ·have:=ii l [] x hx;simp at this;omega
   ·rcases GD.1 hx with rfl|hx
    ·omega
    ·have:=ii l [] x hx;simp at this;omega
  ·have:=ii l _ x hx;simp at this;omega
theorem mq(l:LU):∀ x∈bw l,x.length<=l.length:=λ x hx=>by
 have:=ii l [] x hx
 simpa using this
theorem jU(c:UInt8):∀ (l cur:LU),∀ x∈bZ c cur l,x.length<=cur.length+l.length
 |[],cur,x,hx=>by
  obtain rfl:=Gy.1 hx;simp
 |b::l,cur,x,hx=>by
  unfold bZ at hx;rw[Gz];split at hx
  ·rcases GD.1 hx with rfl|hx
   ·omega
   ·have:=jU c l [] x hx;simp at this;omega
  ·have:=jU c l _ x hx;simp at this;omega
theorem v1(l:LU):∀ x∈aT l,x.length<=l.length:=λ x hx=>by
 unfold aT at hx;split at hx
 ·cases hx
 ·have h1:=jU 10 _ [] x hx
  have h2:(Lib.trimSuffix l [10]).length<=l.length:=by
   unfold Lib.trimSuffix;split<;>simp
  simp at h1;omega
theorem qw(V:b5)(l:LU)(hl:l.length<=9999999):Fn 19 [dF l] [] V.heap (AL (bW l)):=by
 have hll:=uX l;refine iN Tryz.func19 rfl rfl λ w0=>?_;refine ad (aa ?_);refine bo rfl rfl rfl (λ _=>rfl) λ p2=>?_;refine ae [] rfl ?_;refine ad (aa ?_);refine ab [] (v:=.agg (E6 oZ none 0).toArray) (bz rfl rfl rfl rfl rfl rfl) rfl ?_;refine bx (cs:=E6 oZ none 0) rfl rfl rfl (λ _=>rfl) λ p=>?_;refine em 37 3 ?_;refine ae [] rfl ?_;refine ad (aa (ah [] rfl ?_));refine ap [] (pK V l (by omega)) rfl (by kernel_rfl) ⟨⟨3,by simp,rfl⟩,⟨4,by simp,rfl⟩,⟨5,by simp,rfl⟩,an⟩ (λ _=>rfl) ?_;rintro v H' ⟨Al,n,hn,rfl,rfl⟩;refine⟨rfl,?_⟩;subst hn;refine ae [] rfl ?_;refine ad (ad (aa (ae [] rfl ?_)));refine au ?_
 refine bO (σ:=Nat×Rd×OA×Nat) (λ s=>[(17,.int .i64 s.1),(16,.int .i64 (aT l).length),(15,.slice Al (aT l).length (aT l).length),(6,.slice Al (aT l).length (aT l).length),(5,.pointer (some ⟨p,0,none⟩)),(2,.pointer (some ⟨p2,0,none⟩))])
  (λ s=>nz p s.2.2.1 s.2.2.2 s.2.1++[blk p2 33 (bI nB none 0),.own (.slice Al (aT l).length (aT l).length) 9 1 (aT l).length (cK (aT l))]++V.heap)
  (λ s=>s.1<=(aT l).length/\s.2.1.OK/\dY oZ 0 (aT l)=dY s.2.1 s.1 ((aT l).drop s.1)) (λ s=>(aT l).length-s.1) (0,oZ,none,0) [2,1,3,0,4,5,6] ⟨rfl,rfl,rfl,rfl,rfl,rfl,an⟩ (by decide) rfl ⟨GB _,Bx,rfl⟩ ?_
 rintro⟨k,r,A,c⟩ ⟨hk,ok,hrd⟩;simp only at hk ok hrd ⊢;refine ad (aa (ae [] rfl ?_));refine ad (aC rfl (λ hlt=>aq ?_) (λ hge=>bc ?_))
 ·have hlt':k<(aT l).length:=by omega
  obtain⟨x,hx⟩:∃ x,(aT l)[k]?=some x:=⟨(aT l)[k],Gq hlt'⟩;have hxl:=v1 l x (Gu hx);refine bh (aW 3 rfl) (λ ho=>?_);obtain⟨gl,rfl⟩:=ho.2.2.1 (by omega)
  have hrd2:dY oZ 0 (aT l)=if (r.line (bw x)).2≠0 then (r,k+1,(r.line (bw x)).2) else dY (r.line (bw x)).1 (k+1) ((aT l).drop (k+1)):=by
   rw[hrd,Hf hlt']
   have:(aT l)[k]=x:=by
    have:=Gq hlt';rw[hx] at this;exact (G0 this).symm
   rw[this];rfl
  refine ad (au ?_);refine ad (aa (ah [] rfl ?_));refine ab [] (aG rfl hlt') rfl ?_;refine ab [] (aD 3 rfl rfl rfl (fy hx)) rfl ?_;refine ae [] rfl ?_;refine ad (aa (ah [] rfl ?_));refine ap [] (uH x (by omega)) rfl (by kernel_rfl) an (λ _=>rfl) ?_;rintro v H' ⟨B,n,hn,rfl,rfl⟩;subst hn;refine⟨rfl,?_⟩;refine eu (aW 0 rfl) (λ hw=>?_)
  obtain⟨gB,hB⟩:∃ gB,bw x≠[]->B=some ⟨gB,0,none⟩:=by
   by_cases h:bw x=[]
   ·exact⟨0,λ k=>absurd h k⟩
   ·obtain⟨g,e⟩:=hw.2.2.1 (Hc.2 h);exact⟨g,λ _=>e⟩
  have hB':cK (bw x)≠[]->B=some ⟨gB,0,none⟩:=λ h=>hB (by rintro e;rw[e] at h;exact h rfl);have hwl:=mK x;have hwe:=mq x;refine ap [] (EJ (bw x) (by omega) B gB 0 hB) rfl (by kernel_rfl) ⟨⟨0,_,by simp,rfl,aE hB',aM hB'⟩,an⟩ (λ _=>rfl) ?_;rintro v H' ⟨rfl,rfl⟩;refine⟨rfl,?_⟩;refine bo rfl rfl rfl (λ _=>rfl) λ p9=>?_;refine aA 0 rfl [] rfl ?_;refine ae [] rfl ?_;refine ad (aa (ah [] rfl ?_));refine ab [] (cB (i:=1) 0 rfl rfl rfl rfl) rfl ?_;refine ah [] rfl ?_;refine ab [] (cB (i:=0) 0 rfl rfl rfl rfl) rfl ?_
  refine aw (fst:=[]) (cap:=[]) [] (DI V (bw x) (fun y hy=>by have:=hwe y hy;omega) (by omega) B gB 0 hB p r ok A c) rfl rfl rfl rfl (B0 _) (K:=[.own (.slice B (bw x).length (bw x).length) 9 1 (bw x).length (cK (bw x)),blk p2 33 (bI nB none 0),.own (.slice (some ⟨gl,0,none⟩) (aT l).length (aT l).length) 9 1 (aT l).length (cK (aT l))]++V.heap) (aH.picks [2,3,1,4,5,6,7,8] (by decide) rfl)
   ⟨⟨0,_,by simp,rfl,aE hB',aM hB'⟩,⟨3,by simp,rfl⟩,⟨4,by simp,rfl⟩,⟨5,by simp,rfl⟩,an⟩ (λ _=>rfl) ?_
  rintro v H' ⟨rfl,A',c',rfl⟩;refine⟨rfl,?_⟩;refine ae [] rfl ?_;refine ad (aa (ae [] rfl ?_));refine aC rfl (λ he=>?_) (λ he=>aq ?_)
  ·rw[if_pos he] at hrd2;refine ad (aa (ah [] rfl ?_));refine ab [] (v:=bp nB none 0) (bz rfl rfl rfl rfl rfl rfl) rfl ?_;refine ah [] rfl ?_;refine aA 3 rfl [] rfl ?_;refine ah [] rfl ?_;refine em 37 3 ?_;refine ai ?_;refine ay ⟨[_,_,_],[0],_,⟨⟨p2,4,_,_,rfl,rfl,rfl⟩,rfl,rfl,an⟩,by decide,rfl,?_⟩;unfold AL bW;rw[hrd2,if_pos he];refine⟨none,0,?_,rfl⟩;rw[cv (by omega)];rfl
  ·rw[if_neg he] at hrd2;refine aa (ae [] rfl ?_);refine⟨(k+1,(r.line (bw x)).1,A',c'),[0,1,3,4,5,6,7],⟨?_,rfl,rfl,rfl,rfl,rfl,an⟩,by decide,rfl,⟨by simp only;omega,ok.line _,hrd2⟩,by simp only;omega⟩;show some (Value.int .i64 (IntKind.i64.wrap ((k:Int)+1)))=_;rw[cv (by omega)];rfl
 have hkl:k=(aT l).length:=by omega
 subst hkl;rw[List.drop_length] at hrd;have hrd3:dY oZ 0 (aT l)=(r,0,0):=hrd;have hlen:=ok.len
 have pbad:(r.most=-1\/r.src=0\/r.snk=0)->bW l=(nB,(aT l).length+1,2):=λ h=>by
  unfold bW;rw[hrd3,if_neg (by simp),if_pos h]
 refine ad (au ?_);refine ad (aa (ah [] rfl ?_));refine ab [] (cB (i:=4) (v:=.int .i64 r.most) 0 rfl rfl rfl rfl) rfl ?_;refine ah [] rfl ?_;by_cases h1:r.most=-1
 ·refine bd 44 rfl h1 ?_;refine ah [5] rfl ?_;refine aI 52 (v':=.bool true) rfl rfl ?_;refine ae [5,13] rfl ?_;refine bi rfl ?_;refine ad (aa (ah [] rfl ?_));refine ab [] (v:=bp nB none 0) (bz rfl rfl rfl rfl rfl rfl) rfl ?_;refine ah [] rfl ?_;refine aA 2 rfl [] rfl ?_;refine ah [] rfl ?_;refine em 37 3 ?_;refine ai ?_;refine ay ⟨[_,_,_],[0],_,⟨⟨p2,3,_,_,rfl,rfl,rfl⟩,rfl,rfl,an⟩,by decide,rfl,?_⟩;rw[pbad (.inl h1)];refine⟨none,0,?_,rfl⟩;rw[cv (by omega)];rfl
 refine aX 44 rfl h1 ?_;refine ah [5] rfl ?_;refine ab [5] (cB (i:=1) (v:=.int .i64 r.src) 0 rfl rfl rfl rfl) rfl ?_;refine ah [5] rfl ?_;by_cases h2:r.src=0
 ·refine bd 52 rfl h2 ?_;refine ae [5,13] rfl ?_;refine bi rfl ?_;refine ad (aa (ah [] rfl ?_));refine ab [] (v:=bp nB none 0) (bz rfl rfl rfl rfl rfl rfl) rfl ?_;refine ah [] rfl ?_;refine aA 2 rfl [] rfl ?_;refine ah [] rfl ?_;refine em 37 3 ?_;refine ai ?_;refine ay ⟨[_,_,_],[0],_,⟨⟨p2,3,_,_,rfl,rfl,rfl⟩,rfl,rfl,an⟩,by decide,rfl,?_⟩;rw[pbad (.inr (.inl h2))];refine⟨none,0,?_,rfl⟩;rw[cv (by omega)];rfl
 refine aX 52 rfl h2 ?_;refine ah [5,13] rfl ?_;refine ab [5,13] (cB (i:=2) (v:=.int .i64 r.snk) 0 rfl rfl rfl rfl) rfl ?_;refine ae [5,13] rfl ?_;refine aC rfl (λ h3=>?_) (λ h3=>?_)
 ·refine ad (aa (ah [] rfl ?_));refine ab [] (v:=bp nB none 0) (bz rfl rfl rfl rfl rfl rfl) rfl ?_;refine ah [] rfl ?_;refine aA 2 rfl [] rfl ?_;refine ah [] rfl ?_;refine em 37 3 ?_;refine ai ?_;refine ay ⟨[_,_,_],[0],_,⟨⟨p2,3,_,_,rfl,rfl,rfl⟩,rfl,rfl,an⟩,by decide,rfl,?_⟩;rw[pbad (.inr (.inr h3))];refine⟨none,0,?_,rfl⟩;rw[cv (by omega)];rfl
 refine ad ?_;refine bu 12 (cZ [0,1,2,3,4,5,6,7,8,9,10,11]) [0] (by kernel_rfl) (by decide) rfl ?_;refine aB [] rfl ?_;refine aj [] rfl (cB (i:=3) (v:=.slice A r.arcs.length c) 0 rfl rfl rfl rfl) rfl ?_;refine aB [] rfl ?_;refine aj [] rfl (cB (i:=4) (v:=.int .i64 r.most) 0 rfl rfl rfl rfl) rfl ?_;refine dw [] rfl ?_;refine ai ?_
 have fold:bW l=if (r.arcs.length:Int)<r.most then (nB,(aT l).length+1,6) else (⟨r.nodes,r.src,r.snk,r.arcs⟩,0,0):=by
  unfold bW;rw[hrd3,if_neg (by simp),if_neg (by rintro (k|k|k);exact h1 k;exact h2 k;exact h3 k)]
 refine aC rfl (λ h4=>?_) (λ h4=>aq ?_)
 ·refine ad (aa (ah [] rfl ?_));refine ab [] (v:=bp nB none 0) (bz rfl rfl rfl rfl rfl rfl) rfl ?_;refine ah [] rfl ?_;refine aA 2 rfl [] rfl ?_;refine ah [] rfl ?_;refine em 37 3 ?_;refine ai ?_;refine ay ⟨[_,_,_],[0],_,⟨⟨p2,3,_,_,rfl,rfl,rfl⟩,rfl,rfl,an⟩,by decide,rfl,?_⟩;rw[fold.trans (if_pos h4)];refine⟨none,0,?_,rfl⟩;rw[cv (by omega)];rfl
 rw[if_neg h4] at fold;refine ad (aa (ah [] rfl ?_));refine ab [] (v:=bp ⟨r.nodes,r.src,r.snk,r.arcs⟩ A c) (cB (i:=0) 0 rfl rfl rfl rfl) rfl ?_;refine ah [] rfl ?_;refine aA 2 rfl [] rfl ?_;refine ae [] rfl ?_;refine ay ⟨[_,_,_],[1],_,⟨⟨p2,2,_,_,rfl,rfl,rfl⟩,rfl,rfl,an⟩,by decide,rfl,?_⟩;rw[fold];exact⟨A,c,rfl,rfl⟩
open Lib
def fF(f:LU)(l:LI):LU:=join (f::l.map itoa) [32]
theorem yG(x:LU)(xs:List (LU))(sep:LU):join (x::xs) sep=x++(xs.map λ y=>sep++y).flatten:=by
 unfold join
 induction xs generalizing x with
 |nil=>simp[List.intercalate]
 |cons y r ih=>
  have:=ih y;simp only[List.intercalate] at this ⊢;rw[List.intersperse_cons_cons];simp only[HR,GG];rw[this];simp
theorem mn(f:LU)(l:LI):fF f l=f++(l.map λ n=>32::itoa n).flatten:=by
 unfold fF;rw[yG,HQ];rfl
theorem ef(f:LU)(l:LI)(hl:∀ n∈l,dn n):(fF f l).length<=f.length+l.length*21:=by
 rw[mn,Gx]
 have:((l.map λ n=>32::itoa n).flatten).length<=l.length*21:=by
  induction l with
  |nil=>simp
  |cons n r ih=>
   have h1:=hl n (by simp);unfold dn at h1;have h2:=(B1 n (by omega)).2;have h3:=ih λ x hx=>hl x (by simp[hx]);simp only[GG,HR,Gx,Gz];omega
 omega
theorem iu(V:b5)(f:LU)(hf:f.length<=100)(l:LI)(hl:∀ n∈l,dn n)(hll:l.length<=100)(B:OA)(n cb bb ob:Nat)(hB:l≠[]->B=some ⟨bb,ob,none⟩)(hn:n=l.length):
 Fn 54 [dF f,.slice B n cb] [] ([.seg bb ob (ax l)]++V.heap) λ v H'=>v=dF (fF f l)/\H'=[]:=by
 subst hn;have hwl:=ef f l hl;refine aJ Tryz.func54 rfl rfl λ w0=>?_;refine ad (aa (ae [] rfl ?_));refine ad (aa (ah [] rfl ?_));refine bF rfl rfl rfl rfl rfl rfl rfl (λ _=>rfl) λ g0=>?_;refine fb 1 1 (by rfl) (by decide) ?_;refine ae [] rfl ?_;refine ad (ad (aa (ae [] rfl ?_)));refine au ?_
 refine bO (σ:=Nat×OA×Nat) (λ s=>[(12,.int .i64 s.1),(11,.int .i64 l.length),(10,.slice B l.length cb),(5,.slice s.2.1 (f::(l.take s.1).map itoa).length s.2.2)])
  (λ s=>[.own (.slice s.2.1 (f::(l.take s.1).map itoa).length s.2.2) 9 1 (f::(l.take s.1).map itoa).length (cK (f::(l.take s.1).map itoa)),.seg bb ob (ax l)]++V.heap)
  (λ s=>s.1<=l.length) (λ s=>l.length-s.1) (0,some ⟨g0,0,none⟩,1) [0,1,2,3,4] ⟨rfl,rfl,rfl,rfl,an⟩ (by decide) rfl (GB _) ?_
 rintro⟨k,A,c⟩ hk;simp only at hk ⊢;refine ad (aa (ae [] rfl ?_));refine ad (aC rfl (λ hlt=>aq ?_) (λ hge=>bc ?_))
 ·have hlt':k<l.length:=by omega
  obtain⟨x,hx⟩:∃ x,l[k]?=some x:=⟨l[k],Gq hlt'⟩;obtain rfl:=hB (by rintro rfl;simp at hlt');have hxB:=hl x (Gu hx);have hlen:(f::(l.take k).map itoa).length=k+1:=by rw[Gz,GA,GV];omega
  refine ad (au ?_);refine ad (aa (ah [] rfl ?_));refine ab [] (bR rfl hlt') rfl ?_;refine ab [] (a8 1 rfl rfl (be hx)) rfl ?_;refine ae [] rfl ?_;refine aa (ah [] rfl ?_);refine ap [] (pY V x hxB) rfl (by kernel_rfl) ⟨⟨2,by simp,rfl⟩,⟨3,by simp,rfl⟩,⟨4,by simp,rfl⟩,an⟩ (λ _=>rfl) ?_;rintro v H' ⟨rfl,rfl⟩;refine⟨rfl,?_⟩;refine bF rfl rfl rfl rfl rfl rfl rfl (λ _=>rfl) λ g2=>?_;refine bv (n:=(f::(l.take k).map itoa).length) (m:=1) (off:=0) (news:=cK [itoa x]) 1 0 rfl rfl rfl rfl rfl rfl (by decide) rfl rfl (aF g2 _ _ (0,0)) (λ _=>rfl) rfl rfl (by omega) (by omega) (λ _ _=>rfl) λ A2 c2=>?_;refine ae [] rfl ?_;refine aa (ae [] rfl ?_);have htk:f::(l.take (k+1)).map itoa=(f::(l.take k).map itoa)++[itoa x]:=by rw[GO,hx];simp
  refine⟨(k+1,A2,c2),[1,2,3,4,5],⟨?_,rfl,rfl,?_,an⟩,by decide,?_,by simp only;omega,by simp only;omega⟩
  ·show some (Value.int .i64 (IntKind.i64.wrap ((k:Int)+1)))=_;rw[cv (by omega)];rfl
  ·simp only[htk];rw[Gx];rfl
  ·simp only[htk];rw[Gx,show cK ((f::(l.take k).map itoa)++[itoa x])=cK (f::(l.take k).map itoa)++cK [itoa x] by simp[cK]];rfl
 obtain rfl:k=l.length:=by omega
 refine bh (aW 0 rfl) (λ ho=>?_);obtain⟨g,rfl⟩:=ho.2.2.1 (by simp);rw[GY] at*;refine ad (aa (ah [] rfl ?_));refine ap [] (qx (some ⟨g,0,none⟩) _ c g 0 (f::l.map itoa) rfl (λ _=>rfl) ho.2.1 (by show (fF f l).length<=_;omega) (by simp;omega)) rfl (by kernel_rfl) ⟨⟨0,_,by simp,rfl,cp,.inr rfl⟩,an⟩ (λ _=>rfl) ?_;rintro v H' ⟨rfl,rfl⟩;refine⟨rfl,?_⟩;refine ae [] rfl ?_;exact az [] (by decide) rfl (ay ⟨_,rfl,rfl,rfl⟩)
set_option maxHeartbeats 1000000 in
theorem Aq(N:aU)(hN:N.Fits)(hR:N.Right)(A:OA)(c b o:Nat)(hA:N.arcs≠[]->A=some ⟨b,o,none⟩)(f:LI)(hf:aK N f)(F:OA)(cf bf of:Nat)(hF:f≠[]->F=some ⟨bf,of,none⟩)
 (s:LI) (hs:e8 N s) (hsl:s.length<=100000) (S:OA) (cs bs os:Nat) (hS:s≠[]->S=some ⟨bs,os,none⟩):
 Fn 129 [bp N A c,.slice F f.length cf,.slice S s.length cs] [] [.seg b o (arcs N.arcs),.seg bf of (ax f),.seg bs os (ax s)] λ v H'=>v=.int .i64 (if cS (N.arcs.zip f) N.snk=eL s N.arcs then 0 else 8)/\H'=[]:=by
 have hl2:=hR.len;have hfl:=hf.len;refine aJ Tryz.func129 rfl rfl λ w0=>?_;refine ad (aa ?_);refine bx (cs:=bI N A c) rfl rfl rfl (λ _=>rfl) λ p=>?_;refine ae [] rfl ?_;refine ad (aa ?_);refine ab [] (v:=bp N A c) (af 0 rfl) rfl ?_;refine ah [] rfl ?_;refine ap [] (gq N hN hR A c b o hA f F cf bf of hF (aK.inB hR hf.toRanged) (by omega)) rfl (by kernel_rfl) ⟨⟨1,_,by simp,rfl,ak _ _ _,av⟩,⟨2,_,by simp,rfl,ak _ _ _,av⟩,an⟩ (λ _=>rfl) ?_;rintro v H' ⟨⟨rfl,_⟩|⟨_,h⟩,rfl⟩
 case inr=>exact absurd hf h
 refine⟨rfl,?_⟩;refine ae [] rfl ?_;refine ad (ad (aa (ae [] rfl ?_)));refine aC rfl (λ h=>absurd rfl h) (λ _=>aq ?_);refine ad (aa ?_);refine ab [] (v:=bp N A c) (af 0 rfl) rfl ?_;refine ah [] rfl ?_;refine ap [] (oF N hN hR A c b o hA s hs hsl S cs bs os hS) rfl (by kernel_rfl) ⟨⟨1,_,by simp,rfl,ak _ _ _,av⟩,⟨3,_,by simp,rfl,ak _ _ _,av⟩,an⟩ (λ _=>rfl) ?_;rintro v H' ⟨rfl,rfl⟩;refine⟨rfl,?_⟩;refine ae [] rfl ?_;refine ad (au (ad (aa (ae [] rfl ?_))));refine aC rfl (λ h=>absurd rfl h) (λ _=>?_);refine ad (aa (ae [] rfl ?_));refine aC rfl (λ h=>?_) (λ h=>aq ?_)
 ·refine ad (aa (ae [] rfl ?_));refine az [] (by decide) rfl (ay ⟨_,rfl,Gt (Value.int .i64) (if_neg h).symm,rfl⟩)
 ·refine ad (aa (ae [] rfl ?_));refine az [] (by decide) rfl (ay ⟨_,rfl,Gt (Value.int .i64) (if_pos (GK.1 h)).symm,rfl⟩)
end Go.Proofs.YtmcnpaelaieniaaGreatDoor
