import Derived.Test.YtmcnpaelaieniaaGreatDoorQX111
import Derived.Test.YtmcnpaelaieniaaGreatDoorQX59
/- A part of the proof; see NOTES.md. -/
set_option linter.unusedVariables false
set_option linter.unusedSimpArgs false
namespace Go.Proofs.YtmcnpaelaieniaaGreatDoor
open Go.RowKit
def ig(par:OV)(n:Nat):Nat:=((List.range (n+1)).map λ v=>if (par v).isSome then 1 else 0).sum
theorem sy{par:OV}{n v w:Nat}(hv:v<=n)(hw:par v=some w):ig (bj par v none) n+1=ig par n:=by
 unfold ig;refine iX (v:=v) H5 (Hm.2 (by omega)) (λ u _ hu=>by simp[bj,hu]) ?_;simp[bj,hw]
theorem B8{par:OV}{n v w:Nat}(hv:v<=n)(hn:par v=none):ig (bj par v (some w)) n=ig par n+1:=by
 unfold ig;refine (iX (v:=v) (f:=λ v=>if (par v).isSome then 1 else 0) (g:=λ u=>if (bj par v (some w) u).isSome then 1 else 0) H5 (Hm.2 (by omega)) (λ u _ hu=>by simp[bj,hu]) ?_).symm;simp[bj,hn]
theorem qi(par:OV)(n:Nat):ig par n<=n+1:=by
 unfold ig
 have:∀ l:LN,(l.map λ v=>if (par v).isSome then 1 else 0).sum<=l.length:=by
  intro l
  induction l with
  |nil=>simp
  |cons a l ih=>
   simp only[GG,GT,Gz];split<;>omega
 have h:=this (List.range (n+1))
 rwa [HM] at h
def Sub(par par':OV)(val val':Nat->Int):Prop:=∀ u w,par' u=some w->par u=some w/\val' u=val u
theorem Sub.refl{par:OV}{val:Nat->Int}:Sub par par val val:=λ _ _ h=>⟨h,rfl⟩
theorem Sub.cut{par par':OV}{val val':Nat->Int}(h:Sub par par' val val'){v:Nat}{d:Int}:Sub par (bj par' v none) val (fQ val' v d):=by
 intro u w hu;by_cases e:u=v
 ·subst e;simp[bj] at hu
 ·have h1:=h u w (by simpa [bj,e] using hu);exact⟨h1.1,by rw[<- h1.2];simp[fQ,e]⟩
section
variable {P:EP} {L:Nat->LN} {lv:Nat->Int} {gv:Nat->Nat} {rm0 tr:LI} {pos:LN} {par:OV} {val:Nat->Int}
def lP(P:EP)(s:ES)(c:aV):Heap:=(P.fo s.fs++[P.sg,P.pc s.k s.w,P.rc s.rm,P.lc s.vals,P.uc s.un,c])++P.rows s.un
theorem uQ{X:Cx}{s:ES}{c:aV}:aH X (c::mZ P s) (lP P s c):=
 aH.re (A:=c::(P.fo s.fs++[P.sg,P.pc s.k s.w,P.rc s.rm,P.lc s.vals,P.uc s.un])) (R:=P.rows s.un) [1,2,3,4,5,6,7,8,9,0] rfl (by decide)
theorem qd{X:Cx}{s:ES}{c:aV}:aH X (lP P s c) (eW P s++[P.sg,c]):=
 aH.mid (A:=P.fo s.fs++[P.sg,P.pc s.k s.w,P.rc s.rm,P.lc s.vals,P.uc s.un,c]) (R:=P.rows s.un) [0,1,2,3,5,6,7,8] [4,9] rfl rfl (by decide)
theorem qq{X:Cx}{s:ES}{c:aV}:aH X (eW P s++[P.sg,c]) (lP P s c):=by
 refine aH.trans (aH.swap (A:=P.fo s.fs++[P.pc s.k s.w,P.rc s.rm,P.lc s.vals,P.uc s.un]) (R:=P.rows s.un) (B:=[P.sg,c])) ?_;exact aH.re (A:=(P.fo s.fs++[P.pc s.k s.w,P.rc s.rm,P.lc s.vals,P.uc s.un])++[P.sg,c]) (R:=P.rows s.un) [0,1,2,3,8,4,5,6,7,9] rfl (by decide)
theorem rx{X:Cx}{s:ES}{c:aV}:aH X (lP P s c) (eW P s):=
 aH.re (A:=P.fo s.fs++[P.sg,P.pc s.k s.w,P.rc s.rm,P.lc s.vals,P.uc s.un,c]) (R:=P.rows s.un) [0,1,2,3,5,6,7,8] rfl (by decide)
structure zS (P:EP) (L:Nat->LN) (gv:Nat->Nat) (rm0 tr:LI) (pos:LN) (par:OV) (val:Nat->Int) (s:ES) (u:Nat) (pos':LN) (par':OV) (val':Nat->Int) (s':ES):Prop where
 ti:jc P L gv rm0 tr pos' par' val' s'
 pi:PI P.N L P.least tr pos' []
 sub:Sub par par' val val'
 rem:cI L P.n pos'+u=cI L P.n pos
 lk:ig par' P.n+u=ig par P.n
 w:s'.w=s.w
theorem DA(hP:jY P L lv gv)(s:ES)(hI:jc P L gv rm0 tr pos par val s)(hPI:PI P.N L P.least tr pos []){v:Nat}(hv:v<=P.n)(hd:m0 L pos v)(hvs:v≠P.N.snk.toNat){v0:Nat}(hv0:v0<=P.n)(hpv:par v0=some v):
 Fn 243 [.pointer (some ⟨P.pe,0,none⟩),.int .i64 (v:Int)] (aL (eW P s)) ([P.sg]++eW P s)
  λ _ H'=>∃ u pos' par' val' s',H'=eW P s'/\1<=u/\zS P L gv rm0 tr pos par val s u pos' par' val' s'/\s'.cost<=s.cost+u*(2*dd (P.n+1)+12*(P.n+1)+1):=by
 have hN:=hP.small;have hvN:v<P.n+1:=by omega
 obtain⟨A,c,W,hun,hWd,hWm,hWl⟩:=hI.tb.get hv;have hul:=hI.tb.len;have hrl0:=hP.rl
 generalize hM:aL _=M
 refine aJ Tryz.func243 rfl rfl λ w0=>?_;refine bJ lz ?_;refine bh (aW (9+(P.rowsL.length+v)) (wV hun)) λ ⟨_,_,hA,hlA⟩=>?_;obtain⟨g,hA⟩:=bL hA hlA;refine ad (aa ?_)
 (repeat' (first|refine am (gs:=[999]) rfl ?_|refine ab [999] (af 5 rfl) rfl ?_))
 refine ab [999] (aG rfl hvN) rfl ?_;refine ab [999] (aD (v:=.slice A (iR W).length c) 8 rfl rfl rfl (show (s.un.map cz)[v]?=_ by rw[GC,hun];rfl)) rfl ?_;refine ap [] (om A c g 0 (iR W) (λ h=>hA (by intro h0;apply h;exact GM.1 (by rw[<- bK,h0];rfl))) (by rw[dK];omega)) rfl (by kernel_rfl) ⟨⟨9+(P.rowsL.length+v),_,by simp,wV hun,aE hA,aM hA⟩,an⟩ (λ _=>rfl) ?_;rintro _ H' ⟨Ac,cc,rfl,rfl⟩;refine⟨rfl,?_⟩;rw[dK]
 (repeat' (first|refine am (gs:=[999]) rfl ?_|refine ab [999] (af 5 rfl) rfl ?_))
 refine ai ?_;refine bJ uQ ?_;refine bh (aW 9 rfl) λ ⟨_,_,hAc,hlAc⟩=>?_;obtain⟨gc,hAc⟩:=bL hAc hlAc;have hAcW:W≠[]->Ac=some ⟨gc,0,none⟩:=λ h=>hAc (iL h);refine au ?_
 refine b6 (σ:=Nat×LN×OV×(Nat->Int)×ES) (λ t=>[(15,.int .i64 (t.1:Int)),(14,.int .i64 (W.length:Int)),(13,.slice Ac W.length cc),(0,.pointer (some ⟨P.pe,0,none⟩))]) (λ t=>lP P t.2.2.2.2 (.own (.slice Ac W.length cc) 3 1 W.length (bS W)))
  (λ t=>t.1<=W.length/\zS P L gv rm0 tr pos par val s t.1 t.2.1 t.2.2.1 t.2.2.2.1 t.2.2.2.2/\t.2.2.2.2.cost<=s.cost+t.1*(2*dd (P.n+1)+12*(P.n+1)+1)/\m0 L t.2.1 v/\∀ j u,t.1<=j->W[j]?=some u->t.2.2.1 u=some v) (λ t=>W.length-t.1) (0,pos,par,val,s) ⟨rfl,rfl,rfl,rfl,an⟩ aH.refl
  ⟨GB _,⟨hI,hPI,Sub.refl,rfl,rfl,rfl⟩,by simp,hd,λ j u _ hu=>((hWm u).1 (Gu hu)).2⟩ ?_
 rintro⟨i,pos1,par1,val1,s1⟩ ⟨hi,hC,h3,hd1,hin⟩;simp only at hi hC h3 hd1 hin ⊢;refine ad (aa (ae [] rfl ?_));refine ad ?_;refine aC rfl (λ hlt=>aq ?_) (λ hge=>?_)
 ·have hiW:i<W.length:=by omega
  obtain⟨u,hu⟩:∃ u,W[i]?=some u:=⟨W[i],Gq hiW⟩;have hu2:=(hWm u).1 (Gu hu);have hpu:=hin i u (GF _) hu;obtain⟨q,r,hq,hr,hto,hval⟩:=hC.ti.ta.link u v hu2.1 hpu;obtain rfl:=hAcW (by intro h;rw[h] at hiW;simp at hiW);refine ad (au ?_);refine ad (aa ?_);refine ab [] (aG rfl hiW) rfl ?_;refine ab [] (aD 9 rfl rfl rfl (dl hu)) rfl ?_;refine ae [] rfl ?_;refine aa ?_
  (repeat' (first|refine am (gs:=[999]) rfl ?_|refine ab [999] (af 5 rfl) rfl ?_))
  refine aw [] (rF hP s1 hC.ti hu2.1 hpu hq hr hto hval) rfl rfl rfl rfl (by kernel_rfl) qd ⟨⟨0,_,by simp,rfl,ak _ _ _,av⟩,an⟩ (λ _=>rfl) ?_;rintro _ H' ⟨s2,rfl,hI2,hw2,hk2⟩;refine⟨cP rfl (cF _ _),?_⟩;refine bY qq ?_;refine ai ?_;refine aa (ae [] rfl ?_);have hrem:=gi (L:=L) hq hu2.1 (Gv.1 hr).1;have hlk:=sy hu2.1 hpu;have h1:=hC.rem;have h2:=hC.lk;refine⟨(i+1,pos1.set u (q+1),bj par1 u none,fQ val1 u (4611686018427387904-val1 u),s2),⟨?_,rfl,rfl,rfl,an⟩,aH.refl,⟨hiW,⟨hI2,hC.pi.bump (λ _ h=>by cases h) hq hr (.inr ⟨by rw[hto];exact hvs,by rw[hto];exact hd1⟩),hC.sub.cut,by show cI L P.n (pos1.set u (q+1))+(i+1)=_;omega,by show ig (bj par1 u none) P.n+(i+1)=_;omega,by rw[hw2];exact hC.w⟩,?_,hd1.more hq,λ j z hj hz=>?_⟩,?_⟩
  ·show some (Value.int .i64 (IntKind.i64.wrap ((i:Int)+1)))=_;rw[cv (by omega)];rfl
  ·show s2.cost<=s.cost+(i+1)*_;rw[H0,Nat.one_mul];omega
  ·have hne:z≠u:=by
    rintro rfl;have e1:=(Gv.1 hz);have e2:=(Gv.1 hu);have:=(List.getElem_inj hWd).1 (e1.2.trans e2.2.symm);simp only at hj;omega
   have:=hin j z (by simp only at hj;omega) hz
   simpa [bj,hne] using this
  ·simp only;omega
 ·obtain rfl:i=W.length:=by omega
  have hpos:0<W.length:=List.length_pos_of_mem ((hWm v0).2 ⟨hv0,hpv⟩);refine bJ rx (bc ?_);exact⟨_,rfl,W.length,pos1,par1,val1,s1,rfl,hpos,hC,h3⟩
end
theorem gG.le{p:LN}{val:Nat->Int}{y:Nat}(h:gG (cT p.reverse val) y (val y)):∀ z∈p,val y<=val z:=by
 obtain⟨A,B,hAB,hA,hB⟩:=h;intro z hz;have hm:(z,val z)∈cT p.reverse val:=dM.2 ⟨by simpa using hz,rfl⟩;rw[hAB,GE,GD] at hm
 rcases hm with hm|hm|hm
 ·exact Int.le_of_lt (hA _ hm)
 ·rw[Hq] at hm;rw[hm.2];exact HK _
 ·exact hB _ hm
theorem aS.halves{par:OV}{v w x:Nat}{px:LN}(hv:par v=some w)(h:aS par x px)(hin:v∈px):∃ A B,px=A++v::w::B/\aS (bj par v none) x (A++[v])/\aS (bj par v none) w (w::B):=by
 obtain⟨A,B,rfl⟩:=Io hin;have hnd:=h.nodup;obtain⟨d1,d2,d3⟩:=GI.1 hnd;have ht:=h.tail
 cases B with
 |nil=>rw[ht.2] at hv;cases hv
 |cons z B=>
  have hz:=ht.2.1;rw[hv] at hz;simp only[Gs] at hz;subst hz;refine⟨A,B,rfl,aS.cut (by simp[bj]) h (λ y hy=>?_),ht.2.2.congr λ y hy=>?_⟩
  ·have:y≠v:=λ e=>d3 y hy v (by simp) e;simp[bj,this]
  ·have:y≠v:=λ e=>(GS.1 d2).1 (e▸hy);simp[bj,this]
def Ea(n:Nat)(least:Int)(par:OV)(val:Nat->Int)(wait:LN):Prop:=∀ u w,u<=n->par u=some w->val u<least->∃ x∈wait,∃ px,aS par x px/\u∈px
theorem Ea.pop{n:Nat}{least:Int}{par:OV}{val:Nat->Int}{wait:LN}{x:Nat}(h:Ea n least par val (wait++[x])){px:LN}(hp:aS par x px)(hm:∀ z∈px,least<=val z):Ea n least par val wait:=by
 intro u w hu hw hl;obtain⟨y,hy,py,h1,h2⟩:=h u w hu hw hl
 rcases GE.1 hy with hy|hy
 ·exact⟨y,hy,py,h1,h2⟩
 ·rw[Gy.1 hy] at h1;rw[aS.uniq h1 hp] at h2;have:=hm u h2;omega
theorem Ea.cut{n:Nat}{least:Int}{par:OV}{val:Nat->Int}{wait:LN}(h:Ea n least par val wait){v w:Nat}(hv:par v=some w){d:Int}:Ea n least (bj par v none) (fQ val v d) (wait++[w]):=by
 intro u z hu hz hl;have hne:u≠v:=λ e=>by subst e;simp[bj] at hz
 obtain⟨y,hy,py,h1,h2⟩:=h u z hu (by simpa [bj,hne] using hz) (by simpa [fQ,hne] using hl);by_cases hin:v∈py
 ·obtain⟨A,B,rfl,h3,h4⟩:=h1.halves hv hin
  rcases GE.1 h2 with h2|h2
  ·exact⟨y,by simp[hy],_,h3,by simp[h2]⟩
  ·rcases GD.1 h2 with h2|h2
   ·exact absurd h2 hne
   ·exact⟨w,by simp,_,h4,h2⟩
 ·exact⟨y,by simp[hy],py,h1.congr λ z hz=>by have:z≠v:=λ e=>hin (e▸hz);simp[bj,this],h2⟩
section
variable {P:EP} {L:Nat->LN} {lv:Nat->Int} {gv:Nat->Nat} {rm0 tr:LI} {pos:LN} {par:OV} {val:Nat->Int} {rm:LI}
structure nR (P:EP) (L:Nat->LN) (tr:LI) (pos:LN) (par:OV) (val:Nat->Int) (v:Nat) (p:LN) (y:Nat) (W:LN):Prop where
 on:Tr P.N v W y
 at_:∀ r∈W,dC P.N r∈p/\(∃ q,pos[dC P.N r]?=some q/\(L (dC P.N r))[q]?=some r)/\par (dC P.N r)=some (eV P.N r)/\val (dC P.N r)=tr.getD r 0
 all:∀ z∈p,z=y\/∃ r∈W,dC P.N r=z
theorem TA.walk_of(h:TA P L rm0 tr pos par val rm)(hP:jY P L lv gv):∀ {p:LN} {v y:Nat},aS par v p->v<=P.n->p.getLast?=some y->∃ W,nR P L tr pos par val v p y W
 |[],_,_,hp,_,_=>hp.elim
 |[z],v,y,⟨h1,_⟩,_,hy=>by
  simp only[List.getLast?_singleton,Gs] at hy;refine⟨[],?_,λ r hr=>(by cases hr),λ x hx=>.inl ?_⟩
  ·show v=y;omega
  ·rw[Gy.1 hx];omega
 |z::z'::l,v,y,⟨h1,h2,h3⟩,hv,hy=>by
  obtain⟨q,r,k1,k2,k3,k4⟩:=h.link v z' hv h2;obtain⟨g1,g2,g3⟩:=fD hP (Gu k2)
  have hz:z'<=P.n:=by
   have:=(gU hP.right g1).2.2;have:=hP.nodes;omega
  obtain⟨W,hW⟩:=TA.walk_of h hP h3 hz (by simpa using hy);refine⟨r::W,⟨g2,by rw[k3];exact hW.on⟩,λ e he=>?_,λ x hx=>?_⟩
  ·rcases GD.1 he with rfl|he
   ·refine⟨by rw[g2,h1];simp,⟨q,by rw[g2];exact k1,by rw[g2];exact k2⟩,by rw[g2,k3];exact h2,by rw[g2];exact k4⟩
   ·obtain⟨e1,e2,e3,e4⟩:=hW.at_ e he;exact⟨HW _ e1,e2,e3,e4⟩
  ·rcases GD.1 hx with rfl|hx
   ·exact .inr ⟨r,by simp,by rw[g2];exact h1⟩
   ·rcases hW.all x hx with h'|⟨e,he,h'⟩
    ·exact .inl h'
    ·exact .inr ⟨e,by simp[he],h'⟩
abbrev ko(p:LN)(a:Int)(k:Nat)(val:Nat->Int):Nat->Int:=λ z=>if z∈[k] then (if z∈p then val z+-a else val z)+a else (if z∈p then val z+-a else val z)
theorem TA.push(h:TA P L rm0 tr pos par val rm){p W:LN}{v y:Nat}(hp:aS par v p)(hy:p.getLast?=some y)(hW:nR P L tr pos par val v p y W){a:Int}{tr':LI}(hget:∀ u r,r∈L u->tr'.getD r 0=tr.getD r 0-if r∈W then a else 0)
 (hfr:∀ u r,r∈L u->dC P.N r=u) (htb:∀ r,0<=tr'.getD r 0/\tr'.getD r 0<=4611686018427387903):TA P L rm0 tr' pos par (ko p a y val) rm:=by
 have hyn:par y=none:=hp.root_last hy;have hyp:y∈p:=HL hy;refine⟨h.posl,λ u w hu hw=>?_,λ u hu hn=>?_,h.rml,λ u r hr hne=>?_,h.rest,htb⟩
 ·obtain⟨q,r,k1,k2,k3,k4⟩:=h.link u w hu hw;have hrm:=List.mem_of_getElem? k2;have hne:u≠y:=fun e=>by rw[e,hyn] at hw;cases hw
  refine⟨q,r,k1,k2,k3,?_⟩;rw[hget u r hrm];simp only[ko,Gy,if_neg hne];by_cases hup:u∈p
  ·rw[if_pos hup]
   rcases hW.all u hup with e|⟨e,he,e2⟩
   ·exact absurd e hne
   ·obtain⟨_,⟨q',j1,j2⟩,_⟩:=hW.at_ e he;rw[e2] at j1 j2;rw[k1] at j1;simp only[Gs] at j1;subst j1;rw[k2] at j2;simp only[Gs] at j2;subst j2;rw[if_pos he,k4];omega
  ·rw[if_neg hup,if_neg (λ he=>hup (by have:=(hW.at_ r he).1;rwa [hfr u r hrm] at this)),k4];omega
 ·simp only[ko,Gy];by_cases e:u=y
  ·subst e;rw[if_pos rfl,if_pos hyp,h.free u hu hn];omega
  ·rw[if_neg e,if_neg,h.free u hu hn];intro hup
   rcases hW.all u hup with e'|⟨r,hr,e2⟩
   ·exact e e'
   ·have:=(hW.at_ r hr).2.2.1;rw[e2,hn] at this;cases this
 ·rw[hget u r hr,if_neg,Int.sub_zero]
  ·exact h.lead u r hr hne
  ·intro hrW;obtain⟨_,⟨q,j1,j2⟩,j3,_⟩:=hW.at_ r hrW;rw[hfr u r hr] at j1 j2 j3;exact hne q (by rw[j3];simp) j1 j2
theorem nR.pi{v y:Nat}{p W:LN}(hW:nR P L tr pos par val v p y W)(hv:v=P.N.src.toNat)(hPI:PI P.N L P.least tr pos [])(hfr:∀ u r,r∈L u->dC P.N r<=P.n)(hroom:∀ u w,u<=P.n->par u=some w->P.least<=val u):PI P.N L P.least tr pos W/\cR P.N W=y:=by
 subst hv;refine⟨⟨hPI.pl,⟨y,hW.on⟩,λ r hr=>?_,hPI.pass⟩,(vq hW.on).symm⟩;obtain⟨_,⟨q,j1,j2⟩,j3,j4⟩:=hW.at_ r hr;exact⟨q,j1,j2,by rw[<- j4];exact hroom _ _ (hfr _ r (Gu j2)) j3⟩
theorem nR.most{v y m:Nat}{p W:LN}(hW:nR P L tr pos par val v p y W)(hne:W≠[])(hm:m∈p)(hmin:∀ z∈p,val m<=val z)(hy:∀ r,tr.getD r 0<val y):val m=cH tr W:=by
 obtain⟨r,hr,he⟩:=kN (rm:=tr) hne
 have h1:val m<=cH tr W:=by
  obtain⟨g1,_,_,g4⟩:=hW.at_ r hr;rw[he,<- g4];exact hmin _ g1
 rcases hW.all m hm with e|⟨e,he2,e2⟩
 ·rw[e] at h1;have:=hy r;rw[<- he] at this;omega
 ·have h2:=mX (rm:=tr) e he2;obtain⟨_,_,_,g4⟩:=hW.at_ e he2;rw[e2] at g4;omega
end
section
variable {P:EP} {L:Nat->LN} {lv:Nat->Int} {gv:Nat->Nat} {rm0 tr:LI} {pos:LN} {par:OV} {val:Nat->Int}
theorem w4(hP:jY P L lv gv){u r:Nat}(h:r∈L u):dC P.N r<=P.n:=by
 have h1:=kn hP.right (fD hP h).1;have h2:=hP.nodes;omega
theorem TA.val_in{rm:LI}(h:TA P L rm0 tr pos par val rm){v:Nat}(hv:v<=P.n):0<=val v/\val v<=4611686018427387904/\((par v).isSome->val v<4611686018427387904):=by
 cases hp:par v with
 |none=>have:=h.free v hv hp;exact⟨by omega,by omega,λ h=>by cases h⟩
 |some w=>
  obtain⟨q,r,_,_,_,h4⟩:=h.link v w hv hp;have:=h.trb r;exact⟨by omega,by omega,λ _=>by omega⟩
def uY(P:EP)(par:OV)(val:Nat->Int):Prop:=∀ u w,u<=P.n->par u=some w->P.least<=val u
abbrev rL(Aw:OA)(cw:Nat)(wt:LN):aV:=.own (.slice Aw wt.length cw) 3 1 wt.length (bS wt)
structure WS where
 u:Nat
 pos:LN
 par:OV
 val:Nat->Int
 s:ES
 wt:LN
 A:OA
 c:Nat
def Fo(P:EP)(L:Nat->LN)(gv:Nat->Nat)(rm0 tr:LI)(pos:LN)(par:OV)(s:ES)(H':Heap):Prop:=
 ∃ u pos' par' val' s' W,H'=eW P s'/\1<=u/\PI P.N L P.least tr pos W/\cR P.N W=P.N.snk.toNat/\jc P L gv rm0 (cj (cH tr W) W tr) pos' par' val' s'/\PI P.N L P.least (cj (cH tr W) W tr) pos' []/\uY P par' val'/\
   cI L P.n pos'+u=cI L P.n pos/\ig par' P.n+u=ig par P.n/\s'.w=s.w+1/\s'.cost<=s.cost+u*(9*dd (P.n+1)+65*(P.n+1)+4)
set_option maxHeartbeats 1000000 in
theorem Cm(hP:jY P L lv gv)(hle:1<=P.least)(s:ES)(hI:jc P L gv rm0 tr pos par val s)(hPI:PI P.N L P.least tr pos [])(hroom:uY P par val){f:LI}(hf:aK P.N f)(he:tr=aP (P.N.arcs.zip f)){p:LN}(hp:aS par P.N.src.toNat p)(hl:p.getLast?=some P.N.snk.toNat):
 Fn 241 [.pointer (some ⟨P.pe,0,none⟩)] (aL (eW P s)) ([P.sg]++eW P s) λ _ H'=>Fo P L gv rm0 tr pos par s H':=by
 have hN:=hP.small;have hsr:=hP.right.src;have hsk:=hP.right.snk;have hdf:=hP.right.diff;have hnn:=hP.nodes;obtain⟨s0,hs0⟩:∃ x,x=P.N.src.toNat:=⟨_,rfl⟩;obtain⟨k0,hk0⟩:∃ x,x=P.N.snk.toNat:=⟨_,rfl⟩;rw[<- hs0] at hp;rw[<- hk0] at hl;have hs1:P.N.src=(s0:Int):=by omega
 have hk1:P.N.snk=(k0:Int):=by omega
 have hsN:s0<P.n+1:=by omega
 have hkN:k0<P.n+1:=by omega
 obtain⟨W,hW⟩:=hI.ta.walk_of hP hp (by omega) hl;obtain⟨hPW,hend⟩:=hW.pi hs0 hPI (λ _ _ h=>w4 hP h) hroom;obtain⟨hWne,hWlt,hWnd,hWfl,hWlen,hma,⟨f',hf',hf'e⟩,hPI',hmono,_⟩:=iH hP.right hP.graded hle hf he hPW (by rw[hend,hk0]);have hkn:par k0=none:=hp.root_last hl;have hkp:k0∈p:=HL hl;have hPI2:PI P.N L P.least (cj (cH tr W) W tr) pos []:=⟨hPI'.pl,⟨_,rfl⟩,λ _ h=>(by cases h),hPI'.pass⟩;have hb:=eQ hP.right hf'.toRanged;rw[<- hf'e] at hb
 have hget:∀ u r,r∈L u->(cj (cH tr W) W tr).getD r 0=tr.getD r 0-if r∈W then cH tr W else 0:=by
  intro u r hr;rw[f7 (a:=cH tr W) (by rw[he];exact iq hf.len) hWlt hWnd r]
  have:bP r∉W:=by
   intro hin;have g1:=(hP.graded.ok _ _ hr);have g2:=(hP.graded.ok _ _ (hPW.mem _ hin)).2.2;have g3:=g1.2.2;rw[iF,fM] at g2;rw[<- g1.2.1] at g3;omega
  rw[if_neg this];omega
 have hpn:∀ z∈p,z<=P.n:=by
  intro z hz
  rcases hW.all z hz with e|⟨r,hr,e⟩
  ·omega
  ·rw[<- e];exact w4 hP (hPW.mem r hr)
 obtain⟨a,ha⟩:∃ x,x=cH tr W:=⟨_,rfl⟩;obtain⟨tr',htr'⟩:∃ x,x=cj (cH tr W) W tr:=⟨_,rfl⟩;rw[<- htr'] at hPI2 hb hget;rw[<- ha] at hget hma
 have hab:1<=a/\a<=4611686018427387903:=by
  obtain⟨r,_,h1⟩:=kN (rm:=tr) hWne;have:=hI.ta.trb r;omega
 obtain⟨row,hF⟩:=hI.fa
 generalize hM:aL _=M
 refine aJ Tryz.func241 rfl rfl λ w0=>?_;refine bJ lz ?_;refine ad (aa ?_)
 (repeat' (first|refine am (gs:=[999]) rfl ?_|refine ab [999] (af 5 rfl) rfl ?_))
 refine ai ?_;refine a7 2 (v':=.int .i64 (s0:Int)) rfl (Gt (Value.int .i64) hs1) ?_;refine ad ?_;refine bu 12 (cZ [0,1,2,3,4,5,6,7,8]++[(9,false),(10,false)]++cZ [11]) [5] (by kernel_rfl) (by decide) rfl ?_
 (repeat' (first|refine bB (gs:=[999]) rfl rfl ?_|refine aj [999] rfl (af 0 rfl) rfl ?_))
 refine bg rfl ?_;refine aw [] (xq hF hN hsN hp) rfl rfl rfl rfl (by kernel_rfl) aH.refl an (λ _=>rfl) ?_;rintro _ H' ⟨fs1,row1,y,rfl,rfl,hF1,hmin,hyp,hk1'⟩;refine⟨rfl,ai ⟨⟨[5],by decide,rfl⟩,?_⟩⟩
 have hya:val y=a:=by
  rw[ha];exact hW.most hWne hyp hmin.le (λ r=>by rw[hI.ta.free k0 (by omega) hkn];have:=hI.ta.trb r;omega)
 refine bg rfl ?_;refine aw [] (rY hF1 hN (show y<P.n+1 by have:=hpn y hyp;omega)) rfl rfl rfl rfl (by kernel_rfl) aH.refl an (λ _=>rfl) ?_;rintro _ H' ⟨fs2,rfl,rfl,hF2,hk2'⟩;refine⟨rfl,ai ⟨⟨[5],by decide,rfl⟩,?_⟩⟩;refine bB (gs:=[999]) rfl rfl ?_;refine bq ?_;refine ai ?_;refine a7 3 (v':=.int .i64 a) rfl (Gt (Value.int .i64) hya) ?_;refine ad (aa ?_)
 (repeat' (first|refine am (gs:=[999]) rfl ?_|refine ab [999] (af 5 rfl) rfl ?_))
 have hna:IntKind.i64.wrap (0-a)=-a:=(cv (by omega)).trans (by omega);refine aI 29 (v':=.int .i64 (-a)) rfl (Gt (Value.int .i64) hna) ?_;refine aw [] (w7 hF2 hN hsN hp (d:=-a) (by omega) (by intro z hz;have h1:=hmin.le z hz;have h2:=(hI.ta.val_in (hpn z hz)).2.1;omega)) rfl rfl rfl rfl (by kernel_rfl) aH.refl an (λ _=>rfl) ?_;rintro _ H' ⟨fs3,row3,rfl,hF3,hk3'⟩;refine⟨rfl,?_⟩
 (repeat' (first|refine am (gs:=[999]) rfl ?_|refine ab [999] (af 5 rfl) rfl ?_))
 refine ai ?_;refine ad ?_;refine bu 11 (cZ [0,1,2,3,4,5,6,7,8,9]++[(10,false)]) [5] (by kernel_rfl) (by decide) rfl ?_
 (repeat' (first|refine bB (gs:=[999]) rfl rfl ?_|refine aj [999] rfl (af 0 rfl) rfl ?_))
 refine eg 39 (v':=.int .i64 (k0:Int)) rfl (Gt (Value.int .i64) hk1) ?_;refine bg rfl ?_;have hkfr:=hI.ta.free k0 (by omega) hkn;refine aw [] (w7 hF3 hN hkN (p:=[k0]) ⟨rfl,hkn⟩ (d:=a) (by omega) (by intro z hz;rw[Gy.1 hz];simp only[if_pos hkp];omega)) rfl rfl rfl rfl (by kernel_rfl) aH.refl an (λ _=>rfl) ?_;rintro _ H' ⟨fs4,row4,rfl,hF4,hk4'⟩;refine⟨rfl,ai ⟨⟨[5],by decide,rfl⟩,?_⟩⟩;refine bq ?_;refine ai ?_;refine ad (aa ?_)
 (repeat' (first|refine am (gs:=[999]) rfl ?_|refine ab [999] (af 5 rfl) rfl ?_))
 refine aI 46 (v':=.int .i64 (dc ((s.w+1:Nat):Int))) rfl (Gt (Value.int .i64) (mD _ _)) ?_
 (repeat' (first|refine am (gs:=[999]) rfl ?_|refine ab [999] (af 5 rfl) rfl ?_))
 refine aA 5 rfl [] rfl ?_;refine ai ?_;obtain⟨s2,hs2⟩:∃ x:ES,x={ s with fs:=fs4,w:=s.w+1 }:=⟨_,rfl⟩;refine bJ (K:=mZ P s2) (by rw[hs2];exact aH.refl) ?_
 have hI2:jc P L gv rm0 tr' pos par (ko p a k0 val) s2:=by
  rw[hs2];exact⟨⟨row4,hF4⟩,hI.ta.push hp hl hW hget (λ u r h=>(fD hP h).2.1) hb,hI.vo,hI.tb⟩
 have hk2:s2.cost<=s.cost+3*dd (P.n+1)+15*(P.n+1):=by
  rw[hs2];show s.k+fs4.k<=s.k+s.fs.k+_+_;omega
 have hw2:s2.w=s.w+1:=by rw[hs2]
 have hcov:Ea P.n P.least par (ko p a k0 val) [s0]:=by
  intro u w hu hw hlt;refine⟨s0,by simp,p,hp,Hg λ hin=>?_⟩;have hne:u≠k0:=λ e=>hin (e▸hkp);simp only[ko,Gy,if_neg hne,if_neg hin] at hlt;have:=hroom u w hu hw;omega
 have hbad:∃ w,par y=some w/\ko p a k0 val y<P.least:=by
  have hyk:y≠k0:=λ e=>by rw[e] at hya;omega
  rcases hW.all y hyp with e|⟨r,hr,e⟩
  ·exact absurd e hyk
  ·refine⟨_,by rw[<- e];exact (hW.at_ r hr).2.2.1,?_⟩;simp only[ko,Gy,if_neg hyk,if_pos hyp];omega
 clear hs2
 refine ad (aa ?_);refine am (gs:=[999]) rfl ?_;refine bF rfl rfl rfl rfl rfl rfl rfl (λ _=>rfl) λ g2=>?_;refine fb 1 1 rfl (by decide) ?_;refine ae [] rfl ?_;refine bJ uQ ?_;obtain⟨K1,hK1⟩:∃ x,x=dd (P.n+1)+11*(P.n+1)+1:=⟨_,rfl⟩;obtain⟨KU,hKU⟩:∃ x,x=5*dd (P.n+1)+39*(P.n+1)+3:=⟨_,rfl⟩;refine au ?_
 refine b6 (σ:=WS) (λ t=>[(4,.slice t.A t.wt.length t.c),(0,.pointer (some ⟨P.pe,0,none⟩))]) (λ t=>lP P t.s (rL t.A t.c t.wt))
  (λ t=>zS P L gv rm0 tr' pos par (ko p a k0 val) s2 t.u t.pos t.par t.val t.s/\Ea P.n P.least t.par t.val t.wt/\(∀ x∈t.wt,x<=P.n)/\(t.u=0->t.par=par/\t.val=ko p a k0 val)/\t.wt.length<=t.u+1/\
   t.s.cost+t.wt.length*K1<=s2.cost+t.u*KU+K1) (λ t=>2*ig t.par P.n+t.wt.length)
  ⟨0,pos,par,ko p a k0 val,s2,[s0],some ⟨g2,0,none⟩,1⟩ ⟨rfl,rfl,an⟩ aH.refl
  ⟨⟨hI2,hPI2,Sub.refl,rfl,rfl,rfl⟩,hcov,(by intro x hx;rw[Gy.1 hx];omega),λ _=>⟨rfl,rfl⟩,by simp,by simp⟩ ?_
 rintro⟨u,pos1,par1,val1,s3,wt,Aw,cw⟩ ⟨hC,hcv,hwn,hu0,hwl,hco⟩;simp only at hC hcv hwn hu0 hwl hco ⊢;have hlk1:=qi par P.n;have hlk2:=hC.lk;refine ad (ad (aa (ae [] rfl ?_)));refine aC rfl (λ hlt=>aq ?_) (λ hge=>?_)
 ·rcases Hn wt with h0|⟨wt0,x,rfl⟩
  ·rw[h0] at hlt;simp at hlt
  rw[Ho] at*;have hlen:(wt0++[x]).length=wt0.length+1:=by simp
  have hxn:x<=P.n:=hwn x (by simp);refine bh (aW 9 rfl) λ ⟨_,hcw,hAw,_⟩=>?_;obtain⟨gw,rfl⟩:=hAw (by omega);refine au (ad (aa ?_));refine am (gs:=[999]) rfl ?_;refine bY (aH.re (A:=P.fo s3.fs++[P.sg,P.pc s3.k s3.w,P.rc s3.rm,P.lc s3.vals,P.uc s3.un,rL (some ⟨gw,0,none⟩) cw (wt0++[x])]) (R:=P.rows s3.un) [5,0,1,2,3,4,6,7,8,9] rfl (by decide)) ?_;refine aw [999] (kf P s3.k s3.w) rfl rfl rfl rfl (by kernel_rfl) aH.refl an (λ _=>rfl) ?_;rintro v0 H' rfl;refine⟨rfl,?_⟩;refine bY (aH.re (A:=[P.pc (s3.k+1) s3.w]++(P.fo s3.fs++[P.sg,P.rc s3.rm,P.lc s3.vals,P.uc s3.un,rL (some ⟨gw,0,none⟩) cw (wt0++[x])])) (R:=P.rows s3.un) [1,2,3,4,5,0,6,7,8,9] rfl (by decide)) ?_;refine ai ?_;obtain⟨s4,hs4⟩:∃ x:ES,x={ s3 with k:=s3.k+1 }:=⟨_,rfl⟩;refine bJ (K:=lP P s4 (rL (some ⟨gw,0,none⟩) cw (wt0++[x]))) (by rw[hs4];exact aH.refl) ?_;have hI4:jc P L gv rm0 tr' pos1 par1 val1 s4:=by rw[hs4];exact⟨hC.ti.fa,hC.ti.ta,hC.ti.vo,hC.ti.tb⟩
  have hk4:s4.cost=s3.cost+1:=by rw[hs4];show s3.k+1+s3.fs.k=s3.k+s3.fs.k+1;omega
  have hw4:s4.w=s3.w:=by rw[hs4]
  clear hs4
  refine ad (aa ?_)
  (repeat' (first|refine am (gs:=[999]) rfl ?_|refine ab [999] (af 5 rfl) rfl ?_))
  have hwl2:(wt0++[x]).length<=10002:=by omega
  refine aI 59 (v':=.int .i64 (wt0.length:Int)) rfl (Gt (Value.int .i64) ((cv (by omega)).trans (by omega))) ?_;refine ab [999] (aG rfl (show wt0.length<(wt0++[x]).length by omega)) rfl ?_;refine ab [999] (aD 9 rfl rfl rfl (dl (show (wt0++[x])[wt0.length]?=some x by simp))) rfl ?_
  (repeat' (first|refine am (gs:=[999]) rfl ?_|refine ab [999] (af 5 rfl) rfl ?_))
  refine ai ?_;obtain⟨row5,hF5⟩:=hI4.fa;obtain⟨px,hpx⟩:=hF5.path x (by omega);have hpl:∀ z∈px,z<=P.n:=λ z hz=>by have:=aS.lt hF5.lt hpx (show x<P.n+1 by omega) z hz;omega
  refine ad (aa ?_)
  (repeat' (first|refine am (gs:=[999]) rfl ?_|refine ab [999] (af 5 rfl) rfl ?_))
  refine aw [] (xq hF5 hN (show x<P.n+1 by omega) hpx) rfl rfl rfl rfl (by kernel_rfl) aH.refl an (λ _=>rfl) ?_;rintro _ H' ⟨fs6,row6,v,rfl,rfl,hF6,hmin6,hvp,hk6⟩;refine⟨rfl,?_⟩
  (repeat' (first|refine am (gs:=[999]) rfl ?_|refine ab [999] (af 5 rfl) rfl ?_))
  refine ai ?_;have hvn:=hpl v hvp;refine ad (ad ?_);refine bu 11 (cZ [0,1,2,3,4,6,7,8,9]++[(5,false)]++cZ [10]) [5] (by kernel_rfl) (by decide) rfl ?_
  (repeat' (first|refine bB (gs:=[999]) rfl rfl ?_|refine aj [999] rfl (af 0 rfl) rfl ?_))
  refine bg rfl ?_;refine aw [] (rY hF6 hN (show v<P.n+1 by omega)) rfl rfl rfl rfl (by kernel_rfl) aH.refl an (λ _=>rfl) ?_;rintro _ H' ⟨fs7,rfl,rfl,hF7,hk7⟩;refine⟨rfl,ai ⟨⟨[5],by decide,rfl⟩,?_⟩⟩;refine bB (gs:=[999]) rfl rfl ?_;refine bq ?_;refine ai ?_;obtain⟨s7,hs7⟩:∃ x:ES,x={ s4 with fs:=fs7 }:=⟨_,rfl⟩;refine bJ (K:=lP P s7 (rL (some ⟨gw,0,none⟩) cw (wt0++[x]))) (by rw[hs7];exact aH.refl) ?_;have hI7:jc P L gv rm0 tr' pos1 par1 val1 s7:=by rw[hs7];exact⟨⟨_,hF7⟩,hI4.ta,hI4.vo,hI4.tb⟩
  have hk8:s7.cost<=s3.cost+K1:=by
   have h1:s4.cost=s4.k+s4.fs.k:=rfl;have h2:s7.cost=s4.k+fs7.k:=by rw[hs7];rfl
   omega
  have hw7:s7.w=s3.w:=by rw[hs7];exact hw4
  clear hs7
  refine aC rfl (λ hge=>?_) (λ hlt7=>aq ?_)
  ·refine ad (aa ?_);refine am (gs:=[999]) rfl ?_;refine am (gs:=[999]) rfl ?_;refine am (gs:=[999]) rfl ?_;refine am (gs:=[999]) rfl ?_;refine aI 82 (v':=.int .i64 (wt0.length:Int)) rfl (congrArg (Value.int .i64) ((cv (by omega)).trans (by omega))) ?_;refine ab [999] (gF (i:=wt0.length) rfl rfl rfl rfl rfl (by omega)) rfl ?_;refine ae [] rfl ?_;refine bc ?_;have h1:(wt0.length+1)*K1=wt0.length*K1+K1:=by rw[Nat.add_mul,Nat.one_mul]
   rw[hlen,h1] at hco;refine⟨⟨u,pos1,par1,val1,s7,wt0,some ⟨gw,0,none⟩,cw⟩,⟨rfl,rfl,an⟩,?_,⟨⟨hI7,hC.pi,hC.sub,hC.rem,hC.lk,by rw[hw7];exact hC.w⟩,hcv.pop hpx (λ z hz=>by have h1:=hmin6.le z hz;omega),λ z hz=>hwn z (by simp[hz]),hu0,by show wt0.length<=u+1;omega,?_⟩,?_⟩
   ·refine aH.trans (aH.shrink (m:=wt0.length) 9 rfl (by omega)) ?_;show aH _ (lP P s7 (.own (.slice _ _ _) _ _ _ (List.take (wt0.length*1) (bS (wt0++[x]))))) _;rw[G8,qv,List.take_left];exact aH.refl
   ·show s7.cost+wt0.length*K1<=s2.cost+u*KU+K1;omega
   ·show 2*ig par1 P.n+wt0.length<2*ig par1 P.n+(wt0++[x]).length;omega
  ·obtain⟨w,hw⟩:∃ w,par1 v=some w:=by
    cases hp1:par1 v with
    |some w=>exact⟨w,rfl⟩
    |none=>have:=hI7.ta.free v hvn hp1;omega
   obtain⟨q,r,hq,hr,hto,hval⟩:=hI7.ta.link v w hvn hw;have hrm:=Gu hr
   have hwn7:w<=P.n:=by
    have:=(gU hP.right (fD hP hrm).1).2.2;omega
   obtain⟨row7,hF7'⟩:=hI7.fa;refine ad (aa ?_)
   (repeat' (first|refine am (gs:=[999]) rfl ?_|refine ab [999] (af 5 rfl) rfl ?_))
   refine aw [] (CO hF7' hN (show v<P.n+1 by omega)) rfl rfl rfl rfl (by kernel_rfl) aH.refl an (λ _=>rfl) ?_;rintro _ H' ⟨fs8,row8,rfl,rfl,hF8,hk9⟩;refine⟨rfl,?_⟩;refine aI 90 (v':=.int .i64 (w:Int)) rfl (Gt (Value.int .i64) (ee hw)) ?_;refine bF rfl rfl rfl rfl rfl rfl rfl (λ _=>rfl) λ g3=>?_;refine bv (n:=(wt0++[x]).length) (m:=1) (off:=0) (news:=ax [(w:Int)]) 10 0 rfl rfl rfl rfl rfl rfl (by decide) rfl rfl (aF g3 _ _ (0,0)) (λ _=>rfl) rfl rfl (by omega) (by omega) (λ _ _=>rfl) λ A2 c2=>?_;rw[show (wt0++[x]).length+1=((wt0++[x])++[w]).length by simp,kW];refine ae [] rfl ?_;obtain⟨s8,hs8⟩:∃ x:ES,x={ s7 with fs:=fs8 }:=⟨_,rfl⟩;refine bJ (K:=lP P s8 (rL A2 c2 ((wt0++[x])++[w]))) (by rw[hs8];exact aH.sub (G9 _ _)) ?_;have hI8:jc P L gv rm0 tr' pos1 par1 val1 s8:=by rw[hs8];exact⟨⟨_,hF8⟩,hI7.ta,hI7.vo,hI7.tb⟩
   have hk10:s8.cost<=s7.cost+dd (P.n+1)+5*(P.n+1):=by
    have h1:s7.cost=s7.k+s7.fs.k:=rfl;have h2:s8.cost=s7.k+fs8.k:=by rw[hs8];rfl
    omega
   have hw8:s8.w=s3.w:=by rw[hs8];exact hw7
   clear hs8
   refine aa ?_
   (repeat' (first|refine am (gs:=[999]) rfl ?_|refine ab [999] (af 5 rfl) rfl ?_))
   refine aw [] (rF hP s8 hI8 hvn hw hq hr hto hval) rfl rfl rfl rfl (by kernel_rfl) qd ⟨⟨0,_,by simp,rfl,ak _ _ _,av⟩,an⟩ (λ _=>rfl) ?_;rintro _ H' ⟨s9,rfl,hI9,hw9,hk11⟩;refine⟨cP rfl (cF _ _),?_⟩;refine bY qq ?_;refine ai ?_;have hrem:=gi (L:=L) hq hvn (Gv.1 hr).1;have hlk:=sy hvn hw;have h1:=hC.rem;have h2:(wt0.length+1)*K1=wt0.length*K1+K1:=by rw[H0,Nat.one_mul]
   have h3:(wt0.length+1+1)*K1=wt0.length*K1+K1+K1:=by rw[H0,H0,Nat.one_mul]
   have h4:(u+1)*KU=u*KU+KU:=by rw[H0,Nat.one_mul]
   rw[hlen,h2] at hco;have hlen2:((wt0++[x])++[w]).length=wt0.length+1+1:=by simp
   refine⟨⟨u+1,pos1.set v (q+1),bj par1 v none,fQ val1 v (4611686018427387904-val1 v),s9,(wt0++[x])++[w],A2,c2⟩,⟨rfl,rfl,an⟩,aH.refl,⟨⟨hI9,hC.pi.bump (λ _ h=>by cases h) hq hr (.inl (by rw[<- hval];omega)),hC.sub.cut,?_,?_,by rw[hw9,hw8];exact hC.w⟩,hcv.cut hw,λ z hz=>?_,λ h=>(by cases h),?_,?_⟩,?_⟩
   ·show cI L P.n (pos1.set v (q+1))+(u+1)=_;omega
   ·show ig (bj par1 v none) P.n+(u+1)=_;omega
   ·rcases GE.1 hz with hz|hz
    ·exact hwn z hz
    ·rw[Gy.1 hz];exact hwn7
   ·show ((wt0++[x])++[w]).length<=u+1+1;omega
   ·show s9.cost+((wt0++[x])++[w]).length*K1<=s2.cost+(u+1)*KU+K1;rw[hlen2,h3,h4];omega
   ·show 2*ig (bj par1 v none) P.n+((wt0++[x])++[w]).length<2*ig par1 P.n+(wt0++[x]).length;omega
 ·have h0:wt=[]:=List.length_eq_zero_iff.1 (by omega);subst h0;refine bJ rx (bc ?_)
  have hroom':uY P par1 val1:=λ z w hz hw=>Hg λ hlt=>by
   obtain⟨_,hx,_⟩:=hcv z w hz hw (by omega)
   cases hx
  have hupos:1<=u:=by
   rcases IF u with h0|h0
   ·obtain⟨e1,e2⟩:=hu0 h0;obtain⟨w,hw,hlt⟩:=hbad;have:=hroom' y w (hpn y hyp) (by rw[e1];exact hw);rw[e2] at this;omega
   ·exact h0
  refine⟨_,rfl,u,pos1,par1,val1,s3,W,rfl,hupos,hPW,by rw[hend,hk0],by rw[<- htr'];exact hC.ti,by rw[<- htr'];exact hC.pi,hroom',hC.rem,hC.lk,hC.w.trans hw2,?_⟩;simp only[GQ,Nat.zero_mul,HZ] at hco
  have h1:u*(9*dd (P.n+1)+65*(P.n+1)+4)=u*KU+u*(4*dd (P.n+1)+26*(P.n+1)+1):=by
   rw[<- HF,hKU];congr 1;omega
  have h2:1*(4*dd (P.n+1)+26*(P.n+1)+1)<=u*(4*dd (P.n+1)+26*(P.n+1)+1):=HE _ hupos;omega
end
end Go.Proofs.YtmcnpaelaieniaaGreatDoor
