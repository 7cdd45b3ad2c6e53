import Derived.Test.YtmcnpaelaieniaaGreatDoorQE
import Derived.Laws.Cells
import Derived.Test.YtmcnpaelaieniaaGreatDoorQX136
/- A part of the proof. -/
set_option linter.unusedVariables false
set_option linter.unusedSimpArgs false
namespace Go.Proofs.YtmcnpaelaieniaaGreatDoor
open Go.RowKit
structure EP where
 N:aV
 least:Int
 n:Nat
 A:OA_
 c:Nat
 b:Nat
 o:Nat
 gr:Nat
 Ar:OA_
 cr:Nat
 gl:Nat
 gu:Nat
 pe:Nat
 pt:Nat
 ps:Nat
 go:Nat
 gn:Nat
 co:Nat
 cap:Nat
 rowsL:List fg
structure ES where
 vals:LV_
 un:List fg
 fs:i1
 rm:LI_
 k:Nat
 w:Nat
abbrev EP.fo(P:EP)(f:i1):Heap:=lT P.pt P.ps P.go P.gn P.co P.cap (P.n+1) f
def LK(P:EP)(k w:Nat):LV_:=[.int .i64 P.N.nodes,.int .i64 P.N.src,.int .i64 P.N.snk,.slice P.A P.N.arcs.length P.c,.slice P.Ar (2*P.N.arcs.length) P.cr,.int .i64 P.least,.slice (some ⟨P.gl,0,none⟩) (P.n+1) (P.n+1),.slice (some ⟨P.gu,0,none⟩) (P.n+1) (P.n+1),
 .pointer (some ⟨P.pt,0,none⟩),.int .i64 (ei k),.int .i64 (ei w)]
abbrev EP.sg(P:EP):aY:=.seg P.b P.o (arcs P.N.arcs)
abbrev EP.pc(P:EP)(k w:Nat):aY:=blk P.pe 310 (LK P k w)
abbrev EP.rc(P:EP)(rm:LI_):aY:=.own (.slice P.Ar (2*P.N.arcs.length) P.cr) 2 1 (2*P.N.arcs.length) (aj rm)
abbrev EP.lc(P:EP)(vals:LV_):aY:=.own (.slice (some ⟨P.gl,0,none⟩) (P.n+1) (P.n+1)) 23 1 (P.n+1) vals
abbrev EP.uc(P:EP)(un:List fg):aY:=.own (.slice (some ⟨P.gu,0,none⟩) (P.n+1) (P.n+1)) 23 1 (P.n+1) (un.map cT)
abbrev EP.rows(P:EP)(un:List fg):Heap:=(P.rowsL++un).map (bd 3)
def gZ(P:EP)(s:ES):Heap:=(P.fo s.fs++[P.pc s.k s.w,P.rc s.rm,P.lc s.vals,P.uc s.un])++P.rows s.un
def sv(P:EP)(s:ES):Heap:=(P.fo s.fs++[P.sg,P.pc s.k s.w,P.rc s.rm,P.lc s.vals,P.uc s.un])++P.rows s.un
section
variable {X:Cx} {P:EP} {s:ES}
theorem oB:ay X ([P.sg]++gZ P s) (sv P s):=ay.re (A:=[P.sg]++(P.fo s.fs++[P.pc s.k s.w,P.rc s.rm,P.lc s.vals,P.uc s.un])) (R:=P.rows s.un) [1,2,3,4,0,5,6,7,8] rfl ab
theorem qR:ay X (sv P s) (gZ P s):=ay.re (A:=P.fo s.fs++[P.sg,P.pc s.k s.w,P.rc s.rm,P.lc s.vals,P.uc s.un]) (R:=P.rows s.un) [0,1,2,3,5,6,7,8] rfl ab
theorem oD:ay X (sv P s) (gZ P s++[P.sg]):=ay.mid (A:=P.fo s.fs++[P.sg,P.pc s.k s.w,P.rc s.rm,P.lc s.vals,P.uc s.un]) (R:=P.rows s.un) [0,1,2,3,5,6,7,8] [4] rfl rfl ab
theorem oX:ay X (gZ P s++[P.sg]) (sv P s):=by
 exact ay.trans (ay.swap (A:=P.fo s.fs++[P.pc s.k s.w,P.rc s.rm,P.lc s.vals,P.uc s.un]) (R:=P.rows s.un) (B:=[P.sg]))<|ay.re (A:=(P.fo s.fs++[P.pc s.k s.w,P.rc s.rm,P.lc s.vals,P.uc s.un])++[P.sg]) (R:=P.rows s.un) [0,1,2,3,8,4,5,6,7] rfl ab
end
theorem mS(P:EP)(k w:Nat):Fn 236 [.pointer (some ⟨P.pe,0,none⟩)] (aC [P.pc k w]) ([]++[P.pc k w]) λ _ H'=>H'=[P.pc (k+1) w]:=by
 generalize hM:aC _=M
 refine aT Tryz.func236 λ w0=>?_;exact K2
section
variable {P:EP} {fs:i1} {par:OV} {val:Nat->Int} {row:Nat->LN_}
theorem Lh(h:iJ (P.n+1) fs par val row)(e:P.n+1<=10000){v:Nat}(c:v<P.n+1){p:LN_}(hp:a6 par v p):Fn 240 [.pointer (some ⟨P.pt,0,none⟩),.int .i64 (v:Int)] (aC (P.fo fs)) ([]++P.fo fs)
 λ r H'=>∃ b a y,r=.int .i64 ((y:Nat):Int)/\H'=P.fo b/\iJ (P.n+1) b par val a/\p.getLast?=some y/\b.k<=fs.k+em (P.n+1)+5*(P.n+1):=by
 obtain⟨d,a,y,f,g,i,j⟩:=h.root_ e c hp;exact (xw fs h.fok v c d y f).mono λ r H' ⟨l,m⟩=>⟨d,a,y,l,m,g,i,j⟩
theorem I0(h:iJ (P.n+1) fs par val row)(e:P.n+1<=10000){v:Nat}(c:v<P.n+1):Fn 255 [.pointer (some ⟨P.pt,0,none⟩),.int .i64 (v:Int)] (aC (P.fo fs)) ([]++P.fo fs)
 λ r H'=>∃ b a,r=.int .i64 (enc (par v))/\H'=P.fo b/\iJ (P.n+1) b par val a/\b.k<=fs.k+em (P.n+1)+5*(P.n+1):=by
 obtain⟨p,hp⟩:=h.path v c;obtain⟨d,a,f,g,m,i⟩:=h.above_ e c hp;exact (yb fs h.fok v c d _ f).mono λ r H' ⟨j,l⟩=>⟨d,a,j,l,g,i⟩
theorem xa(h:iJ (P.n+1) fs par val row)(d:P.n+1<=10000){v:Nat}(b:v<P.n+1):Fn 252 [.pointer (some ⟨P.pt,0,none⟩),.int .i64 (v:Int)] (aC (P.fo fs)) ([]++P.fo fs)
 λ r H'=>∃ a,r=.int .i64 (val v)/\H'=P.fo a/\iJ (P.n+1) a par val row/\a.k<=fs.k+2*(P.n+1):=by
 obtain⟨c,e,f,g,i⟩:=h.value_ d b;exact (Bp fs h.fok v b c e).mono λ r H' ⟨j,l⟩=>⟨c,by rw[j,g],l,f,i⟩
theorem CD(h:iJ (P.n+1) fs par val row)(g:P.n+1<=10000){v:Nat}(c:v<P.n+1){p:LN_}(hp:a6 par v p){d:Int}(e:-9223372036854775808<=d/\d<=9223372036854775807)(i:∀ y∈p,-4611686018427387904<=val y+d/\val y+d<=4611686018427387904):
 Fn 254 [.pointer (some ⟨P.pt,0,none⟩),.int .i64 (v:Int),.int .i64 d] (aC (P.fo fs)) ([]++P.fo fs)
 λ _ H'=>∃ b a,H'=P.fo b/\iJ (P.n+1) b par (λ z=>if z∈p then val z+d else val z) a/\b.k<=fs.k+em (P.n+1)+2*(P.n+1):=by
 obtain⟨f,a,j,l,m⟩:=h.add_ g c hp e i;exact (Kt fs h.fok v c d e f j).mono λ r H' o=>⟨f,a,o,l,m⟩
theorem Cq(h:iJ (P.n+1) fs par val row)(e:P.n+1<=10000){v:Nat}(c:v<P.n+1){p:LN_}(hp:a6 par v p):Fn 253 [.pointer (some ⟨P.pt,0,none⟩),.int .i64 (v:Int)] (aC (P.fo fs)) ([]++P.fo fs)
 λ r H'=>∃ b a y,r=.int .i64 ((y:Nat):Int)/\H'=P.fo b/\iJ (P.n+1) b par val a/\jE (dS p.reverse val) y (val y)/\y∈p/\b.k<=fs.k+em (P.n+1)+9*(P.n+1):=by
 obtain⟨d,a,y,f,g,i,j,l⟩:=h.least_ e c hp;exact (E5 fs h.fok v c d y f).mono λ r H' ⟨m,o⟩=>⟨d,a,y,m,o,g,i,j,l⟩
theorem Mu(h:iJ (P.n+1) fs par val row)(e:P.n+1<=10000){v u:Nat}(c:v<P.n+1)(hu:par v=some u):Fn 258 [.pointer (some ⟨P.pt,0,none⟩),.int .i64 (v:Int)] (aC (P.fo fs)) ([]++P.fo fs)
 λ _ H'=>∃ b a,H'=P.fo b/\iJ (P.n+1) b (bJ par v none) val a/\b.k<=fs.k+em (P.n+1)+7*(P.n+1):=by
 obtain⟨d,a,f,g,i⟩:=h.cut_ e c hu;exact (Jy fs h.fok v c d f).mono λ r H' j=>⟨d,a,j,g,i⟩
theorem Lv(h:iJ (P.n+1) fs par val row)(g:P.n+1<=10000){v w:Nat}(e:v<P.n+1)(hw:w<P.n+1)(c:par v=none){q:LN_}(i:a6 par w q)(d:v∉q):Fn 257 [.pointer (some ⟨P.pt,0,none⟩),.int .i64 (v:Int),.int .i64 (w:Int)] (aC (P.fo fs)) ([]++P.fo fs)
 λ _ H'=>∃ b a,H'=P.fo b/\iJ (P.n+1) b (bJ par v (some w)) val a/\b.k<=fs.k+3*em (P.n+1)+10*(P.n+1):=by
 obtain⟨f,a,j,l,m⟩:=h.link_ g e hw c i d;exact (Gq fs h.fok v w e hw f j).mono λ r H' o=>⟨f,a,o,l,m⟩
end
structure mX (P:EP) (L:Nat->LN_) (lv:Nat->Int) (gv:Nat->Nat):Prop where
 right:P.N.Right
 nodes:P.N.nodes=P.n
 graded:gp P.N L lv
 rl:P.rowsL.length=P.n+1
 rows:∀ (v:Nat) (row:fg),P.rowsL[v]?=some row->row.l=(L v).map λ (i:Nat)=>(i:Int)
 at_:∀ (v:Nat) (row:fg),P.rowsL[v]?=some row->aj row.l≠[]->row.A=some ⟨gv v,0,none⟩
 len:∀ v,(L v).length<=4000
 arcs:P.N.arcs≠[]->P.A=some ⟨P.b,P.o,none⟩
 ar:P.N.arcs≠[]->P.Ar=some ⟨P.gr,0,none⟩
 le:-9223372036854775808<=P.least/\P.least<=9223372036854775807
theorem mX.room{P:EP}{L:Nat->LN_}{lv:Nat->Int}{gv:Nat->Nat}(h:mX P L lv gv){r:Nat}(a:r<2*P.N.arcs.length):P.Ar=some ⟨P.gr,0,none⟩:=h.ar (by intro e;rw[e] at a;simp at a)
theorem mX.small{P:EP}{L:Nat->LN_}{lv:Nat->Int}{gv:Nat->Nat}(h:mX P L lv gv):P.n+1<=10000:=by
 have:=h.right.nodes;have:=h.nodes;omega
structure TA (P:EP) (L:Nat->LN_) (rm0 tr:LI_) (pos:LN_) (par:OV) (val:Nat->Int) (rm:LI_):Prop where
 posl:pos.length=P.n+1
 link:∀ v w,v<=P.n->par v=some w->∃ q r,pos[v]?=some q/\(L v)[q]?=some r/\gR P.N r=w/\val v=tr.getD r 0
 free:∀ v,v<=P.n->par v=none->val v=4611686018427387904
 rml:rm.length=2*P.N.arcs.length
 lead:∀ v r,r∈L v->(∀ q,par v≠none->pos[v]?=some q->(L v)[q]?≠some r)->rm.getD r 0=tr.getD r 0
 rest:∀ r,(∀ v,r∉L v)->rm.getD r 0=rm0.getD r 0
 trb:∀ r,0<=tr.getD r 0/\tr.getD r 0<=4611686018427387903
section
variable {P:EP} {L:Nat->LN_} {lv:Nat->Int} {gv:Nat->Nat} {rm0 tr:LI_} {pos:LN_} {par:OV} {val:Nat->Int} {rm:LI_}
theorem TA.pos_at(h:TA P L rm0 tr pos par val rm){v:Nat}(a:v<=P.n):∃ q,pos[v]?=some q:=⟨pos[v]'(by have:=h.posl;omega),be (by have:=h.posl;omega)⟩
abbrev iN(val:Nat->Int)(v:Nat)(d:Int):Nat->Int:=λ z=>if z∈[v] then val z+d else val z
theorem iQ(hP:mX P L lv gv){v r:Nat}(h:r∈L v):r<2*P.N.arcs.length/\eN P.N r=v/\lv (gR P.N r)=lv v+1:=hP.graded.ok v r h
theorem TA.settle(h:TA P L rm0 tr pos par val rm)(hP:mX P L lv gv){v w q r:Nat}(y:v<=P.n)(hw:par v=some w)(m:pos[v]?=some q)(l:(L v)[q]?=some r)(d:val v=tr.getD r 0):
 TA P L rm0 tr pos (bJ par v none) (iN val v (4611686018427387904-val v)) (rm.set r (val v)):=by
 have f:=Nb l;have b:=(iQ hP f).1;refine⟨h.posl,λ u z hu i=>?_,λ u hu j=>?_,by rw[NO];exact h.rml,λ u e he c=>?_,λ e he=>?_,h.trb⟩
 ·simp only[bJ] at i;split at i
  ·cases i
  ·rename_i c;obtain⟨k,o,k1,p,s,t⟩:=h.link u z hu i;exact⟨k,o,k1,p,s,by simp only[iN];rw[if_neg (by simpa using c)];exact t⟩
 ·simp only[iN,Ni];by_cases e:u=v
  ·rw[if_pos e,e];omega
  ·rw[if_neg e];exact h.free u hu (by simpa [bJ,e] using j)
 ·by_cases e:r=e
  ·subst e;rw[kq (by rw[h.rml];exact b),if_pos rfl,d]
  ·rw[kq (by rw[h.rml];exact b),if_neg e];refine h.lead u _ he fun k j a=>?_;by_cases g:u=v
   ·subst g;rw[m] at a;simp only[Nc] at a;subst a;rw[l];simpa using e
   ·exact c k (by simpa [bJ,g] using j) a
 ·have:r≠e:=λ x=>he v (x▸f);rw[kq (by rw[h.rml];exact b),if_neg this];exact h.rest e he
theorem TA.bump(h:TA P L rm0 tr pos par val rm){v q:Nat}(g:par v=none):TA P L rm0 tr (pos.set v q) par val rm:=by
 have ne:∀ u,par u≠none->v≠u:=λ u hu e=>hu (e▸g);refine⟨by rw[NO];exact h.posl,λ u z hu f=>?_,h.free,h.rml,λ u e he b=>?_,h.rest,h.trb⟩
 ·obtain⟨c,i,k1,j,k,l⟩:=h.link u z hu f;exact⟨c,i,by rw[Ns (ne u (by rw[f];simp))];exact k1,j,k,l⟩
 ·exact h.lead u e he λ c a d=>b c a (by rw[Ns (ne u a)];exact d)
theorem TA.hook(h:TA P L rm0 tr pos par val rm)(hP:mX P L lv gv){v q r:Nat}(x:v<=P.n)(f:par v=none)(o:pos[v]?=some q)(m:(L v)[q]?=some r):
 TA P L rm0 tr pos (bJ par v (some (gR P.N r))) (iN val v (rm.getD r 0-4611686018427387904)) rm:=by
 have g:=Nb m;refine⟨h.posl,λ u z hu a=>?_,λ u hu b=>?_,h.rml,λ u e he i=>?_,h.rest,h.trb⟩
 ·simp only[bJ] at a;by_cases e:u=v
  ·subst e;rw[if_pos rfl] at a;simp only[Nc] at a;refine⟨q,r,o,m,a,?_⟩;simp only[iN,Ni,O7];rw[h.free u hu f,h.lead u r g (λ _ k=>absurd f k)];omega
  ·rw[if_neg e] at a;obtain⟨j,p,k1,s,t,w⟩:=h.link u z hu a;exact⟨j,p,k1,s,t,by simp only[iN,Ni];rw[if_neg e];exact w⟩
 ·simp only[iN,List.mem_singleton];have e:u≠v:=fun e=>by subst e;simp[bJ] at b
  rw[if_neg e];exact h.free u hu (by simpa [bJ,e] using b)
 ·refine h.lead u e he λ j c l=>?_;by_cases d:u=v
  ·subst d;exact absurd f c
  ·exact i j (by simpa [bJ,d] using c) l
theorem TA.path_lv(h:TA P L rm0 tr pos par val rm)(hP:mX P L lv gv):∀ {p:LN_} {v:Nat},a6 par v p->v<=P.n->∀ y∈p,lv v<=lv y/\(y≠v->lv v<lv y)
 |[],_,hp,_,_,_=>hp.elim
 |[z],v,⟨b,_⟩,_,y,a=>by
  rw[Ni.1 a,<- b];exact⟨Ox _,λ h=>absurd rfl h⟩
 |z::c::l,v,⟨b,d,e⟩,f,y,a=>by
  rcases Nn.1 a with rfl|a
  ·rw[<- b];exact⟨Ox _,λ h=>absurd rfl h⟩
  ·obtain⟨q,r,k1,g,i,k⟩:=h.link v c f d;have hm:=Nb g;obtain⟨g1,g2,g3⟩:=iQ hP hm
   have j:c<=P.n:=by
    have:=(jM hP.right g1).2.2;have:=hP.nodes;omega
   have:=(TA.path_lv h hP e j y a).1;rw[i] at g3;exact⟨aa,λ _=>by omega⟩
end
section
variable {P:EP} {L:Nat->LN_} {lv:Nat->Int} {gv:Nat->Nat} {rm0 tr:LI_} {pos:LN_} {par:OV} {val:Nat->Int} {row:Nat->LN_}
theorem CG(hP:mX P L lv gv){vals:LV_}(g:tG P.rowsL gv pos vals){v q r:Nat}(o:v<=P.n)(h:pos[v]?=some q)(f:(L v)[q]?=some r):
 ∃ a d,P.rowsL[v]?=some a/\vals[v]?=some (.slice (some ⟨gv v,q,none⟩) (a.l.length-q) d)/\a.l.length-q<=d/\q<a.l.length/\a.l[q]?=some (r:Int)/\a.A=some ⟨gv v,0,none⟩/\a.l.length<=4000:=by
 have i:=hP.rl;obtain⟨a,b⟩:∃ a,P.rowsL[v]?=some a:=⟨P.rowsL[v]'aa,be aa⟩;obtain⟨p,d,j,k,m⟩:=g.at_ v a q b h;have hl:=hP.rows v a b;have c:q<a.l.length:=by rw[hl,Nm];exact (Ng.1 f).1
 obtain rfl:=m c;refine⟨a,d,b,j,k,c,by rw[hl,Nk,f];rfl,hP.at_ v a b (λ e=>?_),by rw[hl,Nm];exact hP.len v⟩;have:a.l.length=0:=by rw[<- bY,e];rfl
 omega
theorem E8{a:fg}{g q e:Nat}(b:a.A=some ⟨g,0,none⟩):(bd e a).shows g q ((aj a.l).drop q):=by
 have:=dz (bC (e:=e) (sz:=1) (n:=a.l.length) (cap:=a.c) (λ _=>b:aj a.l≠[]->a.A=aL g 0)) q;rw[NR] at this;exact this
theorem tO{X:Cx}{E:Env}{H:Heap}{o:Oper}{t q r i g:Nat}{e:Operand}{a:fg}(f:o.op=.load t e)(h:Proofs.YtmcnpaelaieniaaGreatDoor.val E e=some (.pointer (some ⟨g,q,none⟩)))(j:H[i]?=some (bd 3 a)){k:IntKind}{d:Nat}{m:Option Value}(n:tab t=some ⟨.int k,1,d,m⟩)
 (p:a.A=some ⟨g,0,none⟩) (hl:a.l[q]?=some (r:Int)):i8 X o E H (.int .i64 (r:Int)):=by
 refine dY (b:=g) (off:=q) (i:=0) (cs:=(aj a.l).drop q) (c:=bd 3 a) i f h j (E8 p) ?_;unfold fQ;rw[n];show ((aj a.l).drop q)[0]?=_;rw[Ol];exact ep hl
theorem IH{c0 b c2 c3 c4 c5 c d e:aY}{un:List fg}{v:Nat}{a:fg}(h:P.rowsL[v]?=some a):(c0::b::c2::c3::c4::c5::c::d::e::P.rows un)[9+v]?=some (bd 3 a):=by
 show ([c0,b,c2,c3,c4,c5,c,d,e]++P.rows un)[9+v]?=_;rw[NB ai];show (P.rows un)[9+v-9]?=_;rw[NY];unfold EP.rows;rw[Nk,NZ (Ng.1 h).1,h];rfl
theorem CO{c0 b c2 c3 c4 c5 c d e:aY}{un:List fg}{v:Nat}{a:fg}(h:un[v]?=some a):(c0::b::c2::c3::c4::c5::c::d::e::P.rows un)[9+(P.rowsL.length+v)]?=some (bd 3 a):=by
 show ([c0,b,c2,c3,c4,c5,c,d,e]++P.rows un)[9+(P.rowsL.length+v)]?=_;rw[NB ai];show (P.rows un)[9+(P.rowsL.length+v)-9]?=_;rw[NY];unfold EP.rows;rw[Nk,NB aa,NY,h];rfl
theorem wy(hP:mX P L lv gv)(s:ES)(H:TA P L rm0 tr pos par val s.rm)(Q:iJ (P.n+1) s.fs par val row)(S:tG P.rowsL gv pos s.vals){v w q r:Nat}(U:v<=P.n)(hw:par v=some w)(V:pos[v]?=some q)(I:(L v)[q]?=some r)(K:val v=tr.getD r 0):
 Fn 244 [.pointer (some ⟨P.pe,0,none⟩),.int .i64 (v:Int)] (aC (gZ P s)) ([P.sg]++gZ P s)
  λ _ H'=>∃ f j,H'=gZ P { s with fs:=f,rm:=s.rm.set r (val v),k:=s.k+1 }/\iJ (P.n+1) f (bJ par v none) (iN val v (4611686018427387904-val v)) j/\f.k<=s.fs.k+2*em (P.n+1)+11*(P.n+1):=by
 have u:=hP.small;have a:v<P.n+1:=aa;obtain⟨X,c',l,o,Y,Z,x,z,B⟩:=CG hP S U V I;have h1:v<s.vals.length:=(Ng.1 o).1;have C:=Nb I;have g:=(iQ hP C).1;have h2:=H.trb r
 generalize hM:aC _=M
 refine aT Tryz.func244 λ w0=>?_;refine bS oB<|ig ?_;refine cD (ay.re (A:=P.fo s.fs++[P.sg,P.pc s.k s.w,P.rc s.rm,P.lc s.vals,P.uc s.un]) (R:=P.rows s.un) [5,0,1,2,3,4,6,7,8] rfl ab)<|bK [999] (mS P s.k s.w) rfl rfl rfl rfl aX ay.refl an aK<|?_;rintro v0 H' rfl;refine dw ?_;refine cD (ay.re (A:=[P.pc (s.k+1) s.w]++(P.fo s.fs++[P.sg,P.rc s.rm,P.lc s.vals,P.uc s.un])) (R:=P.rows s.un) [1,2,3,4,5,0,6,7,8] rfl ab)<|ah<|ig ?_;refine dI (xa Q u a) rfl ay.refl an ?_;rintro _ H' ⟨hx,rfl,rfl,D,hR⟩;refine dw ?_;refine ng ?_;refine fC ?_;refine fZ 16 [0,1,2,3,4,5,6,7,8,9,10,11,12,13,14] 15 [] aX<|C4 ?_;refine gS [999] rfl (bn rfl a) rfl<|cV [999] rfl rfl (aw 7 rfl rfl rfl o) rfl<|C4 ?_;refine gS [999] rfl (gq rfl (m:=0) aa) rfl<|cV [999] rfl rfl (tO rfl rfl (IH l) rfl z x) rfl<|C4 ?_;have i:=hP.room g;refine gS [999] rfl (ic (b:=P.gr) (n:=2*P.N.arcs.length) (c:=P.cr) rfl (Na (λ A=>some (Value.slice A (2*P.N.arcs.length) P.cr)) i) rfl rfl rfl g) rfl<|il rfl<|aW (n:=2*P.N.arcs.length) (cap:=P.cr) 6 rfl rfl rfl (Na (λ A=>some (aY.own (.slice A (2*P.N.arcs.length) P.cr) 2 1 (2*P.N.arcs.length) (aj s.rm))) i) (fz rfl rfl rfl (by rw[bY,H.rml];exact g)) [] rfl<|?_;rw[show (aj s.rm).set r (af (val v))=aj (s.rm.set r (val v)) from by simp[aj]];rw[<- i];refine b6 []<|gA ?_;refine ig ?_;refine dI (Mu D u a hw) rfl ay.refl an ?_;rintro _ H' ⟨h3,O,rfl,E,hA⟩;refine dw ?_;refine ng ?_;refine ah<|ig ?_;refine aA 40 (v':=af (4611686018427387904-val v)) rfl (Na (Value.int .i64) (cp aa)) ?_;refine dI (CD E u a (p:=[v]) ⟨rfl,by simp[bJ]⟩ (d:=4611686018427387904-val v) aa (by intro y hy;rw[Ni.1 hy];omega)) rfl ay.refl an ?_;rintro _ H' ⟨e,t,rfl,F,hb⟩;refine dw ?_;refine ng ?_;refine cD (qR (s:={ s with fs:=e,rm:=s.rm.set r (val v),k:=s.k+1 }))<|ah<|⟨_,rfl,e,t,rfl,F,?_⟩;have h0:{ s with fs:=e,rm:=s.rm.set r (val v),k:=s.k+1 }.fs=e:=rfl;omega
end
variable {X:Cx} {Q:fb} {E E':Env} {H:Heap}
theorem F9{e:Nat}{uk:UK}{s a:Nat}{z:Value}(h:tab e=some ⟨uk,s,a,some z⟩)(w:World):(zeroValue e).run Tryz.prog w=.ok z w:=by
 obtain⟨d,j,_,hi,_,_,_,b⟩:=eU h;simp[zeroValue,typeInfo,hi,b z rfl]
theorem EE{ops l:List Oper}{o:Oper}{t e g i n cap I sz m p q r:Nat}{x:Operand}{z:Value}{L:Option Value}{uk:UK}{xs:LV_}(k:Nat)(M:o.op=.call ⟨.builtin .clear,#[x],#[t]⟩)(N:val E x=some (.slice (some ⟨g,i,none⟩) 1 I))
 (B:H[k]?=some (.own (.slice (some ⟨g,0,none⟩) n cap) m sz n xs)) (O:tab t=some ⟨.slice e,p,q,L⟩) (he:tab e=some ⟨uk,1,r,some z⟩) (P:z.cells.toList=[z]) (s:one [z]=true) (hi:i<xs.length) (gs:LN_) (R:jD X.n ops gs E o (.tuple #[])=some E')
 (h:JL X ops l Q E' (H.set k (.own (.slice (some ⟨g,0,none⟩) n cap) m sz n (xs.set i z)))):JL X ops (o::l) Q E H:=by
 intro a w hA C;obtain⟨hg,hp⟩:=d7 R;refine na ?_
 left
 have b:w.ownsRow 0 m sz (ax g 0 n cap) n xs:=C.holds _ (Nb B)
 obtain⟨cur,c,hlen,S⟩:∃ cur:Array Value,w.heap[g]?=some (.cells cur m (0,0))/\n*sz<=cur.size/\cur.toList.take (n*sz)=xs:=by
  rcases b.2 with ⟨h',_⟩|⟨g',D,cur,h',h0,hg,s,F,u,v⟩
  ·simp at h'
  ·simp only[Value.slice.injEq,Nc,Addr.mk.injEq,and_true,true_and] at h';obtain⟨rfl,rfl⟩:=h';exact⟨cur,hg,by rw[u];exact Ow _ s,v⟩
 have d:w.heap[g]?=some (.cells cur.toList.toArray m (0,0)):=c;obtain⟨w',F,u,v,U,V,h7,Y⟩:=gH (o:=i) [z] 0 w cur.toList d (by have:=b.1;simp only[Pp,NU] at*;omega) s;refine m7 ?_
 have y:(Builtin.zeroCells z.cells 1).toList=[z]:=by
  have Z:z.cells=#[z]:=Array.ext' (by rw[P]);rw[Z];simp[Builtin.zeroCells]
 have:(execOp a.eval o).run Tryz.prog w=.ok (.value (.tuple #[])) w':=by
  simp[execOp,M,resolve,invoke,builtin,Builtin.clear_,hA.val N,run_underlying (eZ O),F9 he,y,F]
 rw[this];refine h _ _ (hA.putE hp) (C.step k B v U V aa (λ j _ hj=>Y j (λ x=>hj (by rw[x];rfl))) ?_ (λ b' A=>.inl A));show w'.ownsRow 0 m sz _ n (wr xs i [z]);refine sB b (by simp only[NU];omega) λ cs f=>?_;rw[c] at f;simp only[Nc,Obj.cells.injEq,and_true] at f;subst f;exact u
theorem wT{ops l:List Oper}{o:Oper}{t e g i n cap m1 Y m2 cx b off sz r u y A:Nat}{d s:Operand}{z Z:Option Value}{uk:UK}{xs vs:LV_}{c2:aY}(k k2:Nat)(ho:o.op=.call ⟨.builtin .copy,#[d,s],#[t,t]⟩)(hd:val E d=some (.slice (some ⟨g,i,none⟩) m1 Y))(hs:val E s=some (.slice (some ⟨b,off,none⟩) m2 cx))
 (S:H[k]?=some (.own (.slice (some ⟨g,0,none⟩) n cap) r sz n xs)) (B:H[k2]?=some c2) (C:c2.shows b off vs) (ht:tab t=some ⟨.slice e,u,y,Z⟩) (he:tab e=some ⟨uk,1,A,z⟩) (hn:vs.length=Nat.min m2 m1) (D:one vs=true) (hi:i+vs.length<=xs.length) (gs:LN_) (hb:jD X.n ops gs E o (.int .i64 (vs.length:Int))=some E')
 (h:JL X ops l Q E' (H.set k (.own (.slice (some ⟨g,0,none⟩) n cap) r sz n (wr xs i vs)))):JL X ops (o::l) Q E H:=by
 intro a w hA F;obtain⟨hg,hp⟩:=d7 hb;refine na ?_
 left
 have c:w.ownsRow 0 r sz (ax g 0 n cap) n xs:=F.holds _ (Nb S);have m:=C w (F.holds _ (Nb B))
 obtain⟨cur,f,hlen,hx⟩:∃ cur:Array Value,w.heap[g]?=some (.cells cur r (0,0))/\n*sz<=cur.size/\cur.toList.take (n*sz)=xs:=by
  rcases c.2 with ⟨h',_⟩|⟨g',U,cur,h',h0,hg,D,V,I,L⟩
  ·simp at h'
  ·simp only[Value.slice.injEq,Nc,Addr.mk.injEq,and_true,true_and] at h';obtain⟨rfl,rfl⟩:=h';exact⟨cur,hg,by rw[I];exact Ow _ D,L⟩
 have p:w.heap[g]?=some (.cells cur.toList.toArray r (0,0)):=f;have hR:xs.length=n*sz:=c.1;obtain⟨w',V,I,L,h5,h6,h7,h8⟩:=gH (o:=i) vs 0 w cur.toList p (by have:=Pp (xs:=cur);omega) D;have M:=run_loadCells_list (P:=Tryz.prog) w ⟨b,off,none⟩ vs (λ j v N=>by rw[Addr.add_at];exact m j v N);refine m7 ?_;have O:(sizeOf e).run Tryz.prog w=.ok 1 w:=dW he w
 have:(execOp a.eval o).run Tryz.prog w=.ok (.value (af (vs.length:Int))) w':=by
  simp[execOp,ho,resolve,invoke,builtin,Builtin.copy_,hA.val hd,hA.val hs,run_underlying (eZ ht),Builtin.lenOf,Builtin.firstCells,O,<- hn,M,V,goInt]
 rw[this];refine h _ _ (hA.putE hp) (F.step k S L h5 h6 aa (λ j _ N=>h8 j (λ x=>N (by rw[x];rfl))) ?_ (λ b' R=>.inl R));show w'.ownsRow 0 r sz _ n (wr xs i vs);refine sB c hi λ cs q=>?_;rw[f] at q;simp only[Nc,Obj.cells.injEq,and_true] at q;subst q;exact I
section
variable {Sf:Heap} {K:Env->Heap->Prop}
theorem Ju{id:Nat}{l:List Oper}(n:Nat)(order:List (Nat×Bool))(j:ut l.toArray n order=true)(m:ay X H Sf)(h:JW X l order Sf (λ E' H'=>JL X l (l.drop n) Q E' H') E H):
 J X (.region id l.toArray true) Q E H:=by
 intro a w p f;refine nx (S:=λ w=>dN X.w0 X.M w Sf) n order C7 j (m _ f.drew) ?_;have:=h a _ p f.drew;refine (?_:∀ (Q1 b:Act->World->Prop),(∀ a w,Q1 a w->b a w)->∀ l a w,xR Tryz.prog _ _ Q1 l a w->xR Tryz.prog _ _ b l a w) _ _ ?_ _ a _ this
 ·intro Q1 b c l
  induction l with
  |nil=>exact λ a w h=>c a w h
  |cons o l g=>
   intro a w h;obtain⟨k,st⟩:=o
   cases st with
   |true=>obtain⟨o,v,q,r,s⟩:=h;exact⟨o,v,q,r,g _ _ s⟩
   |false=>exact wpOp_mono (λ t w' i=>⟨i.1,g _ _ i.2⟩) h
 ·rintro a w ⟨E',H',d,e,c⟩;exact c a w d e
def LC(X:Cx)(ops:List Oper)(rest:List (Nat×Bool))(Sf:Heap)(K:Env->Heap->Prop):fb:=λ e E' H'=>match e with
 |.normal=>ay X H' Sf/\JW X ops rest Sf K E' H'
 |_=>False
theorem J2{ops:List Oper}{rest:List (Nat×Bool)}{k:Nat}{o:Oper}(m:ops[k]?=some o)(h:JL X ops [o] (LC X ops rest Sf K) E H):JW X ops ((k,false)::rest) Sf K E H:=by
 intro a w p q;have d:=h a w p q;show wpOp _ _ _ _ _ _ _;refine mP (Q1:=qv X (LC X ops rest Sf K)) (λ e a w g i=>?_) ?_
 ·obtain⟨r,H1,_,_,i⟩:=i
  cases e with
  |normal=>exact g rfl
  |_=>exact i
 ·unfold wpOp;have j:ops.toArray[k]?=some o:=by simpa using m
  simp only[j];unfold wpList at d
  have b:∀ c w',wpList Tryz.prog ops.toArray (qv X (LC X ops rest Sf K)) [] c w'->dN X.w0 X.M w' Sf/\xR Tryz.prog ops.toArray (λ w=>dN X.w0 X.M w Sf) (λ c w'=>∃ E' H',gz X.n c E'/\dN X.w0 X.M w' H'/\K E' H') rest c w':=by
   rintro c w' ⟨r,H1,l,f,s,t⟩;exact⟨s _ f,t c w' l f⟩
  split
  ·rename_i hw;rw[if_pos hw] at d;exact d.imp (Oper.wp_mono b) id
  ·rename_i hw;rw[if_neg hw] at d;exact b _ _ d
end
theorem ay.seg{b e off:Nat}{cs vs:LV_}(k:Nat)(a:H[k]?=some (blk b e cs))(d:∀ i v,vs[i]?=some v->cs[off+i]?=some v):ay X H (H.set k (.seg b off vs)):=by
 intro w c;have f:=c.holds _ (Nb a);refine c.chunk k a (λ i v hi=>?_) (λ _ h=>by cases h) (λ l h=>?_)
 ·have g:=d i v hi;have j:w.heap[b]?=some (.cells cs.toArray e (0,0)):=f;show w.cell? ⟨b,off+i,none⟩=some v;simp[World.cell?,j,g]
 ·simp only[aY.at_] at h;split at h
  ·cases h
  ·exact h
def Kf(bE bV:Nat):Value:=.func (.func 272) #[] #[.pointer (some ⟨bE,0,none⟩),.pointer (some ⟨bV,0,none⟩)]
abbrev EP.box(P:EP)(bE:Nat):aY:=.seg bE 0 [.pointer (some ⟨P.pe,0,none⟩)]
abbrev vB(bV v:Nat):aY:=.seg bV 0 [.int .i64 (v:Int)]
theorem Co(P:EP)(k w a b v u:Nat):Fn 272 [.int .i64 (u:Int),.pointer (some ⟨a,0,none⟩),.pointer (some ⟨b,0,none⟩)] (aC [P.pc k w]) ([P.box a,vB b v]++[P.pc k w])
 λ r H'=>r=.bool (dR ((u:Int)=v))/\H'=[P.pc (k+1) w]:=by
 generalize hM:aC _=M
 refine aT Tryz.func272 λ w0=>?_;refine mM ?_;refine sf ?_;refine cD (ay.re (A:=[P.box a,vB b v,P.pc k w]) (R:=[]) [2,0,1] rfl ab)<|rW (mS P k w) rfl ay.refl an ?_;rintro v0 H' rfl;refine aN ?_;refine gN ?_;refine aF (aZ (i:=0) 2 rfl rfl rfl) ?_;refine ii ?_;exact aM [0] ⟨_,rfl,rfl,rfl⟩
theorem DK{pre post:LN_}{v i:Nat}(h:i<=pre.length)(a:v∉pre):∃ u,(pre++v::post)[i]?=some u/\(i<pre.length->u≠v)/\(i=pre.length->u=v):=by
 by_cases e:i<pre.length
 ·refine⟨pre[i],by rw[NZ e];exact be e,λ _ he=>a (he▸Oz _),λ h=>by omega⟩
 ·obtain rfl:i=pre.length:=by omega
  exact⟨v,by rw[NB (Nr _),OE];rfl,λ h=>by omega,λ _=>rfl⟩
theorem Dk(P:EP)(k w a b v:Nat)(pre post:LN_)(l:v∉pre)(g c:Nat)(hl:(pre++v::post).length<=20000):
 Fn 229 [.slice (some ⟨g,0,none⟩) (pre++v::post).length c,Kf a b] (aC [P.pc k w]) ([P.box a,vB b v,.seg g 0 (cJ (pre++v::post))]++[P.pc k w])
  λ r H'=>r=.int .i64 (pre.length:Int)/\H'=[P.pc (k+pre.length+1) w]:=by
 generalize hM:aC _=M
 refine aT Tryz.func229 λ w0=>?_;refine ja ?_;refine aq<|bP (σ:=Nat) (λ i=>[(8,af (i:Int)),(7,af ((pre++v::post).length:Int)),(1,Kf a b),(0,ax g 0 (pre++v::post).length c)]) (λ i=>[P.box a,vB b v,.seg g 0 (cJ (pre++v::post)),P.pc (k+i) w]) (λ i=>i<=pre.length) (λ i=>pre.length+1-i) 0 [0,1,2,3] a7 ab rfl (Nl _)<|?_;intro i hi;have hlen:(pre++v::post).length=pre.length+post.length+1:=by simp;omega
 obtain⟨u,hu,e,f⟩:=DK (post:=post) hi l;refine ao ?_;have m:((i:Nat):Int)<((pre++v::post).length:Int):=aa;refine cq ?_;refine ak rfl (λ _=>ag ?_) (λ h=>absurd m h);refine am (aq ?_);refine mM ?_;refine nG ?_;refine ip ?_;refine aF (fJ 2 rfl rfl rfl (NR _).symm (eH hu)) ?_;refine cD (ay.re (A:=[P.box a,vB b v,.seg g 0 (cJ (pre++v::post)),P.pc (k+i) w]) (R:=[]) [3,0,1,2] rfl ab)<|iy (Co P (k+i) w a b v u) rfl ay.refl ⟨bz 0 rfl,bz 1 rfl,an⟩ ?_;refine aN ?_;refine ak rfl (λ h=>?_) (λ h=>ag ?_)
 ·have:i=pre.length:=by
   rcases P1 i pre.length with d|d
   ·exact absurd aa (e d)
   ·omega
  subst this;refine ao ?_;refine aM [0] ⟨_,rfl,rfl,rfl⟩
 ·have j:i<pre.length:=by
   rcases P1 i pre.length with d|d
   ·exact d
   ·exact absurd (by rw[f aa]) h
  refine ao ?_;refine⟨i+1,[1,2,3,0],⟨?_,rfl,rfl,rfl,an⟩,ab,rfl,j,aa⟩;refine m0 ?_;rw[cp aa];rfl
def jR(pre post:LN_)(v q:Nat):LN_:=pre++(post.take q++(v::post).drop q)
theorem py{pre post:LN_}{v q:Nat}(h:q<=post.length):(jR pre post v q).length=(pre++v::post).length:=by
 simp[jR];omega
theorem AO{pre post:LN_}{v q u:Nat}(h:post[q]?=some u):(jR pre post v q)[pre.length+(q+1)]?=some u:=by
 have a:=(Ng.1 h).1;unfold jR;rw[NB aa,NY,NB eK,NE,OX aa,Ol];show (v::post)[q+(q+1-q)]?=_;rw[show q+(q+1-q)=q+1 by omega,Oj];exact h
theorem BG{pre post:LN_}{v q u:Nat}(h:post[q]?=some u):(jR pre post v q).set (pre.length+q) u=jR pre post v (q+1):=by
 have b:=(Ng.1 h).1;unfold jR;rw[OF _ _ aa,NY,OF _ _ eK,NE,OX aa,OE];have a:(v::post).drop q=(v::post)[q]'eK::(v::post).drop (q+1):=N5 eK;rw[a,OW,Nu,h];simp
theorem AG{pre post:LN_}{v:Nat}:(jR pre post v post.length).take (pre.length+post.length)=pre++post:=by
 unfold jR;rw[NH,<- NQ,List.take_append_of_le_length ai];exact Oh ai
theorem E7{W:LN_}{i u:Nat}:(cJ W).set i (.int .i64 (u:Int))=cJ (W.set i u):=by simp[cJ,aj]
theorem vj{W:LN_}{m:Nat}:(cJ W).take m=cJ (W.take m):=by simp[cJ,aj]
abbrev pj(g n c:Nat)(W:LN_):aY:=.own (.slice (some ⟨g,0,none⟩) n c) 3 1 n (cJ W)
theorem EH(P:EP)(k w a d v:Nat)(pre post:LN_)(s:v∉pre)(j:v∉post)(g n c:Nat)(p:n=(pre++v::post).length)(hl:n<=20000)(t:n<=c):
 Fn 271 [.slice (some ⟨g,0,none⟩) n c,Kf a d] (aC [P.pc k w,pj g n c (pre++v::post)]) ([P.box a,vB d v]++[P.pc k w,pj g n c (pre++v::post)])
  λ r H'=>r=.slice (some ⟨g,0,none⟩) (pre.length+post.length) c/\H'=[P.pc (k+n) w,pj g (pre.length+post.length) c (pre++post)]:=by
 have hlen:n=pre.length+post.length+1:=by rw[p];simp;omega
 generalize hM:aC _=M
 refine aT Tryz.func271 λ w0=>?_;refine mM ?_;refine lB ?_;refine cD (ay.re (A:=[P.box a,vB d v,P.pc k w,pj g n c (pre++v::post)]) (R:=[]) [2,0,1,3] rfl ab) ?_;have T:=Dk P k w a d v pre post s g c aa;rw[<- p] at T;refine iy T rfl ay.refl ⟨bz 0 rfl,bz 1 rfl,fX 2 rfl ca (.inr rfl),an⟩ ?_;refine cR ?_;refine bD 12 (v':=.bool false) rfl (Na Value.bool (aU aa)) (bo rfl (ag ?_));refine ao ?_;refine bD 6 (v':=af ((pre.length+(0+1):Nat):Int)) rfl (Na (Value.int .i64) ((cp aa).trans aa))<|bD 5 (v':=af ((pre.length+0:Nat):Int)) rfl rfl<|aq<|bP (σ:=Nat) (λ q=>[(6,af ((pre.length+(q+1):Nat):Int)),(5,af ((pre.length+q:Nat):Int)),(1,Kf a d),(0,ax g 0 n c)]) (λ q=>[P.box a,vB d v,pj g n c (jR pre post v q),P.pc (k+pre.length+1+q) w]) (λ q=>q<=post.length) (λ q=>post.length-q) 0 [1,2,3,0] a7 ab rfl (Nl _)<|?_;intro q x;refine iL ?_;refine ak rfl (λ y=>ag ?_) (λ z=>?_)
 ·have f:q<post.length:=by omega
  obtain⟨u,hu⟩:∃ u,post[q]?=some u:=⟨post[q],be f⟩;have B:u≠v:=λ e=>j (e▸Nb hu);refine am (aq ?_);refine bu ?_;refine lB ?_;refine ip ?_;refine aF (aw 2 rfl rfl rfl (eH (AO hu))) ?_;refine fP ?_;refine lB ?_;refine cD (ay.re (A:=[P.box a,vB d v,pj g n c (jR pre post v q),P.pc (k+pre.length+1+q) w]) (R:=[]) [3,0,1,2] rfl ab)<|iy (Co P _ w a d v u) rfl ay.refl ⟨bz 0 rfl,bz 1 rfl,an⟩ ?_;refine dc 28 rfl aa<|ii ?_;refine bu ?_;refine nG ?_;refine ip ?_;refine aW 3 rfl rfl rfl rfl (fz rfl rfl rfl (by rw[f0,py x];omega)) [] rfl ?_;rw[E7,BG hu];refine dv ?_;refine ao ?_;refine⟨q+1,[1,2,3,0],⟨?_,?_,rfl,rfl,an⟩,ab,rfl,f,aa⟩
  ·show some (af (IntKind.i64.wrap (((pre.length+(q+1):Nat):Int)+1)))=_;rw[cp aa];rfl
  ·show some (af (IntKind.i64.wrap (((pre.length+q:Nat):Int)+1)))=_;rw[cp aa];rfl
 ·obtain rfl:q=post.length:=by omega
  refine aO<|bu ?_;refine lB ?_;refine aF (f5 (i:=pre.length+post.length) rfl rfl rfl rfl rfl aa) ?_;refine aA 38 (v':=ax g (pre.length+post.length) 1 (c-(pre.length+post.length))) rfl ?_ ?_
  ·have:=eS (A:=aL g 0) (c:=c) (l:=pre.length+post.length) (n:=n) (sz:=1) (b:=g) (o:=0) aK t aa;rw[NT,NR] at this;show Value.slice (fA _ _ _ 1) _ _=_;rw[this,show n-(pre.length+post.length)=1 by omega]
  refine EE 2 rfl rfl rfl rfl rfl rfl rfl (by rw[f0,py (Nr _)];omega) [] rfl<|ah<|bu ?_;refine lB ?_;refine aF (jG (i:=pre.length+post.length) rfl rfl rfl rfl rfl aa) ?_;refine ii ?_
  have C:((cJ (jR pre post v post.length)).set (pre.length+post.length) (af 0)).take ((pre.length+post.length)*1)=cJ (pre++post):=by
   rw[NT,List.take_set_of_le (Nr _),vj,AG]
  refine bS (ay.shrink (m:=pre.length+post.length) 2 rfl aa) ?_;show J _ _ _ _ [_,_,.own _ _ _ _ (List.take _ _),_];rw[C];refine bS (ay.re (A:=[P.box a,vB d v,pj g (pre.length+post.length) c (pre++post),P.pc (k+pre.length+1+post.length) w]) (R:=[]) [3,2] rfl ab) (bN ⟨_,rfl,rfl,?_⟩);rw[show k+n=k+pre.length+1+post.length by omega];rfl
theorem qr:∀ (l m:LN_),l.Nodup->(∀ x∈l,x∈m)->l.length<=m.length
 |[],_,_,_=>Nl _
 |x::l,m,h,a=>by
  obtain⟨d,f⟩:=NJ.1 h;have b:=a x ai;have g:=qr l (m.erase x) f λ y c=>(List.mem_erase_of_ne (λ e=>d (by rw[<- e];exact c))).2 (a y (by simp[c]));rw[Po b] at g;have:0<m.length:=Pz b;simp only[Nh];omega
def kQ(W:LN_):LI_:=W.map λ (i:Nat)=>(i:Int)
theorem eV(W:LN_):(kQ W).length=W.length:=by simp[kQ]
structure TB (n:Nat) (par:OV) (un:List fg):Prop where
 len:un.length=n+1
 at_:∀ (w:Nat) (row:fg),un[w]?=some row->∃ W:LN_,row.l=kQ W/\W.Nodup/\∀ v,v∈W↔v<=n/\par v=some w
theorem TB.get{n:Nat}{par:OV}{un:List fg}(h:TB n par un){w:Nat}(hw:w<=n):∃ (A:OA_) (c:Nat) (W:LN_),un[w]?=some ⟨A,c,kQ W⟩/\W.Nodup/\(∀ v,v∈W↔v<=n/\par v=some w)/\W.length<=n+1:=by
 have hl:=h.len;obtain⟨row,a⟩:∃ row,un[w]?=some row:=⟨un[w]'aa,be aa⟩;obtain⟨W,b,d,e⟩:=h.at_ w row a;obtain⟨A,c,l⟩:=row;simp only at b;subst b;refine⟨A,c,W,a,d,e,?_⟩;have:=qr W (List.range (n+1)) d λ x f=>N8.2 (by have:=((e x).1 f).1;omega)
 rwa [Ot] at this
theorem TB.del{n:Nat}{par:OV}{un:List fg}(h:TB n par un){v w:Nat}{A:OA_}{c:Nat}{pre post:LN_}(i:un[w]?=some ⟨A,c,kQ (pre++v::post)⟩)(j:(pre++v::post).Nodup)(hm:∀ u,u∈pre++v::post↔u<=n/\par u=some w)(hw:par v=some w){k:OA_}{l:Nat}:TB n (bJ par v none) (un.set w ⟨k,l,kQ (pre++post)⟩):=by
 have d:=(Ng.1 i).1;obtain⟨d1,d2,d3⟩:=Nz.1 j;obtain⟨d4,d5⟩:=NJ.1 d2;have a:v∉pre:=λ f=>d3 v f v ai rfl;refine⟨by rw[NO];exact h.len,λ z row b=>?_⟩;by_cases e:w=z
 ·subst e;rw[List.getElem?_set_self d] at b;simp only[Option.some.injEq] at b;subst b;refine⟨pre++post,rfl,List.nodup_append.2 ⟨d1,d5,fun x f y m=>d3 x f y (by simp[m])⟩,fun u=>?_⟩;have:=hm u;simp only[List.mem_append,List.mem_cons] at this ⊢;by_cases e:u=v
  ·subst e;simp[bJ,a,d4]
  ·simp only[bJ,e,PJ,false_or] at this ⊢;exact this
 ·rw[Ns e] at b;obtain⟨W,o,p,q⟩:=h.at_ z row b;refine⟨W,o,p,λ u=>?_⟩;rw[q u];by_cases g:u=v
  ·subst g;simp[bJ,hw,e]
  ·simp[bJ,g]
theorem TB.add{n:Nat}{par:OV}{un:List fg}(h:TB n par un){v w:Nat}{A:OA_}{c:Nat}{W:LN_}(j:un[w]?=some ⟨A,c,kQ W⟩)(k:W.Nodup)(hm:∀ u,u∈W↔u<=n/\par u=some w)(l:v<=n)(g:par v=none){m:OA_}{o:Nat}:TB n (bJ par v (some w)) (un.set w ⟨m,o,kQ (W++[v])⟩):=by
 have b:=(Ng.1 j).1;have d:v∉W:=λ f=>by have:=((hm v).1 f).2;rw[g] at this;cases this
 refine⟨by rw[NO];exact h.len,λ z row a=>?_⟩;by_cases e:w=z
 ·subst e;rw[List.getElem?_set_self b] at a;simp only[Option.some.injEq] at a;subst a;refine⟨W++[v],rfl,List.nodup_append.2 ⟨k,ai,fun x f y p=>by rw[List.mem_singleton.1 p];rintro rfl;exact d f⟩,fun u=>?_⟩;simp only[List.mem_append,List.mem_singleton,hm u];by_cases e:u=v
  ·subst e;simp[bJ,l]
  ·simp[bJ,e]
 ·rw[Ns e] at a;obtain⟨W,q,r,s⟩:=h.at_ z row a;refine⟨W,q,r,λ u=>?_⟩;rw[s u];by_cases i:u=v
  ·subst i;simp[bJ,g,e]
  ·simp[bJ,i]
structure lJ (P:EP) (L:Nat->LN_) (gv:Nat->Nat) (rm0 tr:LI_) (pos:LN_) (par:OV) (val:Nat->Int) (s:ES):Prop where
 fa:∃ row,iJ (P.n+1) s.fs par val row
 ta:TA P L rm0 tr pos par val s.rm
 vo:tG P.rowsL gv pos s.vals
 tb:TB P.n par s.un
def ES.cost(s:ES):Nat:=s.k+s.fs.k
theorem yB{g c:Nat}{W:LN_}:bd 3 ⟨some ⟨g,0,none⟩,c,kQ W⟩=pj g W.length c W:=by
 unfold bd cT;simp only[eV];rfl
section
variable {P:EP} {L:Nat->LN_} {lv:Nat->Int} {gv:Nat->Nat} {rm0 tr:LI_} {pos:LN_} {par:OV} {val:Nat->Int}
def vG(P:EP)(s:ES)(bE bV v:Nat):Heap:=(P.fo s.fs++[P.sg,P.pc s.k s.w,P.rc s.rm,P.lc s.vals,P.uc s.un,blk bE 306 [.pointer (some ⟨P.pe,0,none⟩)],blk bV 3 [.int .i64 (v:Int)]])++P.rows s.un
theorem G5{X:Cx}{s:ES}{a b v:Nat}:ay X (blk b 3 [.int .i64 (v:Int)]::blk a 306 [.pointer (some ⟨P.pe,0,none⟩)]::([P.sg]++gZ P s)) (vG P s a b v):=
 ay.re (A:=[blk b 3 [af (v:Int)],blk a 306 [ap P.pe 0],P.sg]++(P.fo s.fs++[P.pc s.k s.w,P.rc s.rm,P.lc s.vals,P.uc s.un])) (R:=P.rows s.un) [3,4,5,6,2,7,8,9,10,1,0] rfl ab
theorem Bj{X:Cx}{s:ES}{a b v:Nat}:ay X (vG P s a b v) (gZ P s++[P.sg,blk a 306 [.pointer (some ⟨P.pe,0,none⟩)],blk b 3 [.int .i64 (v:Int)]]):=
 ay.mid (A:=P.fo s.fs++[P.sg,P.pc s.k s.w,P.rc s.rm,P.lc s.vals,P.uc s.un,blk a 306 [ap P.pe 0],blk b 3 [af (v:Int)]]) (R:=P.rows s.un) [0,1,2,3,5,6,7,8] [4,9,10] rfl rfl ab
theorem BU{X:Cx}{s:ES}{a b v:Nat}:ay X (gZ P s++[P.sg,blk a 306 [.pointer (some ⟨P.pe,0,none⟩)],blk b 3 [.int .i64 (v:Int)]]) (vG P s a b v):=by
 exact ay.trans (ay.swap (A:=P.fo s.fs++[P.pc s.k s.w,P.rc s.rm,P.lc s.vals,P.uc s.un]) (R:=P.rows s.un) (B:=[P.sg,blk a 306 [ap P.pe 0],blk b 3 [af (v:Int)]]))<|ay.re (A:=(P.fo s.fs++[P.pc s.k s.w,P.rc s.rm,P.lc s.vals,P.uc s.un])++[P.sg,blk a 306 [ap P.pe 0],blk b 3 [af (v:Int)]]) (R:=P.rows s.un) [0,1,2,3,8,4,5,6,7,9,10] rfl ab
theorem MM{A:Heap}{un:List fg}{v:Nat}{a:fg}(h:P.rowsL[v]?=some a):(A++P.rows un)[A.length+v]?=some (bd 3 a):=by
 rw[NB aa,NY];unfold EP.rows;rw[Nk,NZ (Ng.1 h).1,h];rfl
theorem yR{un:List fg}{w:Nat}{x:fg}:(P.rows un).set (P.rowsL.length+w) (bd 3 x)=P.rows (un.set w x):=by
 unfold EP.rows;rw[<- O1,OF _ _ aa,NY]
theorem EL{A A1:Heap}{un:List fg}{v:Nat}{a:fg}(ix:LN_)(h:Proofs.YtmcnpaelaieniaaGreatDoor.cK A ix=some A1)(b:P.rowsL[v]?=some a):Proofs.YtmcnpaelaieniaaGreatDoor.cK (A++P.rows un) (ix++[A.length+v])=some (A1++[bd 3 a]):=
 oQ (kw.2 ⟨_,[],MM b,rfl,rfl⟩) (lZ h).1
theorem Dm{A A1:Heap}{v:Nat}(ix:LN_)(h:Proofs.YtmcnpaelaieniaaGreatDoor.cK A ix=some A1)(a:ix.Nodup):(ix++[A.length+v]).Nodup:=
 Nz.2 ⟨a,ai,λ x b y c=>by have:=(lZ (R:=[]) h).2 x b;rw[Ni.1 c];omega⟩
theorem wx(hP:mX P L lv gv)(s:ES)(u:lJ P L gv rm0 tr pos par val s){v w q r:Nat}(hv:v<=P.n)(hw:par v=some w)(hq:pos[v]?=some q)(hr:(L v)[q]?=some r)(h2:gR P.N r=w)(y:val v=tr.getD r 0):
 Fn 256 [.pointer (some ⟨P.pe,0,none⟩),.int .i64 (v:Int)] (aC (gZ P s)) ([P.sg]++gZ P s)
  λ _ H'=>∃ s',H'=gZ P s'/\lJ P L gv rm0 tr (pos.set v (q+1)) (bJ par v none) (iN val v (4611686018427387904-val v)) s'/\s'.w=s.w/\s'.cost<=s.cost+2*em (P.n+1)+12*(P.n+1)+1:=by
 have hN:=hP.small;have hvN:v<P.n+1:=aa;obtain⟨row,hF⟩:=u.fa;obtain⟨h3,c',z,hvv,hy,hA,hb,hz,hf⟩:=CG hP u.vo hv hq hr;have hvl:v<s.vals.length:=(Ng.1 hvv).1;have hn:=Nb hr;have D:=(iQ hP hn).1;have E:=jM hP.right D;rw[h2] at E;have h0:w<=P.n:=by have:=hP.nodes;omega
 obtain⟨Aw,cw,W,C,F,H,hH⟩:=u.tb.get h0;obtain⟨pre,post,rfl⟩:=Pc ((H v).2 ⟨hv,hw⟩)
 generalize hM:aC _=M
 refine aT Tryz.func256 λ w0=>?_;refine bu ?_;refine cY λ e=>?_;refine cY λ f=>?_;refine ah<|bS G5<|cq ?_;have I:=EL (A:=P.fo s.fs++[P.sg,P.pc s.k s.w,P.rc s.rm,P.lc s.vals,P.uc s.un,blk e 306 [ap P.pe 0],blk f 3 [af (v:Int)]]) (un:=s.un) [4,5,7,9,10] rfl z;have O:=Dm (A:=P.fo s.fs++[P.sg,P.pc s.k s.w,P.rc s.rm,P.lc s.vals,P.uc s.un,blk e 306 [ap P.pe 0],blk f 3 [af (v:Int)]]) (v:=v) [4,5,7,9,10] rfl ab;refine bM 19 (dT [0,1,2,3,4,5,6,7,8,9,10,11,12]++[(13,false)]++dT [14,15,16,17,18]) _ aX O I<|Id ?_;refine aG [999] rfl (bn rfl hvN) rfl<|aG [999] rfl (aw 2 rfl rfl rfl hvv) rfl<|aG [999] rfl (gq rfl (m:=0) aa) rfl<|aG [999] rfl (tO rfl rfl (i:=5) rfl rfl hz hb) rfl<|cz ?_;refine cj (jz P.N P.A P.c P.b P.o hP.arcs hP.right.len r D) rfl ⟨⟨4,_,by simp[vG],rfl,bq _ _ _,cC⟩,an⟩ ?_;refine ah ⟨⟨_,O,I⟩,?_⟩;refine Id ?_;refine gA ?_;refine bD 5 (v':=af (w:Int)) rfl (Na (Value.int .i64) E.1) ?_;show J _ _ _ _ (vG P s e f v);refine bu ?_
 (repeat' (first|refine cE (gs:=[999]) rfl ?_|refine ae [999] (ad 5 rfl) rfl ?_|refine ae [999] (ad 9 rfl) rfl ?_|refine ae [999] (ad 10 rfl) rfl ?_))
 refine dI (wy hP s u.ta hF u.vo hv hw hq hr y) rfl Bj ⟨bz 0 rfl,an⟩ ?_;rintro _ H' ⟨d,Q,rfl,hc,ht⟩;refine⟨dl rfl (dd _ _),?_⟩;refine cD BU<|fC ?_;refine fZ 15 [0,1,2,3,4,5,6,7,8,9,10,11,12,13] 14 [] aX ?_
 (repeat' (first|refine js (gs:=[999]) rfl rfl ?_|refine cV [999] rfl rfl (ad 5 rfl) rfl ?_|refine cV [999] rfl rfl (ad 9 rfl) rfl ?_|refine cV [999] rfl rfl (ad 10 rfl) rfl ?_))
 refine KD ?_;obtain⟨a,g⟩:∃ x,x=s.vals.set v (.slice (fA (aL (gv v) q) c' 1 1) (h3.l.length-q-1) (c'-1)):=⟨_,rfl⟩;refine bS (K:=vG P { s with fs:=d,rm:=s.rm.set r (val v),k:=s.k+1,vals:=a } e f v) (by rw[g];exact ay.refl) ?_;have h4:=hP.rl;have hj:=u.tb.len;have hs:w<s.un.length:=aa;refine bS (ay.front (A:=P.fo d++[P.sg,P.pc (s.k+1) s.w,P.rc (s.rm.set r (val v)),P.lc a,P.uc s.un,blk e 306 [ap P.pe 0],blk f 3 [af (v:Int)]]) (R:=P.rows s.un) (i:=P.rowsL.length+w) (c:=bd 3 ⟨Aw,cw,kQ (pre++v::post)⟩) (by unfold EP.rows;rw[Nk,NB aa,NY,C];rfl)) ?_;refine aR (aH 0 rfl) λ ⟨_,S,ha,_⟩=>?_;obtain⟨p,rfl⟩:=ha (by rw[eV];simp;omega);rw[yB];rw[eV] at S;obtain⟨R,hR⟩:∃ R,R=(P.rows s.un).eraseIdx (P.rowsL.length+w):=⟨_,rfl⟩;rw[<- hR];refine bS (K:=(P.fo d++[P.sg,P.pc (s.k+1) s.w,P.rc (s.rm.set r (val v)),P.lc a,P.uc s.un,blk e 306 [ap P.pe 0],blk f 3 [af (v:Int)],pj p (pre++v::post).length cw (pre++v::post)])++R) (ay.re (A:=pj p (pre++v::post).length cw (pre++v::post)::(P.fo d++[P.sg,P.pc (s.k+1) s.w,P.rc (s.rm.set r (val v)),P.lc a,P.uc s.un,blk e 306 [ap P.pe 0],blk f 3 [af (v:Int)]])) (R:=R) [1,2,3,4,5,6,7,8,9,10,11,0] rfl ab) ?_
 have U:∀ {kk:Nat} {W:LN_} {X:Cx},ay X ((P.fo d++[P.sg,P.pc kk s.w,P.rc (s.rm.set r (val v)),P.lc a,P.uc s.un,blk e 306 [ap P.pe 0],blk f 3 [af (v:Int)],pj p W.length cw W])++R)
  ([.seg P.pe 0 ((LK P 0 0).take 9),P.uc s.un,blk e 306 [ap P.pe 0],blk f 3 [af (v:Int)]]++R):=by
  intro kk W X;refine ay.trans (ay.re (A1:=[P.pc kk s.w,P.uc s.un,blk e 306 [ap P.pe 0],blk f 3 [af (v:Int)]]) [5,8,9,10] rfl ab)<|ay.seg (off:=0) 0 rfl λ i v hi=>?_;rw[NR];have V:i<9:=by have:=(Ng.1 hi).1;simpa [LK] using this
  rw[P3,if_pos V] at hi;rw[<- hi]
  match i,V with
  |0,_=>rfl
  |1,_=>rfl
  |2,_=>rfl
  |3,_=>rfl
  |4,_=>rfl
  |5,_=>rfl
  |6,_=>rfl
  |7,_=>rfl
  |8,_=>rfl
 refine Ju 15 (dT [0,1,2,3,4,5,6,7,8,9,10,11,12]++[(13,false)]++dT [14]) aX (U (W:=pre++v::post)) ?_
 (repeat' (first|refine eJ (gs:=[999]) rfl rfl ?_|refine aG [999] rfl (aZ (i:=7) 0 rfl rfl rfl) rfl ?_|refine aG [999] rfl (ad 2 rfl) rfl ?_|refine aG [999] rfl (bn rfl (show w<P.n+1 by omega)) rfl ?_))
 have Y:(s.un.map cT)[w]?=some (ax p 0 (pre++v::post).length cw):=by
  rw[Nk,C];show some (Value.slice _ (kQ (pre++v::post)).length _)=_;rw[eV]
 refine aG [999] rfl (aw 1 rfl rfl rfl Y) rfl<|eJ (gs:=[999]) rfl rfl<|J2 rfl<|?_
 have Z:v∉pre/\v∉post:=by
  obtain⟨_,d2,d3⟩:=Nz.1 F;exact⟨λ hx=>d3 v hx v ai rfl,(NJ.1 d2).1⟩
 refine bK (K:=P.fo d++[P.sg,P.rc (s.rm.set r (val v)),P.lc a,P.uc s.un,blk e 306 [ap P.pe 0],blk f 3 [af (v:Int)]]++R) [999] (EH P (s.k+1) s.w e f v pre post Z.1 Z.2 p (pre++v::post).length cw rfl aa S) rfl rfl rfl rfl aX
  (ay.re (A:=P.fo d++[P.sg,P.pc (s.k+1) s.w,P.rc (s.rm.set r (val v)),P.lc a,P.uc s.un,blk e 306 [ap P.pe 0],blk f 3 [af (v:Int)],pj p (pre++v::post).length cw (pre++v::post)]) (R:=R) [5,11,0,1,2,3,4,6,7,8,9,10] rfl ab) ⟨ew 8 rfl,ew 9 rfl,an⟩ aK ?_
 rintro _ H' ⟨rfl,rfl⟩;refine dw ?_;obtain⟨B,hk⟩:∃ x,x=s.k+1+(pre++v::post).length:=⟨_,rfl⟩;rw[<- hk]
 refine cD (K:=(P.fo d++[P.sg,P.pc B s.w,P.rc (s.rm.set r (val v)),P.lc a,P.uc s.un,blk e 306 [ap P.pe 0],blk f 3 [af (v:Int)],pj p (pre.length+post.length) cw (pre++post)])++R)
  (ay.re (A:=[P.pc B s.w,pj p (pre.length+post.length) cw (pre++post)]++(P.fo d++[P.sg,P.rc (s.rm.set r (val v)),P.lc a,P.uc s.un,blk e 306 [ap P.pe 0],blk f 3 [af (v:Int)]])) (R:=R) [2,3,4,5,6,0,7,8,9,10,11,1] rfl ab) ?_
 rw[show pre.length+post.length=(pre++post).length by simp];refine ah ⟨U (W:=pre++post),?_⟩;refine aG [999] rfl (bn rfl (show w<P.n+1 by omega)) rfl<|cM<|aW 8 rfl rfl rfl rfl (fz rfl rfl rfl (by rw[Nm];exact hs)) [] rfl<|?_;obtain⟨j,t⟩:∃ x,x=s.un.set w ⟨aL p 0,cw,kQ (pre++post)⟩:=⟨_,rfl⟩
 rw[show (s.un.map cT).set w (ax p 0 (pre++post).length cw)=j.map cT from by
  rw[t,O1];unfold cT;simp only[eV]]
 have h1:∀ {X:Cx},ay X ((P.fo d++[P.sg,P.pc B s.w,P.rc (s.rm.set r (val v)),P.lc a,P.uc j,blk e 306 [ap P.pe 0],blk f 3 [af (v:Int)],pj p (pre++post).length cw (pre++post)])++R)
  (gZ P ⟨a,j,d,s.rm.set r (val v),B,s.w⟩):=by
  intro X;refine ay.trans (ay.re (A1:=pj p (pre++post).length cw (pre++post)::(P.fo d++[P.pc B s.w,P.rc (s.rm.set r (val v)),P.lc a,P.uc j])) [11,0,1,2,3,5,6,7,8] rfl ab) ?_;rw[hR,<- yB];refine ay.trans (ay.back (A:=P.fo d++[P.pc B s.w,P.rc (s.rm.set r (val v)),P.lc a,P.uc j]) (by unfold EP.rows;rw[Nm,Nj];omega)) ?_;rw[yR,<- t];exact ay.refl
 refine cD h1<|ah<|⟨_,rfl,⟨a,j,d,s.rm.set r (val v),B,s.w⟩,rfl,⟨⟨Q,hc⟩,(u.ta.settle hP hv hw hq hr y).bump (by simp[bJ]),?_,?_⟩,rfl,?_⟩
 ·rw[g];exact u.vo.bump z hq hA hy
 ·rw[t];exact u.tb.del C F H hw
 ·show B+d.k<=s.k+s.fs.k+_+_+1;omega
end
section
variable {P:EP} {L:Nat->LN_} {lv:Nat->Int} {gv:Nat->Nat} {rm0 tr:LI_} {pos:LN_} {par:OV} {val:Nat->Int}
def Mj(P:EP)(L:Nat->LN_)(gv:Nat->Nat)(rm0 tr:LI_)(pos:LN_)(par:OV)(val:Nat->Int)(s:ES)(v:Nat)(b:Bool)(s':ES):Prop:=
 ∃ pos',PI P.N L P.least tr pos' []/\s'.w=s.w/\dy L P.n pos'<=dy L P.n pos/\
   ((b=true/\∃ q r,pos'[v]?=some q/\(L v)[q]?=some r/\P.least<=tr.getD r 0/\lJ P L gv rm0 tr pos' (bJ par v (some (gR P.N r))) (iN val v (tr.getD r 0-4611686018427387904)) s'/\s'.cost+dy L P.n pos'<=s.cost+dy L P.n pos+4*em (P.n+1)+12*(P.n+1)+1)\/
    (b=false/\rh L pos' v/\lJ P L gv rm0 tr pos' par val s'/\s'.cost+dy L P.n pos'<=s.cost+dy L P.n pos))
theorem J9(hP:mX P L lv gv)(s:ES)(hI:lJ P L gv rm0 tr pos par val s)(hPI:PI P.N L P.least tr pos []){v:Nat}(hv:v<=P.n)(hvn:par v=none):
 Fn 242 [.pointer (some ⟨P.pe,0,none⟩),.int .i64 (v:Int)] (aC (gZ P s)) ([P.sg]++gZ P s)
  λ x H'=>∃ b s',x=.bool b/\H'=gZ P s'/\Mj P L gv rm0 tr pos par val s v b s':=by
 have hN:=hP.small;have hvN:v<P.n+1:=aa
 generalize hM:aC _=M
 refine aT Tryz.func242 λ w0=>?_;refine ao ?_;refine bS oB<|gK ?_;refine cA (σ:=LN_×ES) (λ _=>[(1,af (v:Int)),(0,ap P.pe 0)]) (λ t=>sv P t.2) (λ t=>lJ P L gv rm0 tr t.1 par val t.2/\PI P.N L P.least tr t.1 []/\t.2.w=s.w/\dy L P.n t.1<=dy L P.n pos/\t.2.cost+dy L P.n t.1<=s.cost+dy L P.n pos) (λ t=>dy L P.n t.1) (pos,s) a7 ay.refl ⟨hI,hPI,rfl,Nr _,Nr _⟩ ?_;rintro⟨pos1,s1⟩ ⟨hI1,hPI1,hw1,hr1,hk1⟩;simp only at hI1 hPI1 hw1 hr1 hk1 ⊢;obtain⟨q,hq⟩:=hI1.ta.pos_at hv;have hrl0:=hP.rl;obtain⟨rw_,hrow⟩:∃ rw_,P.rowsL[v]?=some rw_:=⟨P.rowsL[v]'aa,be aa⟩;obtain⟨A',c',hvv,hlc,hA'⟩:=hI1.vo.at_ v rw_ q hrow hq;have hvl:v<s1.vals.length:=(Ng.1 hvv).1;have hrwl:=hP.rows v rw_ hrow;have hrlen:rw_.l.length<=4000:=by rw[hrwl,Nm];exact hP.len v
 refine Ga ?_;refine ae [999] (aw 7 rfl rfl rfl hvv) rfl<|ng ?_;refine fC ?_;refine ak rfl (λ hlt=>ag ?_) (λ hge=>aO ?_)
 ·have hql:q<rw_.l.length:=by omega
  obtain rfl:=hA' hql;obtain⟨r,hr⟩:∃ r,(L v)[q]?=some r:=⟨(L v)[q]'(by rw[hrwl,Nm] at hql;exact hql),be _⟩;have hrl:rw_.l[q]?=some (r:Int):=by rw[hrwl,Nk,hr];rfl
  have hrA:=hP.at_ v rw_ hrow (fun e=>by have:rw_.l.length=0:=by rw[← bY,e];rfl
                                         omega)
  have hrm:=Nb hr;have hr2:=(iQ hP hrm).1;have hte:=jM hP.right hr2;have htn:gR P.N r<=P.n:=by have:=hP.nodes;omega
  have hrr:s1.rm.getD r 0=tr.getD r 0:=hI1.ta.lead v r hrm (λ _ h=>absurd hvn h);have htb:=hI1.ta.trb r;have hAr:=hP.room hr2
  have hri:(aj s1.rm)[r]?=some (af (tr.getD r 0)):=by
   have hl:r<s1.rm.length:=by rw[hI1.ta.rml];exact hr2
   refine ep ?_;rw[<- hrr,Nf,be hl];rfl
  refine aq ?_
  (repeat' (first|refine am ?_|refine ag ?_|refine bF rfl ?_|refine bo rfl ?_))
  refine aE ?_
  (repeat' (first|refine cE (gs:=[999]) rfl ?_|refine ae [999] (ad 5 rfl) rfl ?_))
  refine cD (ay.re (A:=P.fo s1.fs++[P.sg,P.pc s1.k s1.w,P.rc s1.rm,P.lc s1.vals,P.uc s1.un]) (R:=P.rows s1.un) [5,0,1,2,3,4,6,7,8] rfl ab)<|bK [999] (mS P s1.k s1.w) rfl rfl rfl rfl aX ay.refl an aK<|?_;rintro v0 H' rfl;refine⟨rfl,?_⟩;refine cD (ay.re (A:=[P.pc (s1.k+1) s1.w]++(P.fo s1.fs++[P.sg,P.rc s1.rm,P.lc s1.vals,P.uc s1.un])) (R:=P.rows s1.un) [1,2,3,4,5,0,6,7,8] rfl ab)<|ah<|?_;obtain⟨s2,hs2⟩:∃ x:ES,x={ s1 with k:=s1.k+1 }:=⟨_,rfl⟩;refine bS (K:=sv P s2) (by rw[hs2];exact ay.refl) ?_;have hI2:lJ P L gv rm0 tr pos1 par val s2:=by rw[hs2];exact⟨hI1.fa,hI1.ta,hI1.vo,hI1.tb⟩
  have hk2:s2.cost=s1.cost+1:=by rw[hs2];show s1.k+1+s1.fs.k=s1.k+s1.fs.k+1;omega
  have hw2:s2.w=s.w:=by rw[hs2];exact hw1
  have hrm2:s2.rm=s1.rm:=by rw[hs2]
  have hva2:s2.vals=s1.vals:=by rw[hs2]
  rw[<- hrm2] at hri;rw[<- hva2] at hvv hvl
  clear hs2
  (repeat' (first|refine am ?_|refine ag ?_|refine bF rfl ?_|refine bo rfl ?_))
  refine aE ?_
  (repeat' (first|refine cE (gs:=[999]) rfl ?_|refine ae [999] (ad 5 rfl) rfl ?_))
  refine ae [999] (bn rfl hvN) rfl<|ae [999] (aw 7 rfl rfl rfl hvv) rfl<|ae [999] (gq rfl (m:=0) aa) rfl<|ae [999] (tO rfl rfl (IH hrow) rfl hrA hrl) rfl<|ng ?_;refine fC ?_;refine bM 12 (dT [0,1,2,3,4,5,6,7,8,9,10,11]) [5,6] aX ab rfl ?_
  (repeat' (first|refine eJ (gs:=[999]) rfl rfl ?_|refine aG [999] rfl (ad 0 rfl) rfl ?_|refine aG [999] rfl (ic (b:=P.gr) (n:=2*P.N.arcs.length) (c:=P.cr) rfl (Na (λ A=>some (Value.slice A (2*P.N.arcs.length) P.cr)) hAr) rfl rfl rfl hr2) rfl ?_|refine aG [999] rfl (aw (g:=P.gr) (n:=2*P.N.arcs.length) (cap:=P.cr) 1 rfl rfl (Na (λ A=>some (aY.own (.slice A (2*P.N.arcs.length) P.cr) 2 1 (2*P.N.arcs.length) (aj s2.rm))) hAr) hri) rfl ?_))
  refine cM<|fC ?_;refine ak rfl (λ hsm=>?_) (λ hbig=>ag ?_)
  ·refine cq ?_;refine fZ 15 [0,1,2,3,4,5,6,7,8,9,10,11,12,13] 14 [] aX<|C4 ?_;refine KD ?_;obtain⟨vals',hvals'⟩:∃ x,x=s2.vals.set v (.slice (fA (aL (gv v) q) c' 1 1) (rw_.l.length-q-1) (c'-1)):=⟨_,rfl⟩;have hrem:=jr (L:=L) hq hv (by rw[hrwl,List.length_map] at hql;exact hql);refine aO ?_;refine⟨(pos1.set v (q+1),{ s2 with vals:=vals' }),a7,by rw[hvals'];exact ay.refl,⟨⟨hI2.fa,hI2.ta.bump hvn,by rw[hvals'];exact hI2.vo.bump hrow hq hql hlc,hI2.tb⟩,hPI1.bump (fun _ h=>by cases h) hq hr (.inl hsm),hw2,?_,?_⟩,?_⟩
   ·show dy L P.n (pos1.set v (q+1))<=_;omega
   ·show s2.cost+_<=_;simp only;omega
   ·show dy L P.n (pos1.set v (q+1))<dy L P.n pos1;omega
  ·refine ig ?_;refine cj (jz P.N P.A P.c P.b P.o hP.arcs hP.right.len r hr2) rfl ⟨⟨4,_,by simp[sv],rfl,bq _ _ _,cC⟩,trivial⟩ ?_;refine ng ?_;refine ah<|bD 7 (v':=af (gR P.N r:Int)) rfl (congrArg (Value.int .i64) hte.1)<|cq ?_;refine bM 14 (dT [0,1,2,3,4,5,6,7,8,9,10,11,12]++[(13,false)]) [5,6] aX ab rfl ?_
   (repeat' (first|refine eJ (gs:=[999]) rfl rfl ?_|refine aG [999] rfl (ad 0 rfl) rfl ?_|refine aG [999] rfl (ic (b:=P.gr) (n:=2*P.N.arcs.length) (c:=P.cr) rfl (Na (λ A=>some (Value.slice A (2*P.N.arcs.length) P.cr)) hAr) rfl rfl rfl hr2) rfl ?_|refine aG [999] rfl (aw (g:=P.gr) (n:=2*P.N.arcs.length) (cap:=P.cr) 1 rfl rfl (Na (λ A=>some (aY.own (.slice A (2*P.N.arcs.length) P.cr) 2 1 (2*P.N.arcs.length) (aj s2.rm))) hAr) hri) rfl ?_))
   refine dK 75 (v':=af (tr.getD r 0-4611686018427387904)) rfl (Na (Value.int .i64) (cp aa))<|cz ?_;obtain⟨row2,hF2⟩:=hI2.fa;have hvfr:=hI2.ta.free v hv hvn;refine dI (CD hF2 hN hvN (p:=[v]) ⟨rfl,hvn⟩ (d:=tr.getD r 0-4611686018427387904) aa (by intro y hy;rw[Ni.1 hy];omega)) rfl ay.refl an ?_;rintro _ H' ⟨fs3,row3,rfl,hF3,hk3⟩;refine⟨rfl,b6 [5,6] ?_⟩;refine gA ?_;obtain⟨p,hp⟩:=hF3.path (gR P.N r) aa
   have hvp:v∉p:=λ hin=>by
    have h1:=(hI2.ta.path_lv hP hp htn v hin).1;have h2:=(iQ hP hrm).2.2;omega
   refine ig ?_;refine dI (Lv hF3 hN hvN (show gR P.N r<P.n+1 by omega) hvn hp hvp) rfl ay.refl an ?_;rintro _ H' ⟨fs4,row4,rfl,hF4,hk4⟩;refine dw ?_;refine ng ?_;refine ah ?_;obtain⟨w,hw⟩:∃ w,gR P.N r=w:=⟨_,rfl⟩;rw[hw] at hF4 htn;rw[hw];obtain⟨Aw,cw,W,hun,hWd,hWm,hWl⟩:=hI2.tb.get htn;have hul:=hI2.tb.len;have hwu:w<s2.un.length:=aa;obtain⟨rw2,hrw2⟩:∃ x:fg,x=⟨Aw,cw,kQ W⟩:=⟨_,rfl⟩;have hrw2l:rw2.l=kQ W:=by rw[hrw2]
   have hrw2n:rw2.l.length<=10000:=by rw[hrw2l,eV];omega
   have hun2:s2.un[w]?=some rw2:=by rw[hrw2];exact hun
   obtain⟨R,hR⟩:∃ R,R=(P.rows s2.un).eraseIdx (P.rowsL.length+w):=⟨_,rfl⟩
   refine bS (K:=bd 3 rw2::((P.fo fs4++[P.sg,P.pc s2.k s2.w,P.rc s2.rm,P.lc s2.vals,P.uc s2.un])++R)) (by
    rw[hR];exact ay.front (A:=P.fo fs4++[P.sg,P.pc s2.k s2.w,P.rc s2.rm,P.lc s2.vals,P.uc s2.un]) (R:=P.rows s2.un) (i:=P.rowsL.length+w) (c:=bd 3 rw2) (by unfold EP.rows;rw[Nk,NB aa,NY,hun2];rfl)) ?_
   refine cq ?_;refine bM 16 (dT [0,1,2,3,4,5,6,7,8,9,10,11,12]++[(13,false),(14,false)]++dT [15]) [6,9] aX ab rfl ?_
   (repeat' (first|refine eJ (gs:=[999]) rfl rfl ?_|refine aG [999] rfl (ad 0 rfl) rfl ?_|refine aG [999] rfl (bn rfl (show w<P.n+1 by omega)) rfl ?_|refine aG [999] rfl (aw (v:=cT rw2) 1 rfl rfl rfl (show (s2.un.map cT)[w]?=some (cT rw2) by rw[Nk,hun2];rfl)) rfl ?_))
   refine cz ?_;refine dp λ g2=>?_;refine b6 [7,10]<|cz ?_;refine bx (n:=rw2.l.length) (m:=1) (off:=0) (news:=aj [(v:Int)]) 1 0 rfl rfl rfl rfl rfl rfl ab rfl rfl (aS g2 _ _ (0,0)) aK rfl rfl aa aa (λ _ _=>rfl) λ A2 c2=>?_;rw[show rw2.l.length+1=(rw2.l++[(v:Int)]).length by simp,show aj rw2.l++aj [(v:Int)]=aj (rw2.l++[(v:Int)]) by simp[aj]];refine b6 [7,10]<|bh rfl (bn rfl (show w<P.n+1 by omega)) ?_;refine cM<|aW 10 rfl rfl rfl rfl (fz rfl rfl rfl (by rw[Nm];exact hwu)) [] rfl<|ah<|?_;obtain⟨un',hun'⟩:∃ x,x=s2.un.set w ⟨A2,c2,rw2.l++[(v:Int)]⟩:=⟨_,rfl⟩
   have hfin:∀ {X:Cx} {c0:aY},ay X (c0::bd 3 ⟨A2,c2,rw2.l++[(v:Int)]⟩::((P.fo fs4++[P.sg,P.pc s2.k s2.w,P.rc s2.rm,P.lc s2.vals,P.uc un'])++R)) (gZ P ⟨s2.vals,un',fs4,s2.rm,s2.k,s2.w⟩):=by
    intro X c0;refine ay.trans (ay.re (A:=c0::bd 3 ⟨A2,c2,rw2.l++[(v:Int)]⟩::(P.fo fs4++[P.sg,P.pc s2.k s2.w,P.rc s2.rm,P.lc s2.vals,P.uc un'])) (A1:=bd 3 ⟨A2,c2,rw2.l++[(v:Int)]⟩::(P.fo fs4++[P.pc s2.k s2.w,P.rc s2.rm,P.lc s2.vals,P.uc un'])) [1,2,3,4,5,7,8,9,10] rfl ab) ?_;rw[hR];refine ay.trans (ay.back (A:=P.fo fs4++[P.pc s2.k s2.w,P.rc s2.rm,P.lc s2.vals,P.uc un']) (by unfold EP.rows;rw[Nm,Nj];omega)) ?_;rw[yR,<- hun'];exact ay.refl
   rw[show (s2.un.map cT).set w (.slice A2 (rw2.l++[(v:Int)]).length c2)=un'.map cT from by rw[hun',O1];rfl];refine bS hfin<|ao ?_;refine bN ⟨_,rfl,true,⟨s2.vals,un',fs4,s2.rm,s2.k,s2.w⟩,rfl,rfl,pos1,hPI1,hw2,hr1,.inl ⟨rfl,q,r,hq,hr,aa,?_,?_⟩⟩
   ·have hh:=hI2.ta.hook hP hv hvn hq hr;have hrr2:s2.rm.getD r 0=tr.getD r 0:=hI2.ta.lead v r hrm (λ _ h=>absurd hvn h);rw[hrr2,hw] at hh;rw[hw];exact⟨⟨row4,hF4⟩,hh,hI2.vo,by rw[hun',hrw2l,show kQ W++[(v:Int)]=kQ (W++[v]) by simp[kQ]];exact hI2.tb.add hun hWd hWm hv hvn⟩
   ·show s2.k+fs4.k+_<=_;have:s2.cost=s2.k+s2.fs.k:=rfl;omega
 ·refine ao ?_;refine bS qR (bN ⟨_,rfl,false,s1,rfl,rfl,pos1,hPI1,hw1,hr1,.inr ⟨rfl,λ p hp=>?_,hI1,hk1⟩⟩);rw[hq] at hp;simp only[Nc] at hp;subst hp;rw[hrwl,Nm] at hge;omega
end
def kb(par:OV)(n:Nat):Nat:=((List.range (n+1)).map λ v=>if (par v).isSome then 1 else 0).sum
theorem xp{par:OV}{n v w:Nat}(a:v<=n)(hw:par v=some w):kb (bJ par v none) n+1=kb par n:=by
 unfold kb;refine la (v:=v) OU (N8.2 aa) (λ u _ hu=>by simp[bJ,hu]) ?_;simp[bJ,hw]
theorem Hm{par:OV}{n v w:Nat}(b:v<=n)(a:par v=none):kb (bJ par v (some w)) n=kb par n+1:=by
 unfold kb;refine (la (v:=v) (f:=λ v=>if (par v).isSome then 1 else 0) (g:=λ u=>if (bJ par v (some w) u).isSome then 1 else 0) OU (N8.2 aa) (λ u _ hu=>by simp[bJ,hu]) ?_).symm;simp[bJ,a]
theorem u6(par:OV)(n:Nat):kb par n<=n+1:=by
 unfold kb
 have:∀ l:LN_,(l.map λ v=>if (par v).isSome then 1 else 0).sum<=l.length:=by
  intro l
  induction l with
  |nil=>simp
  |cons a l b=>
   simp only[Nv,ND,Nh];split<;>omega
 have h:=this (List.range (n+1))
 rwa [Ot] at h
def Sub(par par':OV)(val val':Nat->Int):Prop:=∀ u w,par' u=some w->par u=some w/\val' u=val u
theorem Sub.refl{par:OV}{val:Nat->Int}:Sub par par val val:=λ _ _ h=>⟨h,rfl⟩
theorem Sub.cut{par par':OV}{val a:Nat->Int}(h:Sub par par' val a){v:Nat}{d:Int}:Sub par (bJ par' v none) val (iN a v d):=by
 intro u w hu;by_cases e:u=v
 ·subst e;simp[bJ] at hu
 ·have b:=h u w (by simpa [bJ,e] using hu);exact⟨b.1,by rw[<- b.2];simp[iN,e]⟩
section
variable {P:EP} {L:Nat->LN_} {lv:Nat->Int} {gv:Nat->Nat} {rm0 tr:LI_} {pos:LN_} {par:OV} {val:Nat->Int}
def pz(P:EP)(s:ES)(c:aY):Heap:=(P.fo s.fs++[P.sg,P.pc s.k s.w,P.rc s.rm,P.lc s.vals,P.uc s.un,c])++P.rows s.un
theorem yH{X:Cx}{s:ES}{c:aY}:ay X (c::sv P s) (pz P s c):=
 ay.re (A:=c::(P.fo s.fs++[P.sg,P.pc s.k s.w,P.rc s.rm,P.lc s.vals,P.uc s.un])) (R:=P.rows s.un) [1,2,3,4,5,6,7,8,9,0] rfl ab
theorem uy{X:Cx}{s:ES}{c:aY}:ay X (pz P s c) (gZ P s++[P.sg,c]):=
 ay.mid (A:=P.fo s.fs++[P.sg,P.pc s.k s.w,P.rc s.rm,P.lc s.vals,P.uc s.un,c]) (R:=P.rows s.un) [0,1,2,3,5,6,7,8] [4,9] rfl rfl ab
theorem uF{X:Cx}{s:ES}{c:aY}:ay X (gZ P s++[P.sg,c]) (pz P s c):=by
 exact ay.trans (ay.swap (A:=P.fo s.fs++[P.pc s.k s.w,P.rc s.rm,P.lc s.vals,P.uc s.un]) (R:=P.rows s.un) (B:=[P.sg,c]))<|ay.re (A:=(P.fo s.fs++[P.pc s.k s.w,P.rc s.rm,P.lc s.vals,P.uc s.un])++[P.sg,c]) (R:=P.rows s.un) [0,1,2,3,8,4,5,6,7,9] rfl ab
theorem vK{X:Cx}{s:ES}{c:aY}:ay X (pz P s c) (gZ P s):=
 ay.re (A:=P.fo s.fs++[P.sg,P.pc s.k s.w,P.rc s.rm,P.lc s.vals,P.uc s.un,c]) (R:=P.rows s.un) [0,1,2,3,5,6,7,8] rfl ab
structure FV (P:EP) (L:Nat->LN_) (gv:Nat->Nat) (rm0 tr:LI_) (pos:LN_) (par:OV) (val:Nat->Int) (s:ES) (u:Nat) (pos':LN_) (par':OV) (val':Nat->Int) (s':ES):Prop where
 ti:lJ P L gv rm0 tr pos' par' val' s'
 pi:PI P.N L P.least tr pos' []
 sub:Sub par par' val val'
 rem:dy L P.n pos'+u=dy L P.n pos
 lk:kb par' P.n+u=kb par P.n
 w:s'.w=s.w
theorem Kk(hP:mX P L lv gv)(s:ES)(K:lJ P L gv rm0 tr pos par val s)(O:PI P.N L P.least tr pos []){v:Nat}(hv:v<=P.n)(hd:rh L pos v)(Q:v≠P.N.snk.toNat){v0:Nat}(R:v0<=P.n)(S:par v0=some v):
 Fn 243 [.pointer (some ⟨P.pe,0,none⟩),.int .i64 (v:Int)] (aC (gZ P s)) ([P.sg]++gZ P s)
  λ _ H'=>∃ u pos' par' B U,H'=gZ P U/\1<=u/\FV P L gv rm0 tr pos par val s u pos' par' B U/\U.cost<=s.cost+u*(2*em (P.n+1)+12*(P.n+1)+1):=by
 have hN:=hP.small;have hvN:v<P.n+1:=aa;obtain⟨A,c,W,k,V,l,hn⟩:=K.tb.get hv;have hc:=K.tb.len;have hb:=hP.rl
 generalize hM:aC _=M
 refine aT Tryz.func243 λ w0=>?_;refine bS oB<|aR (aH (9+(P.rowsL.length+v)) (CO k)) λ ⟨_,_,C,X⟩=>?_;obtain⟨g,C⟩:=bg C X;refine Ga ?_;refine ae [999] (aw (v:=.slice A (kQ W).length c) 8 rfl rfl rfl (show (s.un.map cT)[v]?=_ by rw[Nk,k];rfl)) rfl ?_;refine eW (oN A c g 0 (kQ W) (λ h=>C (by intro h0;apply h;exact Ny.1 (by rw[<- bY,h0];rfl))) (by rw[eV];omega)) rfl ⟨⟨9+(P.rowsL.length+v),_,ai,CO k,bC C,bW C⟩,an⟩ ?_;rintro _ H' ⟨Y,cc,rfl,rfl⟩;rw[eV];refine ng ?_;refine ah<|bS yH<|aR (aH 9 rfl) λ ⟨_,_,m,D⟩=>?_;obtain⟨gc,m⟩:=bg m D;have E:W≠[]->Y=aL gc 0:=λ h=>m (mf h);refine aq ?_
 refine cA (σ:=Nat×LN_×OV×(Nat->Int)×ES) (λ t=>[(15,af (t.1:Int)),(14,af (W.length:Int)),(13,.slice Y W.length cc),(0,ap P.pe 0)]) (λ t=>pz P t.2.2.2.2 (.own (.slice Y W.length cc) 3 1 W.length (cJ W)))
  (λ t=>t.1<=W.length/\FV P L gv rm0 tr pos par val s t.1 t.2.1 t.2.2.1 t.2.2.2.1 t.2.2.2.2/\t.2.2.2.2.cost<=s.cost+t.1*(2*em (P.n+1)+12*(P.n+1)+1)/\rh L t.2.1 v/\∀ j u,t.1<=j->W[j]?=some u->t.2.2.1 u=some v) (λ t=>W.length-t.1) (0,pos,par,val,s) a7 ay.refl
  ⟨Nl _,⟨K,O,Sub.refl,rfl,rfl,rfl⟩,ai,hd,λ j u _ hu=>((l u).1 (Nb hu)).2⟩ ?_
 rintro⟨i,a,b,d,s1⟩ ⟨hi,hC,h3,o,p⟩;simp only at hi hC h3 o p ⊢;refine iL ?_;refine ak rfl (λ hs=>ag ?_) (λ ha=>?_)
 ·have e:i<W.length:=by omega
  obtain⟨u,hu⟩:∃ u,W[i]?=some u:=⟨W[i],be e⟩;have f:=(l u).1 (Nb hu);have x:=p i u (Nr _) hu;obtain⟨q,r,I,Z,y,F⟩:=hC.ti.ta.link u v f.1 x;obtain rfl:=E (by intro h;rw[h] at e;simp at e);refine am (aq ?_);refine bu ?_;refine aF (bn rfl e) ?_;refine aF (aw 9 rfl rfl rfl (eH hu)) ?_;refine fP ?_;refine ng ?_;refine dI (wx hP s1 hC.ti f.1 x I Z y F) rfl uy ⟨bz 0 rfl,an⟩ ?_;rintro _ H' ⟨s2,rfl,hx,hR,hk⟩;refine⟨dl rfl (dd _ _),?_⟩;refine cD uF<|dv ?_;have hf:=jr (L:=L) I f.1 (Ng.1 Z).1;have h4:=xp f.1 x;have h1:=hC.rem;have h2:=hC.lk;refine⟨(i+1,a.set u (q+1),bJ b u none,iN d u (4611686018427387904-d u),s2),⟨?_,rfl,rfl,rfl,an⟩,ay.refl,⟨e,⟨hx,hC.pi.bump (λ _ h=>by cases h) I Z (.inr ⟨by rw[y];exact Q,by rw[y];exact o⟩),hC.sub.cut,by show dy L P.n (a.set u (q+1))+(i+1)=_;omega,by show kb (bJ b u none) P.n+(i+1)=_;omega,by rw[hR];exact hC.w⟩,?_,o.more I,λ j z hj hz=>?_⟩,?_⟩
  ·refine m0 ?_;rw[cp aa];rfl
  ·show s2.cost<=s.cost+(i+1)*_;rw[OQ,Nat.one_mul];omega
  ·have hy:z≠u:=by
    rintro rfl;have e1:=(Ng.1 hz);have e2:=(Ng.1 hu);have:=(List.getElem_inj V).1 (e1.2.trans e2.2.symm);simp only at hj;omega
   have:=p j z (by simp only at hj;omega) hz
   simpa [bJ,hy] using this
  ·simp only;omega
 ·obtain rfl:i=W.length:=by omega
  have H:0<W.length:=Pz ((l v0).2 ⟨R,S⟩);refine bS vK (aO ?_);exact⟨_,rfl,W.length,a,b,d,s1,rfl,H,hC,h3⟩
end
theorem jE.le{p:LN_}{val:Nat->Int}{y:Nat}(h:jE (dS p.reverse val) y (val y)):∀ z∈p,val y<=val z:=by
 obtain⟨A,B,a,b,c⟩:=h;intro z d;have hm:(z,val z)∈dS p.reverse val:=eX.2 ⟨by simpa using d,rfl⟩;rw[a,Np,Nn] at hm
 rcases hm with hm|hm|hm
 ·exact Int.le_of_lt (b _ hm)
 ·rw[N3] at hm;rw[hm.2];exact Ox _
 ·exact c _ hm
theorem a6.halves{par:OV}{v w x:Nat}{a:LN_}(b:par v=some w)(h:a6 par x a)(c:v∈a):∃ A B,a=A++v::w::B/\a6 (bJ par v none) x (A++[v])/\a6 (bJ par v none) w (w::B):=by
 obtain⟨A,B,rfl⟩:=Pc c;have d:=h.nodup;obtain⟨d1,d2,d3⟩:=Nz.1 d;have f:=h.tail
 cases B with
 |nil=>rw[f.2] at b;cases b
 |cons z B=>
  have g:=f.2.1;rw[b] at g;simp only[Nc] at g;subst g;refine⟨A,B,rfl,a6.cut (by simp[bJ]) h (λ y i=>?_),f.2.2.congr λ y i=>?_⟩
  ·have:y≠v:=λ e=>d3 y i v ai e;simp[bJ,this]
  ·have:y≠v:=λ e=>(NJ.1 d2).1 (e▸i);simp[bJ,this]
def KI(n:Nat)(least:Int)(par:OV)(val:Nat->Int)(wait:LN_):Prop:=∀ u w,u<=n->par u=some w->val u<least->∃ x∈wait,∃ px,a6 par x px/\u∈px
theorem KI.pop{n:Nat}{least:Int}{par:OV}{val:Nat->Int}{wait:LN_}{x:Nat}(h:KI n least par val (wait++[x])){d:LN_}(hp:a6 par x d)(hm:∀ z∈d,least<=val z):KI n least par val wait:=by
 intro u w hu hw hl;obtain⟨y,a,e,b,c⟩:=h u w hu hw hl
 rcases Np.1 a with a|a
 ·exact⟨y,a,e,b,c⟩
 ·rw[Ni.1 a] at b;rw[a6.uniq b hp] at c;have:=hm u c;omega
theorem KI.cut{n:Nat}{least:Int}{par:OV}{val:Nat->Int}{wait:LN_}(h:KI n least par val wait){v w:Nat}(k:par v=some w){d:Int}:KI n least (bJ par v none) (iN val v d) (wait++[w]):=by
 intro u z hu f hl;have b:u≠v:=λ e=>by subst e;simp[bJ] at f
 obtain⟨y,g,i,j,a⟩:=h u z hu (by simpa [bJ,b] using f) (by simpa [iN,b] using hl);by_cases c:v∈i
 ·obtain⟨A,B,rfl,l,m⟩:=j.halves k c
  rcases Np.1 a with a|a
  ·exact⟨y,by simp[g],_,l,by simp[a]⟩
  ·rcases Nn.1 a with a|a
   ·exact absurd a b
   ·exact⟨w,ai,_,m,a⟩
 ·exact⟨y,by simp[g],i,j.congr λ z f=>by have:z≠v:=λ e=>c (e▸f);simp[bJ,this],a⟩
section
variable {P:EP} {L:Nat->LN_} {lv:Nat->Int} {gv:Nat->Nat} {rm0 tr:LI_} {pos:LN_} {par:OV} {val:Nat->Int} {rm:LI_}
structure sq (P:EP) (L:Nat->LN_) (tr:LI_) (pos:LN_) (par:OV) (val:Nat->Int) (v:Nat) (p:LN_) (y:Nat) (W:LN_):Prop where
 on:Tr P.N v W y
 at_:∀ r∈W,eN P.N r∈p/\(∃ q,pos[eN P.N r]?=some q/\(L (eN P.N r))[q]?=some r)/\par (eN P.N r)=some (gR P.N r)/\val (eN P.N r)=tr.getD r 0
 all:∀ z∈p,z=y\/∃ r∈W,eN P.N r=z
theorem TA.walk_of(h:TA P L rm0 tr pos par val rm)(hP:mX P L lv gv):∀ {p:LN_} {v y:Nat},a6 par v p->v<=P.n->p.getLast?=some y->∃ W,sq P L tr pos par val v p y W
 |[],_,_,hp,_,_=>hp.elim
 |[z],v,y,⟨b,_⟩,_,c=>by
  simp only[List.getLast?_singleton,Nc] at c;refine⟨[],?_,λ r m=>(by cases m),λ x a=>.inl ?_⟩
  ·show v=y;omega
  ·rw[Ni.1 a];omega
 |z::g::l,v,y,⟨b,i,o⟩,s,c=>by
  obtain⟨q,r,k1,j,k,t⟩:=h.link v g s i;obtain⟨g1,g2,g3⟩:=iQ hP (Nb j)
  have u:g<=P.n:=by
   have:=(jM hP.right g1).2.2;have:=hP.nodes;omega
  obtain⟨W,d⟩:=TA.walk_of h hP o u (by simpa using c);refine⟨r::W,⟨g2,by rw[k];exact d.on⟩,λ e he=>?_,λ x a=>?_⟩
  ·rcases Nn.1 he with rfl|he
   ·refine⟨by rw[g2,b];simp,⟨q,by rw[g2];exact k1,by rw[g2];exact j⟩,by rw[g2,k];exact i,by rw[g2];exact t⟩
   ·obtain⟨w,A,B,C⟩:=d.at_ e he;exact⟨Pm _ w,A,B,C⟩
  ·rcases Nn.1 a with rfl|a
   ·exact .inr ⟨r,ai,by rw[g2];exact b⟩
   ·rcases d.all x a with f|⟨e,he,f⟩
    ·exact .inl f
    ·exact .inr ⟨e,by simp[he],f⟩
abbrev nO(p:LN_)(a:Int)(k:Nat)(val:Nat->Int):Nat->Int:=λ z=>if z∈[k] then (if z∈p then val z+-a else val z)+a else (if z∈p then val z+-a else val z)
theorem TA.push(h:TA P L rm0 tr pos par val rm){p W:LN_}{v y:Nat}(hp:a6 par v p)(A:p.getLast?=some y)(j:sq P L tr pos par val v p y W){a:Int}{d:LI_}(f:∀ u r,r∈L u->d.getD r 0=tr.getD r 0-if r∈W then a else 0)
 (k:∀ u r,r∈L u->eN P.N r=u) (n:∀ r,0<=d.getD r 0/\d.getD r 0<=4611686018427387903):TA P L rm0 d pos par (nO p a y val) rm:=by
 have o:par y=none:=hp.root_last A;have hyp:y∈p:=OC A;refine⟨h.posl,λ u w hu hw=>?_,λ u hu s=>?_,h.rml,λ u r l c=>?_,h.rest,n⟩
 ·obtain⟨q,r,k1,t,D,B⟩:=h.link u w hu hw;have m:=List.mem_of_getElem? t;have c:u≠y:=fun e=>by rw[e,o] at hw;cases hw
  refine⟨q,r,k1,t,D,?_⟩;rw[f u r m];simp only[nO,Ni,if_neg c];by_cases b:u∈p
  ·rw[if_pos b]
   rcases j.all u b with e|⟨e,he,x⟩
   ·exact absurd e c
   ·obtain⟨_,⟨F,g,i⟩,_⟩:=j.at_ e he;rw[x] at g i;rw[k1] at g;simp only[Nc] at g;subst g;rw[t] at i;simp only[Nc] at i;subst i;rw[if_pos he,B];omega
  ·rw[if_neg b,if_neg (λ he=>b (by have:=(j.at_ r he).1;rwa [k u r m] at this)),B];omega
 ·simp only[nO,Ni];by_cases e:u=y
  ·subst e;rw[if_pos rfl,if_pos hyp,h.free u hu s];omega
  ·rw[if_neg e,if_neg,h.free u hu s];intro b
   rcases j.all u b with E|⟨r,l,x⟩
   ·exact e E
   ·have:=(j.at_ r l).2.2.1;rw[x,s] at this;cases this
 ·rw[f u r l,if_neg,Int.sub_zero]
  ·exact h.lead u r l c
  ·intro z;obtain⟨_,⟨q,g,i⟩,C,_⟩:=j.at_ r z;rw[k u r l] at g i C;exact c q (by rw[C];simp) g i
theorem sq.pi{v y:Nat}{p W:LN_}(c:sq P L tr pos par val v p y W)(f:v=P.N.src.toNat)(b:PI P.N L P.least tr pos [])(d:∀ u r,r∈L u->eN P.N r<=P.n)(a:∀ u w,u<=P.n->par u=some w->P.least<=val u):PI P.N L P.least tr pos W/\dZ P.N W=y:=by
 subst f;refine⟨⟨b.pl,⟨y,c.on⟩,λ r g=>?_,b.pass⟩,(AV c.on).symm⟩;obtain⟨_,⟨q,h,e⟩,i,j⟩:=c.at_ r g;exact⟨q,h,e,by rw[<- j];exact a _ _ (d _ r (Nb e)) i⟩
theorem sq.most{v y m:Nat}{p W:LN_}(c:sq P L tr pos par val v p y W)(d:W≠[])(hm:m∈p)(a:∀ z∈p,val m<=val z)(f:∀ r,tr.getD r 0<val y):val m=dC tr W:=by
 obtain⟨r,g,he⟩:=ny (rm:=tr) d
 have h:val m<=dC tr W:=by
  obtain⟨g1,_,_,g4⟩:=c.at_ r g;rw[he,<- g4];exact a _ g1
 rcases c.all m hm with e|⟨e,b,i⟩
 ·rw[e] at h;have:=f r;rw[<- he] at this;omega
 ·have j:=qL (rm:=tr) e b;obtain⟨_,_,_,g4⟩:=c.at_ e b;rw[i] at g4;omega
end
end Go.Proofs.YtmcnpaelaieniaaGreatDoor
