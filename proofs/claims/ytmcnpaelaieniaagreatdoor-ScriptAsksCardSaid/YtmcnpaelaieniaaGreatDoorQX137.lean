import Derived.Test.YtmcnpaelaieniaaGreatDoorQE
import Derived.Laws.Cells
import Derived.Test.YtmcnpaelaieniaaGreatDoorQX135
/- A part of the proof. -/
set_option linter.unusedVariables false
set_option linter.unusedSimpArgs false
namespace Go.Proofs.YtmcnpaelaieniaaGreatDoor
open Go.RowKit
structure EP where
 N:aR
 least:Int
 n:Nat
 A:OA_
 c:Nat
 b:Nat
 o:Nat
 gr:Nat
 Ar:OA_
 cr:Nat
 gl:Nat
 gu:Nat
 pe:Nat
 pt:Nat
 ps:Nat
 go:Nat
 gn:Nat
 co:Nat
 cap:Nat
 rowsL:List ff
structure ES where
 vals:LV_
 un:List ff
 fs:iO
 rm:LI_
 k:Nat
 w:Nat
abbrev EP.fo(P:EP)(f:iO):Heap:=l8 P.pt P.ps P.go P.gn P.co P.cap (P.n+1) f
def Lb(P:EP)(k w:Nat):LV_:=[.int .i64 P.N.nodes,.int .i64 P.N.src,.int .i64 P.N.snk,.slice P.A P.N.arcs.length P.c,.slice P.Ar (2*P.N.arcs.length) P.cr,.int .i64 P.least,.slice (some ⟨P.gl,0,none⟩) (P.n+1) (P.n+1),.slice (some ⟨P.gu,0,none⟩) (P.n+1) (P.n+1),
 .pointer (some ⟨P.pt,0,none⟩),.int .i64 (ei k),.int .i64 (ei w)]
abbrev EP.sg(P:EP):aU:=.seg P.b P.o (arcs P.N.arcs)
abbrev EP.pc(P:EP)(k w:Nat):aU:=blk P.pe 310 (Lb P k w)
abbrev EP.rc(P:EP)(rm:LI_):aU:=.own (.slice P.Ar (2*P.N.arcs.length) P.cr) 2 1 (2*P.N.arcs.length) (aj rm)
abbrev EP.lc(P:EP)(vals:LV_):aU:=.own (.slice (some ⟨P.gl,0,none⟩) (P.n+1) (P.n+1)) 23 1 (P.n+1) vals
abbrev EP.uc(P:EP)(un:List ff):aU:=.own (.slice (some ⟨P.gu,0,none⟩) (P.n+1) (P.n+1)) 23 1 (P.n+1) (un.map cT)
abbrev EP.rows(P:EP)(un:List ff):Heap:=(P.rowsL++un).map (bg 3)
def g7(P:EP)(s:ES):Heap:=(P.fo s.fs++[P.pc s.k s.w,P.rc s.rm,P.lc s.vals,P.uc s.un])++P.rows s.un
def rQ(P:EP)(s:ES):Heap:=(P.fo s.fs++[P.sg,P.pc s.k s.w,P.rc s.rm,P.lc s.vals,P.uc s.un])++P.rows s.un
section
variable {X:Cx} {P:EP} {s:ES}
theorem oR:aw X ([P.sg]++g7 P s) (rQ P s):=aw.re (A:=[P.sg]++(P.fo s.fs++[P.pc s.k s.w,P.rc s.rm,P.lc s.vals,P.uc s.un])) (R:=P.rows s.un) [1,2,3,4,0,5,6,7,8] rfl ab
theorem qX:aw X (rQ P s) (g7 P s):=aw.re (A:=P.fo s.fs++[P.sg,P.pc s.k s.w,P.rc s.rm,P.lc s.vals,P.uc s.un]) (R:=P.rows s.un) [0,1,2,3,5,6,7,8] rfl ab
theorem oQ:aw X (rQ P s) (g7 P s++[P.sg]):=aw.mid (A:=P.fo s.fs++[P.sg,P.pc s.k s.w,P.rc s.rm,P.lc s.vals,P.uc s.un]) (R:=P.rows s.un) [0,1,2,3,5,6,7,8] [4] rfl rfl ab
theorem oU:aw X (g7 P s++[P.sg]) (rQ P s):=by
 exact aw.trans (aw.swap (A:=P.fo s.fs++[P.pc s.k s.w,P.rc s.rm,P.lc s.vals,P.uc s.un]) (R:=P.rows s.un) (B:=[P.sg]))<|aw.re (A:=(P.fo s.fs++[P.pc s.k s.w,P.rc s.rm,P.lc s.vals,P.uc s.un])++[P.sg]) (R:=P.rows s.un) [0,1,2,3,8,4,5,6,7] rfl ab
end
theorem m0(P:EP)(k w:Nat):Fn 236 [.pointer (some ⟨P.pe,0,none⟩)] (ay [P.pc k w]) ([]++[P.pc k w]) λ _ H'=>H'=[P.pc (k+1) w]:=by
 generalize hM:ay _=M
 refine aT Tryz.func236 λ w0=>?_;exact Kw
section
variable {P:EP} {fs:iO} {par:OV} {val:Nat->Int} {row:Nat->LN_}
theorem K8(h:iW (P.n+1) fs par val row)(e:P.n+1<=10000){v:Nat}(c:v<P.n+1){p:LN_}(hp:aX par v p):Fn 240 [.pointer (some ⟨P.pt,0,none⟩),.int .i64 (v:Int)] (ay (P.fo fs)) ([]++P.fo fs)
 λ r H'=>∃ b a y,r=.int .i64 ((y:Nat):Int)/\H'=P.fo b/\iW (P.n+1) b par val a/\p.getLast?=some y/\b.k<=fs.k+em (P.n+1)+5*(P.n+1):=by
 obtain⟨d,a,y,f,g,i,j⟩:=h.root_ e c hp;exact (wU fs h.fok v c d y f).mono λ r H' ⟨l,m⟩=>⟨d,a,y,l,m,g,i,j⟩
theorem Kg(h:iW (P.n+1) fs par val row)(e:P.n+1<=10000){v:Nat}(c:v<P.n+1):Fn 255 [.pointer (some ⟨P.pt,0,none⟩),.int .i64 (v:Int)] (ay (P.fo fs)) ([]++P.fo fs)
 λ r H'=>∃ b a,r=.int .i64 (enc (par v))/\H'=P.fo b/\iW (P.n+1) b par val a/\b.k<=fs.k+em (P.n+1)+5*(P.n+1):=by
 obtain⟨p,hp⟩:=h.path v c;obtain⟨d,a,f,g,m,i⟩:=h.above_ e c hp;exact (zq fs h.fok v c d _ f).mono λ r H' ⟨j,l⟩=>⟨d,a,j,l,g,i⟩
theorem xl(h:iW (P.n+1) fs par val row)(d:P.n+1<=10000){v:Nat}(b:v<P.n+1):Fn 252 [.pointer (some ⟨P.pt,0,none⟩),.int .i64 (v:Int)] (ay (P.fo fs)) ([]++P.fo fs)
 λ r H'=>∃ a,r=.int .i64 (val v)/\H'=P.fo a/\iW (P.n+1) a par val row/\a.k<=fs.k+2*(P.n+1):=by
 obtain⟨c,e,f,g,i⟩:=h.value_ d b;exact (BF fs h.fok v b c e).mono λ r H' ⟨j,l⟩=>⟨c,by rw[j,g],l,f,i⟩
theorem De(h:iW (P.n+1) fs par val row)(g:P.n+1<=10000){v:Nat}(c:v<P.n+1){p:LN_}(hp:aX par v p){d:Int}(e:-9223372036854775808<=d/\d<=9223372036854775807)(i:∀ y∈p,-4611686018427387904<=val y+d/\val y+d<=4611686018427387904):
 Fn 254 [.pointer (some ⟨P.pt,0,none⟩),.int .i64 (v:Int),.int .i64 d] (ay (P.fo fs)) ([]++P.fo fs)
 λ _ H'=>∃ b a,H'=P.fo b/\iW (P.n+1) b par (λ z=>if z∈p then val z+d else val z) a/\b.k<=fs.k+em (P.n+1)+2*(P.n+1):=by
 obtain⟨f,a,j,l,m⟩:=h.add_ g c hp e i;exact (Km fs h.fok v c d e f j).mono λ r H' o=>⟨f,a,o,l,m⟩
theorem CY(h:iW (P.n+1) fs par val row)(e:P.n+1<=10000){v:Nat}(c:v<P.n+1){p:LN_}(hp:aX par v p):Fn 253 [.pointer (some ⟨P.pt,0,none⟩),.int .i64 (v:Int)] (ay (P.fo fs)) ([]++P.fo fs)
 λ r H'=>∃ b a y,r=.int .i64 ((y:Nat):Int)/\H'=P.fo b/\iW (P.n+1) b par val a/\jQ (dR p.reverse val) y (val y)/\y∈p/\b.k<=fs.k+em (P.n+1)+9*(P.n+1):=by
 obtain⟨d,a,y,f,g,i,j,l⟩:=h.least_ e c hp;exact (Fe fs h.fok v c d y f).mono λ r H' ⟨m,o⟩=>⟨d,a,y,m,o,g,i,j,l⟩
theorem L4(h:iW (P.n+1) fs par val row)(e:P.n+1<=10000){v u:Nat}(c:v<P.n+1)(hu:par v=some u):Fn 258 [.pointer (some ⟨P.pt,0,none⟩),.int .i64 (v:Int)] (ay (P.fo fs)) ([]++P.fo fs)
 λ _ H'=>∃ b a,H'=P.fo b/\iW (P.n+1) b (bH par v none) val a/\b.k<=fs.k+em (P.n+1)+7*(P.n+1):=by
 obtain⟨d,a,f,g,i⟩:=h.cut_ e c hu;exact (Kt fs h.fok v c d f).mono λ r H' j=>⟨d,a,j,g,i⟩
theorem LE(h:iW (P.n+1) fs par val row)(g:P.n+1<=10000){v w:Nat}(e:v<P.n+1)(hw:w<P.n+1)(c:par v=none){q:LN_}(i:aX par w q)(d:v∉q):Fn 257 [.pointer (some ⟨P.pt,0,none⟩),.int .i64 (v:Int),.int .i64 (w:Int)] (ay (P.fo fs)) ([]++P.fo fs)
 λ _ H'=>∃ b a,H'=P.fo b/\iW (P.n+1) b (bH par v (some w)) val a/\b.k<=fs.k+3*em (P.n+1)+10*(P.n+1):=by
 obtain⟨f,a,j,l,m⟩:=h.link_ g e hw c i d;exact (GG fs h.fok v w e hw f j).mono λ r H' o=>⟨f,a,o,l,m⟩
end
structure mr (P:EP) (L:Nat->LN_) (lv:Nat->Int) (gv:Nat->Nat):Prop where
 right:P.N.Right
 nodes:P.N.nodes=P.n
 graded:gh P.N L lv
 rl:P.rowsL.length=P.n+1
 rows:∀ (v:Nat) (row:ff),P.rowsL[v]?=some row->row.l=(L v).map λ (i:Nat)=>(i:Int)
 at_:∀ (v:Nat) (row:ff),P.rowsL[v]?=some row->aj row.l≠[]->row.A=some ⟨gv v,0,none⟩
 len:∀ v,(L v).length<=4000
 arcs:P.N.arcs≠[]->P.A=some ⟨P.b,P.o,none⟩
 ar:P.N.arcs≠[]->P.Ar=some ⟨P.gr,0,none⟩
 le:-9223372036854775808<=P.least/\P.least<=9223372036854775807
theorem mr.room{P:EP}{L:Nat->LN_}{lv:Nat->Int}{gv:Nat->Nat}(h:mr P L lv gv){r:Nat}(a:r<2*P.N.arcs.length):P.Ar=some ⟨P.gr,0,none⟩:=h.ar (by intro e;rw[e] at a;simp at a)
theorem mr.small{P:EP}{L:Nat->LN_}{lv:Nat->Int}{gv:Nat->Nat}(h:mr P L lv gv):P.n+1<=10000:=by
 have:=h.right.nodes;have:=h.nodes;omega
structure TA (P:EP) (L:Nat->LN_) (rm0 tr:LI_) (pos:LN_) (par:OV) (val:Nat->Int) (rm:LI_):Prop where
 posl:pos.length=P.n+1
 link:∀ v w,v<=P.n->par v=some w->∃ q r,pos[v]?=some q/\(L v)[q]?=some r/\gQ P.N r=w/\val v=tr.getD r 0
 free:∀ v,v<=P.n->par v=none->val v=4611686018427387904
 rml:rm.length=2*P.N.arcs.length
 lead:∀ v r,r∈L v->(∀ q,par v≠none->pos[v]?=some q->(L v)[q]?≠some r)->rm.getD r 0=tr.getD r 0
 rest:∀ r,(∀ v,r∉L v)->rm.getD r 0=rm0.getD r 0
 trb:∀ r,0<=tr.getD r 0/\tr.getD r 0<=4611686018427387903
section
variable {P:EP} {L:Nat->LN_} {lv:Nat->Int} {gv:Nat->Nat} {rm0 tr:LI_} {pos:LN_} {par:OV} {val:Nat->Int} {rm:LI_}
theorem TA.pos_at(h:TA P L rm0 tr pos par val rm){v:Nat}(a:v<=P.n):∃ q,pos[v]?=some q:=⟨pos[v]'(by have:=h.posl;omega),an (by have:=h.posl;omega)⟩
abbrev iV(val:Nat->Int)(v:Nat)(d:Int):Nat->Int:=λ z=>if z∈[v] then val z+d else val z
theorem i4(hP:mr P L lv gv){v r:Nat}(h:r∈L v):r<2*P.N.arcs.length/\eL P.N r=v/\lv (gQ P.N r)=lv v+1:=hP.graded.ok v r h
theorem TA.settle(h:TA P L rm0 tr pos par val rm)(hP:mr P L lv gv){v w q r:Nat}(y:v<=P.n)(hw:par v=some w)(m:pos[v]?=some q)(l:(L v)[q]?=some r)(d:val v=tr.getD r 0):
 TA P L rm0 tr pos (bH par v none) (iV val v (4611686018427387904-val v)) (rm.set r (val v)):=by
 have f:=M9 l;have b:=(i4 hP f).1;refine⟨h.posl,λ u z hu i=>?_,λ u hu j=>?_,by rw[NQ];exact h.rml,λ u e he c=>?_,λ e he=>?_,h.trb⟩
 ·simp only[bH] at i;split at i
  ·cases i
  ·rename_i c;obtain⟨k,o,k1,p,s,t⟩:=h.link u z hu i;exact⟨k,o,k1,p,s,by simp only[iV];rw[if_neg (by simpa using c)];exact t⟩
 ·simp only[iV,Nh];by_cases e:u=v
  ·rw[if_pos e,e];omega
  ·rw[if_neg e];exact h.free u hu (by simpa [bH,e] using j)
 ·by_cases e:r=e
  ·subst e;rw[kQ (by rw[h.rml];exact b),if_pos rfl,d]
  ·rw[kQ (by rw[h.rml];exact b),if_neg e];refine h.lead u _ he fun k j a=>?_;by_cases g:u=v
   ·subst g;rw[m] at a;simp only[Na] at a;subst a;rw[l];simpa using e
   ·exact c k (by simpa [bH,g] using j) a
 ·have:r≠e:=λ x=>he v (x▸f);rw[kQ (by rw[h.rml];exact b),if_neg this];exact h.rest e he
theorem TA.bump(h:TA P L rm0 tr pos par val rm){v q:Nat}(g:par v=none):TA P L rm0 tr (pos.set v q) par val rm:=by
 have ne:∀ u,par u≠none->v≠u:=λ u hu e=>hu (e▸g);refine⟨by rw[NQ];exact h.posl,λ u z hu f=>?_,h.free,h.rml,λ u e he b=>?_,h.rest,h.trb⟩
 ·obtain⟨c,i,k1,j,k,l⟩:=h.link u z hu f;exact⟨c,i,by rw[Nq (ne u (by rw[f];simp))];exact k1,j,k,l⟩
 ·exact h.lead u e he λ c a d=>b c a (by rw[Nq (ne u a)];exact d)
theorem TA.hook(h:TA P L rm0 tr pos par val rm)(hP:mr P L lv gv){v q r:Nat}(x:v<=P.n)(f:par v=none)(o:pos[v]?=some q)(m:(L v)[q]?=some r):
 TA P L rm0 tr pos (bH par v (some (gQ P.N r))) (iV val v (rm.getD r 0-4611686018427387904)) rm:=by
 have g:=M9 m;refine⟨h.posl,λ u z hu a=>?_,λ u hu b=>?_,h.rml,λ u e he i=>?_,h.rest,h.trb⟩
 ·simp only[bH] at a;by_cases e:u=v
  ·subst e;rw[if_pos rfl] at a;simp only[Na] at a;refine⟨q,r,o,m,a,?_⟩;simp only[iV,Nh,O8];rw[h.free u hu f,h.lead u r g (λ _ k=>absurd f k)];omega
  ·rw[if_neg e] at a;obtain⟨j,p,k1,s,t,w⟩:=h.link u z hu a;exact⟨j,p,k1,s,t,by simp only[iV,Nh];rw[if_neg e];exact w⟩
 ·simp only[iV,List.mem_singleton];have e:u≠v:=fun e=>by subst e;simp[bH] at b
  rw[if_neg e];exact h.free u hu (by simpa [bH,e] using b)
 ·refine h.lead u e he λ j c l=>?_;by_cases d:u=v
  ·subst d;exact absurd f c
  ·exact i j (by simpa [bH,d] using c) l
theorem TA.path_lv(h:TA P L rm0 tr pos par val rm)(hP:mr P L lv gv):∀ {p:LN_} {v:Nat},aX par v p->v<=P.n->∀ y∈p,lv v<=lv y/\(y≠v->lv v<lv y)
 |[],_,hp,_,_,_=>hp.elim
 |[z],v,⟨b,_⟩,_,y,a=>by
  rw[Nh.1 a,<- b];exact⟨Ov _,λ h=>absurd rfl h⟩
 |z::c::l,v,⟨b,d,e⟩,f,y,a=>by
  rcases Nl.1 a with rfl|a
  ·rw[<- b];exact⟨Ov _,λ h=>absurd rfl h⟩
  ·obtain⟨q,r,k1,g,i,k⟩:=h.link v c f d;have hm:=M9 g;obtain⟨g1,g2,g3⟩:=i4 hP hm
   have j:c<=P.n:=by
    have:=(j1 hP.right g1).2.2;have:=hP.nodes;omega
   have:=(TA.path_lv h hP e j y a).1;rw[i] at g3;exact⟨aa,λ _=>by omega⟩
end
section
variable {P:EP} {L:Nat->LN_} {lv:Nat->Int} {gv:Nat->Nat} {rm0 tr:LI_} {pos:LN_} {par:OV} {val:Nat->Int} {row:Nat->LN_}
theorem C0(hP:mr P L lv gv){vals:LV_}(g:tv P.rowsL gv pos vals){v q r:Nat}(o:v<=P.n)(h:pos[v]?=some q)(f:(L v)[q]?=some r):
 ∃ a d,P.rowsL[v]?=some a/\vals[v]?=some (.slice (some ⟨gv v,q,none⟩) (a.l.length-q) d)/\a.l.length-q<=d/\q<a.l.length/\a.l[q]?=some (r:Int)/\a.A=some ⟨gv v,0,none⟩/\a.l.length<=4000:=by
 have i:=hP.rl;obtain⟨a,b⟩:∃ a,P.rowsL[v]?=some a:=⟨P.rowsL[v]'aa,an aa⟩;obtain⟨p,d,j,k,m⟩:=g.at_ v a q b h;have hl:=hP.rows v a b;have c:q<a.l.length:=by rw[hl,Nj];exact (Nb.1 f).1
 obtain rfl:=m c;refine⟨a,d,b,j,k,c,by rw[hl,Ni,f];rfl,hP.at_ v a b (λ e=>?_),by rw[hl,Nj];exact hP.len v⟩;have:a.l.length=0:=by rw[<- bU,e];rfl
 omega
theorem D8{a:ff}{g q e:Nat}(b:a.A=some ⟨g,0,none⟩):(bg e a).shows g q ((aj a.l).drop q):=by
 have:=dI (bi (e:=e) (sz:=1) (n:=a.l.length) (cap:=a.c) (λ _=>b:aj a.l≠[]->a.A=aJ g 0)) q;rw[NO] at this;exact this
theorem tS{X:Cx}{E:Env}{H:Heap}{o:Oper}{t q r i g:Nat}{e:Operand}{a:ff}(f:o.op=.load t e)(h:Proofs.YtmcnpaelaieniaaGreatDoor.val E e=some (.pointer (some ⟨g,q,none⟩)))(j:H[i]?=some (bg 3 a)){k:IntKind}{d:Nat}{m:Option Value}(n:tab t=some ⟨.int k,1,d,m⟩)
 (p:a.A=some ⟨g,0,none⟩) (hl:a.l[q]?=some (r:Int)):i7 X o E H (.int .i64 (r:Int)):=by
 refine dW (b:=g) (off:=q) (i:=0) (cs:=(aj a.l).drop q) (c:=bg 3 a) i f h j (D8 p) ?_;unfold fP;rw[n];show ((aj a.l).drop q)[0]?=_;rw[Og];exact ep hl
theorem HB{c0 b c2 c3 c4 c5 c d e:aU}{un:List ff}{v:Nat}{a:ff}(h:P.rowsL[v]?=some a):(c0::b::c2::c3::c4::c5::c::d::e::P.rows un)[9+v]?=some (bg 3 a):=by
 show ([c0,b,c2,c3,c4,c5,c,d,e]++P.rows un)[9+v]?=_;rw[Nu ai];show (P.rows un)[9+v-9]?=_;rw[NV];unfold EP.rows;rw[Ni,NY (Nb.1 h).1,h];rfl
theorem CZ{c0 b c2 c3 c4 c5 c d e:aU}{un:List ff}{v:Nat}{a:ff}(h:un[v]?=some a):(c0::b::c2::c3::c4::c5::c::d::e::P.rows un)[9+(P.rowsL.length+v)]?=some (bg 3 a):=by
 show ([c0,b,c2,c3,c4,c5,c,d,e]++P.rows un)[9+(P.rowsL.length+v)]?=_;rw[Nu ai];show (P.rows un)[9+(P.rowsL.length+v)-9]?=_;rw[NV];unfold EP.rows;rw[Ni,Nu aa,NV,h];rfl
theorem vJ(hP:mr P L lv gv)(s:ES)(H:TA P L rm0 tr pos par val s.rm)(Q:iW (P.n+1) s.fs par val row)(S:tv P.rowsL gv pos s.vals){v w q r:Nat}(U:v<=P.n)(hw:par v=some w)(V:pos[v]?=some q)(I:(L v)[q]?=some r)(K:val v=tr.getD r 0):
 Fn 244 [.pointer (some ⟨P.pe,0,none⟩),.int .i64 (v:Int)] (ay (g7 P s)) ([P.sg]++g7 P s)
  λ _ H'=>∃ f j,H'=g7 P { s with fs:=f,rm:=s.rm.set r (val v),k:=s.k+1 }/\iW (P.n+1) f (bH par v none) (iV val v (4611686018427387904-val v)) j/\f.k<=s.fs.k+2*em (P.n+1)+11*(P.n+1):=by
 have u:=hP.small;have a:v<P.n+1:=aa;obtain⟨X,c',l,o,Y,Z,x,z,B⟩:=C0 hP S U V I;have h1:v<s.vals.length:=(Nb.1 o).1;have C:=M9 I;have g:=(i4 hP C).1;have h2:=H.trb r
 generalize hM:ay _=M
 refine aT Tryz.func244 λ w0=>?_;refine bQ oR<|il ?_;refine cK (aw.re (A:=P.fo s.fs++[P.sg,P.pc s.k s.w,P.rc s.rm,P.lc s.vals,P.uc s.un]) (R:=P.rows s.un) [5,0,1,2,3,4,6,7,8] rfl ab)<|bJ [999] (m0 P s.k s.w) rfl rfl rfl rfl aW aw.refl be aE<|?_;rintro v0 H' rfl;refine dE ?_;refine cK (aw.re (A:=[P.pc (s.k+1) s.w]++(P.fo s.fs++[P.sg,P.rc s.rm,P.lc s.vals,P.uc s.un])) (R:=P.rows s.un) [1,2,3,4,5,0,6,7,8] rfl ab)<|ah<|il ?_;refine dC (xl Q u a) rfl aw.refl be ?_;rintro _ H' ⟨hx,rfl,rfl,D,hR⟩;refine dE ?_;refine ng ?_;refine fw ?_;refine fW 16 [0,1,2,3,4,5,6,7,8,9,10,11,12,13,14] 15 [] aW<|CF ?_;refine gU [999] rfl (bG rfl a) rfl<|cV [999] rfl rfl (aA 7 rfl rfl rfl o) rfl<|CF ?_;refine gU [999] rfl (hU rfl (m:=0) aa) rfl<|cV [999] rfl rfl (tS rfl rfl (HB l) rfl z x) rfl<|CF ?_;have i:=hP.room g;refine gU [999] rfl (ij (b:=P.gr) (n:=2*P.N.arcs.length) (c:=P.cr) rfl (M8 (λ A=>some (Value.slice A (2*P.N.arcs.length) P.cr)) i) rfl rfl rfl g) rfl<|im rfl<|aY (n:=2*P.N.arcs.length) (cap:=P.cr) 6 rfl rfl rfl (M8 (λ A=>some (aU.own (.slice A (2*P.N.arcs.length) P.cr) 2 1 (2*P.N.arcs.length) (aj s.rm))) i) (fz rfl rfl rfl (by rw[bU,H.rml];exact g)) [] rfl<|?_;rw[show (aj s.rm).set r (af (val v))=aj (s.rm.set r (val v)) from by simp[aj]];rw[<- i];refine bZ []<|gF ?_;refine il ?_;refine dC (L4 D u a hw) rfl aw.refl be ?_;rintro _ H' ⟨h3,O,rfl,E,hA⟩;refine dE ?_;refine ng ?_;refine ah<|il ?_;refine aB 40 (v':=af (4611686018427387904-val v)) rfl (M8 (Value.int .i64) (cv aa)) ?_;refine dC (De E u a (p:=[v]) ⟨rfl,by simp[bH]⟩ (d:=4611686018427387904-val v) aa (by intro y hy;rw[Nh.1 hy];omega)) rfl aw.refl be ?_;rintro _ H' ⟨e,t,rfl,F,hb⟩;refine dE ?_;refine ng ?_;refine cK (qX (s:={ s with fs:=e,rm:=s.rm.set r (val v),k:=s.k+1 }))<|ah<|⟨_,rfl,e,t,rfl,F,?_⟩;have h0:{ s with fs:=e,rm:=s.rm.set r (val v),k:=s.k+1 }.fs=e:=rfl;omega
end
variable {X:Cx} {Q:e6} {E E':Env} {H:Heap}
theorem Gt{e:Nat}{uk:UK}{s a:Nat}{z:Value}(h:tab e=some ⟨uk,s,a,some z⟩)(w:World):(zeroValue e).run Tryz.prog w=.ok z w:=by
 obtain⟨d,j,_,hi,_,_,_,b⟩:=eR h;simp[zeroValue,typeInfo,hi,b z rfl]
theorem DU{ops l:List Oper}{o:Oper}{t e g i n cap I sz m p q r:Nat}{x:Operand}{z:Value}{L:Option Value}{uk:UK}{xs:LV_}(k:Nat)(M:o.op=.call ⟨.builtin .clear,#[x],#[t]⟩)(N:val E x=some (.slice (some ⟨g,i,none⟩) 1 I))
 (B:H[k]?=some (.own (.slice (some ⟨g,0,none⟩) n cap) m sz n xs)) (O:tab t=some ⟨.slice e,p,q,L⟩) (he:tab e=some ⟨uk,1,r,some z⟩) (P:z.cells.toList=[z]) (s:one [z]=true) (hi:i<xs.length) (gs:LN_) (R:jN X.n ops gs E o (.tuple #[])=some E')
 (h:JL X ops l Q E' (H.set k (.own (.slice (some ⟨g,0,none⟩) n cap) m sz n (xs.set i z)))):JL X ops (o::l) Q E H:=by
 intro a w hA C;obtain⟨hg,hp⟩:=eb R;refine nd ?_
 left
 have b:w.ownsRow 0 m sz (ax g 0 n cap) n xs:=C.holds _ (M9 B)
 obtain⟨cur,c,hlen,S⟩:∃ cur:Array Value,w.heap[g]?=some (.cells cur m (0,0))/\n*sz<=cur.size/\cur.toList.take (n*sz)=xs:=by
  rcases b.2 with ⟨h',_⟩|⟨g',D,cur,h',h0,hg,s,F,u,v⟩
  ·simp at h'
  ·simp only[Value.slice.injEq,Na,Addr.mk.injEq,PJ,true_and] at h';obtain⟨rfl,rfl⟩:=h';exact⟨cur,hg,by rw[u];exact Ou _ s,v⟩
 have d:w.heap[g]?=some (.cells cur.toList.toArray m (0,0)):=c;obtain⟨w',F,u,v,U,V,h7,Y⟩:=gL (o:=i) [z] 0 w cur.toList d (by have:=b.1;simp only[Po,NF] at*;omega) s;refine nc ?_
 have y:(Builtin.zeroCells z.cells 1).toList=[z]:=by
  have Z:z.cells=#[z]:=Array.ext' (by rw[P]);rw[Z];simp[Builtin.zeroCells]
 have:(execOp a.eval o).run Tryz.prog w=.ok (.value (.tuple #[])) w':=by
  simp[execOp,M,resolve,invoke,builtin,Builtin.clear_,hA.val N,run_underlying (eW O),Gt he,y,F]
 rw[this];refine h _ _ (hA.putE hp) (C.step k B v U V aa (λ j _ hj=>Y j (λ x=>hj (by rw[x];rfl))) ?_ (λ b' A=>.inl A));show w'.ownsRow 0 m sz _ n (wr xs i [z]);refine sb b (by simp only[NF];omega) λ cs f=>?_;rw[c] at f;simp only[Na,Obj.cells.injEq,PJ] at f;subst f;exact u
theorem xE{ops l:List Oper}{o:Oper}{t e g i n cap m1 Y m2 cx b off sz r u y A:Nat}{d s:Operand}{z Z:Option Value}{uk:UK}{xs vs:LV_}{c2:aU}(k k2:Nat)(ho:o.op=.call ⟨.builtin .copy,#[d,s],#[t,t]⟩)(hd:val E d=some (.slice (some ⟨g,i,none⟩) m1 Y))(hs:val E s=some (.slice (some ⟨b,off,none⟩) m2 cx))
 (S:H[k]?=some (.own (.slice (some ⟨g,0,none⟩) n cap) r sz n xs)) (B:H[k2]?=some c2) (C:c2.shows b off vs) (ht:tab t=some ⟨.slice e,u,y,Z⟩) (he:tab e=some ⟨uk,1,A,z⟩) (hn:vs.length=Nat.min m2 m1) (D:one vs=true) (hi:i+vs.length<=xs.length) (gs:LN_) (hb:jN X.n ops gs E o (.int .i64 (vs.length:Int))=some E')
 (h:JL X ops l Q E' (H.set k (.own (.slice (some ⟨g,0,none⟩) n cap) r sz n (wr xs i vs)))):JL X ops (o::l) Q E H:=by
 intro a w hA F;obtain⟨hg,hp⟩:=eb hb;refine nd ?_
 left
 have c:w.ownsRow 0 r sz (ax g 0 n cap) n xs:=F.holds _ (M9 S);have m:=C w (F.holds _ (M9 B))
 obtain⟨cur,f,hlen,hx⟩:∃ cur:Array Value,w.heap[g]?=some (.cells cur r (0,0))/\n*sz<=cur.size/\cur.toList.take (n*sz)=xs:=by
  rcases c.2 with ⟨h',_⟩|⟨g',U,cur,h',h0,hg,D,V,I,L⟩
  ·simp at h'
  ·simp only[Value.slice.injEq,Na,Addr.mk.injEq,PJ,true_and] at h';obtain⟨rfl,rfl⟩:=h';exact⟨cur,hg,by rw[I];exact Ou _ D,L⟩
 have p:w.heap[g]?=some (.cells cur.toList.toArray r (0,0)):=f;have hR:xs.length=n*sz:=c.1;obtain⟨w',V,I,L,h5,h6,h7,h8⟩:=gL (o:=i) vs 0 w cur.toList p (by have:=Po (xs:=cur);omega) D;have M:=run_loadCells_list (P:=Tryz.prog) w ⟨b,off,none⟩ vs (λ j v N=>by rw[Addr.add_at];exact m j v N);refine nc ?_;have O:(sizeOf e).run Tryz.prog w=.ok 1 w:=dT he w
 have:(execOp a.eval o).run Tryz.prog w=.ok (.value (af (vs.length:Int))) w':=by
  simp[execOp,ho,resolve,invoke,builtin,Builtin.copy_,hA.val hd,hA.val hs,run_underlying (eW ht),Builtin.lenOf,Builtin.firstCells,O,<- hn,M,V,goInt]
 rw[this];refine h _ _ (hA.putE hp) (F.step k S L h5 h6 aa (λ j _ N=>h8 j (λ x=>N (by rw[x];rfl))) ?_ (λ b' R=>.inl R));show w'.ownsRow 0 r sz _ n (wr xs i vs);refine sb c hi λ cs q=>?_;rw[f] at q;simp only[Na,Obj.cells.injEq,PJ] at q;subst q;exact I
section
variable {Sf:Heap} {K:Env->Heap->Prop}
theorem JT{id:Nat}{l:List Oper}(n:Nat)(order:List (Nat×Bool))(j:uJ l.toArray n order=true)(m:aw X H Sf)(h:JW X l order Sf (λ E' H'=>JL X l (l.drop n) Q E' H') E H):
 J X (.region id l.toArray true) Q E H:=by
 intro a w p f;refine nI (S:=λ w=>dL X.w0 X.M w Sf) n order Do j (m _ f.drew) ?_;have:=h a _ p f.drew;refine (?_:∀ (Q1 b:Act->World->Prop),(∀ a w,Q1 a w->b a w)->∀ l a w,x5 Tryz.prog _ _ Q1 l a w->x5 Tryz.prog _ _ b l a w) _ _ ?_ _ a _ this
 ·intro Q1 b c l
  induction l with
  |nil=>exact λ a w h=>c a w h
  |cons o l g=>
   intro a w h;obtain⟨k,st⟩:=o
   cases st with
   |true=>obtain⟨o,v,q,r,s⟩:=h;exact⟨o,v,q,r,g _ _ s⟩
   |false=>exact wpOp_mono (λ t w' i=>⟨i.1,g _ _ i.2⟩) h
 ·rintro a w ⟨E',H',d,e,c⟩;exact c a w d e
def LF(X:Cx)(ops:List Oper)(rest:List (Nat×Bool))(Sf:Heap)(K:Env->Heap->Prop):e6:=λ e E' H'=>match e with
 |.normal=>aw X H' Sf/\JW X ops rest Sf K E' H'
 |_=>False
theorem JH{ops:List Oper}{rest:List (Nat×Bool)}{k:Nat}{o:Oper}(m:ops[k]?=some o)(h:JL X ops [o] (LF X ops rest Sf K) E H):JW X ops ((k,false)::rest) Sf K E H:=by
 intro a w p q;have d:=h a w p q;show wpOp _ _ _ _ _ _ _;refine mL (Q1:=pR X (LF X ops rest Sf K)) (λ e a w g i=>?_) ?_
 ·obtain⟨r,H1,_,_,i⟩:=i
  cases e with
  |normal=>exact g rfl
  |_=>exact i
 ·unfold wpOp;have j:ops.toArray[k]?=some o:=by simpa using m
  simp only[j];unfold wpList at d
  have b:∀ c w',wpList Tryz.prog ops.toArray (pR X (LF X ops rest Sf K)) [] c w'->dL X.w0 X.M w' Sf/\x5 Tryz.prog ops.toArray (λ w=>dL X.w0 X.M w Sf) (λ c w'=>∃ E' H',gt X.n c E'/\dL X.w0 X.M w' H'/\K E' H') rest c w':=by
   rintro c w' ⟨r,H1,l,f,s,t⟩;exact⟨s _ f,t c w' l f⟩
  split
  ·rename_i hw;rw[if_pos hw] at d;exact d.imp (Oper.wp_mono b) id
  ·rename_i hw;rw[if_neg hw] at d;exact b _ _ d
end
theorem aw.seg{b e off:Nat}{cs vs:LV_}(k:Nat)(a:H[k]?=some (blk b e cs))(d:∀ i v,vs[i]?=some v->cs[off+i]?=some v):aw X H (H.set k (.seg b off vs)):=by
 intro w c;have f:=c.holds _ (M9 a);refine c.chunk k a (λ i v hi=>?_) (λ _ h=>by cases h) (λ l h=>?_)
 ·have g:=d i v hi;have j:w.heap[b]?=some (.cells cs.toArray e (0,0)):=f;show w.cell? ⟨b,off+i,none⟩=some v;simp[World.cell?,j,g]
 ·simp only[aU.at_] at h;split at h
  ·cases h
  ·exact h
def J1(bE bV:Nat):Value:=.func (.func 272) #[] #[.pointer (some ⟨bE,0,none⟩),.pointer (some ⟨bV,0,none⟩)]
abbrev EP.box(P:EP)(bE:Nat):aU:=.seg bE 0 [.pointer (some ⟨P.pe,0,none⟩)]
abbrev vD(bV v:Nat):aU:=.seg bV 0 [.int .i64 (v:Int)]
theorem CT(P:EP)(k w a b v u:Nat):Fn 272 [.int .i64 (u:Int),.pointer (some ⟨a,0,none⟩),.pointer (some ⟨b,0,none⟩)] (ay [P.pc k w]) ([P.box a,vD b v]++[P.pc k w])
 λ r H'=>r=.bool (dU ((u:Int)=v))/\H'=[P.pc (k+1) w]:=by
 generalize hM:ay _=M
 refine aT Tryz.func272 λ w0=>?_;refine mz ?_;refine rT ?_;refine cK (aw.re (A:=[P.box a,vD b v,P.pc k w]) (R:=[]) [2,0,1] rfl ab)<|sk (m0 P k w) rfl aw.refl be ?_;rintro v0 H' rfl;refine aN ?_;refine gD ?_;refine aG (a7 (i:=0) 2 rfl rfl rfl) ?_;refine iH ?_;exact aL [0] ⟨_,rfl,rfl,rfl⟩
theorem DF{pre post:LN_}{v i:Nat}(h:i<=pre.length)(a:v∉pre):∃ u,(pre++v::post)[i]?=some u/\(i<pre.length->u≠v)/\(i=pre.length->u=v):=by
 by_cases e:i<pre.length
 ·refine⟨pre[i],by rw[NY e];exact an e,λ _ he=>a (he▸Ox _),λ h=>by omega⟩
 ·obtain rfl:i=pre.length:=by omega
  exact⟨v,by rw[Nu (Np _),OB];rfl,λ h=>by omega,λ _=>rfl⟩
theorem E9(P:EP)(k w a b v:Nat)(pre post:LN_)(l:v∉pre)(g c:Nat)(hl:(pre++v::post).length<=20000):
 Fn 229 [.slice (some ⟨g,0,none⟩) (pre++v::post).length c,J1 a b] (ay [P.pc k w]) ([P.box a,vD b v,.seg g 0 (cJ (pre++v::post))]++[P.pc k w])
  λ r H'=>r=.int .i64 (pre.length:Int)/\H'=[P.pc (k+pre.length+1) w]:=by
 generalize hM:ay _=M
 refine aT Tryz.func229 λ w0=>?_;refine i6 ?_;refine au<|bS (σ:=Nat) (λ i=>[(8,af (i:Int)),(7,af ((pre++v::post).length:Int)),(1,J1 a b),(0,ax g 0 (pre++v::post).length c)]) (λ i=>[P.box a,vD b v,.seg g 0 (cJ (pre++v::post)),P.pc (k+i) w]) (λ i=>i<=pre.length) (λ i=>pre.length+1-i) 0 [0,1,2,3] a8 ab rfl (Nk _)<|?_;intro i hi;have hlen:(pre++v::post).length=pre.length+post.length+1:=by simp;omega
 obtain⟨u,hu,e,f⟩:=DF (post:=post) hi l;refine ao ?_;have m:((i:Nat):Int)<((pre++v::post).length:Int):=aa;refine cA ?_;refine ak rfl (λ _=>ag ?_) (λ h=>absurd m h);refine am (au ?_);refine mz ?_;refine oa ?_;refine io ?_;refine aG (fA 2 rfl rfl rfl (NO _).symm (eE hu)) ?_;refine cK (aw.re (A:=[P.box a,vD b v,.seg g 0 (cJ (pre++v::post)),P.pc (k+i) w]) (R:=[]) [3,0,1,2] rfl ab)<|iy (CT P (k+i) w a b v u) rfl aw.refl ⟨bx 0 rfl,bx 1 rfl,be⟩ ?_;refine aN ?_;refine ak rfl (λ h=>?_) (λ h=>ag ?_)
 ·have:i=pre.length:=by
   rcases PZ i pre.length with d|d
   ·exact absurd aa (e d)
   ·omega
  subst this;refine ao ?_;refine aL [0] ⟨_,rfl,rfl,rfl⟩
 ·have j:i<pre.length:=by
   rcases PZ i pre.length with d|d
   ·exact d
   ·exact absurd (by rw[f aa]) h
  refine ao ?_;refine⟨i+1,[1,2,3,0],⟨?_,rfl,rfl,rfl,be⟩,ab,rfl,j,aa⟩;refine nb ?_;rw[cv aa];rfl
def jU(pre post:LN_)(v q:Nat):LN_:=pre++(post.take q++(v::post).drop q)
theorem pq{pre post:LN_}{v q:Nat}(h:q<=post.length):(jU pre post v q).length=(pre++v::post).length:=by
 simp[jU];omega
theorem AY{pre post:LN_}{v q u:Nat}(h:post[q]?=some u):(jU pre post v q)[pre.length+(q+1)]?=some u:=by
 have a:=(Nb.1 h).1;unfold jU;rw[Nu aa,NV,Nu eS,ND,OX aa,Og];show (v::post)[q+(q+1-q)]?=_;rw[show q+(q+1-q)=q+1 by omega,N8];exact h
theorem Cd{pre post:LN_}{v q u:Nat}(h:post[q]?=some u):(jU pre post v q).set (pre.length+q) u=jU pre post v (q+1):=by
 have b:=(Nb.1 h).1;unfold jU;rw[OC _ _ aa,NV,OC _ _ eS,ND,OX aa,OB];have a:(v::post).drop q=(v::post)[q]'eS::(v::post).drop (q+1):=N7 eS;rw[a,OT,Nv,h];simp
theorem AK{pre post:LN_}{v:Nat}:(jU pre post v post.length).take (pre.length+post.length)=pre++post:=by
 unfold jU;rw[NH,<- NI,List.take_append_of_le_length ai];exact Of ai
theorem Fk{W:LN_}{i u:Nat}:(cJ W).set i (.int .i64 (u:Int))=cJ (W.set i u):=by simp[cJ,aj]
theorem uR{W:LN_}{m:Nat}:(cJ W).take m=cJ (W.take m):=by simp[cJ,aj]
abbrev o9(g n c:Nat)(W:LN_):aU:=.own (.slice (some ⟨g,0,none⟩) n c) 3 1 n (cJ W)
theorem Dy(P:EP)(k w a d v:Nat)(pre post:LN_)(s:v∉pre)(j:v∉post)(g n c:Nat)(p:n=(pre++v::post).length)(hl:n<=20000)(t:n<=c):
 Fn 271 [.slice (some ⟨g,0,none⟩) n c,J1 a d] (ay [P.pc k w,o9 g n c (pre++v::post)]) ([P.box a,vD d v]++[P.pc k w,o9 g n c (pre++v::post)])
  λ r H'=>r=.slice (some ⟨g,0,none⟩) (pre.length+post.length) c/\H'=[P.pc (k+n) w,o9 g (pre.length+post.length) c (pre++post)]:=by
 have hlen:n=pre.length+post.length+1:=by rw[p];simp;omega
 generalize hM:ay _=M
 refine aT Tryz.func271 λ w0=>?_;refine mz ?_;refine lK ?_;refine cK (aw.re (A:=[P.box a,vD d v,P.pc k w,o9 g n c (pre++v::post)]) (R:=[]) [2,0,1,3] rfl ab) ?_;have T:=E9 P k w a d v pre post s g c aa;rw[<- p] at T;refine iy T rfl aw.refl ⟨bx 0 rfl,bx 1 rfl,gC 2 rfl b8 (.inr rfl),be⟩ ?_;refine cS ?_;refine bB 12 (v':=.bool false) rfl (M8 Value.bool (aZ aa)) (bu rfl (ag ?_));refine ao ?_;refine bB 6 (v':=af ((pre.length+(0+1):Nat):Int)) rfl (M8 (Value.int .i64) ((cv aa).trans aa))<|bB 5 (v':=af ((pre.length+0:Nat):Int)) rfl rfl<|au<|bS (σ:=Nat) (λ q=>[(6,af ((pre.length+(q+1):Nat):Int)),(5,af ((pre.length+q:Nat):Int)),(1,J1 a d),(0,ax g 0 n c)]) (λ q=>[P.box a,vD d v,o9 g n c (jU pre post v q),P.pc (k+pre.length+1+q) w]) (λ q=>q<=post.length) (λ q=>post.length-q) 0 [1,2,3,0] a8 ab rfl (Nk _)<|?_;intro q x;refine iN ?_;refine ak rfl (λ y=>ag ?_) (λ z=>?_)
 ·have f:q<post.length:=by omega
  obtain⟨u,hu⟩:∃ u,post[q]?=some u:=⟨post[q],an f⟩;have B:u≠v:=λ e=>j (e▸M9 hu);refine am (au ?_);refine bA ?_;refine lK ?_;refine io ?_;refine aG (aA 2 rfl rfl rfl (eE (AY hu))) ?_;refine fR ?_;refine lK ?_;refine cK (aw.re (A:=[P.box a,vD d v,o9 g n c (jU pre post v q),P.pc (k+pre.length+1+q) w]) (R:=[]) [3,0,1,2] rfl ab)<|iy (CT P _ w a d v u) rfl aw.refl ⟨bx 0 rfl,bx 1 rfl,be⟩ ?_;refine dD 28 rfl aa<|iH ?_;refine bA ?_;refine oa ?_;refine io ?_;refine aY 3 rfl rfl rfl rfl (fz rfl rfl rfl (by rw[fV,pq x];omega)) [] rfl ?_;rw[Fk,Cd hu];refine dw ?_;refine ao ?_;refine⟨q+1,[1,2,3,0],⟨?_,?_,rfl,rfl,be⟩,ab,rfl,f,aa⟩
  ·show some (af (IntKind.i64.wrap (((pre.length+(q+1):Nat):Int)+1)))=_;rw[cv aa];rfl
  ·show some (af (IntKind.i64.wrap (((pre.length+q:Nat):Int)+1)))=_;rw[cv aa];rfl
 ·obtain rfl:q=post.length:=by omega
  refine aO<|bA ?_;refine lK ?_;refine aG (f0 (i:=pre.length+post.length) rfl rfl rfl rfl rfl aa) ?_;refine aB 38 (v':=ax g (pre.length+post.length) 1 (c-(pre.length+post.length))) rfl ?_ ?_
  ·have:=e8 (A:=aJ g 0) (c:=c) (l:=pre.length+post.length) (n:=n) (sz:=1) (b:=g) (o:=0) aE t aa;rw[NR,NO] at this;show Value.slice (fT _ _ _ 1) _ _=_;rw[this,show n-(pre.length+post.length)=1 by omega]
  refine DU 2 rfl rfl rfl rfl rfl rfl rfl (by rw[fV,pq (Np _)];omega) [] rfl<|ah<|bA ?_;refine lK ?_;refine aG (jO (i:=pre.length+post.length) rfl rfl rfl rfl rfl aa) ?_;refine iH ?_
  have C:((cJ (jU pre post v post.length)).set (pre.length+post.length) (af 0)).take ((pre.length+post.length)*1)=cJ (pre++post):=by
   rw[NR,List.take_set_of_le (Np _),uR,AK]
  refine bQ (aw.shrink (m:=pre.length+post.length) 2 rfl aa) ?_;show J _ _ _ _ [_,_,.own _ _ _ _ (List.take _ _),_];rw[C];refine bQ (aw.re (A:=[P.box a,vD d v,o9 g (pre.length+post.length) c (pre++post),P.pc (k+pre.length+1+post.length) w]) (R:=[]) [3,2] rfl ab) (bM ⟨_,rfl,rfl,?_⟩);rw[show k+n=k+pre.length+1+post.length by omega];rfl
theorem pV:∀ (l m:LN_),l.Nodup->(∀ x∈l,x∈m)->l.length<=m.length
 |[],_,_,_=>Nk _
 |x::l,m,h,a=>by
  obtain⟨d,f⟩:=NG.1 h;have b:=a x ai;have g:=pV l (m.erase x) f λ y c=>(List.mem_erase_of_ne (λ e=>d (by rw[<- e];exact c))).2 (a y (by simp[c]));rw[Pn b] at g;have:0<m.length:=Pz b;simp only[Nf];omega
def kT(W:LN_):LI_:=W.map λ (i:Nat)=>(i:Int)
theorem eU(W:LN_):(kT W).length=W.length:=by simp[kT]
structure TB (n:Nat) (par:OV) (un:List ff):Prop where
 len:un.length=n+1
 at_:∀ (w:Nat) (row:ff),un[w]?=some row->∃ W:LN_,row.l=kT W/\W.Nodup/\∀ v,v∈W↔v<=n/\par v=some w
theorem TB.get{n:Nat}{par:OV}{un:List ff}(h:TB n par un){w:Nat}(hw:w<=n):∃ (A:OA_) (c:Nat) (W:LN_),un[w]?=some ⟨A,c,kT W⟩/\W.Nodup/\(∀ v,v∈W↔v<=n/\par v=some w)/\W.length<=n+1:=by
 have hl:=h.len;obtain⟨row,a⟩:∃ row,un[w]?=some row:=⟨un[w]'aa,an aa⟩;obtain⟨W,b,d,e⟩:=h.at_ w row a;obtain⟨A,c,l⟩:=row;simp only at b;subst b;refine⟨A,c,W,a,d,e,?_⟩;have:=pV W (List.range (n+1)) d λ x f=>N4.2 (by have:=((e x).1 f).1;omega)
 rwa [Om] at this
theorem TB.del{n:Nat}{par:OV}{un:List ff}(h:TB n par un){v w:Nat}{A:OA_}{c:Nat}{pre post:LN_}(i:un[w]?=some ⟨A,c,kT (pre++v::post)⟩)(j:(pre++v::post).Nodup)(hm:∀ u,u∈pre++v::post↔u<=n/\par u=some w)(hw:par v=some w){k:OA_}{l:Nat}:TB n (bH par v none) (un.set w ⟨k,l,kT (pre++post)⟩):=by
 have d:=(Nb.1 i).1;obtain⟨d1,d2,d3⟩:=Ny.1 j;obtain⟨d4,d5⟩:=NG.1 d2;have a:v∉pre:=λ f=>d3 v f v ai rfl;refine⟨by rw[NQ];exact h.len,λ z row b=>?_⟩;by_cases e:w=z
 ·subst e;rw[List.getElem?_set_self d] at b;simp only[Option.some.injEq] at b;subst b;refine⟨pre++post,rfl,List.nodup_append.2 ⟨d1,d5,fun x f y m=>d3 x f y (by simp[m])⟩,fun u=>?_⟩;have:=hm u;simp only[List.mem_append,List.mem_cons] at this ⊢;by_cases e:u=v
  ·subst e;simp[bH,a,d4]
  ·simp only[bH,e,PH,false_or] at this ⊢;exact this
 ·rw[Nq e] at b;obtain⟨W,o,p,q⟩:=h.at_ z row b;refine⟨W,o,p,λ u=>?_⟩;rw[q u];by_cases g:u=v
  ·subst g;simp[bH,hw,e]
  ·simp[bH,g]
theorem TB.add{n:Nat}{par:OV}{un:List ff}(h:TB n par un){v w:Nat}{A:OA_}{c:Nat}{W:LN_}(j:un[w]?=some ⟨A,c,kT W⟩)(k:W.Nodup)(hm:∀ u,u∈W↔u<=n/\par u=some w)(l:v<=n)(g:par v=none){m:OA_}{o:Nat}:TB n (bH par v (some w)) (un.set w ⟨m,o,kT (W++[v])⟩):=by
 have b:=(Nb.1 j).1;have d:v∉W:=λ f=>by have:=((hm v).1 f).2;rw[g] at this;cases this
 refine⟨by rw[NQ];exact h.len,λ z row a=>?_⟩;by_cases e:w=z
 ·subst e;rw[List.getElem?_set_self b] at a;simp only[Option.some.injEq] at a;subst a;refine⟨W++[v],rfl,List.nodup_append.2 ⟨k,ai,fun x f y p=>by rw[List.mem_singleton.1 p];rintro rfl;exact d f⟩,fun u=>?_⟩;simp only[List.mem_append,List.mem_singleton,hm u];by_cases e:u=v
  ·subst e;simp[bH,l]
  ·simp[bH,e]
 ·rw[Nq e] at a;obtain⟨W,q,r,s⟩:=h.at_ z row a;refine⟨W,q,r,λ u=>?_⟩;rw[s u];by_cases i:u=v
  ·subst i;simp[bH,g,e]
  ·simp[bH,i]
structure lG (P:EP) (L:Nat->LN_) (gv:Nat->Nat) (rm0 tr:LI_) (pos:LN_) (par:OV) (val:Nat->Int) (s:ES):Prop where
 fa:∃ row,iW (P.n+1) s.fs par val row
 ta:TA P L rm0 tr pos par val s.rm
 vo:tv P.rowsL gv pos s.vals
 tb:TB P.n par s.un
def ES.cost(s:ES):Nat:=s.k+s.fs.k
theorem zT{g c:Nat}{W:LN_}:bg 3 ⟨some ⟨g,0,none⟩,c,kT W⟩=o9 g W.length c W:=by
 unfold bg cT;simp only[eU];rfl
section
variable {P:EP} {L:Nat->LN_} {lv:Nat->Int} {gv:Nat->Nat} {rm0 tr:LI_} {pos:LN_} {par:OV} {val:Nat->Int}
def vV(P:EP)(s:ES)(bE bV v:Nat):Heap:=(P.fo s.fs++[P.sg,P.pc s.k s.w,P.rc s.rm,P.lc s.vals,P.uc s.un,blk bE 306 [.pointer (some ⟨P.pe,0,none⟩)],blk bV 3 [.int .i64 (v:Int)]])++P.rows s.un
theorem H8{X:Cx}{s:ES}{a b v:Nat}:aw X (blk b 3 [.int .i64 (v:Int)]::blk a 306 [.pointer (some ⟨P.pe,0,none⟩)]::([P.sg]++g7 P s)) (vV P s a b v):=
 aw.re (A:=[blk b 3 [af (v:Int)],blk a 306 [ap P.pe 0],P.sg]++(P.fo s.fs++[P.pc s.k s.w,P.rc s.rm,P.lc s.vals,P.uc s.un])) (R:=P.rows s.un) [3,4,5,6,2,7,8,9,10,1,0] rfl ab
theorem Cc{X:Cx}{s:ES}{a b v:Nat}:aw X (vV P s a b v) (g7 P s++[P.sg,blk a 306 [.pointer (some ⟨P.pe,0,none⟩)],blk b 3 [.int .i64 (v:Int)]]):=
 aw.mid (A:=P.fo s.fs++[P.sg,P.pc s.k s.w,P.rc s.rm,P.lc s.vals,P.uc s.un,blk a 306 [ap P.pe 0],blk b 3 [af (v:Int)]]) (R:=P.rows s.un) [0,1,2,3,5,6,7,8] [4,9,10] rfl rfl ab
theorem AE{X:Cx}{s:ES}{a b v:Nat}:aw X (g7 P s++[P.sg,blk a 306 [.pointer (some ⟨P.pe,0,none⟩)],blk b 3 [.int .i64 (v:Int)]]) (vV P s a b v):=by
 exact aw.trans (aw.swap (A:=P.fo s.fs++[P.pc s.k s.w,P.rc s.rm,P.lc s.vals,P.uc s.un]) (R:=P.rows s.un) (B:=[P.sg,blk a 306 [ap P.pe 0],blk b 3 [af (v:Int)]]))<|aw.re (A:=(P.fo s.fs++[P.pc s.k s.w,P.rc s.rm,P.lc s.vals,P.uc s.un])++[P.sg,blk a 306 [ap P.pe 0],blk b 3 [af (v:Int)]]) (R:=P.rows s.un) [0,1,2,3,8,4,5,6,7,9,10] rfl ab
theorem MU{A:Heap}{un:List ff}{v:Nat}{a:ff}(h:P.rowsL[v]?=some a):(A++P.rows un)[A.length+v]?=some (bg 3 a):=by
 rw[Nu aa,NV];unfold EP.rows;rw[Ni,NY (Nb.1 h).1,h];rfl
theorem yc{un:List ff}{w:Nat}{x:ff}:(P.rows un).set (P.rowsL.length+w) (bg 3 x)=P.rows (un.set w x):=by
 unfold EP.rows;rw[<- O1,OC _ _ aa,NV]
theorem Fh{A A1:Heap}{un:List ff}{v:Nat}{a:ff}(ix:LN_)(h:Proofs.YtmcnpaelaieniaaGreatDoor.cI A ix=some A1)(b:P.rowsL[v]?=some a):Proofs.YtmcnpaelaieniaaGreatDoor.cI (A++P.rows un) (ix++[A.length+v])=some (A1++[bg 3 a]):=
 oA (kN.2 ⟨_,[],MU b,rfl,rfl⟩) (lN h).1
theorem Eb{A A1:Heap}{v:Nat}(ix:LN_)(h:Proofs.YtmcnpaelaieniaaGreatDoor.cI A ix=some A1)(a:ix.Nodup):(ix++[A.length+v]).Nodup:=
 Ny.2 ⟨a,ai,λ x b y c=>by have:=(lN (R:=[]) h).2 x b;rw[Nh.1 c];omega⟩
theorem vU(hP:mr P L lv gv)(s:ES)(u:lG P L gv rm0 tr pos par val s){v w q r:Nat}(hv:v<=P.n)(hw:par v=some w)(hq:pos[v]?=some q)(hr:(L v)[q]?=some r)(h2:gQ P.N r=w)(y:val v=tr.getD r 0):
 Fn 256 [.pointer (some ⟨P.pe,0,none⟩),.int .i64 (v:Int)] (ay (g7 P s)) ([P.sg]++g7 P s)
  λ _ H'=>∃ s',H'=g7 P s'/\lG P L gv rm0 tr (pos.set v (q+1)) (bH par v none) (iV val v (4611686018427387904-val v)) s'/\s'.w=s.w/\s'.cost<=s.cost+2*em (P.n+1)+12*(P.n+1)+1:=by
 have hN:=hP.small;have hvN:v<P.n+1:=aa;obtain⟨row,hF⟩:=u.fa;obtain⟨h3,c',z,hvv,hy,hA,hb,hz,hf⟩:=C0 hP u.vo hv hq hr;have hvl:v<s.vals.length:=(Nb.1 hvv).1;have hn:=M9 hr;have D:=(i4 hP hn).1;have E:=j1 hP.right D;rw[h2] at E;have h0:w<=P.n:=by have:=hP.nodes;omega
 obtain⟨Aw,cw,W,C,F,H,hH⟩:=u.tb.get h0;obtain⟨pre,post,rfl⟩:=Pb ((H v).2 ⟨hv,hw⟩)
 generalize hM:ay _=M
 refine aT Tryz.func256 λ w0=>?_;refine bA ?_;refine dh λ e=>?_;refine dh λ f=>?_;refine ah<|bQ H8<|cA ?_;have I:=Fh (A:=P.fo s.fs++[P.sg,P.pc s.k s.w,P.rc s.rm,P.lc s.vals,P.uc s.un,blk e 306 [ap P.pe 0],blk f 3 [af (v:Int)]]) (un:=s.un) [4,5,7,9,10] rfl z;have O:=Eb (A:=P.fo s.fs++[P.sg,P.pc s.k s.w,P.rc s.rm,P.lc s.vals,P.uc s.un,blk e 306 [ap P.pe 0],blk f 3 [af (v:Int)]]) (v:=v) [4,5,7,9,10] rfl ab;refine bK 19 (dS [0,1,2,3,4,5,6,7,8,9,10,11,12]++[(13,false)]++dS [14,15,16,17,18]) _ aW O I<|IA ?_;refine aF [999] rfl (bG rfl hvN) rfl<|aF [999] rfl (aA 2 rfl rfl rfl hvv) rfl<|aF [999] rfl (hU rfl (m:=0) aa) rfl<|aF [999] rfl (tS rfl rfl (i:=5) rfl rfl hz hb) rfl<|cz ?_;refine cH (jw P.N P.A P.c P.b P.o hP.arcs hP.right.len r D) rfl ⟨⟨4,_,by simp[vV],rfl,bn _ _ _,cC⟩,be⟩ ?_;refine ah ⟨⟨_,O,I⟩,?_⟩;refine IA ?_;refine gF ?_;refine bB 5 (v':=af (w:Int)) rfl (M8 (Value.int .i64) E.1) ?_;show J _ _ _ _ (vV P s e f v);refine bA ?_
 (repeat' (first|refine cD (gs:=[999]) rfl ?_|refine ae [999] (ad 5 rfl) rfl ?_|refine ae [999] (ad 9 rfl) rfl ?_|refine ae [999] (ad 10 rfl) rfl ?_))
 refine dC (vJ hP s u.ta hF u.vo hv hw hq hr y) rfl Cc ⟨bx 0 rfl,be⟩ ?_;rintro _ H' ⟨d,Q,rfl,hc,ht⟩;refine⟨dc rfl (dd _ _),?_⟩;refine cK AE<|fw ?_;refine fW 15 [0,1,2,3,4,5,6,7,8,9,10,11,12,13] 14 [] aW ?_
 (repeat' (first|refine jr (gs:=[999]) rfl rfl ?_|refine cV [999] rfl rfl (ad 5 rfl) rfl ?_|refine cV [999] rfl rfl (ad 9 rfl) rfl ?_|refine cV [999] rfl rfl (ad 10 rfl) rfl ?_))
 refine KL ?_;obtain⟨a,g⟩:∃ x,x=s.vals.set v (.slice (fT (aJ (gv v) q) c' 1 1) (h3.l.length-q-1) (c'-1)):=⟨_,rfl⟩;refine bQ (K:=vV P { s with fs:=d,rm:=s.rm.set r (val v),k:=s.k+1,vals:=a } e f v) (by rw[g];exact aw.refl) ?_;have h4:=hP.rl;have hj:=u.tb.len;have hs:w<s.un.length:=aa;refine bQ (aw.front (A:=P.fo d++[P.sg,P.pc (s.k+1) s.w,P.rc (s.rm.set r (val v)),P.lc a,P.uc s.un,blk e 306 [ap P.pe 0],blk f 3 [af (v:Int)]]) (R:=P.rows s.un) (i:=P.rowsL.length+w) (c:=bg 3 ⟨Aw,cw,kT (pre++v::post)⟩) (by unfold EP.rows;rw[Ni,Nu aa,NV,C];rfl)) ?_;refine aP (aH 0 rfl) λ ⟨_,S,ha,_⟩=>?_;obtain⟨p,rfl⟩:=ha (by rw[eU];simp;omega);rw[zT];rw[eU] at S;obtain⟨R,hR⟩:∃ R,R=(P.rows s.un).eraseIdx (P.rowsL.length+w):=⟨_,rfl⟩;rw[<- hR];refine bQ (K:=(P.fo d++[P.sg,P.pc (s.k+1) s.w,P.rc (s.rm.set r (val v)),P.lc a,P.uc s.un,blk e 306 [ap P.pe 0],blk f 3 [af (v:Int)],o9 p (pre++v::post).length cw (pre++v::post)])++R) (aw.re (A:=o9 p (pre++v::post).length cw (pre++v::post)::(P.fo d++[P.sg,P.pc (s.k+1) s.w,P.rc (s.rm.set r (val v)),P.lc a,P.uc s.un,blk e 306 [ap P.pe 0],blk f 3 [af (v:Int)]])) (R:=R) [1,2,3,4,5,6,7,8,9,10,11,0] rfl ab) ?_
 have U:∀ {kk:Nat} {W:LN_} {X:Cx},aw X ((P.fo d++[P.sg,P.pc kk s.w,P.rc (s.rm.set r (val v)),P.lc a,P.uc s.un,blk e 306 [ap P.pe 0],blk f 3 [af (v:Int)],o9 p W.length cw W])++R)
  ([.seg P.pe 0 ((Lb P 0 0).take 9),P.uc s.un,blk e 306 [ap P.pe 0],blk f 3 [af (v:Int)]]++R):=by
  intro kk W X;refine aw.trans (aw.re (A1:=[P.pc kk s.w,P.uc s.un,blk e 306 [ap P.pe 0],blk f 3 [af (v:Int)]]) [5,8,9,10] rfl ab)<|aw.seg (off:=0) 0 rfl λ i v hi=>?_;rw[NO];have V:i<9:=by have:=(Nb.1 hi).1;simpa [Lb] using this
  rw[Pw,if_pos V] at hi;rw[<- hi]
  match i,V with
  |0,_=>rfl
  |1,_=>rfl
  |2,_=>rfl
  |3,_=>rfl
  |4,_=>rfl
  |5,_=>rfl
  |6,_=>rfl
  |7,_=>rfl
  |8,_=>rfl
 refine JT 15 (dS [0,1,2,3,4,5,6,7,8,9,10,11,12]++[(13,false)]++dS [14]) aW (U (W:=pre++v::post)) ?_
 (repeat' (first|refine eI (gs:=[999]) rfl rfl ?_|refine aF [999] rfl (a7 (i:=7) 0 rfl rfl rfl) rfl ?_|refine aF [999] rfl (ad 2 rfl) rfl ?_|refine aF [999] rfl (bG rfl (show w<P.n+1 by omega)) rfl ?_))
 have Y:(s.un.map cT)[w]?=some (ax p 0 (pre++v::post).length cw):=by
  rw[Ni,C];show some (Value.slice _ (kT (pre++v::post)).length _)=_;rw[eU]
 refine aF [999] rfl (aA 1 rfl rfl rfl Y) rfl<|eI (gs:=[999]) rfl rfl<|JH rfl<|?_
 have Z:v∉pre/\v∉post:=by
  obtain⟨_,d2,d3⟩:=Ny.1 F;exact⟨λ hx=>d3 v hx v ai rfl,(NG.1 d2).1⟩
 refine bJ (K:=P.fo d++[P.sg,P.rc (s.rm.set r (val v)),P.lc a,P.uc s.un,blk e 306 [ap P.pe 0],blk f 3 [af (v:Int)]]++R) [999] (Dy P (s.k+1) s.w e f v pre post Z.1 Z.2 p (pre++v::post).length cw rfl aa S) rfl rfl rfl rfl aW
  (aw.re (A:=P.fo d++[P.sg,P.pc (s.k+1) s.w,P.rc (s.rm.set r (val v)),P.lc a,P.uc s.un,blk e 306 [ap P.pe 0],blk f 3 [af (v:Int)],o9 p (pre++v::post).length cw (pre++v::post)]) (R:=R) [5,11,0,1,2,3,4,6,7,8,9,10] rfl ab) ⟨en 8 rfl,en 9 rfl,be⟩ aE ?_
 rintro _ H' ⟨rfl,rfl⟩;refine dE ?_;obtain⟨B,hk⟩:∃ x,x=s.k+1+(pre++v::post).length:=⟨_,rfl⟩;rw[<- hk]
 refine cK (K:=(P.fo d++[P.sg,P.pc B s.w,P.rc (s.rm.set r (val v)),P.lc a,P.uc s.un,blk e 306 [ap P.pe 0],blk f 3 [af (v:Int)],o9 p (pre.length+post.length) cw (pre++post)])++R)
  (aw.re (A:=[P.pc B s.w,o9 p (pre.length+post.length) cw (pre++post)]++(P.fo d++[P.sg,P.rc (s.rm.set r (val v)),P.lc a,P.uc s.un,blk e 306 [ap P.pe 0],blk f 3 [af (v:Int)]])) (R:=R) [2,3,4,5,6,0,7,8,9,10,11,1] rfl ab) ?_
 rw[show pre.length+post.length=(pre++post).length by simp];refine ah ⟨U (W:=pre++post),?_⟩;refine aF [999] rfl (bG rfl (show w<P.n+1 by omega)) rfl<|cP<|aY 8 rfl rfl rfl rfl (fz rfl rfl rfl (by rw[Nj];exact hs)) [] rfl<|?_;obtain⟨j,t⟩:∃ x,x=s.un.set w ⟨aJ p 0,cw,kT (pre++post)⟩:=⟨_,rfl⟩
 rw[show (s.un.map cT).set w (ax p 0 (pre++post).length cw)=j.map cT from by
  rw[t,O1];unfold cT;simp only[eU]]
 have h1:∀ {X:Cx},aw X ((P.fo d++[P.sg,P.pc B s.w,P.rc (s.rm.set r (val v)),P.lc a,P.uc j,blk e 306 [ap P.pe 0],blk f 3 [af (v:Int)],o9 p (pre++post).length cw (pre++post)])++R)
  (g7 P ⟨a,j,d,s.rm.set r (val v),B,s.w⟩):=by
  intro X;refine aw.trans (aw.re (A1:=o9 p (pre++post).length cw (pre++post)::(P.fo d++[P.pc B s.w,P.rc (s.rm.set r (val v)),P.lc a,P.uc j])) [11,0,1,2,3,5,6,7,8] rfl ab) ?_;rw[hR,<- zT];refine aw.trans (aw.back (A:=P.fo d++[P.pc B s.w,P.rc (s.rm.set r (val v)),P.lc a,P.uc j]) (by unfold EP.rows;rw[Nj,Ng];omega)) ?_;rw[yc,<- t];exact aw.refl
 refine cK h1<|ah<|⟨_,rfl,⟨a,j,d,s.rm.set r (val v),B,s.w⟩,rfl,⟨⟨Q,hc⟩,(u.ta.settle hP hv hw hq hr y).bump (by simp[bH]),?_,?_⟩,rfl,?_⟩
 ·rw[g];exact u.vo.bump z hq hA hy
 ·rw[t];exact u.tb.del C F H hw
 ·show B+d.k<=s.k+s.fs.k+_+_+1;omega
end
section
variable {P:EP} {L:Nat->LN_} {lv:Nat->Int} {gv:Nat->Nat} {rm0 tr:LI_} {pos:LN_} {par:OV} {val:Nat->Int}
def MA(P:EP)(L:Nat->LN_)(gv:Nat->Nat)(rm0 tr:LI_)(pos:LN_)(par:OV)(val:Nat->Int)(s:ES)(v:Nat)(b:Bool)(s':ES):Prop:=
 ∃ pos',PI P.N L P.least tr pos' []/\s'.w=s.w/\dv L P.n pos'<=dv L P.n pos/\
   ((b=true/\∃ q r,pos'[v]?=some q/\(L v)[q]?=some r/\P.least<=tr.getD r 0/\lG P L gv rm0 tr pos' (bH par v (some (gQ P.N r))) (iV val v (tr.getD r 0-4611686018427387904)) s'/\s'.cost+dv L P.n pos'<=s.cost+dv L P.n pos+4*em (P.n+1)+12*(P.n+1)+1)\/
    (b=false/\qB L pos' v/\lG P L gv rm0 tr pos' par val s'/\s'.cost+dv L P.n pos'<=s.cost+dv L P.n pos))
theorem Kd(hP:mr P L lv gv)(s:ES)(hI:lG P L gv rm0 tr pos par val s)(hPI:PI P.N L P.least tr pos []){v:Nat}(hv:v<=P.n)(hvn:par v=none):
 Fn 242 [.pointer (some ⟨P.pe,0,none⟩),.int .i64 (v:Int)] (ay (g7 P s)) ([P.sg]++g7 P s)
  λ x H'=>∃ b s',x=.bool b/\H'=g7 P s'/\MA P L gv rm0 tr pos par val s v b s':=by
 have hN:=hP.small;have hvN:v<P.n+1:=aa
 generalize hM:ay _=M
 refine aT Tryz.func242 λ w0=>?_;refine ao ?_;refine bQ oR<|gz ?_;refine cN (σ:=LN_×ES) (λ _=>[(1,af (v:Int)),(0,ap P.pe 0)]) (λ t=>rQ P t.2) (λ t=>lG P L gv rm0 tr t.1 par val t.2/\PI P.N L P.least tr t.1 []/\t.2.w=s.w/\dv L P.n t.1<=dv L P.n pos/\t.2.cost+dv L P.n t.1<=s.cost+dv L P.n pos) (λ t=>dv L P.n t.1) (pos,s) a8 aw.refl ⟨hI,hPI,rfl,Np _,Np _⟩ ?_;rintro⟨pos1,s1⟩ ⟨hI1,hPI1,hw1,hr1,hk1⟩;simp only at hI1 hPI1 hw1 hr1 hk1 ⊢;obtain⟨q,hq⟩:=hI1.ta.pos_at hv;have hrl0:=hP.rl;obtain⟨rw_,hrow⟩:∃ rw_,P.rowsL[v]?=some rw_:=⟨P.rowsL[v]'aa,an aa⟩;obtain⟨A',c',hvv,hlc,hA'⟩:=hI1.vo.at_ v rw_ q hrow hq;have hvl:v<s1.vals.length:=(Nb.1 hvv).1;have hrwl:=hP.rows v rw_ hrow;have hrlen:rw_.l.length<=4000:=by rw[hrwl,Nj];exact hP.len v
 refine HP ?_;refine ae [999] (aA 7 rfl rfl rfl hvv) rfl<|ng ?_;refine fw ?_;refine ak rfl (λ hlt=>ag ?_) (λ hge=>aO ?_)
 ·have hql:q<rw_.l.length:=by omega
  obtain rfl:=hA' hql;obtain⟨r,hr⟩:∃ r,(L v)[q]?=some r:=⟨(L v)[q]'(by rw[hrwl,Nj] at hql;exact hql),an _⟩;have hrl:rw_.l[q]?=some (r:Int):=by rw[hrwl,Ni,hr];rfl
  have hrA:=hP.at_ v rw_ hrow (fun e=>by have:rw_.l.length=0:=by rw[← bU,e];rfl
                                         omega)
  have hrm:=M9 hr;have hr2:=(i4 hP hrm).1;have hte:=j1 hP.right hr2;have htn:gQ P.N r<=P.n:=by have:=hP.nodes;omega
  have hrr:s1.rm.getD r 0=tr.getD r 0:=hI1.ta.lead v r hrm (λ _ h=>absurd hvn h);have htb:=hI1.ta.trb r;have hAr:=hP.room hr2
  have hri:(aj s1.rm)[r]?=some (af (tr.getD r 0)):=by
   have hl:r<s1.rm.length:=by rw[hI1.ta.rml];exact hr2
   refine ep ?_;rw[<- hrr,Nc,an hl];rfl
  refine au ?_
  (repeat' (first|refine am ?_|refine ag ?_|refine bD rfl ?_|refine bu rfl ?_))
  refine aC ?_
  (repeat' (first|refine cD (gs:=[999]) rfl ?_|refine ae [999] (ad 5 rfl) rfl ?_))
  refine cK (aw.re (A:=P.fo s1.fs++[P.sg,P.pc s1.k s1.w,P.rc s1.rm,P.lc s1.vals,P.uc s1.un]) (R:=P.rows s1.un) [5,0,1,2,3,4,6,7,8] rfl ab)<|bJ [999] (m0 P s1.k s1.w) rfl rfl rfl rfl aW aw.refl be aE<|?_;rintro v0 H' rfl;refine⟨rfl,?_⟩;refine cK (aw.re (A:=[P.pc (s1.k+1) s1.w]++(P.fo s1.fs++[P.sg,P.rc s1.rm,P.lc s1.vals,P.uc s1.un])) (R:=P.rows s1.un) [1,2,3,4,5,0,6,7,8] rfl ab)<|ah<|?_;obtain⟨s2,hs2⟩:∃ x:ES,x={ s1 with k:=s1.k+1 }:=⟨_,rfl⟩;refine bQ (K:=rQ P s2) (by rw[hs2];exact aw.refl) ?_;have hI2:lG P L gv rm0 tr pos1 par val s2:=by rw[hs2];exact⟨hI1.fa,hI1.ta,hI1.vo,hI1.tb⟩
  have hk2:s2.cost=s1.cost+1:=by rw[hs2];show s1.k+1+s1.fs.k=s1.k+s1.fs.k+1;omega
  have hw2:s2.w=s.w:=by rw[hs2];exact hw1
  have hrm2:s2.rm=s1.rm:=by rw[hs2]
  have hva2:s2.vals=s1.vals:=by rw[hs2]
  rw[<- hrm2] at hri;rw[<- hva2] at hvv hvl
  clear hs2
  (repeat' (first|refine am ?_|refine ag ?_|refine bD rfl ?_|refine bu rfl ?_))
  refine aC ?_
  (repeat' (first|refine cD (gs:=[999]) rfl ?_|refine ae [999] (ad 5 rfl) rfl ?_))
  refine ae [999] (bG rfl hvN) rfl<|ae [999] (aA 7 rfl rfl rfl hvv) rfl<|ae [999] (hU rfl (m:=0) aa) rfl<|ae [999] (tS rfl rfl (HB hrow) rfl hrA hrl) rfl<|ng ?_;refine fw ?_;refine bK 12 (dS [0,1,2,3,4,5,6,7,8,9,10,11]) [5,6] aW ab rfl ?_
  (repeat' (first|refine eI (gs:=[999]) rfl rfl ?_|refine aF [999] rfl (ad 0 rfl) rfl ?_|refine aF [999] rfl (ij (b:=P.gr) (n:=2*P.N.arcs.length) (c:=P.cr) rfl (M8 (λ A=>some (Value.slice A (2*P.N.arcs.length) P.cr)) hAr) rfl rfl rfl hr2) rfl ?_|refine aF [999] rfl (aA (g:=P.gr) (n:=2*P.N.arcs.length) (cap:=P.cr) 1 rfl rfl (M8 (λ A=>some (aU.own (.slice A (2*P.N.arcs.length) P.cr) 2 1 (2*P.N.arcs.length) (aj s2.rm))) hAr) hri) rfl ?_))
  refine cP<|fw ?_;refine ak rfl (λ hsm=>?_) (λ hbig=>ag ?_)
  ·refine cA ?_;refine fW 15 [0,1,2,3,4,5,6,7,8,9,10,11,12,13] 14 [] aW<|CF ?_;refine KL ?_;obtain⟨vals',hvals'⟩:∃ x,x=s2.vals.set v (.slice (fT (aJ (gv v) q) c' 1 1) (rw_.l.length-q-1) (c'-1)):=⟨_,rfl⟩;have hrem:=jg (L:=L) hq hv (by rw[hrwl,List.length_map] at hql;exact hql);refine aO ?_;refine⟨(pos1.set v (q+1),{ s2 with vals:=vals' }),a8,by rw[hvals'];exact aw.refl,⟨⟨hI2.fa,hI2.ta.bump hvn,by rw[hvals'];exact hI2.vo.bump hrow hq hql hlc,hI2.tb⟩,hPI1.bump (fun _ h=>by cases h) hq hr (.inl hsm),hw2,?_,?_⟩,?_⟩
   ·show dv L P.n (pos1.set v (q+1))<=_;omega
   ·show s2.cost+_<=_;simp only;omega
   ·show dv L P.n (pos1.set v (q+1))<dv L P.n pos1;omega
  ·refine il ?_;refine cH (jw P.N P.A P.c P.b P.o hP.arcs hP.right.len r hr2) rfl ⟨⟨4,_,by simp[rQ],rfl,bn _ _ _,cC⟩,trivial⟩ ?_;refine ng ?_;refine ah<|bB 7 (v':=af (gQ P.N r:Int)) rfl (congrArg (Value.int .i64) hte.1)<|cA ?_;refine bK 14 (dS [0,1,2,3,4,5,6,7,8,9,10,11,12]++[(13,false)]) [5,6] aW ab rfl ?_
   (repeat' (first|refine eI (gs:=[999]) rfl rfl ?_|refine aF [999] rfl (ad 0 rfl) rfl ?_|refine aF [999] rfl (ij (b:=P.gr) (n:=2*P.N.arcs.length) (c:=P.cr) rfl (M8 (λ A=>some (Value.slice A (2*P.N.arcs.length) P.cr)) hAr) rfl rfl rfl hr2) rfl ?_|refine aF [999] rfl (aA (g:=P.gr) (n:=2*P.N.arcs.length) (cap:=P.cr) 1 rfl rfl (M8 (λ A=>some (aU.own (.slice A (2*P.N.arcs.length) P.cr) 2 1 (2*P.N.arcs.length) (aj s2.rm))) hAr) hri) rfl ?_))
   refine dG 75 (v':=af (tr.getD r 0-4611686018427387904)) rfl (M8 (Value.int .i64) (cv aa))<|cz ?_;obtain⟨row2,hF2⟩:=hI2.fa;have hvfr:=hI2.ta.free v hv hvn;refine dC (De hF2 hN hvN (p:=[v]) ⟨rfl,hvn⟩ (d:=tr.getD r 0-4611686018427387904) aa (by intro y hy;rw[Nh.1 hy];omega)) rfl aw.refl be ?_;rintro _ H' ⟨fs3,row3,rfl,hF3,hk3⟩;refine⟨rfl,bZ [5,6] ?_⟩;refine gF ?_;obtain⟨p,hp⟩:=hF3.path (gQ P.N r) aa
   have hvp:v∉p:=λ hin=>by
    have h1:=(hI2.ta.path_lv hP hp htn v hin).1;have h2:=(i4 hP hrm).2.2;omega
   refine il ?_;refine dC (LE hF3 hN hvN (show gQ P.N r<P.n+1 by omega) hvn hp hvp) rfl aw.refl be ?_;rintro _ H' ⟨fs4,row4,rfl,hF4,hk4⟩;refine dE ?_;refine ng ?_;refine ah ?_;obtain⟨w,hw⟩:∃ w,gQ P.N r=w:=⟨_,rfl⟩;rw[hw] at hF4 htn;rw[hw];obtain⟨Aw,cw,W,hun,hWd,hWm,hWl⟩:=hI2.tb.get htn;have hul:=hI2.tb.len;have hwu:w<s2.un.length:=aa;obtain⟨rw2,hrw2⟩:∃ x:ff,x=⟨Aw,cw,kT W⟩:=⟨_,rfl⟩;have hrw2l:rw2.l=kT W:=by rw[hrw2]
   have hrw2n:rw2.l.length<=10000:=by rw[hrw2l,eU];omega
   have hun2:s2.un[w]?=some rw2:=by rw[hrw2];exact hun
   obtain⟨R,hR⟩:∃ R,R=(P.rows s2.un).eraseIdx (P.rowsL.length+w):=⟨_,rfl⟩
   refine bQ (K:=bg 3 rw2::((P.fo fs4++[P.sg,P.pc s2.k s2.w,P.rc s2.rm,P.lc s2.vals,P.uc s2.un])++R)) (by
    rw[hR];exact aw.front (A:=P.fo fs4++[P.sg,P.pc s2.k s2.w,P.rc s2.rm,P.lc s2.vals,P.uc s2.un]) (R:=P.rows s2.un) (i:=P.rowsL.length+w) (c:=bg 3 rw2) (by unfold EP.rows;rw[Ni,Nu aa,NV,hun2];rfl)) ?_
   refine cA ?_;refine bK 16 (dS [0,1,2,3,4,5,6,7,8,9,10,11,12]++[(13,false),(14,false)]++dS [15]) [6,9] aW ab rfl ?_
   (repeat' (first|refine eI (gs:=[999]) rfl rfl ?_|refine aF [999] rfl (ad 0 rfl) rfl ?_|refine aF [999] rfl (bG rfl (show w<P.n+1 by omega)) rfl ?_|refine aF [999] rfl (aA (v:=cT rw2) 1 rfl rfl rfl (show (s2.un.map cT)[w]?=some (cT rw2) by rw[Ni,hun2];rfl)) rfl ?_))
   refine cz ?_;refine dp λ g2=>?_;refine bZ [7,10]<|cz ?_;refine bp (n:=rw2.l.length) (m:=1) (off:=0) (news:=aj [(v:Int)]) 1 0 rfl rfl rfl rfl rfl rfl ab rfl rfl (aQ g2 _ _ (0,0)) aE rfl rfl aa aa (λ _ _=>rfl) λ A2 c2=>?_;rw[show rw2.l.length+1=(rw2.l++[(v:Int)]).length by simp,show aj rw2.l++aj [(v:Int)]=aj (rw2.l++[(v:Int)]) by simp[aj]];refine bZ [7,10]<|bc rfl (bG rfl (show w<P.n+1 by omega)) ?_;refine cP<|aY 10 rfl rfl rfl rfl (fz rfl rfl rfl (by rw[Nj];exact hwu)) [] rfl<|ah<|?_;obtain⟨un',hun'⟩:∃ x,x=s2.un.set w ⟨A2,c2,rw2.l++[(v:Int)]⟩:=⟨_,rfl⟩
   have hfin:∀ {X:Cx} {c0:aU},aw X (c0::bg 3 ⟨A2,c2,rw2.l++[(v:Int)]⟩::((P.fo fs4++[P.sg,P.pc s2.k s2.w,P.rc s2.rm,P.lc s2.vals,P.uc un'])++R)) (g7 P ⟨s2.vals,un',fs4,s2.rm,s2.k,s2.w⟩):=by
    intro X c0;refine aw.trans (aw.re (A:=c0::bg 3 ⟨A2,c2,rw2.l++[(v:Int)]⟩::(P.fo fs4++[P.sg,P.pc s2.k s2.w,P.rc s2.rm,P.lc s2.vals,P.uc un'])) (A1:=bg 3 ⟨A2,c2,rw2.l++[(v:Int)]⟩::(P.fo fs4++[P.pc s2.k s2.w,P.rc s2.rm,P.lc s2.vals,P.uc un'])) [1,2,3,4,5,7,8,9,10] rfl ab) ?_;rw[hR];refine aw.trans (aw.back (A:=P.fo fs4++[P.pc s2.k s2.w,P.rc s2.rm,P.lc s2.vals,P.uc un']) (by unfold EP.rows;rw[Nj,Ng];omega)) ?_;rw[yc,<- hun'];exact aw.refl
   rw[show (s2.un.map cT).set w (.slice A2 (rw2.l++[(v:Int)]).length c2)=un'.map cT from by rw[hun',O1];rfl];refine bQ hfin<|ao ?_;refine bM ⟨_,rfl,true,⟨s2.vals,un',fs4,s2.rm,s2.k,s2.w⟩,rfl,rfl,pos1,hPI1,hw2,hr1,.inl ⟨rfl,q,r,hq,hr,aa,?_,?_⟩⟩
   ·have hh:=hI2.ta.hook hP hv hvn hq hr;have hrr2:s2.rm.getD r 0=tr.getD r 0:=hI2.ta.lead v r hrm (λ _ h=>absurd hvn h);rw[hrr2,hw] at hh;rw[hw];exact⟨⟨row4,hF4⟩,hh,hI2.vo,by rw[hun',hrw2l,show kT W++[(v:Int)]=kT (W++[v]) by simp[kT]];exact hI2.tb.add hun hWd hWm hv hvn⟩
   ·show s2.k+fs4.k+_<=_;have:s2.cost=s2.k+s2.fs.k:=rfl;omega
 ·refine ao ?_;refine bQ qX (bM ⟨_,rfl,false,s1,rfl,rfl,pos1,hPI1,hw1,hr1,.inr ⟨rfl,λ p hp=>?_,hI1,hk1⟩⟩);rw[hq] at hp;simp only[Na] at hp;subst hp;rw[hrwl,Nj] at hge;omega
end
def kj(par:OV)(n:Nat):Nat:=((List.range (n+1)).map λ v=>if (par v).isSome then 1 else 0).sum
theorem xQ{par:OV}{n v w:Nat}(a:v<=n)(hw:par v=some w):kj (bH par v none) n+1=kj par n:=by
 unfold kj;refine la (v:=v) OS (N4.2 aa) (λ u _ hu=>by simp[bH,hu]) ?_;simp[bH,hw]
theorem GZ{par:OV}{n v w:Nat}(b:v<=n)(a:par v=none):kj (bH par v (some w)) n=kj par n+1:=by
 unfold kj;refine (la (v:=v) (f:=λ v=>if (par v).isSome then 1 else 0) (g:=λ u=>if (bH par v (some w) u).isSome then 1 else 0) OS (N4.2 aa) (λ u _ hu=>by simp[bH,hu]) ?_).symm;simp[bH,a]
theorem vr(par:OV)(n:Nat):kj par n<=n+1:=by
 unfold kj
 have:∀ l:LN_,(l.map λ v=>if (par v).isSome then 1 else 0).sum<=l.length:=by
  intro l
  induction l with
  |nil=>simp
  |cons a l b=>
   simp only[Ns,NC,Nf];split<;>omega
 have h:=this (List.range (n+1))
 rwa [Om] at h
def Sub(par par':OV)(val val':Nat->Int):Prop:=∀ u w,par' u=some w->par u=some w/\val' u=val u
theorem Sub.refl{par:OV}{val:Nat->Int}:Sub par par val val:=λ _ _ h=>⟨h,rfl⟩
theorem Sub.cut{par par':OV}{val a:Nat->Int}(h:Sub par par' val a){v:Nat}{d:Int}:Sub par (bH par' v none) val (iV a v d):=by
 intro u w hu;by_cases e:u=v
 ·subst e;simp[bH] at hu
 ·have b:=h u w (by simpa [bH,e] using hu);exact⟨b.1,by rw[<- b.2];simp[iV,e]⟩
section
variable {P:EP} {L:Nat->LN_} {lv:Nat->Int} {gv:Nat->Nat} {rm0 tr:LI_} {pos:LN_} {par:OV} {val:Nat->Int}
def pv(P:EP)(s:ES)(c:aU):Heap:=(P.fo s.fs++[P.sg,P.pc s.k s.w,P.rc s.rm,P.lc s.vals,P.uc s.un,c])++P.rows s.un
theorem yO{X:Cx}{s:ES}{c:aU}:aw X (c::rQ P s) (pv P s c):=
 aw.re (A:=c::(P.fo s.fs++[P.sg,P.pc s.k s.w,P.rc s.rm,P.lc s.vals,P.uc s.un])) (R:=P.rows s.un) [1,2,3,4,5,6,7,8,9,0] rfl ab
theorem uV{X:Cx}{s:ES}{c:aU}:aw X (pv P s c) (g7 P s++[P.sg,c]):=
 aw.mid (A:=P.fo s.fs++[P.sg,P.pc s.k s.w,P.rc s.rm,P.lc s.vals,P.uc s.un,c]) (R:=P.rows s.un) [0,1,2,3,5,6,7,8] [4,9] rfl rfl ab
theorem tJ{X:Cx}{s:ES}{c:aU}:aw X (g7 P s++[P.sg,c]) (pv P s c):=by
 exact aw.trans (aw.swap (A:=P.fo s.fs++[P.pc s.k s.w,P.rc s.rm,P.lc s.vals,P.uc s.un]) (R:=P.rows s.un) (B:=[P.sg,c]))<|aw.re (A:=(P.fo s.fs++[P.pc s.k s.w,P.rc s.rm,P.lc s.vals,P.uc s.un])++[P.sg,c]) (R:=P.rows s.un) [0,1,2,3,8,4,5,6,7,9] rfl ab
theorem wO{X:Cx}{s:ES}{c:aU}:aw X (pv P s c) (g7 P s):=
 aw.re (A:=P.fo s.fs++[P.sg,P.pc s.k s.w,P.rc s.rm,P.lc s.vals,P.uc s.un,c]) (R:=P.rows s.un) [0,1,2,3,5,6,7,8] rfl ab
structure HM (P:EP) (L:Nat->LN_) (gv:Nat->Nat) (rm0 tr:LI_) (pos:LN_) (par:OV) (val:Nat->Int) (s:ES) (u:Nat) (pos':LN_) (par':OV) (val':Nat->Int) (s':ES):Prop where
 ti:lG P L gv rm0 tr pos' par' val' s'
 pi:PI P.N L P.least tr pos' []
 sub:Sub par par' val val'
 rem:dv L P.n pos'+u=dv L P.n pos
 lk:kj par' P.n+u=kj par P.n
 w:s'.w=s.w
theorem Kl(hP:mr P L lv gv)(s:ES)(K:lG P L gv rm0 tr pos par val s)(O:PI P.N L P.least tr pos []){v:Nat}(hv:v<=P.n)(hd:qB L pos v)(Q:v≠P.N.snk.toNat){v0:Nat}(R:v0<=P.n)(S:par v0=some v):
 Fn 243 [.pointer (some ⟨P.pe,0,none⟩),.int .i64 (v:Int)] (ay (g7 P s)) ([P.sg]++g7 P s)
  λ _ H'=>∃ u pos' par' B U,H'=g7 P U/\1<=u/\HM P L gv rm0 tr pos par val s u pos' par' B U/\U.cost<=s.cost+u*(2*em (P.n+1)+12*(P.n+1)+1):=by
 have hN:=hP.small;have hvN:v<P.n+1:=aa;obtain⟨A,c,W,k,V,l,hn⟩:=K.tb.get hv;have hc:=K.tb.len;have hb:=hP.rl
 generalize hM:ay _=M
 refine aT Tryz.func243 λ w0=>?_;refine bQ oR<|aP (aH (9+(P.rowsL.length+v)) (CZ k)) λ ⟨_,_,C,X⟩=>?_;obtain⟨g,C⟩:=bo C X;refine HP ?_;refine ae [999] (aA (v:=.slice A (kT W).length c) 8 rfl rfl rfl (show (s.un.map cT)[v]?=_ by rw[Ni,k];rfl)) rfl ?_;refine fh (oy A c g 0 (kT W) (λ h=>C (by intro h0;apply h;exact Nw.1 (by rw[<- bU,h0];rfl))) (by rw[eU];omega)) rfl ⟨⟨9+(P.rowsL.length+v),_,ai,CZ k,bi C,bO C⟩,be⟩ ?_;rintro _ H' ⟨Y,cc,rfl,rfl⟩;rw[eU];refine ng ?_;refine ah<|bQ yO<|aP (aH 9 rfl) λ ⟨_,_,m,D⟩=>?_;obtain⟨gc,m⟩:=bo m D;have E:W≠[]->Y=aJ gc 0:=λ h=>m (l6 h);refine au ?_
 refine cN (σ:=Nat×LN_×OV×(Nat->Int)×ES) (λ t=>[(15,af (t.1:Int)),(14,af (W.length:Int)),(13,.slice Y W.length cc),(0,ap P.pe 0)]) (λ t=>pv P t.2.2.2.2 (.own (.slice Y W.length cc) 3 1 W.length (cJ W)))
  (λ t=>t.1<=W.length/\HM P L gv rm0 tr pos par val s t.1 t.2.1 t.2.2.1 t.2.2.2.1 t.2.2.2.2/\t.2.2.2.2.cost<=s.cost+t.1*(2*em (P.n+1)+12*(P.n+1)+1)/\qB L t.2.1 v/\∀ j u,t.1<=j->W[j]?=some u->t.2.2.1 u=some v) (λ t=>W.length-t.1) (0,pos,par,val,s) a8 aw.refl
  ⟨Nk _,⟨K,O,Sub.refl,rfl,rfl,rfl⟩,ai,hd,λ j u _ hu=>((l u).1 (M9 hu)).2⟩ ?_
 rintro⟨i,a,b,d,s1⟩ ⟨hi,hC,h3,o,p⟩;simp only at hi hC h3 o p ⊢;refine iN ?_;refine ak rfl (λ hs=>ag ?_) (λ ha=>?_)
 ·have e:i<W.length:=by omega
  obtain⟨u,hu⟩:∃ u,W[i]?=some u:=⟨W[i],an e⟩;have f:=(l u).1 (M9 hu);have x:=p i u (Np _) hu;obtain⟨q,r,I,Z,y,F⟩:=hC.ti.ta.link u v f.1 x;obtain rfl:=E (by intro h;rw[h] at e;simp at e);refine am (au ?_);refine bA ?_;refine aG (bG rfl e) ?_;refine aG (aA 9 rfl rfl rfl (eE hu)) ?_;refine fR ?_;refine ng ?_;refine dC (vU hP s1 hC.ti f.1 x I Z y F) rfl uV ⟨bx 0 rfl,be⟩ ?_;rintro _ H' ⟨s2,rfl,hx,hR,hk⟩;refine⟨dc rfl (dd _ _),?_⟩;refine cK tJ<|dw ?_;have hf:=jg (L:=L) I f.1 (Nb.1 Z).1;have h4:=xQ f.1 x;have h1:=hC.rem;have h2:=hC.lk;refine⟨(i+1,a.set u (q+1),bH b u none,iV d u (4611686018427387904-d u),s2),⟨?_,rfl,rfl,rfl,be⟩,aw.refl,⟨e,⟨hx,hC.pi.bump (λ _ h=>by cases h) I Z (.inr ⟨by rw[y];exact Q,by rw[y];exact o⟩),hC.sub.cut,by show dv L P.n (a.set u (q+1))+(i+1)=_;omega,by show kj (bH b u none) P.n+(i+1)=_;omega,by rw[hR];exact hC.w⟩,?_,o.more I,λ j z hj hz=>?_⟩,?_⟩
  ·refine nb ?_;rw[cv aa];rfl
  ·show s2.cost<=s.cost+(i+1)*_;rw[ON,Nat.one_mul];omega
  ·have hy:z≠u:=by
    rintro rfl;have e1:=(Nb.1 hz);have e2:=(Nb.1 hu);have:=(List.getElem_inj V).1 (e1.2.trans e2.2.symm);simp only at hj;omega
   have:=p j z (by simp only at hj;omega) hz
   simpa [bH,hy] using this
  ·simp only;omega
 ·obtain rfl:i=W.length:=by omega
  have H:0<W.length:=Pz ((l v0).2 ⟨R,S⟩);refine bQ wO (aO ?_);exact⟨_,rfl,W.length,a,b,d,s1,rfl,H,hC,h3⟩
end
theorem jQ.le{p:LN_}{val:Nat->Int}{y:Nat}(h:jQ (dR p.reverse val) y (val y)):∀ z∈p,val y<=val z:=by
 obtain⟨A,B,a,b,c⟩:=h;intro z d;have hm:(z,val z)∈dR p.reverse val:=eX.2 ⟨by simpa using d,rfl⟩;rw[a,Nm,Nl] at hm
 rcases hm with hm|hm|hm
 ·exact Int.le_of_lt (b _ hm)
 ·rw[N1] at hm;rw[hm.2];exact Ov _
 ·exact c _ hm
theorem aX.halves{par:OV}{v w x:Nat}{a:LN_}(b:par v=some w)(h:aX par x a)(c:v∈a):∃ A B,a=A++v::w::B/\aX (bH par v none) x (A++[v])/\aX (bH par v none) w (w::B):=by
 obtain⟨A,B,rfl⟩:=Pb c;have d:=h.nodup;obtain⟨d1,d2,d3⟩:=Ny.1 d;have f:=h.tail
 cases B with
 |nil=>rw[f.2] at b;cases b
 |cons z B=>
  have g:=f.2.1;rw[b] at g;simp only[Na] at g;subst g;refine⟨A,B,rfl,aX.cut (by simp[bH]) h (λ y i=>?_),f.2.2.congr λ y i=>?_⟩
  ·have:y≠v:=λ e=>d3 y i v ai e;simp[bH,this]
  ·have:y≠v:=λ e=>(NG.1 d2).1 (e▸i);simp[bH,this]
def KT(n:Nat)(least:Int)(par:OV)(val:Nat->Int)(wait:LN_):Prop:=∀ u w,u<=n->par u=some w->val u<least->∃ x∈wait,∃ px,aX par x px/\u∈px
theorem KT.pop{n:Nat}{least:Int}{par:OV}{val:Nat->Int}{wait:LN_}{x:Nat}(h:KT n least par val (wait++[x])){d:LN_}(hp:aX par x d)(hm:∀ z∈d,least<=val z):KT n least par val wait:=by
 intro u w hu hw hl;obtain⟨y,a,e,b,c⟩:=h u w hu hw hl
 rcases Nm.1 a with a|a
 ·exact⟨y,a,e,b,c⟩
 ·rw[Nh.1 a] at b;rw[aX.uniq b hp] at c;have:=hm u c;omega
theorem KT.cut{n:Nat}{least:Int}{par:OV}{val:Nat->Int}{wait:LN_}(h:KT n least par val wait){v w:Nat}(k:par v=some w){d:Int}:KT n least (bH par v none) (iV val v d) (wait++[w]):=by
 intro u z hu f hl;have b:u≠v:=λ e=>by subst e;simp[bH] at f
 obtain⟨y,g,i,j,a⟩:=h u z hu (by simpa [bH,b] using f) (by simpa [iV,b] using hl);by_cases c:v∈i
 ·obtain⟨A,B,rfl,l,m⟩:=j.halves k c
  rcases Nm.1 a with a|a
  ·exact⟨y,by simp[g],_,l,by simp[a]⟩
  ·rcases Nl.1 a with a|a
   ·exact absurd a b
   ·exact⟨w,ai,_,m,a⟩
 ·exact⟨y,by simp[g],i,j.congr λ z f=>by have:z≠v:=λ e=>c (e▸f);simp[bH,this],a⟩
section
variable {P:EP} {L:Nat->LN_} {lv:Nat->Int} {gv:Nat->Nat} {rm0 tr:LI_} {pos:LN_} {par:OV} {val:Nat->Int} {rm:LI_}
structure rG (P:EP) (L:Nat->LN_) (tr:LI_) (pos:LN_) (par:OV) (val:Nat->Int) (v:Nat) (p:LN_) (y:Nat) (W:LN_):Prop where
 on:Tr P.N v W y
 at_:∀ r∈W,eL P.N r∈p/\(∃ q,pos[eL P.N r]?=some q/\(L (eL P.N r))[q]?=some r)/\par (eL P.N r)=some (gQ P.N r)/\val (eL P.N r)=tr.getD r 0
 all:∀ z∈p,z=y\/∃ r∈W,eL P.N r=z
theorem TA.walk_of(h:TA P L rm0 tr pos par val rm)(hP:mr P L lv gv):∀ {p:LN_} {v y:Nat},aX par v p->v<=P.n->p.getLast?=some y->∃ W,rG P L tr pos par val v p y W
 |[],_,_,hp,_,_=>hp.elim
 |[z],v,y,⟨b,_⟩,_,c=>by
  simp only[List.getLast?_singleton,Na] at c;refine⟨[],?_,λ r m=>(by cases m),λ x a=>.inl ?_⟩
  ·show v=y;omega
  ·rw[Nh.1 a];omega
 |z::g::l,v,y,⟨b,i,o⟩,s,c=>by
  obtain⟨q,r,k1,j,k,t⟩:=h.link v g s i;obtain⟨g1,g2,g3⟩:=i4 hP (M9 j)
  have u:g<=P.n:=by
   have:=(j1 hP.right g1).2.2;have:=hP.nodes;omega
  obtain⟨W,d⟩:=TA.walk_of h hP o u (by simpa using c);refine⟨r::W,⟨g2,by rw[k];exact d.on⟩,λ e he=>?_,λ x a=>?_⟩
  ·rcases Nl.1 he with rfl|he
   ·refine⟨by rw[g2,b];simp,⟨q,by rw[g2];exact k1,by rw[g2];exact j⟩,by rw[g2,k];exact i,by rw[g2];exact t⟩
   ·obtain⟨w,A,B,C⟩:=d.at_ e he;exact⟨On _ w,A,B,C⟩
  ·rcases Nl.1 a with rfl|a
   ·exact .inr ⟨r,ai,by rw[g2];exact b⟩
   ·rcases d.all x a with f|⟨e,he,f⟩
    ·exact .inl f
    ·exact .inr ⟨e,by simp[he],f⟩
abbrev n9(p:LN_)(a:Int)(k:Nat)(val:Nat->Int):Nat->Int:=λ z=>if z∈[k] then (if z∈p then val z+-a else val z)+a else (if z∈p then val z+-a else val z)
theorem TA.push(h:TA P L rm0 tr pos par val rm){p W:LN_}{v y:Nat}(hp:aX par v p)(A:p.getLast?=some y)(j:rG P L tr pos par val v p y W){a:Int}{d:LI_}(f:∀ u r,r∈L u->d.getD r 0=tr.getD r 0-if r∈W then a else 0)
 (k:∀ u r,r∈L u->eL P.N r=u) (n:∀ r,0<=d.getD r 0/\d.getD r 0<=4611686018427387903):TA P L rm0 d pos par (n9 p a y val) rm:=by
 have o:par y=none:=hp.root_last A;have hyp:y∈p:=Oz A;refine⟨h.posl,λ u w hu hw=>?_,λ u hu s=>?_,h.rml,λ u r l c=>?_,h.rest,n⟩
 ·obtain⟨q,r,k1,t,D,B⟩:=h.link u w hu hw;have m:=List.mem_of_getElem? t;have c:u≠y:=fun e=>by rw[e,o] at hw;cases hw
  refine⟨q,r,k1,t,D,?_⟩;rw[f u r m];simp only[n9,Nh,if_neg c];by_cases b:u∈p
  ·rw[if_pos b]
   rcases j.all u b with e|⟨e,he,x⟩
   ·exact absurd e c
   ·obtain⟨_,⟨F,g,i⟩,_⟩:=j.at_ e he;rw[x] at g i;rw[k1] at g;simp only[Na] at g;subst g;rw[t] at i;simp only[Na] at i;subst i;rw[if_pos he,B];omega
  ·rw[if_neg b,if_neg (λ he=>b (by have:=(j.at_ r he).1;rwa [k u r m] at this)),B];omega
 ·simp only[n9,Nh];by_cases e:u=y
  ·subst e;rw[if_pos rfl,if_pos hyp,h.free u hu s];omega
  ·rw[if_neg e,if_neg,h.free u hu s];intro b
   rcases j.all u b with E|⟨r,l,x⟩
   ·exact e E
   ·have:=(j.at_ r l).2.2.1;rw[x,s] at this;cases this
 ·rw[f u r l,if_neg,Int.sub_zero]
  ·exact h.lead u r l c
  ·intro z;obtain⟨_,⟨q,g,i⟩,C,_⟩:=j.at_ r z;rw[k u r l] at g i C;exact c q (by rw[C];simp) g i
theorem rG.pi{v y:Nat}{p W:LN_}(c:rG P L tr pos par val v p y W)(f:v=P.N.src.toNat)(b:PI P.N L P.least tr pos [])(d:∀ u r,r∈L u->eL P.N r<=P.n)(a:∀ u w,u<=P.n->par u=some w->P.least<=val u):PI P.N L P.least tr pos W/\dQ P.N W=y:=by
 subst f;refine⟨⟨b.pl,⟨y,c.on⟩,λ r g=>?_,b.pass⟩,(BY c.on).symm⟩;obtain⟨_,⟨q,h,e⟩,i,j⟩:=c.at_ r g;exact⟨q,h,e,by rw[<- j];exact a _ _ (d _ r (M9 e)) i⟩
theorem rG.most{v y m:Nat}{p W:LN_}(c:rG P L tr pos par val v p y W)(d:W≠[])(hm:m∈p)(a:∀ z∈p,val m<=val z)(f:∀ r,tr.getD r 0<val y):val m=dx tr W:=by
 obtain⟨r,g,he⟩:=nu (rm:=tr) d
 have h:val m<=dx tr W:=by
  obtain⟨g1,_,_,g4⟩:=c.at_ r g;rw[he,<- g4];exact a _ g1
 rcases c.all m hm with e|⟨e,b,i⟩
 ·rw[e] at h;have:=f r;rw[<- he] at this;omega
 ·have j:=qC (rm:=tr) e b;obtain⟨_,_,_,g4⟩:=c.at_ e b;rw[i] at g4;omega
end
end Go.Proofs.YtmcnpaelaieniaaGreatDoor
