import Derived.Test.YtmcnpaelaieniaaGreatDoorQX127
import Derived.Lib.ItoaNum
import Derived.Test.YtmcnpaelaieniaaGreatDoorShelf
import Derived.Lib.LaidTab
import Derived.Lib.SmallJoins
import Derived.Lib.AppendIntMem
import Derived.Lib.AppendStr
import Derived.Lib.Builder
import Derived.Shelf.Strings.Builder1
/- A part of the proof. -/
set_option linter.unusedVariables false
set_option linter.unusedSimpArgs false
set_option maxHeartbeats 8000000
namespace Go.Proofs.YtmcnpaelaieniaaGreatDoor
open Go.RowKit
def vL(N:aR)(v:Int)(i:Nat):Bool:=match N.arcs[i]? with|some a=>decide (a.fr=v)|none=>false
def iE(N:aR)(v:Int):LN_:=(List.range N.arcs.length).filter (vL N v)
theorem Jt(N:aR)(l:LI_)(v:Int):IU N l v=(iE N v).find? λ e=>i5 (l.getD e 0):=by
 unfold IU iE;rw[List.find?_filter]
 congr 1
 funext i
 unfold wX vL i5
 cases N.arcs[i]? with
 |none=>rfl
 |some a=>by_cases b:a.fr=v<;>by_cases c:0<l.getD i 0<;>simp[b]
theorem GB{N:aR}{v:Int}{e:Nat}(h:e∈iE N v):e<N.arcs.length:=N4.1 (Pc.1 h).1
theorem EL(N:aR)(v:Int):(iE N v).length<=N.arcs.length:=by
 have:=OA (vL N v) (List.range N.arcs.length);rw[Om] at this;exact this
theorem yz{α:Type}{p:α->Bool}{e:α}:∀ {D:List α},D.find? p=some e->D[D.findIdx p]?=some e/\D.findIdx p<D.length
 |[],h=>by simp at h
 |x::D,h=>by
  by_cases hp:p x=true
  ·rw[List.find?_cons_of_pos hp] at h;rw[List.findIdx_cons,hp];exact⟨h,ai⟩
  ·have a:p x=false:=by simpa using hp
   rw[List.find?_cons_of_neg hp] at h;rw[List.findIdx_cons,a];obtain⟨b,c⟩:=yz h;exact⟨by simpa using b,by simpa using c⟩
structure zH (N:aR) (left:LI_) (n:Nat) (pos:LN_):Prop where
 len:pos.length=n+1
 used:∀ (v q:Nat),pos[v]?=some q->q<=(iE N (v:Int)).length/\∀ j e,j<q->(iE N (v:Int))[j]?=some e->i5 (left.getD e 0)=false
theorem zH.next{N:aR}{left:LI_}{n:Nat}{pos:LN_}(h:zH N left n pos){v q e:Nat}(f:pos[v]?=some q)(he:IU N left (v:Int)=some e):∃ k,k=((iE N (v:Int)).drop q).findIdx (λ e=>i5 (left.getD e 0))/\q+k<(iE N (v:Int)).length/\(iE N (v:Int))[q+k]?=some e/\zH N left n (pos.set v (q+k)):=by
 obtain⟨i,b⟩:=h.used v q f;rw[Jt] at he
 have l:((iE N (v:Int)).drop q).find? (λ e=>i5 (left.getD e 0))=some e:=by
  have m:iE N (v:Int)=(iE N (v:Int)).take q++(iE N (v:Int)).drop q:=(Oh q _).symm;rw[m,List.find?_append] at he
  have o:((iE N (v:Int)).take q).find? (λ e=>i5 (left.getD e 0))=none:=List.find?_eq_none.2 λ x c=>by
   obtain⟨j,d⟩:=Oo.1 c;have a:j<q:=by have:=(Nb.1 d).1;rw[ND] at this;omega
   rw[Pw,if_pos a] at d;rw[b j x a d];simp
  rw[o] at he
  simpa using he
 obtain⟨g,r⟩:=yz l;rw[Og] at g;rw[N5] at r;refine⟨_,rfl,aa,g,by rw[NQ];exact h.len,λ u p hp=>?_⟩;by_cases hu:v=u
 ·subst hu;rw[No (Nb.1 f).1] at hp;obtain rfl:=NM hp;refine⟨aa,λ j x d c=>?_⟩;by_cases a:j<q
  ·exact b j x a c
  ·have s:j-q<((iE N (v:Int)).drop q).findIdx (fun e=>i5 (left.getD e 0)):=by omega
   have:=Py s;have t:=(Nb.1 c).1;simp only[List.getElem_drop] at this;have w:q+(j-q)=j:=aa;simp only[w] at this;rw[(Nb.1 c).2] at this
   simpa using this
 ·rw[Nq hu] at hp;exact h.used u p hp
theorem tv.adv{rows:List ff}{f:Nat->Nat}{pos:LN_}{vals:LV_}(h:tv rows f pos vals){v q d:Nat}{row:ff}{g:OA_}(j:rows[v]?=some row)(hp:pos[v]?=some q)(m:row.l.length-q<=d)(r:q<row.l.length->g=some ⟨f v,q,none⟩)(k:Nat)(t:q+k<row.l.length):
 tv rows f (pos.set v (q+k)) (vals.set v (.slice (fT g d k 1) (row.l.length-q-k) (d-k))):=by
 have i:v<vals.length:=by rw[h.len];exact (Nb.1 j).1
 refine⟨by rw[NQ];exact h.len,λ u ro p hu a=>?_⟩;by_cases e:v=u
 ·subst e;rw[j] at hu;obtain rfl:=NM hu;rw[No (Nb.1 hp).1] at a;obtain rfl:=NM a;refine⟨_,d-k,by rw[No i,Nat.sub_sub],aa,λ s=>?_⟩;have:=e8 (A:=g) (c:=d) (l:=k) (n:=row.l.length-q) (sz:=1) (b:=f v) (o:=q) (λ _=>r aa) m aa;rw[this,NR]
 ·rw[Nq e] at a ⊢;exact h.at_ u ro p hu a
theorem Ih(D:LN_)(left:LI_):(D.map λ (i:Nat)=>(i:Int)).findIdx (E5 left)=D.findIdx λ e=>i5 (left.getD e 0):=by
 rw[List.findIdx_map];rfl
theorem Gl(N:aR)(U:N.Right)(A:OA_)(c:Nat)(left:LI_)(V:left.length=N.arcs.length)(C bl:Nat)(val:Int)(go n:Nat)(at_:Int)(pw:Nat)(rows:List ff)(E:rows.length=n+1)(X:∀ (v:Nat) (row:ff),rows[v]?=some row->row.l=(iE N (v:Int)).map λ (i:Nat)=>(i:Int))
 (d:Nat->Nat) (F:∀ (v:Nat) (row:ff),rows[v]?=some row->aj row.l≠[]->row.A=some ⟨d v,0,none⟩) (pos:LN_) (vals:LV_) (D:tv rows d pos vals) (H:zH N left n pos) (v e:Nat) (hv:v<=n) (he:IU N left (v:Int)=some e):
 Fn 201 [.pointer (some ⟨pw,0,none⟩),.int .i64 (v:Int)] (ay ([blk pw 256 (pz N A c (some ⟨bl,0,none⟩) left.length C val (some ⟨go,0,none⟩) (n+1) (n+1) at_),.own (.slice (some ⟨go,0,none⟩) (n+1) (n+1)) 23 1 (n+1) vals]++rows.map (bg 3)))
  ([.seg bl 0 (aj left)]++([blk pw 256 (pz N A c (some ⟨bl,0,none⟩) left.length C val (some ⟨go,0,none⟩) (n+1) (n+1) at_),.own (.slice (some ⟨go,0,none⟩) (n+1) (n+1)) 23 1 (n+1) vals]++rows.map (bg 3)))
  λ u H'=>∃ (pos':LN_) (f:LV_),tv rows d pos' f/\zH N left n pos'/\u=.int .i64 (e:Int)/\H'=[blk pw 256 (pz N A c (some ⟨bl,0,none⟩) left.length C val (some ⟨go,0,none⟩) (n+1) (n+1) at_),.own (.slice (some ⟨go,0,none⟩) (n+1) (n+1)) 23 1 (n+1) f]++rows.map (bg 3):=by
 have Y:=U.len;obtain⟨row,a⟩:∃ row,rows[v]?=some row:=⟨rows[v]'aa,an aa⟩;obtain⟨q,I⟩:∃ q,pos[v]?=some q:=⟨pos[v]'(by have:=H.len;omega),an (by have:=H.len;omega)⟩;obtain⟨A',c',hval,s,t⟩:=D.at_ v row q a I;have g:=X v row a;have Q:row.l.length=(iE N (v:Int)).length:=by rw[g,Nj]
 have Z:=EL N (v:Int);obtain⟨k,hk,R,K,L⟩:=H.next I he;have w:q<row.l.length:=aa;have y:=t w
 have j:aj row.l≠[]:=by
  intro h0;have:row.l.length=0:=by rw[<- bU,h0];rfl
  omega
 have p:=F v row a j;have O:=D.adv a I s t k aa;have z:(row.l.drop q).findIdx (E5 left)=k:=by rw[g,<- List.map_drop,Ih,<- hk]
 generalize hM:ay _=M
 refine aT Tryz.func201 λ w0=>?_;refine bA ?_;refine dh (cs:=[ap pw 0]) λ qb=>?_;refine aN ?_;show J _ _ _ _ ([_,_,_,_]++rows.map (bg 3));refine cA ?_;refine bK 23 (dS [0,1,2,3,4,5,6,7,8,9,10,11,12,13,14,15,16,17,18,19]++[(20,false)]++dS [21,22]) [0,1,2,3] aW ab rfl ?_
 have S:=Ew A' c' (d v) q (row.l.drop q) (λ _=>y) (by rw[N5];omega) N A c C val (aJ go 0) (n+1) (n+1) at_ left bl qb pw (λ x hx=>by
  have:=PM hx;rw[g] at this;obtain⟨i,hi,rfl⟩:=NB.1 this;have:=GB hi;omega)
 rw[z,N5,oY] at S;refine KA ?_;refine bc (v:=ap pw 0) rfl (ad 0 rfl) ?_;refine a6 ?_;refine bc (v:=ax go 0 (n+1) (n+1)) rfl (ad 2 rfl) ?_;refine a6 ?_;refine Hm ?_;refine KA ?_;refine Hm ?_;refine jM ?_
 refine bj (fst:=[]) (cap:=[]) [] S rfl rfl rfl rfl aW ⟨en 0 rfl,en 2 rfl,bx 1 rfl,⟨v+4,bg 3 row,ai,(show (rows.map (bg 3))[v]?=_ by rw[List.getElem?_map,a];rfl),
  (by have:=dI (bi (e:=3) (sz:=1) (n:=row.l.length) (cap:=row.c) (λ _=>p:aj row.l≠[]->row.A=aJ (d v) 0)) q;rw[NO] at this;exact this),.inr (by unfold bg cT;rw[p];rfl)⟩,be⟩ aE ?_
 rintro u H' ⟨rfl,rfl⟩;refine dE ?_;refine bZ [0,1,2,3]<|bc rfl (f0 (i:=k) rfl rfl rfl rfl rfl aa) ?_;refine bc rfl (bG rfl (show v<n+1 by omega)) ?_;refine cP<|aY 3 rfl rfl rfl rfl (fz rfl rfl rfl (by rw[D.len];omega)) [] rfl<|ah<|?_;show J _ _ _ _ ([_,_,_,_]++rows.map (bg 3))
 have B:fT A' c' k 1=aJ (d v) (q+k):=by
  have:=e8 (A:=A') (c:=c') (l:=k) (n:=row.l.length-q) (sz:=1) (b:=d v) (o:=q) (λ _=>y) s aa;rw[this,NR]
 have r:(vals.set v (.slice (fT A' c' k 1) (row.l.length-q-k) (c'-k)))[v]?=some (ax (d v) (q+k) (row.l.length-q-k) (c'-k)):=by rw[No (by rw[D.len];omega),B]
 have P:row.l[q+k]?=some (e:Int):=by rw[g,Ni,K];rfl
 refine aI ?_;refine bh (v:=ap pw 0) 0 ?_;refine az ?_;refine bh (v:=ax go 0 (n+1) (n+1)) 2 ?_;refine az ?_;refine aG (bG rfl (show v<n+1 by omega)) ?_;refine aG (aA (v:=ax (d v) (q+k) (row.l.length-q-k) (c'-k)) 3 rfl rfl rfl r) ?_;refine aG (hU (m:=0) rfl aa) ?_
 refine ae [] (dW (b:=d v) (off:=q+k) (i:=0) (cs:=(aj row.l).drop (q+k)) (v:=af (e:Int)) (c:=bg 3 row) (v+4) rfl rfl (show (rows.map (bg 3))[v]?=_ by rw[List.getElem?_map,a];rfl)
  (by have:=dI (bi (e:=3) (sz:=1) (n:=row.l.length) (cap:=row.c) (λ _=>p:aj row.l≠[]->row.A=aJ (d v) 0)) (q+k);rw[NO] at this;exact this)
  (by show ((aj row.l).drop (q+k))[0]?=_;rw[Og];exact ep P)) rfl ?_
 refine aN ?_;show J _ _ _ _ ([_,_,_,_]++rows.map (bg 3));exact bQ (aw.re [2,3] rfl ab)<|bM ⟨_,rfl,_,_,O,L,rfl,rfl⟩
structure xX (N:aR) (l:LI_) (to_ s0:Int) (n:Nat) (seen:LI_) (arcs:LN_) (at_:Int):Prop where
 fuel:N.nodes.toNat+1<=n+seen.length
 shape:seen=arcs.map (pk N)++[at_]
 nodup:seen.Nodup
 rng:∀ v∈seen,1<=v/\v<=N.nodes
 walk:kH N s0 arcs at_
 room:∀ i∈arcs,∃ r:eq,N.arcs[i]?=some r/\0<l.getD i 0
 goes:∃ i,oh N l at_ i
theorem xX.few{N:aR}{l:LI_}{to_ s0:Int}{n:Nat}{seen:LI_}{arcs:LN_}{at_:Int}(a:N.Right)(h:xX N l to_ s0 n seen arcs at_):seen.length<=N.nodes.toNat/\arcs.length+1=seen.length/\0<n:=by
 have b:=a.nodes
 have:=kF seen ((List.range N.nodes.toNat).map λ (i:Nat)=>(i:Int)+1) h.nodup λ x c=>by
  have:=h.rng x c;exact NB.2 ⟨(x-1).toNat,N4.2 aa,aa⟩
 simp only[Nj,Om] at this;have d:=M8 List.length h.shape;simp only[Ng,Nj,Nf,NA] at d;have:=h.fuel;omega
theorem xX.step{N:aR}(k:N.Right){l:LI_}(m:Ranged N l){to_ s0:Int}(g:∀ v:Int,1<=v/\v<=N.nodes->v≠to_->dJ (N.arcs.zip l) v<=0){n:Nat}{seen:LI_}{arcs:LN_}{at_:Int}(h:xX N l to_ s0 (n+1) seen arcs at_):
 ∃ (e:Nat) (a:eq),IU N l at_=some e/\N.arcs[e]?=some a/\jW N e=a.to/\(a.to≠to_->a.to∉seen->xX N l to_ s0 n (seen++[a.to]) (arcs++[e]) a.to):=by
 obtain⟨i,hi⟩:=h.goes;obtain⟨e,he⟩:=F2 hi;obtain⟨a,b,c,hp⟩:=yZ he;have j:=uv b;have d:=k.arc a (M9 b);refine⟨e,a,he,b,j,λ o p=>⟨?_,?_,?_,?_,pU b (by rw[c];exact h.walk),?_,KG m (g _ d.2.1 o) b rfl hp⟩⟩
 ·have:=h.fuel;rw[Ng];simp only[Nf,NA];omega
 ·rw[h.shape,NJ];simp[kK b,c]
 ·rw[Ny];refine⟨h.nodup,ai,λ x g y q=>?_⟩;rw[Nh.1 q];rintro rfl;exact p g
 ·intro v r
  rcases Nm.1 r with h|f
  ·exact xX.rng ‹_› v h
  ·rw[Nh.1 f];exact d.2.1
 ·intro i hi
  rcases Nm.1 hi with f|f
  ·exact h.room i f
  ·rw[Nh.1 f];exact⟨a,b,hp⟩
theorem Dw{N:aR}{l:LI_}{kd to_:Int}{n:Nat}{seen:LI_}{arcs:LN_}{at_:Int}{e:Nat}(he:IU N l at_=some e):s5 N l kd to_ (n+1) seen arcs at_=if jW N e=to_ then (kd,arcs++[e]) else if jW N e∈seen then (99,(arcs++[e]).drop (seen.idxOf (jW N e))) else s5 N l kd to_ n (seen++[jW N e]) (arcs++[e]) (jW N e):=by
 rw[s5,he]
def MR(w:Wk):Int:=if 0<w.val then 112 else if w.val<0 then 98 else 99
def KB(N:aR)(w:Wk):Int:=if 0<w.val then N.src else if w.val<0 then N.snk else pk N (bW w.left)
def LZ(N:aR)(w:Wk):Int:=if 0<w.val then N.snk else if w.val<0 then N.src else 0
theorem LA(N:aR)(w:Wk):x3 N w=s5 N w.left (MR w) (LZ N w) (N.nodes.toNat+1) [KB N w] [] (KB N w):=by
 unfold x3 MR LZ KB;by_cases a:0<w.val
 ·simp only[if_pos a]
 ·by_cases b:w.val<0
  ·simp only[if_neg a,if_pos b]
  ·simp only[if_neg a,if_neg b]
theorem Gm{N:aR}(k:N.Right){w:Wk}(h:w.OK N)(hp:bW w.left<w.left.length):xX N w.left (LZ N w) (KB N w) (N.nodes.toNat+1) [KB N w] [] (KB N w)/\(∀ v:Int,1<=v/\v<=N.nodes->v≠LZ N w->dJ (N.arcs.zip w.left) v<=0):=by
 have p:=h.flow.toRanged;have b:=Cu k h.flow;rw[h.worth] at b;have u:=k.src;have x:=k.snk;have y:=h.flow.len;have c:∀ v:Int,1<=v/\v<=N.nodes->v≠N.src->v≠N.snk->dJ (N.arcs.zip w.left) v=0:=h.flow.kept;have d:=h.worth;have mk:∀ s:Int,1<=s/\s<=N.nodes->(∃ i,oh N w.left s i)->∀ t,xX N w.left t s (N.nodes.toNat+1) [s] [] s:=λ s z A t=>⟨by simp only[Nf,NA];omega,rfl,ai,λ v f=>by rw[Nh.1 f];exact z,rfl,λ i hi=>absurd hi Nr,A⟩;unfold LZ KB;by_cases l:0<w.val
 ·simp only[if_pos l]
  exact⟨mk _ u (Ck p (by rw[b];omega)) _,λ v f g=>by
   by_cases e:v=N.src
   ·rw[e,b];omega
   ·rw[c v f e g];omega⟩
 ·by_cases c2:w.val<0
  ·simp only[if_neg l,if_pos c2]
   exact⟨mk _ x (Ck p (by rw[d];omega)) _,λ v f g=>by
    by_cases e:v=N.snk
    ·rw[e,d];omega
    ·rw[c v f g e];omega⟩
  ·simp only[if_neg l,if_neg c2];have m:=uH hp;obtain⟨a,n⟩:∃ a,N.arcs[bW w.left]?=some a:=⟨_,List.getElem?_eq_getElem aa⟩;have o:=k.arc a (List.mem_of_getElem? n);have j:=kK n;refine⟨mk _ (by rw[j];exact o.1) ⟨bW w.left,a,n,j.symm,m⟩ _,fun v f _=>?_⟩;by_cases q:v=N.src
   ·rw[q,b];omega
   ·by_cases r:v=N.snk
    ·rw[r,d];omega
    ·rw[c v f q r];omega
theorem v5(l:LI_):one (aj l)=true:=by
 induction l with
 |nil=>rfl
 |cons x l a=>exact a
theorem oy(A:OA_)(c b o:Nat)(l:LI_)(d:l≠[]->A=some ⟨b,o,none⟩)(hl:l.length<=100000):
 Fn 99 [.slice A l.length c] [] [.seg b o (aj l)] λ v H'=>∃ (f:OA_) (i:Nat),v=.slice f l.length i/\H'=[.own (.slice f l.length i) 3 1 l.length (aj l)]:=by
 refine aT Tryz.func99 λ w0=>?_;refine cW ?_;refine aG (wR rfl rfl rfl rfl) ?_;refine ah ?_
 cases A with
 |none=>
  have j:l=[]:=NE λ h=>by have:=d h;simp at this
  subst j;refine eP ?_;exact b6 3 1<|aL [0] ⟨_,rfl,none,0,rfl,rfl⟩
 |some a=>
  refine bu rfl (ag ?_);refine bA ?_;refine dp λ g=>?_;refine lH 1 0 rfl ab<|az ?_;exact bp (n:=0) (m:=l.length) (off:=o) (b:=b) (news:=aj l) 0 1 rfl rfl rfl rfl rfl rfl ab rfl rfl (bn _ _ _) (λ h=>d (λ e=>h (by rw[e];rfl))) (by rw[bU];omega) (v5 l) aa aa (λ _ _=>rfl) λ A2 c2=>F5
theorem gS(A:OA_)(c b o:Nat)(l:LI_)(d:l≠[]->A=some ⟨b,o,none⟩)(hl:l.length<=100000):
 Fn 76 [.slice A l.length c] [] [.seg b o (aj l)] λ v H'=>∃ (f:OA_) (i:Nat),v=.slice f l.length i/\H'=[.own (.slice f l.length i) 2 1 l.length (aj l)]:=by
 refine aT Tryz.func76 λ w0=>?_;refine cW ?_;refine aG (wR rfl rfl rfl rfl) ?_;refine ah ?_
 cases A with
 |none=>
  have j:l=[]:=NE λ h=>by have:=d h;simp at this
  subst j;refine eP ?_;exact b6 2 1<|aL [0] ⟨_,rfl,none,0,rfl,rfl⟩
 |some a=>
  refine bu rfl (ag ?_);refine bA ?_;refine dp λ g=>?_;refine lH 1 0 rfl ab<|az ?_;exact bp (n:=0) (m:=l.length) (off:=o) (b:=b) (news:=aj l) 0 1 rfl rfl rfl rfl rfl rfl ab rfl rfl (bn _ _ _) (λ h=>d (λ e=>h (by rw[e];rfl))) (by rw[bU];omega) (v5 l) aa aa (λ _ _=>rfl) λ A2 c2=>F5
theorem Eh{l:LI_}{A B:OA_}(h:aj l≠[]->A=B)(hl:l≠[]):A=B:=h λ a=>hl (by simpa [aj] using a)
theorem tA{H:Heap}:∀ (K:Heap) (i:Nat),(∀ j,H[i+j]?=K[j]?)->cI H (List.range' i K.length)=some K
 |[],i,_=>rfl
 |c::K,i,hi=>by
  have a:H[i]?=some c:=by simpa using hi 0
  rw[Nf,List.range'_succ];unfold cI;rw[a,tA K (i+1) (λ j=>by have:=hi (j+1);simpa [N3,PY 1] using this)]
theorem sc(c:aU)(K:Heap):cI (c::K) (List.range' 1 K.length)=some K:=tA K 1 λ j=>by rw[PY,N8]
theorem Ge(N:aR)(P:N.Right)(A:OA_)(c b o:Nat)(hA:N.arcs≠[]->A=some ⟨b,o,none⟩)(w:Wk)(hw:w.OK N)(hp:bW w.left<w.left.length)(Y bl:Nat)(go n:Nat)(hn:N.nodes=n)(C:Nat)(rows:List ff)(Q:rows.length=n+1)(hL:∀ (v:Nat) (row:ff),rows[v]?=some row->row.l=(iE N (v:Int)).map λ (i:Nat)=>(i:Int))
 (gv:Nat->Nat) (hq:∀ (v:Nat) (row:ff),rows[v]?=some row->aj row.l≠[]->row.A=some ⟨gv v,0,none⟩) (pos:LN_) (vals:LV_) (hV:tv rows gv pos vals) (hD:zH N w.left n pos):
 Fn 195 [.pointer (some ⟨C,0,none⟩)] (ay ([blk C 256 (pz N A c (some ⟨bl,0,none⟩) w.left.length Y w.val (some ⟨go,0,none⟩) (n+1) (n+1) (bW w.left:Nat)),.own (.slice (some ⟨go,0,none⟩) (n+1) (n+1)) 23 1 (n+1) vals]++rows.map (bg 3)))
  ([.seg b o (arcs N.arcs),.seg bl 0 (aj w.left)]++([blk C 256 (pz N A c (some ⟨bl,0,none⟩) w.left.length Y w.val (some ⟨go,0,none⟩) (n+1) (n+1) (bW w.left:Nat)),.own (.slice (some ⟨go,0,none⟩) (n+1) (n+1)) 23 1 (n+1) vals]++rows.map (bg 3)))
  λ u H'=>∃ (pos':LN_) (y:LV_) (A':OA_) (c':Nat),tv rows gv pos' y/\zH N w.left n pos'/\u=.agg #[.int .u8 (x3 N w).1,.slice A' (x3 N w).2.length c',.int .i64 0]/\
   H'=[.own (.slice A' (x3 N w).2.length c') 3 1 (x3 N w).2.length (cJ (x3 N w).2),blk C 256 (pz N A c (some ⟨bl,0,none⟩) w.left.length Y w.val (some ⟨go,0,none⟩) (n+1) (n+1) (bW w.left:Nat)),.own (.slice (some ⟨go,0,none⟩) (n+1) (n+1)) 23 1 (n+1) y]++rows.map (bg 3):=by
 have hg:=P.len;have hd:=P.nodes;have hf:=hw.flow.len;have D:bW w.left<N.arcs.length:=aa;obtain rfl:=hA (by intro h0;rw[h0] at D;simp at D);obtain⟨a0,h1⟩:∃ a,N.arcs[bW w.left]?=some a:=⟨_,an D⟩;obtain⟨q0,q1,q2⟩:=gA h1;have hc:=kK h1;obtain⟨h2,h3⟩:=Gm P hw hp
 generalize hM:ay _=M
 refine ie Tryz.func195 rfl rfl λ w0=>bA ?_;refine dM λ Z=>?_;refine ah<|aI ?_;refine fv ?_;refine dM λ p3=>?_;refine iG ?_;show J _ _ _ _ ([_,_,_,_,_,_]++rows.map (bg 3));refine cA ?_;refine bK 15 (dS [0,1,2,3,4,5,6,7,8,9,10,11]++[(12,false),(13,false)]++dS [14]) [2,4] aW ab rfl<|a6 ?_;refine bc (v:=ax b o N.arcs.length c) rfl (ad 1 rfl) ?_;refine a6 ?_;refine bc (v:=af ((bW w.left:Nat):Int)) rfl (ad 1 rfl) ?_;refine bc rfl (j9 rfl D) ?_;refine a6 ?_;refine bc (v:=af a0.fr) rfl (fA 0 rfl rfl rfl (N3 _ _ _) q0) ?_;refine cz ?_;refine dM λ p4=>?_;refine bZ [3,5]<|cz ?_;refine dz 0 ?_;refine bZ [3,5]<|iA ?_;refine ou ?_;have L:=LA N w;obtain⟨kd,E⟩:∃ x,x=MR w:=⟨_,rfl⟩;obtain⟨st,q⟩:∃ x,x=KB N w:=⟨_,rfl⟩;obtain⟨to_,j⟩:∃ x,x=LZ N w:=⟨_,rfl⟩;rw[<- q,<- j] at h2;rw[<- j] at h3;rw[<- E,<- q,<- j] at L
 refine iB (σ:=Unit) (λ _=>[(5,af to_),(4,ap p4 0),(3,ap p3 0),(2,ap Z 0),(0,ap C 0)])
  (λ _=>[blk p4 3 [af st],blk p3 235 [.int .u8 kd,.slice none 0 0,af 0],blk Z 235 [.int .u8 0,.slice none 0 0,af 0],.seg b o (arcs N.arcs),.seg bl 0 (aj w.left),blk C 256 (pz N (aJ b o) c (aJ bl 0) w.left.length Y w.val (aJ go 0) (n+1) (n+1) (bW w.left:Nat)),.own (ax go 0 (n+1) (n+1)) 23 1 (n+1) vals]++rows.map (bg 3)) ?_ ?_
 ·refine au<|aI ?_;refine bh (v:=af w.val) 5 ?_;refine aN ?_;refine ak rfl (λ d=>?_) (λ f=>?_)
  ·have d:0<w.val:=d;obtain rfl:kd=112:=E.trans (if_pos d);obtain rfl:st=N.src:=q.trans (if_pos d);obtain rfl:to_=N.snk:=j.trans (if_pos d);refine Ie ?_;refine bc (v:=af N.src) rfl (ad 0 rfl) ?_;refine a6 ?_;refine bc (v:=af N.snk) rfl (ad 0 rfl) ?_;exact HE
  ·have f:¬ 0<w.val:=f;refine aI ?_;refine bh (v:=af w.val) 5 ?_;refine aN ?_;refine ak rfl (λ d=>?_) (λ g=>ag ?_)
   ·have d:w.val<0:=d;obtain rfl:kd=98:=E.trans ((if_neg f).trans (if_pos d));obtain rfl:st=N.snk:=q.trans ((if_neg f).trans (if_pos d));obtain rfl:to_=N.src:=j.trans ((if_neg f).trans (if_pos d));refine Ie ?_;refine bc (v:=af N.snk) rfl (ad 0 rfl) ?_;refine a6 ?_;refine bc (v:=af N.src) rfl (ad 0 rfl) ?_;exact HE
   ·have g:¬ w.val<0:=g;obtain rfl:kd=99:=E.trans ((if_neg f).trans (if_neg g));obtain rfl:st=a0.fr:=q.trans ((if_neg f).trans ((if_neg g).trans hc));obtain rfl:to_=0:=j.trans ((if_neg f).trans (if_neg g));exact⟨(),a8,aw.refl⟩
 rintro⟨⟩;refine ou ?_;refine aI ?_;refine bh (v:=af st) 0 ?_;refine dp λ g6=>?_;refine ji ?_;refine ik ?_;refine b6 3 1 ?_
 refine cN (σ:=Nat×LI_×LN_×Int×LN_×LV_×(OA_×Nat)×(OA_×Nat)) (λ t=>[(6,.slice t.2.2.2.2.2.2.1.1 t.2.1.length t.2.2.2.2.2.2.1.2),(5,af to_),(4,ap p4 0),(3,ap p3 0),(2,ap Z 0),(0,ap C 0)])
  (λ t=>[.own (.slice t.2.2.2.2.2.2.2.1 t.2.2.1.length t.2.2.2.2.2.2.2.2) 3 1 t.2.2.1.length (cJ t.2.2.1),.own (.slice t.2.2.2.2.2.2.1.1 t.2.1.length t.2.2.2.2.2.2.1.2) 3 1 t.2.1.length (aj t.2.1),blk p4 3 [af t.2.2.2.1],blk p3 235 [.int .u8 kd,.slice t.2.2.2.2.2.2.2.1 t.2.2.1.length t.2.2.2.2.2.2.2.2,af 0],blk Z 235 [.int .u8 0,.slice none 0 0,af 0],.seg b o (arcs N.arcs),.seg bl 0 (aj w.left),blk C 256 (pz N (aJ b o) c (aJ bl 0) w.left.length Y w.val (aJ go 0) (n+1) (n+1) (bW w.left:Nat)),.own (ax go 0 (n+1) (n+1)) 23 1 (n+1) t.2.2.2.2.2.1]++rows.map (bg 3))
  (λ t=>xX N w.left to_ st t.1 t.2.1 t.2.2.1 t.2.2.2.1/\x3 N w=s5 N w.left kd to_ t.1 t.2.1 t.2.2.1 t.2.2.2.1/\tv rows gv t.2.2.2.2.1 t.2.2.2.2.2.1/\zH N w.left n t.2.2.2.2.1) (λ t=>t.1)
  (N.nodes.toNat+1,[st],[],st,pos,vals,(aJ g6 0,1),(none,0)) a8 aw.refl ⟨h2,L,hV,hD⟩ ?_
 rintro⟨m,S,W,v,hy,R,⟨As,cs⟩,⟨Aw,cw⟩⟩ ⟨hI,s,hv,hr⟩;simp only at hI s hv hr ⊢;obtain⟨f1,f2,f3⟩:=hI.few P;obtain⟨m,rfl⟩:∃ k,m=k+1:=⟨m-1,aa⟩;obtain⟨e,a,he,ha,hs,hk⟩:=hI.step P hw.flow.toRanged h3;rw[Dw he] at s;rw[hs] at s;have e2:=hI.rng v (by rw[hI.shape];simp);obtain⟨vn,rfl⟩:∃ vn:Nat,v=vn:=⟨v.toNat,aa⟩;have h4:e<N.arcs.length:=(Nb.1 ha).1;obtain⟨r0,r1,r2⟩:=gA ha;have e1:=P.arc a (M9 ha);refine aP (aH 1 rfl) λ ⟨_,_,F,hH⟩=>?_;obtain⟨gs,F⟩:=bo F hH;refine au<|aI ?_;refine bh (v:=af (vn:Int)) 2 ?_;refine dC (fst:=[]) (cap:=[]) (Gl N P (aJ b o) c w.left hf Y bl w.val go n (bW w.left:Nat) C rows Q hL gv hq hy R hv hr vn e aa he) rfl (aw.mid [7,8] [0,1,2,3,4,5,6] rfl rfl ab) ⟨bx 6 rfl,be⟩ ?_;rintro u H' ⟨z,r,U,V,rfl,rfl⟩;refine⟨dc rfl (dd _ rows),?_⟩;refine cK aw.swap<|aN ?_;show J _ _ _ _ ([_,_,_,_,_,_,_,_,_]++rows.map (bg 3));refine aI ?_;refine bh (v:=.slice Aw W.length cw) 5 ?_;refine az ?_;refine dp λ g8=>?_;refine bp (n:=W.length) (m:=1) (off:=0) (news:=aj [(e:Int)]) 3 0 rfl rfl rfl rfl rfl rfl ab rfl rfl (aQ g8 _ _ (0,0)) aE rfl rfl aa aa (λ _ _=>rfl) λ H c4=>?_;rw[show W.length+1=(W++[e]).length by simp,oz];refine az ?_;refine dz 6 ?_;refine ah ?_;show J _ _ _ _ ([_,_,_,_,_,_,_,_,_,_]++rows.map (bg 3));refine bQ (aw.re [1,2,3,4,5,6,7,8,9] rfl ab)<|aI ?_;refine bh (v:=ax b o N.arcs.length c) 0 ?_;refine az ?_;refine aG (j9 rfl h4) ?_;refine az ?_;refine aG (v:=af a.to) (fA 7 rfl rfl rfl (N3 _ _ _) r1) ?_;refine dz 4 ?_;refine ah<|aI ?_;refine bh (v:=af a.to) 4 ?_;refine aN ?_;refine ak rfl (λ heq=>?_) (λ I=>ag ?_)
 ·have heq:a.to=to_:=heq;rw[if_pos heq] at s;refine aI ?_;refine bh (v:=.agg #[.int .u8 kd,.slice H (W++[e]).length c4,af 0]) 5 ?_;refine dz 6 ?_;refine ah ?_;show J _ _ _ _ ([_,_,_,_,_,_,_,_,_]++rows.map (bg 3));refine bQ (aw.re [6,2,0,1] rfl ab)<|bM<|?_;exact⟨[.agg #[.int .u8 kd,.slice H (W++[e]).length c4,af 0]],_,_,⟨⟨Z,0,_,_,rfl,rfl,rfl⟩,be⟩,PC,sc _ _,z,r,H,c4,U,V,by rw[s];rfl,by rw[s];rfl⟩
 have I:¬ a.to=to_:=I;rw[if_neg I] at s;refine aP (aH 2 rfl) λ ⟨_,_,K,ht⟩=>?_;obtain⟨g4,K⟩:=bo K ht;have TP:=Fj As cs gs 0 S (Eh F) aa a.to p4;refine aI ?_;refine cH (fst:=[]) (cap:=[]) TP rfl ⟨en 4 rfl,gy 3 rfl F,be⟩ ?_;refine cS ?_;refine ak rfl (λ B=>?_) (λ hN=>ag ?_)
 ·have B:S.findIdx (fun x=>x==a.to)<S.length:=by omega
  have hb:a.to∈S:=by
   obtain⟨x,hx,hj⟩:=List.findIdx_lt_length.1 B;have:x=a.to:=by simpa using hj
   rw[<- this];exact hx
  rw[if_pos hb,show S.idxOf a.to=S.findIdx (λ x=>x==a.to) from rfl] at s
  generalize S.findIdx (λ x=>x==a.to)=k at B s ⊢
  have k2:k<(W++[e]).length:=by rw[Ng];simp only[Nf,NA];omega
  have O:H=aJ g4 0:=K (l6 ai)
  have X:fT H c4 k 1=aJ g4 k:=by
   have:=e8 (A:=H) (c:=c4) (l:=k) (n:=(W++[e]).length) (sz:=1) (b:=g4) (o:=0) (λ _=>O) aa k2;rw[this];simp
  have TC:=oy (fT H c4 k 1) (c4-k) g4 k (((W++[e]).drop k).map λ (i:Nat)=>(i:Int)) (λ _=>X) (by rw[Nj,N5,Ng];simp only[Nf,NA];omega);rw[show aj (((W++[e]).drop k).map λ (i:Nat)=>(i:Int))=(cJ (W++[e])).drop k by unfold cJ;rw[List.map_drop,oY],Nj,N5] at TC;refine aI ?_;refine bh (v:=.slice H (W++[e]).length c4) 5 ?_;refine az ?_;refine aG (f0 (i:=k) rfl rfl rfl rfl rfl aa) ?_;refine fh (fst:=[]) (cap:=[]) TC rfl ⟨gC 2 rfl (by have:=dI (bi (e:=3) (sz:=1) (n:=(W++[e]).length) (cap:=c4) K) k;rw[NO] at this;exact this) (.inr (by rw[O];rfl)),be⟩ ?_;rintro u H' ⟨A6,c6,rfl,rfl⟩;refine fv ?_;refine dz 7 ?_;refine ah ?_;show J _ _ _ _ ([_,_,_,_,_,_,_,_,_,_]++rows.map (bg 3));refine bQ (aw.re [7,0,1,2] rfl ab)<|bM<|?_;exact⟨[.agg #[.int .u8 99,.slice A6 ((W++[e]).length-k) c6,af 0]],_,_,⟨⟨Z,0,_,_,rfl,rfl,rfl⟩,be⟩,PC,sc _ _,z,r,A6,c6,U,V,by rw[s];simp only[N5];rfl,by rw[s];simp only[N5];rw[show cJ ((W++[e]).drop k)=(cJ (W++[e])).drop k by unfold cJ;rw[List.map_drop,oY]];rfl⟩
 have hz:a.to∉S:=λ hm=>by
  have:S.findIdx (λ x=>x==a.to)<S.length:=List.findIdx_lt_length.2 ⟨a.to,hm,ai⟩;omega
 rw[if_neg hz] at s;refine aI ?_;refine bh (v:=af a.to) 4 ?_;refine dp λ g9=>?_;refine bp (n:=S.length) (m:=1) (off:=0) (news:=aj [a.to]) 4 0 rfl rfl rfl rfl rfl rfl ab rfl rfl (aQ g9 _ _ (0,0)) aE rfl rfl aa aa (λ _ _=>rfl) λ A7 c7=>?_;rw[show S.length+1=(S++[a.to]).length by simp,show aj S++aj [a.to]=aj (S++[a.to]) by simp[aj]];refine aN ?_;exact⟨(m,S++[a.to],W++[e],a.to,z,r,(A7,c7),(H,c4)),a8,(show aw _ ([_,_,_,_,_,_,_,_,_,_]++rows.map (bg 3)) _ from aw.re [3,4,5,6,7,8,9,1,2] rfl ab),⟨hk I hz,s,U,V⟩,by simp only;omega⟩
theorem Fz(l:LI_)(m:Int)(W:LN_)(e:Nat):pb l m (W++[e])=min (pb l m W) (l.getD e 0):=by unfold pb;rw[O4];rfl
theorem v6(m:Int)(i:Nat):∀ (W:LN_) (f:LI_),jD m (W++[i]) f=(jD m W f).set i ((jD m W f).getD i 0+m)
 |[],_=>rfl
 |j::W,f=>by simp only[Ob,jD];exact v6 m i W _
theorem H9{N:aR}(a:N.Right){w:Wk}(h:w.OK N):-4611686018427387903<=w.val/\w.val<=4611686018427387903:=by
 have:=dl a h.flow.toRanged N.snk;rw[h.worth] at this;omega
theorem yS{N:aR}(d:N.Right){f:LI_}(b:aD N f)(i:Nat):0<=f.getD i 0/\f.getD i 0<=4611686018427387903:=by
 rw[Nc]
 cases h:f[i]? with
 |none=>simp
 |some x=>
  have hi:=(Nb.1 h).1;have hl:=b.len;obtain⟨a,c⟩:∃ a,N.arcs[i]?=some a:=⟨_,an aa⟩;have e:=b.all (a,x) (M9 (NZ.2 ⟨c,h⟩));have g:=d.cap (M9 c);simp only[NK] at e ⊢;omega
theorem GJ(N:aR)(L:N.Right)(A:OA_)(c b o:Nat)(hA:N.arcs≠[]->A=some ⟨b,o,none⟩)(w:Wk)(hw:w.OK N)(hp:bW w.left<w.left.length)(cl bl:Nat)(go n:Nat)(hn:N.nodes=n)(g:Nat)(rows:List ff)(H:rows.length=n+1)(hL:∀ (v:Nat) (row:ff),rows[v]?=some row->row.l=(iE N (v:Int)).map λ (i:Nat)=>(i:Int))
 (U:Nat->Nat) (V:∀ (v:Nat) (row:ff),rows[v]?=some row->aj row.l≠[]->row.A=some ⟨U v,0,none⟩) (pos:LN_) (vals:LV_) (hV:tv rows U pos vals) (hD:zH N w.left n pos):
 Fn 179 [.pointer (some ⟨g,0,none⟩)] (ay ([blk g 256 (pz N A c (some ⟨bl,0,none⟩) w.left.length cl w.val (some ⟨go,0,none⟩) (n+1) (n+1) (bW w.left:Nat)),.own (.slice (some ⟨go,0,none⟩) (n+1) (n+1)) 23 1 (n+1) vals,.own (.slice (some ⟨bl,0,none⟩) w.left.length cl) 2 1 w.left.length (aj w.left)]++rows.map (bg 3)))
  ([.seg b o (arcs N.arcs)]++([blk g 256 (pz N A c (some ⟨bl,0,none⟩) w.left.length cl w.val (some ⟨go,0,none⟩) (n+1) (n+1) (bW w.left:Nat)),.own (.slice (some ⟨go,0,none⟩) (n+1) (n+1)) 23 1 (n+1) vals,.own (.slice (some ⟨bl,0,none⟩) w.left.length cl) 2 1 w.left.length (aj w.left)]++rows.map (bg 3)))
  λ u H'=>∃ (pos':LN_) (j:LV_) (A':OA_) (c':Nat),tv rows U pos' j/\zH N w.left n pos'/\u=.agg #[.int .u8 (hQ N w).1,.slice A' (hQ N w).2.1.length c',.int .i64 (hQ N w).2.2]/\
   H'=[.own (.slice A' (hQ N w).2.1.length c') 3 1 (hQ N w).2.1.length (cJ (hQ N w).2.1),blk g 256 (pz N A c (some ⟨bl,0,none⟩) w.left.length cl (z7 N w).val (some ⟨go,0,none⟩) (n+1) (n+1) (bW w.left:Nat)),.own (.slice (some ⟨go,0,none⟩) (n+1) (n+1)) 23 1 (n+1) j,.own (.slice (some ⟨bl,0,none⟩) w.left.length cl) 2 1 w.left.length (aj (z7 N w).left)]++rows.map (bg 3):=by
 have ha:=L.len;have h4:=hw.flow.len;have hH:=H9 L hw;obtain⟨_,_,X,hP,I⟩:=pN L hw hp;have hm:(hQ N w).2.2=pb w.left (je w (hQ N w).1 (hQ N w).2.1) (hQ N w).2.1:=rfl;have Y:(z7 N w).left=jD (-(hQ N w).2.2) (hQ N w).2.1 w.left:=rfl;have Z:(z7 N w).val=if (hQ N w).1=112 then w.val-(hQ N w).2.2 else if (hQ N w).1=98 then w.val+(hQ N w).2.2 else w.val:=rfl
 have h2:(x3 N w).1=(hQ N w).1:=rfl;have h3:(x3 N w).2=(hQ N w).2.1:=rfl;have TI:=Ge N L A c b o hA w hw hp cl bl go n hn g rows H hL U V pos vals hV hD;rw[h2,h3] at TI;rw[Y,Z]
 generalize hQ N w=t at*
 obtain⟨kd,W,m⟩:=t;simp only at X hP I hm TI ⊢;have ht:=aD.inB L hw.flow.toRanged;have O:=yS L hw.flow
 obtain⟨p,s,q⟩:(∀ i∈W,i<w.left.length)/\W.Nodup/\W≠[]:=by
  rcases hP with ⟨_,_,h⟩|⟨_,_,h⟩|⟨_,v,h⟩<;>exact⟨λ i hi=>by obtain⟨r,hr,_⟩:=h.room i hi;have:=(Nb.1 hr).1;omega,h.nodup,h.ne⟩
 obtain⟨y,W0,B⟩:=List.exists_cons_of_ne_nil q
 have hj:W.length<=2000:=by
  have:=kF (W.map λ (i:Nat)=>(i:Int)) ((List.range w.left.length).map λ (i:Nat)=>(i:Int)) (by rw[List.nodup_iff_pairwise_ne] at s ⊢;exact List.pairwise_map.2 (s.imp λ h=>by omega)) λ x hx=>by
   obtain⟨i,hi,rfl⟩:=NB.1 hx;exact NB.2 ⟨i,N4.2 (p i hi),rfl⟩
  simp only[Nj,Om] at this;omega
 generalize hM:ay _=M
 refine ie Tryz.func179 rfl rfl λ w0=>bA ?_;refine dM λ C=>?_;refine ah<|rJ ?_;refine aI ?_;refine dC (fst:=[]) (cap:=[]) TI rfl (aw.mid [2,3] [0,1,4] rfl rfl ab) ⟨bx 1 rfl,gC 2 rfl b8 (.inr rfl),be⟩ ?_;rintro u H' ⟨P,a,A4,c4,hy,hv,rfl,rfl⟩;refine⟨dc rfl (dd _ rows),?_⟩;refine cK aw.swap<|dM λ E=>?_;refine dz 0 ?_;refine fj (aH 1 rfl) λ ⟨_,_,K,hb⟩=>?_;obtain⟨g4,K⟩:=bo K hb;obtain rfl:A4=aJ g4 0:=K (l6 q);refine ah<|ou ?_;have hz:W[0]?=some y:=by rw[B];rfl
 have F:=p y (by rw[B];simp);have hq:w.left[y]?=some (w.left.getD y 0):=by rw[Nc,an F];rfl
 refine cA ?_;refine bK 11 (dS [0,1,2,3,4,5,6,7,8,9,10]) [0,1,2,6] aW ab rfl<|a6 ?_;refine bc (v:=ax bl 0 w.left.length cl) rfl (ad 2 rfl) ?_;refine a6 ?_;refine bc (v:=ax g4 0 W.length c4) rfl (ad 0 rfl) ?_;refine bc rfl (bG (m:=0) rfl (NP.2 q)) ?_;refine bc rfl (aA (v:=af (y:Int)) 1 rfl rfl rfl (eE hz)) ?_;refine bc rfl (bG rfl F) ?_;refine bc rfl (aA (v:=af (w.left.getD y 0)) 3 rfl rfl rfl (b7 hq)) ?_;refine ib [] rfl<|iG ?_;refine ou ?_
 refine iB (σ:=Unit) (λ _=>[(3,ap E 0),(2,ap C 0),(0,ap g 0)])
  (λ _=>[blk E 235 [.int .u8 kd,ax g4 0 W.length c4,af (je w kd W)],.own (ax g4 0 W.length c4) 3 1 W.length (cJ W),blk g 256 (pz N A c (aJ bl 0) w.left.length cl w.val (aJ go 0) (n+1) (n+1) (bW w.left:Nat)),.own (ax go 0 (n+1) (n+1)) 23 1 (n+1) a,blk C 235 [.int .u8 0,.slice none 0 0,af 0],.seg b o (arcs N.arcs),.own (ax bl 0 w.left.length cl) 2 1 w.left.length (aj w.left)]++rows.map (bg 3)) ?_ ?_
 ·refine aI ?_;refine bh (v:=.int .u8 kd) 0 ?_;refine aN ?_;refine ak rfl (λ d=>?_) (λ d=>ag ?_)
  ·have d:¬ kd=99:=d;refine cA ?_;refine bK 12 (dS [0,1,2,3,4,5,6,7,8,9,10]++[(11,false)]) [2] aW ab rfl<|a6 ?_;refine bc (v:=af w.val) rfl (ad 0 rfl) ?_;refine a6 ?_;refine bc (v:=af w.val) rfl (ad 0 rfl) ?_;refine a6 ?_;refine dG 33 (v':=af (je w kd W)) rfl (M8 (Value.int .i64) (by rw[cv aa];unfold je;rw[if_neg d];split<;>omega))<|cz ?_;refine dz 0 ?_;refine bZ [2]<|lh ?_;exact⟨(),a8,aw.refl⟩
  ·have d:kd=99:=Classical.not_not.1 d;have hi:je w kd W=w.left.getD y 0:=by unfold je;rw[if_pos d,B];rfl
   rw[hi];exact⟨(),a8,aw.refl⟩
 rintro⟨⟩;refine ou ?_;refine aI ?_;refine bh (v:=ax g4 0 W.length c4) 0 ?_;refine ik ?_
 refine cN (σ:=Nat) (λ k=>[(38,af (k:Int)),(37,af (W.length:Int)),(36,ax g4 0 W.length c4),(3,ap E 0),(2,ap C 0),(0,ap g 0)])
  (λ k=>[blk E 235 [.int .u8 kd,ax g4 0 W.length c4,af (pb w.left (je w kd W) (W.take k))],.own (ax g4 0 W.length c4) 3 1 W.length (cJ W),blk g 256 (pz N A c (aJ bl 0) w.left.length cl w.val (aJ go 0) (n+1) (n+1) (bW w.left:Nat)),.own (ax go 0 (n+1) (n+1)) 23 1 (n+1) a,blk C 235 [.int .u8 0,.slice none 0 0,af 0],.seg b o (arcs N.arcs),.own (ax bl 0 w.left.length cl) 2 1 w.left.length (aj (w.left))]++rows.map (bg 3)) (λ k=>k<=W.length) (λ k=>W.length-k) 0 a8 aw.refl (Nk _) ?_
 ·intro k d;refine ou ?_;refine ao ?_;refine am (ak rfl (λ hlt=>ag ?_) (λ hf=>aO ?_))
  ·have hlt:k<W.length:=by omega
   obtain⟨e,he⟩:∃ e,W[k]?=some e:=⟨_,an hlt⟩;have hel:=p e (M9 he);have hxe:w.left[e]?=some (w.left.getD e 0):=by rw[Nc,an hel];rfl
   have D:W.take (k+1)=W.take k++[e]:=by rw[Nv,he];rfl
   refine am (au ?_);refine IP ?_;refine a6 ?_;refine bc (v:=af (pb w.left (je w kd W) (W.take k))) rfl (ad 0 rfl) ?_;refine KC ?_;refine dG 51 (v':=af (pb w.left (je w kd W) (W.take (k+1)))) rfl (M8 (Value.int .i64) (by rw[D,Fz];split<;>omega))<|cP<|dz 0 ?_;refine dw ?_;exact⟨k+1,⟨M8 (λ z=>some (af z)) (cv aa),rfl,rfl,rfl,rfl,rfl,be⟩,aw.refl,aa,aa⟩
  obtain rfl:k=W.length:=aa;rw[NH,<- hm];refine aI ?_;refine bh (v:=ax g4 0 W.length c4) 0 ?_;refine ik ?_
  refine cN (σ:=Nat) (λ k=>[(57,af (k:Int)),(56,af (W.length:Int)),(55,ax g4 0 W.length c4),(3,ap E 0),(2,ap C 0),(0,ap g 0)])
   (λ k=>[blk E 235 [.int .u8 kd,ax g4 0 W.length c4,af (m)],.own (ax g4 0 W.length c4) 3 1 W.length (cJ W),blk g 256 (pz N A c (aJ bl 0) w.left.length cl w.val (aJ go 0) (n+1) (n+1) (bW w.left:Nat)),.own (ax go 0 (n+1) (n+1)) 23 1 (n+1) a,blk C 235 [.int .u8 0,.slice none 0 0,af 0],.seg b o (arcs N.arcs),.own (ax bl 0 w.left.length cl) 2 1 w.left.length (aj (jD (-m) (W.take k) w.left))]++rows.map (bg 3)) (λ k=>k<=W.length) (λ k=>W.length-k) 0 a8 aw.refl (Nk _) ?_
  clear d
  intro k d;refine ou ?_;refine ao ?_;refine am (ak rfl (λ hlt=>ag ?_) (λ hf=>aO ?_))
  ·have hlt:k<W.length:=by omega
   obtain⟨e,he⟩:∃ e,W[k]?=some e:=⟨_,an hlt⟩;have Q:=M9 he;have hel:=p e Q;have D:W.take (k+1)=W.take k++[e]:=by rw[Nv,he];rfl
   have h0:e∉W.take k:=by
    intro hc;have h1:=s;rw[<- Oh (k+1) W,D] at h1;exact (Ny.1 (Ny.1 h1).1).2.2 e hc e ai rfl
   have R:(jD (-m) (W.take k) w.left).getD e 0=w.left.getD e 0:=by rw[rP ((List.take_sublist k W).nodup s) (λ i hi=>p i (Od hi)),if_neg h0]
   have k2:=kV (-m) (W.take k) w.left;have hxe:(jD (-m) (W.take k) w.left)[e]?=some (w.left.getD e 0):=by rw[<- R,Nc,an aa];rfl
   have S:jD (-m) (W.take (k+1)) w.left=(jD (-m) (W.take k) w.left).set e (w.left.getD e 0-m):=by rw[D,v6,R];rfl
   have hN:=O e;have hg:=I e Q;refine am (au ?_);refine IP ?_;refine KC ?_;refine bc (v:=af m) rfl (ad 0 rfl) ?_;refine a6 ?_;refine dG 70 (v':=af (w.left.getD e 0-m)) rfl (M8 (Value.int .i64) (cv aa))<|bc rfl (bG rfl hel) ?_;refine cP<|aY 6 rfl rfl rfl rfl (fF rfl aa) [] rfl<|dw ?_;exact⟨k+1,⟨M8 (λ z=>some (af z)) (cv aa),rfl,rfl,rfl,rfl,rfl,be⟩,by rw[S];exact aw.refl,aa,aa⟩
  obtain rfl:k=W.length:=aa;rw[NH];have hd:=I y (by rw[B];simp);have hs:=O y;obtain⟨nv,hnv⟩:∃ x,x=if kd=112 then w.val-m else if kd=98 then w.val+m else w.val:=⟨_,rfl⟩
  rw[<- hnv]
  refine iB (σ:=Unit) (λ _=>[(3,ap E 0),(2,ap C 0),(0,ap g 0)])
   (λ _=>[blk E 235 [.int .u8 kd,ax g4 0 W.length c4,af (m)],.own (ax g4 0 W.length c4) 3 1 W.length (cJ W),blk g 256 (pz N A c (aJ bl 0) w.left.length cl (nv) (aJ go 0) (n+1) (n+1) (bW w.left:Nat)),.own (ax go 0 (n+1) (n+1)) 23 1 (n+1) a,blk C 235 [.int .u8 0,.slice none 0 0,af 0],.seg b o (arcs N.arcs),.own (ax bl 0 w.left.length cl) 2 1 w.left.length (aj (jD (-m) W w.left))]++rows.map (bg 3)) ?_ ?_
  ·refine aI ?_;refine bh (v:=.int .u8 kd) 0 ?_;refine jb ?_;refine ao ?_;refine ak rfl (λ d=>?_) (λ d=>?_)
   ·have d:kd=112:=d;rw[if_pos d] at hnv;refine KQ ?_;refine dG 83 (v':=af (w.val-m)) rfl (M8 (Value.int .i64) (cv aa))<|cP<|dz 2 ?_;exact ah<|⟨(),a8,aw.refl⟩
   ·have d:¬ kd=112:=d;rw[if_neg d] at hnv;refine ao ?_;refine ak rfl (λ f=>?_) (λ f=>ag ?_)
    ·have f:kd=98:=f;rw[if_pos f] at hnv;refine KQ ?_;refine dG 94 (v':=af (w.val+m)) rfl (M8 (Value.int .i64) (cv aa))<|cP<|dz 2 ?_;exact ah<|⟨(),a8,aw.refl⟩
    ·have f:¬ kd=98:=f;rw[if_neg f] at hnv;rw[hnv];exact⟨(),a8,aw.refl⟩
  rintro⟨⟩;refine ou ?_;refine aI ?_;refine bh (v:=.agg #[.int .u8 kd,ax g4 0 W.length c4,af m]) 0 ?_;refine dz 4 ?_;refine ah<|ou ?_;exact bQ (aw.re [4,1,2,3,6] rfl ab)<|bM<|⟨[.agg #[.int .u8 kd,ax g4 0 W.length c4,af m]],_,_,⟨⟨C,0,_,_,rfl,rfl,rfl⟩,be⟩,PC,sc _ _,P,a,aJ g4 0,c4,hy,hv,rfl,rfl⟩
theorem zH.fall{N:aR}{left a:LI_}{n:Nat}{pos:LN_}(h:zH N left n pos)(hm:∀ i,0<a.getD i 0->0<left.getD i 0):zH N a n pos:=by
 refine⟨h.len,λ v q b=>⟨(h.used v q b).1,λ j e d he=>?_⟩⟩;have c:=(h.used v q b).2 j e d he;unfold i5 at c ⊢;have f:=PV c;exact OE λ hp=>f (hm e hp)
theorem zH.start(N:aR)(left:LI_)(n:Nat):zH N left n (List.replicate (n+1) 0):=by
 refine⟨ai,λ v q a=>?_⟩;rw[Nt] at a;split at a
 ·obtain rfl:=NM a;exact⟨Nk _,λ j e b=>absurd b aa⟩
 ·cases a
theorem El{N:aR}(b:N.Right){w:Wk}(h:w.OK N)(hp:bW w.left<w.left.length)(i:Nat):(0<(z7 N w).left.getD i 0->0<w.left.getD i 0)/\(z7 N w).left.length=w.left.length:=by
 obtain⟨_,_,c,hP,d⟩:=pN b h hp
 have a:(hQ N w).2.1.Nodup/\∀ i∈(hQ N w).2.1,i<w.left.length:=by
  have f:=h.flow.len
  rcases hP with ⟨_,_,h⟩|⟨_,_,h⟩|⟨_,v,h⟩<;>exact⟨h.nodup,λ i hi=>by obtain⟨r,g,_⟩:=h.room i hi;have:=(Nb.1 g).1;omega⟩
 have e:(z7 N w).left=jD (-(hQ N w).2.2) (hQ N w).2.1 w.left:=rfl;refine⟨λ hi=>?_,by rw[e,kV]⟩;rw[e,rP a.1 a.2] at hi;split at hi<;>omega
theorem BU{l:LI_}{j:Nat}{x:Int}(a:j<bW l)(b:l[j]?=some x):i5 x=false:=by
 have:=Py a;rw[(Nb.1 b).2] at this
 simpa using this
theorem EO{l m:LI_}(hlen:m.length=l.length)(hm:∀ i,0<m.getD i 0->0<l.getD i 0){k:Nat}(h:∀ j x,j<k->l[j]?=some x->i5 x=false):∀ j x,j<k->m[j]?=some x->i5 x=false:=by
 intro j x e b;have a:j<l.length:=by have:=(Nb.1 b).1;omega
 have c:=h j _ e (an a);unfold i5 at c ⊢;have f:=PV c;refine OE λ hp=>f ?_;have d:=hm j (by rw[Nc,b];exact hp);rw[Nc,an a] at d;exact d
def lC(N:aR)(w:Wk):List (Int×LN_×Int):=kW N w.size w
theorem zB{N:aR}(a:N.Right){w:Wk}(h:w.OK N)(hp:bW w.left<w.left.length):lC N w=hQ N w::lC N (z7 N w):=by
 have b:=pN a h hp;have d:0<w.size:=aa;obtain⟨k,c⟩:∃ k,w.size=k+1:=⟨w.size-1,aa⟩;unfold lC;rw[c];rw[show kW N (k+1) w=if bW w.left<w.left.length then hQ N w::kW N k (z7 N w) else [] from rfl,if_pos hp,ul a k (z7 N w).size _ b.1 aa (Np _)]
theorem yx{N:aR}{w:Wk}(hp:¬ bW w.left<w.left.length):lC N w=[]:=by
 unfold lC
 cases w.size with
 |zero=>rfl
 |succ k=>exact if_neg hp
section
variable {X:Cx}
theorem aw.mid2{A A1 b R I:Heap}(ix a:LN_)(c:Proofs.YtmcnpaelaieniaaGreatDoor.cI A ix=some A1)(d:Proofs.YtmcnpaelaieniaaGreatDoor.cI A a=some b)(e:(ix++a).Nodup):aw X (A++(R++I)) ((A1++R)++(I++b)):=by
 have:=aw.mid (X:=X) (R:=R++I) ix a c d e
 simpa [NI] using this
theorem aw.ret2{A B R I:Heap}:aw X ((A++R)++(I++B)) ((A++B)++(R++I)):=aw.perm (by
 rw[NI,NI,<- NI R I B];exact Pe A OO)
theorem aw.give{A R I:Heap}{c:aU}:aw X (c::(A++(R++I))) (A++(R++(I++[c]))):=aw.perm (by
 have h:(A++(R++I))++[c]=A++(R++(I++[c])):=by simp[NI]
 rw[<- h];exact (OO (l₁:=[c]) (l₂:=A++(R++I))))
end
open Go.Lib
theorem yY{u:Nat}(h:u<10):decDigits u=[UInt8.ofNat (48+u)]:=by rw[decDigits,dif_pos h]
theorem C5{u:Nat}(h:10<=u):decDigits u=decDigits (u/10)++[UInt8.ofNat (48+u%10)]:=by rw[decDigits,dif_neg aa]
theorem Ba{P:Nat->Prop}(h1:∀ u,u<10->P u)(h2:∀ u,10<=u->P (u/10)->P u)(u:Nat):P u:=by
 induction u using Nat.strongRecOn with
 |_ u ih=>
  by_cases h:u<10
  ·exact h1 u h
  ·exact h2 u aa (ih _ aa)
theorem Hu(acc:Nat)(l m:LU_):j3 acc (l++m)=j3 (j3 acc l) m:=by unfold j3;rw[O4]
theorem tu{k:Nat}(h:k<10):(UInt8.ofNat (48+k)).toNat=48+k:=by
 rw[UInt8.toNat_ofNat'];omega
theorem GX(u:Nat):j3 0 (decDigits u)=u:=by
 induction u using Ba with
 |h1 u h=>rw[yY h];show 0*10+((UInt8.ofNat (48+u)).toNat-48)=u;rw[tu h];omega
 |h2 u h ih=>rw[C5 h,Hu,ih];show u/10*10+((UInt8.ofNat (48+u%10)).toNat-48)=u;rw[tu aa];omega
theorem xq(u:Nat):(decDigits u).all sf=true:=by
 induction u using Ba with
 |h1 u h=>rw[yY h];simp only[Pi,List.all_nil,Bool.and_true];unfold sf;rw[tu h];simp;omega
 |h2 u h ih=>rw[C5 h,List.all_append,ih];simp only[Pi,List.all_nil,Bool.and_true,Bool.true_and];unfold sf;rw[tu aa];simp;omega
theorem yH(u:Nat):decDigits u≠[]:=by
 by_cases h:u<10
 ·rw[yY h];simp
 ·rw[C5 aa];simp
theorem yF(u:Nat):∀ k,u<10^k->1<=k->(decDigits u).length<=k:=by
 induction u using Ba with
 |h1 u h=>intro k _ hk;rw[yY h];simpa using hk
 |h2 u h ih=>
  intro k hk h1
  match k,h1 with
  |1,_=>omega
  |k+2,_=>
   rw[C5 h,Ng];have:=ih (k+1) (by rw[Nat.pow_succ] at hk;omega) aa;simp;omega
theorem FP(n:Int)(h:-9223372036854775808<=n/\n<=9223372036854775807):1<=(itoa n).length/\(itoa n).length<=20:=by
 unfold itoa;by_cases hn:n<0
 ·rw[if_pos hn];have:=yF n.natAbs 19 aa aa;simp;omega
 ·rw[if_neg hn];have:=yF n.toNat 19 aa aa;have:=NP.2 (yH n.toNat);omega
theorem uC(n:Int)(h:-9223372036854775808<=n/\n<=9223372036854775807):et (itoa n)=(n,0):=by
 unfold itoa;by_cases hn:n<0
 ·rw[if_pos hn];unfold et;simp only[PT,↓reduceIte,List.drop_succ_cons,List.drop_zero];rw[if_neg (by rw[xq];simp[yH]),GX,if_pos aa];simp;omega
 ·rw[if_neg hn]
  have h45:¬ (decDigits n.toNat).head?=some 45:=by
   intro e;have h1:=xq n.toNat
   cases hd:decDigits n.toNat with
   |nil=>exact yH _ hd
   |cons b r=>
    rw[hd] at e h1;simp only[PT,Na] at e;subst e;rw[Pi,N2] at h1;exact absurd h1.1 ab
  unfold et;simp only;rw[if_neg h45,if_neg h45,if_neg (by rw[xq];simp[yH]),GX,if_pos aa];simp;omega
theorem lq(c:UInt8):∀ (l cur:LU_),(cM c cur l).length=l.count c+1
 |[],cur=>rfl
 |b::l,cur=>by
  unfold cM;by_cases h:b=c
  ·rw[if_pos h,Nf,lq c l [],h,List.count_cons_self]
  ·rw[if_neg h,lq c l _,List.count_cons_of_ne (λ e=>h e)]
theorem ke(c:UInt8):∀ (l cur:LU_),((cM c cur l).map (·++[c])).flatten=cur++l++[c]
 |[],cur=>by simp[cM]
 |b::l,cur=>by
  unfold cM;by_cases h:b=c
  ·rw[if_pos h,Ns,Oy,ke c l [],h];simp
  ·rw[if_neg h,ke c l _];simp
theorem lu(c:UInt8):∀ (l cur r:LU_),cM c cur (l++c::r)=cM c cur l++cM c [] r
 |[],cur,r=>by simp[cM]
 |b::l,cur,r=>by
  rw[Ob];have e1:cM c cur (b::(l++c::r))=if b=c then cur::cM c [] (l++c::r) else cM c (cur++[b]) (l++c::r):=rfl
  have e2:cM c cur (b::l)=if b=c then cur::cM c [] l else cM c (cur++[b]) l:=rfl
  rw[e1,e2];by_cases h:b=c
  ·rw[if_pos h,if_pos h,lu c l [] r];rfl
  ·rw[if_neg h,if_neg h,lu c l _ r]
theorem DQ(c:UInt8)(m:LU_):trimSuffix (m++[c]) [c]=m:=by
 unfold trimSuffix hasSuffix;have:([c]:LU_).isSuffixOf (m++[c])=true:=List.isSuffixOf_iff_suffix.2 ⟨m,rfl⟩;rw[if_pos this];simp
theorem EH{c:UInt8}{l:LU_}(h:l.getLast?≠some c):trimSuffix l [c]=l:=by
 unfold trimSuffix hasSuffix;rw[if_neg];intro e;obtain⟨m,rfl⟩:=List.isSuffixOf_iff_suffix.1 e;exact h ai
theorem iF(m:LU_):aK (m++[10])=cM 10 [] m:=by
 unfold aK;rw[if_neg ai,DQ]
theorem oX{l:LU_}(hne:l≠[])(h:l.getLast?≠some 10):aK l=cM 10 [] l:=by
 unfold aK;rw[if_neg hne,EH h]
theorem qe(l:LU_)(c:UInt8):l=[]\/(∃ m,l=m++[c])\/(l≠[]/\l.getLast?≠some c):=by
 by_cases h:l=[]
 ·exact .inl h
 ·by_cases h2:l.getLast?=some c
  ·exact .inr (.inl ⟨_,(List.getLast?_eq_some_iff.1 h2).choose_spec⟩)
  ·exact .inr (.inr ⟨h,h2⟩)
theorem Ff(s t:LU_):aK (s++10::t)=aK (s++[10])++aK t:=by
 rw[iF]
 rcases qe t 10 with rfl|⟨m,rfl⟩|⟨h1,h2⟩
 ·rw[iF];simp[aK]
 ·rw[iF,show s++10::(m++[10])=(s++10::m)++[10] by simp,iF,lu]
 ·have hl:(s++10::t).getLast?=t.getLast?:=by
   rw[show s++10::t=(s++[10])++t by simp,N0]
   cases ht:t.getLast? with
   |none=>exact absurd (List.getLast?_eq_none_iff.1 ht) h1
   |some x=>rfl
  rw[oX h1 h2,oX ai (by rw[hl];exact h2),lu]
theorem v3(l:LU_):(aK l).length=l.count 10+(if l≠[]/\l.getLast?≠some 10 then 1 else 0):=by
 rcases qe l 10 with rfl|⟨m,rfl⟩|⟨h1,h2⟩
 ·rfl
 ·rw[iF,lq,if_neg ai,List.count_append];simp
 ·rw[oX h1 h2,lq,if_pos ⟨h1,h2⟩]
theorem B5(l:LU_):((aK l).map (·++[10])).flatten=l\/((aK l).map (·++[10])).flatten=l++[10]:=by
 rcases qe l 10 with rfl|⟨m,rfl⟩|⟨h1,h2⟩
 ·exact .inl rfl
 ·rw[iF,ke];exact .inl rfl
 ·rw[oX h1 h2,ke];exact .inr rfl
theorem nN{b:UInt8}(hb:sZ b=true):∀ (s cur t:LU_),cZ cur (s++b::t)=cZ cur s++cZ [] t
 |[],cur,t=>by
  rw[Oj,cZ,cZ,if_pos hb];by_cases h:cur=[]
  ·rw[if_pos h,if_pos h];rfl
  ·rw[if_neg h,if_neg h];rfl
 |x::s,cur,t=>by
  rw[Ob,cZ,cZ];by_cases hx:sZ x=true
  ·rw[if_pos hx,if_pos hx,nN hb s [] t];by_cases h:cur=[]
   ·rw[if_pos h,if_pos h]
   ·rw[if_neg h,if_neg h];rfl
  ·rw[if_neg hx,if_neg hx,nN hb s _ t]
theorem ma{b:UInt8}(hb:sZ b=true)(s t:LU_):bI (s++b::t)=bI s++bI t:=nN hb s [] t
structure LibV where
 oM:Obj
 oP:Obj
 oE:Obj
 m:Int
 tp:Nat
 pe:Value
 hM:∃ cs t k,oM=.cells cs t k/\cs[0]?=some (.int .i64 m)
 hP:∃ t k,oP=.cells (Lib.pow10Tab.map λ z=>Value.int .u64 z).toArray t k
 hE:∃ t k,oE=.cells #[.iface tp pe] t k
def LibV.heap(V:LibV):Heap:=[.tab 0 V.oM,.tab 3 V.oP,.tab 5 V.oE]
theorem HV{w:World}{b i:Nat}{cs:Array Value}{t:Nat}{k:Nat×Nat}{v:Value}(h:w.heap[b]?=some (.cells cs t k))(a:cs[i]?=some v):w.cell? ⟨b,i,none⟩=some v:=by
 simp[World.cell?,h,a]
theorem LibV.cellM(V:LibV){w:World}(h:w.heap[0]?=some V.oM):w.cell? ⟨0,0,none⟩=some (.int .i64 V.m):=by
 obtain⟨cs,t,k,e,a⟩:=V.hM;rw[e] at h;exact HV h a
theorem LibV.tabP(V:LibV){w:World}(h:w.heap[3]?=some V.oP):Lib.TabIs Tryz.prog w "internal/strconv.uint64pow10" .u64 Lib.pow10Tab:=by
 obtain⟨t,k,e⟩:=V.hP;rw[e] at h;have a:Tryz.prog.globalNamed "internal/strconv.uint64pow10" =some 3:=by kernel_rfl
 unfold Lib.TabIs World.var?;rw[a];simp only[Option.bind_some,h]
theorem LibV.varE(V:LibV){w:World}(h:w.heap[5]?=some V.oE):w.var? Tryz.prog "strconv.ErrRange" =some #[.iface V.tp V.pe]:=by
 obtain⟨t,k,e⟩:=V.hE;rw[e] at h;have a:Tryz.prog.globalNamed "strconv.ErrRange" =some 5:=by kernel_rfl
 unfold World.var?;rw[a];simp only[Option.bind_some,h]
def cj(l:List (LU_)):LV_:=l.map du
theorem zZ(l:List (LU_)):(cj l).length=l.length:=by simp[cj]
theorem yE{l:List (LU_)}{i:Nat}{x:LU_}(h:l[i]?=some x):(cj l)[i]?=some (du x):=by simp[cj,h]
theorem tD(s:ByteArray):du s.data.toList=.string s:=by unfold du;rw[Lib.mk_data]
theorem Bj(l p:LU_):Fn 121 [du l,du p] [] [] λ v H'=>v=du (Lib.trimPrefix l p)/\H'=[]:=
 Fn.of_same (λ w=>Any.strings_TrimPrefix Tryz.lays101 ⟨l.toArray⟩ ⟨p.toArray⟩ w) ⟨rfl,rfl⟩
theorem AB(l p:LU_)(hl:l.length<=9223372036854775807):Fn 52 [du l,du p] [] [] λ v H'=>v=du (Lib.trimSuffix l p)/\H'=[]:=
 Fn.of_same (λ w=>Any.strings_TrimSuffix Tryz.lays102 ⟨l.toArray⟩ ⟨p.toArray⟩ w (by rw[da];exact hl)) ⟨rfl,rfl⟩
theorem JZ(l p:LU_)(hl:l.length<=9223372036854775807)(hp:p.length<4294967281)(a:p.all (λ b=>decide (b.toNat<128))=true):Fn 122 [du l,du p] [] [] λ v H'=>v=du (Lib.trimS l p)/\H'=[]:=
 Fn.of_below λ w _=>(Any.strings_Trim_laid Tryz.lays160 aW ⟨l.toArray⟩ ⟨p.toArray⟩ w (by rw[da];exact hl) (by rw[da];exact hp) (ascii_of_all a)).mono λ e w' ⟨he,c⟩=>⟨_,he,c,rfl,rfl⟩
theorem F0(V:LibV)(l:LU_)(c:UInt8)(hl:l.length<4294967281):Fn 51 [du l,du [c]] [] V.heap λ v H'=>∃ (A:OA_) (n:Nat),n=(cM c [] l).length/\v=.slice A n n/\H'=[.own (.slice A n n) 9 1 n (cj (cM c [] l))]:=by
 intro w hw;have hm:=V.cellM (hw.holds (.tab _ V.oM) I4);refine (Any.strings_Split { Tryz.laysM146 with } Tryz.laysM146.i9 ⟨l.toArray⟩ ⟨#[c]⟩ V.m w (by rw[da];exact hl) hm (Np 1)).mono ?_;rintro e w' ⟨he,b⟩;have a:=wu c _ ⟨l.toArray⟩ rfl;have hle:=Lib.countB_le ⟨#[c]⟩ (Np 1) l.length ⟨l.toArray⟩ (by rw[da];exact Np _);rw[da] at hle
 have hlen:(cM c [] l).length=Lib.countB ⟨l.toArray⟩ ⟨#[c]⟩+1:=by
  rw[<- a,Nj];exact Lib.splitB_all ⟨#[c]⟩ (Np 1) 0 _ ⟨l.toArray⟩ rfl
 have d:(Lib.splitB ⟨#[c]⟩ 0 (Lib.countB ⟨l.toArray⟩ ⟨#[c]⟩) ⟨l.toArray⟩).map Value.string=cj (cM c [] l):=by
  rw[<- a];simp[cj,tD]
 have f:dL w [] w' [blk w.heap.size 9 (cj (cM c [] l))]:=by
  rw[b,d];exact (hw.mono (K:=[]) (λ c g=>absurd g Nr) List.Pairwise.nil).alloc _
 refine⟨_,_,he,f.blkOwn (sz:=1) (n:=(cM c [] l).length) (by rw[zZ];simp) (by rw[hlen];unfold maxLen;omega),aJ w.heap.size 0,_,hlen.symm,rfl,by rw[hlen]⟩
theorem lZ(V:LibV)(l:LU_)(hl:l.length<4294967281):Fn 28 [du l] [] V.heap λ v H'=>∃ (A:OA_) (n:Nat),n=(aK l).length/\v=.slice A n n/\H'=[.own (.slice A n n) 9 1 n (cj (aK l))]:=by
 refine aT Tryz.func28 λ w0=>?_;refine ao ?_;refine gD ?_;refine aG (Cw (m:=[]) rfl rfl rfl) ?_;refine aN ?_;refine ak rfl (λ a=>?_) (λ a=>ag ?_)
 ·refine ao ?_;refine b6 9 1<|aL [0] ⟨_,rfl,none,0,?_,rfl,?_⟩
  ·rw[a];rfl
  ·rw[a];rfl
 have he:aK l=cM 10 [] (Lib.trimSuffix l [10]):=by unfold aK;rw[if_neg a]
 have hle:(Lib.trimSuffix l [10]).length<=l.length:=by
  unfold Lib.trimSuffix;split
  ·rw[ND];omega
  ·exact Np _
 refine gD ?_;refine cH (AB l [10] aa) rfl be ?_;refine fh (F0 V (Lib.trimSuffix l [10]) 10 aa) rfl ⟨⟨0,ai,rfl⟩,⟨1,ai,rfl⟩,⟨2,ai,rfl⟩,be⟩ ?_;rintro v H' ⟨A,n,b,rfl,rfl⟩;refine aN ?_;refine aL [0] ⟨_,rfl,A,n,by rw[he];exact b,rfl,by rw[he]⟩
theorem HI(V:LibV)(n:Int)(a:b9 n):Fn 94 [.int .i64 n] [] V.heap λ v H'=>v=du (Lib.itoa n)/\H'=[]:=by
 have T:Fn 119 [af n,af 10] [] V.heap λ v H'=>v=du (Lib.itoa n)/\H'=[]:=by
  intro w hw;have b:=V.tabP (hw.holds (.tab _ V.oP) I4);refine (Any.strconv_FormatInt_10 Tryz.laysM173 n (by unfold b9 at a;omega) (by unfold b9 at a;omega) w b).mono ?_;rintro e w' ⟨he,k,os,rfl⟩;refine⟨_,[],he,?_,rfl,rfl⟩;exact oS hw (Lib.below_grow _ w (Np _) k os)
 refine aT Tryz.func94 λ w0=>?_;refine ao ?_;refine gD ?_;refine cH T rfl ⟨⟨0,ai,rfl⟩,⟨1,ai,rfl⟩,⟨2,ai,rfl⟩,be⟩ ?_;exact mG
theorem E6(x:Int)(c:0<=x/\x<=1114111):Fn 62 [.int .i32 x] [] [] λ v H'=>v=.bool (jT x.toNat)/\H'=[]:=by
 have key:jT x.toNat=dU (x=32\/x=9\/x=13):=by
  by_cases h:x=32\/x=9\/x=13
  ·rw[aV h];rcases h with rfl|rfl|rfl<;>rfl
  ·rw[aZ h];simp[jT];omega
 rw[key];refine aT Tryz.func62 λ w0=>?_;refine mz ?_;refine oa ?_;by_cases a:x=32
 ·refine d7 5 rfl a<|ic ?_;refine cX [2,6] ?_;exact bM ⟨_,rfl,M8 Value.bool (aV (.inl a)).symm,rfl⟩
 refine dD 5 rfl a<|ic ?_;by_cases b:x=9
 ·refine d7 9 rfl b<|cX [2,6] ?_;exact bM ⟨_,rfl,M8 Value.bool (aV (.inr (.inl b))).symm,rfl⟩
 refine dD 9 rfl b<|cX [2,6] ?_;exact bM ⟨_,rfl,M8 Value.bool (eB ⟨λ h=>.inr (.inr h),λ h=>by omega⟩),rfl⟩
theorem zG(l:LU_)(hl:l.length<=4294967296):Fn 35 [du l] [] [] λ v H'=>∃ (A:OA_) (n:Nat),n=(bI l).length/\v=.slice A n n/\H'=[.own (.slice A n n) 9 1 n (cj (bI l))]:=by
 have T:Fn 61 [du l,.func (.func 62) #[] #[]] [] [] λ v H'=>∃ (A:OA_) (n:Nat),n=(bI l).length/\v=.slice A n n/\H'=[.own (.slice A n n) 9 1 n (cj (bI l))]:=by
  intro w hw
  have hp:PredGrows Tryz.prog 62 #[] jT w:=by
   intro W x u _;refine (E6 (x:Int) ⟨aa,aa⟩ W ⟨rfl,rfl,rfl,Np _,λ _ _ _=>rfl,λ c a=>absurd a Nr,λ c a=>absurd a Nr,List.Pairwise.nil⟩).mono ?_;rintro e w' ⟨v,H',he,d,rfl,rfl⟩;rw[Nz] at he;exact⟨he,⟨d.os,d.tape,d.output,d.size,λ k j=>d.keep k j ai⟩⟩
  have heq:=vE ⟨l.toArray⟩;refine (Any.strings_FieldsFunc_grows Tryz.lays229 62 #[] (iR aW) jT ⟨l.toArray⟩ w (by rw[da];exact hl) hp aW aW).mono ?_;rintro e w' ⟨g,he,y,f,i⟩
  have hlen:(Lib.goFieldsP jT ⟨l.toArray⟩).length=(bI l).length:=by
   have:=M8 List.length heq
   simpa using this
  have m:(Lib.goFieldsP jT ⟨l.toArray⟩).map Value.string=cj (bI l):=by
   have o:bI l=(Lib.goFieldsP jT ⟨l.toArray⟩).map (·.data.toList):=heq.symm;rw[o];simp[cj,tD]
  refine⟨_,_,he,⟨i.os,i.tape,i.output,i.size,λ k j _=>i.block k j,λ c a=>?_,λ c a b p=>?_,OQ _ _⟩,aJ g 0,_,hlen,rfl,by rw[<- m]⟩
  ·obtain rfl:=Nh.1 a;obtain⟨q,o⟩:=f;refine⟨q,o.imp id ?_⟩;rintro⟨r,cap,cur,k1,z,s⟩;exact⟨r,cap,cur,k1,Nk _,s⟩
  ·obtain rfl:=Nh.1 a;simp only[aU.mine,Value.ownBlock,Na] at p;exact .inl aa
 refine aT Tryz.func35 λ w0=>?_;refine ao ?_;refine gD ?_;refine fh T rfl be ?_;rintro v H' ⟨A,n,t,rfl,rfl⟩;refine aN ?_;exact aL [0] ⟨_,rfl,A,n,t,rfl,rfl⟩
theorem ET(V:LibV)(l:LU_)(hl:l.length<=281474976710656):Fn 96 [du l] [] V.heap λ v H'=>v=td (et l)/\H'=[]:=by
 obtain⟨d,f⟩:∃ d,d=Lib.trimPrefix l [45]:=⟨_,rfl⟩;obtain⟨o,p⟩:=Lq l d f
 have q:d.length<=l.length:=by
  rw[f];unfold Lib.trimPrefix;split
  ·rw[N5];omega
  ·exact Np _
 have n:=Bj l [45];rw[<- f] at n;refine aT Tryz.func96 λ w0=>?_;refine ao ?_;refine gD ?_;refine cH (n) rfl be ?_;refine aN ?_;refine am<|gj [(15,.bool (dU (d=[]\/Lib.trimS d [48,49,50,51,52,53,54,55,56,57]≠[]))),(0,du l)] V.heap ?_ ?_
 ·refine gD ?_;refine aG (Cw (m:=[]) rfl rfl rfl) ?_;refine cD (gs:=[999]) rfl ?_;by_cases a:d=[]
  ·refine d7 11 rfl a<|cX [2] ?_;exact⟨[0,1,2],⟨M8 some (M8 Value.bool (aV (.inl a)).symm),rfl,be⟩,ab,rfl⟩
  refine dD 11 rfl a<|ic ?_;refine bj [2] (JZ d [48,49,50,51,52,53,54,55,56,57] aa ab ab) rfl rfl rfl rfl aW be aE<|jP ?_;refine ae [2] (Dd (m:=[]) rfl rfl rfl) rfl<|cX [2] ?_;exact⟨[0,1,2],⟨M8 some (M8 Value.bool (eB ⟨λ h=>.inr h,λ h=>h.resolve_left a⟩)),rfl,be⟩,ab,rfl⟩
 refine ak rfl (λ c=>?_) (λ b=>ag ?_)
 ·refine ao ?_;refine aL [] ⟨_,rfl,?_,rfl⟩;rw[o c];rfl
 rcases p b with ⟨v,a,j⟩|⟨a,j⟩
 ·have T:Fn 123 [du l,af 10,af 64] [] [] λ u H'=>u=.tuple #[af v,.nilIface]/\H'=[]:=by
   intro w hw;refine (Any.strconv_ParseInt_10_at64_ok Tryz.laysC174 ⟨l.toArray⟩ (by rw[da];omega) v a w).mono ?_;rintro e w' ⟨he,k⟩;refine⟨_,[],he,oS hw ?_,rfl,rfl⟩
   rcases k with rfl|⟨t,rfl⟩
   ·exact Below.refl _ _
   ·exact Go.Joins.below_bytesWorld _ w _ _ (Np _)
  refine gD ?_;refine cH (T) rfl be ?_;refine cS ?_;refine cA ?_;refine ao ?_;refine aL [] ⟨_,rfl,?_,rfl⟩;rw[j];rfl
 ·have T:Fn 123 [du l,af 10,af 64] [] V.heap λ u H'=>∃ (i:Int) (g:Nat),u=.tuple #[af i,.iface 246 (ap g 0)]/\H'=[]:=by
   intro w hw;have r:=V.varE (hw.holds (.tab _ V.oE) I4);refine (Any.strconv_ParseInt_10_at64_range_var Tryz.laysC174 ⟨l.toArray⟩ (by rw[da];exact hl) a V.tp V.pe w r).mono ?_;rintro e w' ⟨g,he,_,_,s⟩;exact⟨_,[],he,oS hw s,_,g,rfl,rfl⟩
  refine gD ?_;refine fh T rfl ⟨⟨0,ai,rfl⟩,⟨1,ai,rfl⟩,⟨2,ai,rfl⟩,be⟩ ?_;rintro u H' ⟨i,g,rfl,rfl⟩;refine cS ?_;refine cA ?_;refine ao ?_;refine aL [] ⟨_,rfl,?_,rfl⟩;rw[j];rfl
open Lib
theorem Jy{w:World}{t u ty e:Nat}{i:TypeInfo}(l:Tryz.prog.underlying t=some (.slice e))(hu:Tryz.prog.underlying u=some .string)(hi:Tryz.prog.info? e=some i)(p:i.zero=some (.int .u8 0))(m:i.size=1)(q:i.bytes=1)
 (v:Value) (n:Nat) (xs:LV_) (a:w.ownsRow 0 e 1 v n xs) (s:ByteArray) (h:n+s.size<=140737488355328):
 ∃ v' w',(Builtin.append_ #[t,u] ty #[v,.string s]).run Tryz.prog w=.ok v' w'/\w'.ownsRow 0 e 1 v' (n+s.size) (xs++strCells s)/\w.grownBy w' v.ownBlock/\∀ b,v'.ownBlock=some b->v.ownBlock=some b\/w.heap.size<=b:=by
 obtain⟨v',w',o,x,y,_⟩:=run_append_own_string w 0 t u ty e i l hu hi p m q v n xs a s (by unfold maxLen;omega) h (Nk _);refine⟨v',w',o,x,y,?_⟩;have hlen:xs.length=n:=by simpa using a.1
 rcases a.2 with ⟨rfl,rfl⟩|⟨g,cap,cur,rfl,_,z,A,B,r,_⟩
 ·obtain rfl:xs=[]:=List.eq_nil_of_length_eq_zero hlen;obtain⟨v2,D,j,k1,_,_⟩:=run_append_own_string w w.heap.size t u ty e i l hu hi p m q (.slice none 0 0) 0 [] (World.ownsRow_nil w _ e 1) s (by unfold maxLen;omega) h (Nat.le_refl _);rw[o] at j
  injection j with k _
  subst k;intro b c
  rcases k1.2 with ⟨rfl,_⟩|⟨g,cap,cur,rfl,C,_⟩
  ·cases c
  ·simp only[Value.ownBlock,Na] at c;exact .inr aa
 ·by_cases f:n+s.size<=cap
  ·have d:=run_append_room_string (P:=Tryz.prog) w t u ty e i l hu hi m g n cap cur z s f (by simp at r;omega);rw[o] at d
   injection d with k _
   subst k;exact λ b c=>.inl c
  ·have d:=run_append_grow_string (P:=Tryz.prog) w t u ty e i (.int .u8 0) l hu hi p ⟨g,0,none⟩ n cap xs (by rw[m];simpa using hlen) (a.cells (g:=g) rfl) s aa aa (by rw[q];exact growslice_fits aa aa);rw[o] at d
   injection d with k _
   subst k;intro b c;simp only[Value.ownBlock,Na] at c;exact .inr aa
section
variable {X:Cx} {Q:e6} {E:Env} {H K:Heap}
theorem Em(m:LU_):strCells ⟨m.toArray⟩=byteCells m:=rfl
theorem rx{F:OA_->Nat->Env}{ops l:List Oper}{o:Oper}{t u e n c0 s1 s2 v y:Nat}{s x:Operand}{r:OA_}{z S:Option Value}{uk:UK}{xs:LV_}{m:LU_}(k:Nat)
 (U:o.op=.call ⟨.builtin .append,#[s,x],#[t,u]⟩) (V:val E s=some (.slice r n c0)) (Y:val E x=some (du m)) (Z:tab t=some ⟨.slice e,v,y,z⟩) (hu:tab u=some ⟨.string,s1,s2,S⟩) (he:tab e=some ⟨uk,1,1,some (.int .u8 0)⟩)
 (O:H[k]?=some (.own (.slice r n c0) e 1 n xs)) (b:n+m.length<=140737488355328) (hb:∀ A c,jN X.n ops [] E o (.slice A (n+m.length) c)=some (F A c))
 (h:∀ A c,JL X ops l Q (F A c) (H.set k (.own (.slice A (n+m.length) c) e 1 (n+m.length) (xs++byteCells m)))):JL X ops (o::l) Q E H:=by
 obtain⟨j,hi,B,C,D⟩:=kv he
 refine xF (α:=OA_×Nat) (f:=λ p=>.slice p.1 (n+m.length) p.2) (F:=λ p=>F p.1 p.2)
  (G:=λ p=>H.set k (.own (.slice p.1 (n+m.length) p.2) e 1 (n+m.length) (xs++byteCells m))) [] (λ p=>hb p.1 p.2) (λ a w P R=>?_) (λ p=>h p.1 p.2)
 have d:w.ownsRow 0 e 1 (.slice r n c0) n xs:=R.holds _ (M9 O);obtain⟨v',w',hr,I,i,h3⟩:=Jy (w:=w) (ty:=o.type) (eW Z) (kE hu) hi B C D _ n xs d ⟨m.toArray⟩ (by rw[da];exact b);rw[da,Em] at I
 obtain⟨A,c,rfl⟩:∃ A c,v'=.slice A (n+m.length) c:=by
  rcases I.2 with ⟨rfl,e0⟩|⟨g,cap,cur,rfl,_⟩
  ·exact⟨none,0,by rw[e0]⟩
  ·exact⟨_,_,rfl⟩
 refine⟨(A,c),w',?_,?_⟩
 ·have L:(Builtin.append_ #[t,u] o.type #[.slice r n c0,du m]).run Tryz.prog w=.ok (.slice A (n+m.length) c) w':=hr;simp[execOp,U,resolve,invoke,builtin,P.val V,P.val Y,L]
 ·exact R.step k O i.os i.tape i.output i.size (λ q hq M=>i.block q hq (λ x=>M x.symm)) I (λ b' N=>h3 b' N)
theorem Jn{p:Env}{ops l:List Oper}{o:Oper}{f:Operand}{args:Array Operand}{ts:Array TypeId}{g:FuncId}{fst cap vs b:LV_}{v:Value}(gs:LN_)(hM:X.M=[])
 (T:∀ w,dL X.w0 X.M w H->Calls Tryz.prog g b.toArray w λ e w'=>e=.returned v/\Below X.w0.heap.size w w') (r:o.op=.call ⟨.value f,args,ts⟩) (s:val E f=some (.func (.func g) fst.toArray cap.toArray))
 (t:vals E args.toList=some vs) (has:fst++vs++cap=b) (i:eg g=true) (u:jN X.n ops gs E o v=some p) (h:JL X ops l Q p []):JL X ops (o::l) Q E H:=by
 intro a w hA d;obtain⟨hg,hp⟩:=eb u;refine nd ?_
 left
 refine nc ?_;rw[yb hA r s t i w,has];refine (T w d).mono ?_;rintro e w' ⟨rfl,j⟩;refine h _ _ (hA.putE hp) ⟨j.os.trans d.os,j.tape.trans d.tape,j.output.trans d.output,Ot d.size j.size,λ k q m=>?_,λ c i=>absurd i Nr,λ c i=>absurd i Nr,List.Pairwise.nil⟩;exact (j.block k q).trans (d.keep k q m)
end
def vg(b:Nat)(p:Value)(A:OA_)(c:Nat)(m:LU_):Heap:=[blk b 116 [p,.slice A m.length c],.own (.slice A m.length c) 5 1 m.length (byteCells m)]
def LO(b:Nat)(p:Value):Prop:=p=.pointer none\/p=.pointer (some ⟨b,0,none⟩)
theorem Eu(b:Nat)(p v:Value)(hp:LO b p):Fn 93 [.pointer (some ⟨b,0,none⟩)] (ay [blk b 116 [p,v]]) ([]++[blk b 116 [p,v]]) λ _ H'=>H'=[blk b 116 [.pointer (some ⟨b,0,none⟩),v]]:=by
 intro w hw;have hb:w.heap[b]?=some (.cells #[p,v] 116 (0,0)):=hw.holds _ (OI ..);have hM:ay [blk b 116 [p,v]]=[b]:=rfl
 rcases hp with rfl|rfl
 ·refine (Any.Builder_copyCheck_fresh { Tryz.lays156 with } Tryz.Builder_Extra_156.toX72 b w (by simp[World.cell?,hb]) (by simp[World.shape?,hb];rfl) (by simp[World.frozen?,hb])).mono ?_;rintro e w' ⟨he,rfl⟩;refine⟨.tuple #[],_,he,?_,rfl⟩;refine hw.step 0 rfl rfl rfl rfl (by simp[World.setCell]) (λ k _ c=>Below.heap_setCell _ _ _ _ (λ e=>c (by rw[e];rfl))) ?_ (λ d a=>.inl a);show (w.setCell _ _).heap[b]?=_;simp[World.setCell,Array.getElem?_modify,hb]
 ·refine IL ?_;rintro e w' ⟨he,rfl⟩;exact⟨.tuple #[],_,he,hw,rfl⟩
theorem xw(b:Nat)(p:Value)(hp:LO b p)(A:OA_)(c:Nat)(m s:LU_)(hl:m.length+s.length<=1000000000000):Fn 53 [.pointer (some ⟨b,0,none⟩),du s] (ay (vg b p A c m)) ([]++vg b p A c m)
 λ _ H'=>∃ (a:OA_) (d:Nat),H'=vg b (.pointer (some ⟨b,0,none⟩)) a d (m++s):=by
 refine aT Tryz.func53 λ w0=>?_;refine cW ?_;refine sk (fst:=[]) (cap:=[]) (Eu b p _ hp) rfl aw.refl be ?_;rintro v H' rfl;refine ew ?_;refine aG (bz (i:=1) (v:=.slice A m.length c) 0 rfl rfl rfl rfl) ?_;refine az ?_;refine rx (m:=s) 1 rfl rfl rfl rfl rfl rfl rfl aa (λ _ _=>rfl) λ a d=>az ?_;refine nW ?_;refine bM<|⟨_,rfl,a,d,?_⟩;unfold vg;rw[Ng,show byteCells (m++s)=byteCells m++byteCells s by simp[byteCells]];rfl
theorem Li{X:Cx}(hM:X.M=[]){w:World}{H:Heap}(b:Nat)(p:Value)(hp:LO b p)(A:OA_)(c:Nat)(m:LU_)(a:dL X.w0 X.M w (vg b p A c m++H)):
 Calls Tryz.prog 55 #[.pointer (some ⟨b,0,none⟩)] w λ e w'=>e=.returned (du m)/\Below X.w0.heap.size w w':=by
 have t:w.heap[b]?=some (.cells #[p,.slice A m.length c] 116 (0,0)):=a.holds (blk b 116 [p,.slice A m.length c]) (by simp[vg]);have s:w.ownsRow 0 5 1 (.slice A m.length c) m.length (byteCells m):=a.holds (.own (.slice A m.length c) 5 1 m.length (byteCells m)) (by simp[vg]);have d:∀ i∈vg b p A c m,∀ k,i.mine=some k->X.w0.heap.size<=k:=λ i u k v=>(a.own i (List.mem_append_left _ u) k v).resolve_right (by rw[hM];exact Nr);have j:=d _ (OI ..) b rfl;have l:=(Oc.1 a.dis).1;have n:(Value.slice A m.length c).ownBlock≠some b:=(Ps.1 l).1 _ (OI ..)|>.1 b rfl
 have o:w.ownsRow X.w0.heap.size 5 1 (.slice A m.length c) (byteCells m).length (byteCells m):=by
  rw[byteCells_length];refine⟨s.1,?_⟩
  rcases s.2 with h|⟨g,cap,cur,e,_,r⟩
  ·exact .inl h
  ·exact .inr ⟨g,cap,cur,e,d _ (On _ (OI ..)) g (by rw[show (aU.own (.slice A m.length c) 5 1 m.length (byteCells m)).mine=(Value.slice A m.length c).ownBlock from rfl,e];rfl),r⟩
 have f:BuilderAt 116 5 X.w0.heap.size b p (byteCells m) w:=⟨j,_,t,o,n⟩
 have q:IsBuilder 116 5 X.w0.heap.size b (byteCells m) w:=by
  rcases hp with rfl|rfl
  ·exact .inl f
  ·exact .inr f
 exact Any.Builder_String_any Tryz.lays169 Tryz.Builder_Extra_169 X.w0.heap.size b m w q a.size
end Go.Proofs.YtmcnpaelaieniaaGreatDoor
