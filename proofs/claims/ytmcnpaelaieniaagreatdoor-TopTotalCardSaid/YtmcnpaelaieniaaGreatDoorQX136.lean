import Derived.Test.YtmcnpaelaieniaaGreatDoorQX129
import Derived.Lib.ItoaNum
import Derived.Test.YtmcnpaelaieniaaGreatDoorShelf
import Derived.Lib.LaidTab
import Derived.Lib.SmallJoins
import Derived.Lib.AppendIntMem
import Derived.Lib.AppendStr
import Derived.Lib.Builder
import Derived.Shelf.Strings.Builder1
/- A part of the proof. -/
set_option linter.unusedVariables false
set_option linter.unusedSimpArgs false
set_option maxHeartbeats 8000000
namespace Go.Proofs.YtmcnpaelaieniaaGreatDoor
open Go.RowKit
def vI(N:aV)(v:Int)(i:Nat):Bool:=match N.arcs[i]? with|some a=>decide (a.fr=v)|none=>false
def iE(N:aV)(v:Int):LN_:=(List.range N.arcs.length).filter (vI N v)
theorem Jv(N:aV)(l:LI_)(v:Int):IP N l v=(iE N v).find? λ e=>i6 (l.getD e 0):=by
 unfold IP iE;rw[List.find?_filter]
 congr 1
 funext i
 unfold xJ vI i6
 cases N.arcs[i]? with
 |none=>rfl
 |some a=>by_cases b:a.fr=v<;>by_cases c:0<l.getD i 0<;>simp[b]
theorem Fl{N:aV}{v:Int}{e:Nat}(h:e∈iE N v):e<N.arcs.length:=N8.1 (Pd.1 h).1
theorem EC(N:aV)(v:Int):(iE N v).length<=N.arcs.length:=by
 have:=OD (vI N v) (List.range N.arcs.length);rw[Ot] at this;exact this
theorem y5{α:Type}{p:α->Bool}{e:α}:∀ {D:List α},D.find? p=some e->D[D.findIdx p]?=some e/\D.findIdx p<D.length
 |[],h=>by simp at h
 |x::D,h=>by
  by_cases hp:p x=true
  ·rw[List.find?_cons_of_pos hp] at h;rw[List.findIdx_cons,hp];exact⟨h,ai⟩
  ·have a:p x=false:=by simpa using hp
   rw[List.find?_cons_of_neg hp] at h;rw[List.findIdx_cons,a];obtain⟨b,c⟩:=y5 h;exact⟨by simpa using b,by simpa using c⟩
structure zQ (N:aV) (left:LI_) (n:Nat) (pos:LN_):Prop where
 len:pos.length=n+1
 used:∀ (v q:Nat),pos[v]?=some q->q<=(iE N (v:Int)).length/\∀ j e,j<q->(iE N (v:Int))[j]?=some e->i6 (left.getD e 0)=false
theorem zQ.next{N:aV}{left:LI_}{n:Nat}{pos:LN_}(h:zQ N left n pos){v q e:Nat}(f:pos[v]?=some q)(he:IP N left (v:Int)=some e):∃ k,k=((iE N (v:Int)).drop q).findIdx (λ e=>i6 (left.getD e 0))/\q+k<(iE N (v:Int)).length/\(iE N (v:Int))[q+k]?=some e/\zQ N left n (pos.set v (q+k)):=by
 obtain⟨i,b⟩:=h.used v q f;rw[Jv] at he
 have l:((iE N (v:Int)).drop q).find? (λ e=>i6 (left.getD e 0))=some e:=by
  have m:iE N (v:Int)=(iE N (v:Int)).take q++(iE N (v:Int)).drop q:=(Oa q _).symm;rw[m,List.find?_append] at he
  have o:((iE N (v:Int)).take q).find? (λ e=>i6 (left.getD e 0))=none:=List.find?_eq_none.2 λ x c=>by
   obtain⟨j,d⟩:=On.1 c;have a:j<q:=by have:=(Ng.1 d).1;rw[NE] at this;omega
   rw[P3,if_pos a] at d;rw[b j x a d];simp
  rw[o] at he
  simpa using he
 obtain⟨g,r⟩:=y5 l;rw[Ol] at g;rw[Oe] at r;refine⟨_,rfl,aa,g,by rw[NO];exact h.len,λ u p hp=>?_⟩;by_cases hu:v=u
 ·subst hu;rw[Nq (Ng.1 f).1] at hp;obtain rfl:=NK hp;refine⟨aa,λ j x d c=>?_⟩;by_cases a:j<q
  ·exact b j x a c
  ·have s:j-q<((iE N (v:Int)).drop q).findIdx (fun e=>i6 (left.getD e 0)):=by omega
   have:=Py s;have t:=(Ng.1 c).1;simp only[List.getElem_drop] at this;have w:q+(j-q)=j:=aa;simp only[w] at this;rw[(Ng.1 c).2] at this
   simpa using this
 ·rw[Ns hu] at hp;exact h.used u p hp
theorem tG.adv{rows:List fg}{f:Nat->Nat}{pos:LN_}{vals:LV_}(h:tG rows f pos vals){v q d:Nat}{row:fg}{g:OA_}(j:rows[v]?=some row)(hp:pos[v]?=some q)(m:row.l.length-q<=d)(r:q<row.l.length->g=some ⟨f v,q,none⟩)(k:Nat)(t:q+k<row.l.length):
 tG rows f (pos.set v (q+k)) (vals.set v (.slice (fA g d k 1) (row.l.length-q-k) (d-k))):=by
 have i:v<vals.length:=by rw[h.len];exact (Ng.1 j).1
 refine⟨by rw[NO];exact h.len,λ u ro p hu a=>?_⟩;by_cases e:v=u
 ·subst e;rw[j] at hu;obtain rfl:=NK hu;rw[Nq (Ng.1 hp).1] at a;obtain rfl:=NK a;refine⟨_,d-k,by rw[Nq i,Nat.sub_sub],aa,λ s=>?_⟩;have:=eS (A:=g) (c:=d) (l:=k) (n:=row.l.length-q) (sz:=1) (b:=f v) (o:=q) (λ _=>r aa) m aa;rw[this,NT]
 ·rw[Ns e] at a ⊢;exact h.at_ u ro p hu a
theorem Iw(D:LN_)(left:LI_):(D.map λ (i:Nat)=>(i:Int)).findIdx (C9 left)=D.findIdx λ e=>i6 (left.getD e 0):=by
 rw[List.findIdx_map];rfl
theorem Ib(N:aV)(U:N.Right)(A:OA_)(c:Nat)(left:LI_)(V:left.length=N.arcs.length)(C bl:Nat)(val:Int)(go n:Nat)(at_:Int)(pw:Nat)(rows:List fg)(E:rows.length=n+1)(X:∀ (v:Nat) (row:fg),rows[v]?=some row->row.l=(iE N (v:Int)).map λ (i:Nat)=>(i:Int))
 (d:Nat->Nat) (F:∀ (v:Nat) (row:fg),rows[v]?=some row->aj row.l≠[]->row.A=some ⟨d v,0,none⟩) (pos:LN_) (vals:LV_) (D:tG rows d pos vals) (H:zQ N left n pos) (v e:Nat) (hv:v<=n) (he:IP N left (v:Int)=some e):
 Fn 201 [.pointer (some ⟨pw,0,none⟩),.int .i64 (v:Int)] (aC ([blk pw 256 (pH N A c (some ⟨bl,0,none⟩) left.length C val (some ⟨go,0,none⟩) (n+1) (n+1) at_),.own (.slice (some ⟨go,0,none⟩) (n+1) (n+1)) 23 1 (n+1) vals]++rows.map (bd 3)))
  ([.seg bl 0 (aj left)]++([blk pw 256 (pH N A c (some ⟨bl,0,none⟩) left.length C val (some ⟨go,0,none⟩) (n+1) (n+1) at_),.own (.slice (some ⟨go,0,none⟩) (n+1) (n+1)) 23 1 (n+1) vals]++rows.map (bd 3)))
  λ u H'=>∃ (pos':LN_) (f:LV_),tG rows d pos' f/\zQ N left n pos'/\u=.int .i64 (e:Int)/\H'=[blk pw 256 (pH N A c (some ⟨bl,0,none⟩) left.length C val (some ⟨go,0,none⟩) (n+1) (n+1) at_),.own (.slice (some ⟨go,0,none⟩) (n+1) (n+1)) 23 1 (n+1) f]++rows.map (bd 3):=by
 have Y:=U.len;obtain⟨row,a⟩:∃ row,rows[v]?=some row:=⟨rows[v]'aa,be aa⟩;obtain⟨q,I⟩:∃ q,pos[v]?=some q:=⟨pos[v]'(by have:=H.len;omega),be (by have:=H.len;omega)⟩;obtain⟨A',c',hval,s,t⟩:=D.at_ v row q a I;have g:=X v row a;have Q:row.l.length=(iE N (v:Int)).length:=by rw[g,Nm]
 have Z:=EC N (v:Int);obtain⟨k,hk,R,K,L⟩:=H.next I he;have w:q<row.l.length:=aa;have y:=t w
 have j:aj row.l≠[]:=by
  intro h0;have:row.l.length=0:=by rw[<- bY,h0];rfl
  omega
 have p:=F v row a j;have O:=D.adv a I s t k aa;have z:(row.l.drop q).findIdx (C9 left)=k:=by rw[g,<- List.map_drop,Iw,<- hk]
 generalize hM:aC _=M
 refine aT Tryz.func201 λ w0=>?_;refine bu ?_;refine cY (cs:=[ap pw 0]) λ qb=>?_;refine aN ?_;show J _ _ _ _ ([_,_,_,_]++rows.map (bd 3));refine cq ?_;refine bM 23 (dT [0,1,2,3,4,5,6,7,8,9,10,11,12,13,14,15,16,17,18,19]++[(20,false)]++dT [21,22]) [0,1,2,3] aX ab rfl ?_
 have S:=Fe A' c' (d v) q (row.l.drop q) (λ _=>y) (by rw[Oe];omega) N A c C val (aL go 0) (n+1) (n+1) at_ left bl qb pw (λ x hx=>by
  have:=PN hx;rw[g] at this;obtain⟨i,hi,rfl⟩:=NF.1 this;have:=Fl hi;omega)
 rw[z,Oe,oZ] at S;refine KL ?_;refine bh (v:=ap pw 0) rfl (ad 0 rfl) ?_;refine a9 ?_;refine bh (v:=ax go 0 (n+1) (n+1)) rfl (ad 2 rfl) ?_;refine a9 ?_;refine Gx ?_;refine KL ?_;refine Gx ?_;refine jI ?_
 refine bA (fst:=[]) (cap:=[]) [] S rfl rfl rfl rfl aX ⟨ew 0 rfl,ew 2 rfl,bz 1 rfl,⟨v+4,bd 3 row,ai,(show (rows.map (bd 3))[v]?=_ by rw[List.getElem?_map,a];rfl),
  (by have:=dz (bC (e:=3) (sz:=1) (n:=row.l.length) (cap:=row.c) (λ _=>p:aj row.l≠[]->row.A=aL (d v) 0)) q;rw[NR] at this;exact this),.inr (by unfold bd cT;rw[p];rfl)⟩,an⟩ aK ?_
 rintro u H' ⟨rfl,rfl⟩;refine dw ?_;refine b6 [0,1,2,3]<|bh rfl (f5 (i:=k) rfl rfl rfl rfl rfl aa) ?_;refine bh rfl (bn rfl (show v<n+1 by omega)) ?_;refine cM<|aW 3 rfl rfl rfl rfl (fz rfl rfl rfl (by rw[D.len];omega)) [] rfl<|ah<|?_;show J _ _ _ _ ([_,_,_,_]++rows.map (bd 3))
 have B:fA A' c' k 1=aL (d v) (q+k):=by
  have:=eS (A:=A') (c:=c') (l:=k) (n:=row.l.length-q) (sz:=1) (b:=d v) (o:=q) (λ _=>y) s aa;rw[this,NT]
 have r:(vals.set v (.slice (fA A' c' k 1) (row.l.length-q-k) (c'-k)))[v]?=some (ax (d v) (q+k) (row.l.length-q-k) (c'-k)):=by rw[Nq (by rw[D.len];omega),B]
 have P:row.l[q+k]?=some (e:Int):=by rw[g,Nk,K];rfl
 refine aI ?_;refine bj (v:=ap pw 0) 0 ?_;refine az ?_;refine bj (v:=ax go 0 (n+1) (n+1)) 2 ?_;refine az ?_;refine aF (bn rfl (show v<n+1 by omega)) ?_;refine aF (aw (v:=ax (d v) (q+k) (row.l.length-q-k) (c'-k)) 3 rfl rfl rfl r) ?_;refine aF (gq (m:=0) rfl aa) ?_
 refine ae [] (dY (b:=d v) (off:=q+k) (i:=0) (cs:=(aj row.l).drop (q+k)) (v:=af (e:Int)) (c:=bd 3 row) (v+4) rfl rfl (show (rows.map (bd 3))[v]?=_ by rw[List.getElem?_map,a];rfl)
  (by have:=dz (bC (e:=3) (sz:=1) (n:=row.l.length) (cap:=row.c) (λ _=>p:aj row.l≠[]->row.A=aL (d v) 0)) (q+k);rw[NR] at this;exact this)
  (by show ((aj row.l).drop (q+k))[0]?=_;rw[Ol];exact ep P)) rfl ?_
 refine aN ?_;show J _ _ _ _ ([_,_,_,_]++rows.map (bd 3));exact bS (ay.re [2,3] rfl ab)<|bN ⟨_,rfl,_,_,O,L,rfl,rfl⟩
structure xm (N:aV) (l:LI_) (to_ s0:Int) (n:Nat) (seen:LI_) (arcs:LN_) (at_:Int):Prop where
 fuel:N.nodes.toNat+1<=n+seen.length
 shape:seen=arcs.map (pu N)++[at_]
 nodup:seen.Nodup
 rng:∀ v∈seen,1<=v/\v<=N.nodes
 walk:ks N s0 arcs at_
 room:∀ i∈arcs,∃ r:ej,N.arcs[i]?=some r/\0<l.getD i 0
 goes:∃ i,nS N l at_ i
theorem xm.few{N:aV}{l:LI_}{to_ s0:Int}{n:Nat}{seen:LI_}{arcs:LN_}{at_:Int}(a:N.Right)(h:xm N l to_ s0 n seen arcs at_):seen.length<=N.nodes.toNat/\arcs.length+1=seen.length/\0<n:=by
 have b:=a.nodes
 have:=kv seen ((List.range N.nodes.toNat).map λ (i:Nat)=>(i:Int)+1) h.nodup λ x c=>by
  have:=h.rng x c;exact NF.2 ⟨(x-1).toNat,N8.2 aa,aa⟩
 simp only[Nm,Ot] at this;have d:=Na List.length h.shape;simp only[Nj,Nm,Nh,NC] at d;have:=h.fuel;omega
theorem xm.step{N:aV}(k:N.Right){l:LI_}(m:Ranged N l){to_ s0:Int}(g:∀ v:Int,1<=v/\v<=N.nodes->v≠to_->dH (N.arcs.zip l) v<=0){n:Nat}{seen:LI_}{arcs:LN_}{at_:Int}(h:xm N l to_ s0 (n+1) seen arcs at_):
 ∃ (e:Nat) (a:ej),IP N l at_=some e/\N.arcs[e]?=some a/\jO N e=a.to/\(a.to≠to_->a.to∉seen->xm N l to_ s0 n (seen++[a.to]) (arcs++[e]) a.to):=by
 obtain⟨i,hi⟩:=h.goes;obtain⟨e,he⟩:=Hw hi;obtain⟨a,b,c,hp⟩:=ym he;have j:=uX b;have d:=k.arc a (Nb b);refine⟨e,a,he,b,j,λ o p=>⟨?_,?_,?_,?_,qh b (by rw[c];exact h.walk),?_,KQ m (g _ d.2.1 o) b rfl hp⟩⟩
 ·have:=h.fuel;rw[Nj];simp only[Nh,NC];omega
 ·rw[h.shape,NI];simp[kI b,c]
 ·rw[Nz];refine⟨h.nodup,ai,λ x g y q=>?_⟩;rw[Ni.1 q];rintro rfl;exact p g
 ·intro v r
  rcases Np.1 r with h|f
  ·exact xm.rng ‹_› v h
  ·rw[Ni.1 f];exact d.2.1
 ·intro i hi
  rcases Np.1 hi with f|f
  ·exact h.room i f
  ·rw[Ni.1 f];exact⟨a,b,hp⟩
theorem Ee{N:aV}{l:LI_}{kd to_:Int}{n:Nat}{seen:LI_}{arcs:LN_}{at_:Int}{e:Nat}(he:IP N l at_=some e):tl N l kd to_ (n+1) seen arcs at_=if jO N e=to_ then (kd,arcs++[e]) else if jO N e∈seen then (99,(arcs++[e]).drop (seen.idxOf (jO N e))) else tl N l kd to_ n (seen++[jO N e]) (arcs++[e]) (jO N e):=by
 rw[tl,he]
def MU(w:Wk):Int:=if 0<w.val then 112 else if w.val<0 then 98 else 99
def KB(N:aV)(w:Wk):Int:=if 0<w.val then N.src else if w.val<0 then N.snk else pu N (b5 w.left)
def L5(N:aV)(w:Wk):Int:=if 0<w.val then N.snk else if w.val<0 then N.src else 0
theorem LD(N:aV)(w:Wk):xS N w=tl N w.left (MU w) (L5 N w) (N.nodes.toNat+1) [KB N w] [] (KB N w):=by
 unfold xS MU L5 KB;by_cases a:0<w.val
 ·simp only[if_pos a]
 ·by_cases b:w.val<0
  ·simp only[if_neg a,if_pos b]
  ·simp only[if_neg a,if_neg b]
theorem IE{N:aV}(k:N.Right){w:Wk}(h:w.OK N)(hp:b5 w.left<w.left.length):xm N w.left (L5 N w) (KB N w) (N.nodes.toNat+1) [KB N w] [] (KB N w)/\(∀ v:Int,1<=v/\v<=N.nodes->v≠L5 N w->dH (N.arcs.zip w.left) v<=0):=by
 have p:=h.flow.toRanged;have b:=CM k h.flow;rw[h.worth] at b;have u:=k.src;have x:=k.snk;have y:=h.flow.len;have c:∀ v:Int,1<=v/\v<=N.nodes->v≠N.src->v≠N.snk->dH (N.arcs.zip w.left) v=0:=h.flow.kept;have d:=h.worth;have mk:∀ s:Int,1<=s/\s<=N.nodes->(∃ i,nS N w.left s i)->∀ t,xm N w.left t s (N.nodes.toNat+1) [s] [] s:=λ s z A t=>⟨by simp only[Nh,NC];omega,rfl,ai,λ v f=>by rw[Ni.1 f];exact z,rfl,λ i hi=>absurd hi Nt,A⟩;unfold L5 KB;by_cases l:0<w.val
 ·simp only[if_pos l]
  exact⟨mk _ u (CJ p (by rw[b];omega)) _,λ v f g=>by
   by_cases e:v=N.src
   ·rw[e,b];omega
   ·rw[c v f e g];omega⟩
 ·by_cases c2:w.val<0
  ·simp only[if_neg l,if_pos c2]
   exact⟨mk _ x (CJ p (by rw[d];omega)) _,λ v f g=>by
    by_cases e:v=N.snk
    ·rw[e,d];omega
    ·rw[c v f g e];omega⟩
  ·simp only[if_neg l,if_neg c2];have m:=vp hp;obtain⟨a,n⟩:∃ a,N.arcs[b5 w.left]?=some a:=⟨_,List.getElem?_eq_getElem aa⟩;have o:=k.arc a (List.mem_of_getElem? n);have j:=kI n;refine⟨mk _ (by rw[j];exact o.1) ⟨b5 w.left,a,n,j.symm,m⟩ _,fun v f _=>?_⟩;by_cases q:v=N.src
   ·rw[q,b];omega
   ·by_cases r:v=N.snk
    ·rw[r,d];omega
    ·rw[c v f q r];omega
theorem wD(l:LI_):one (aj l)=true:=by
 induction l with
 |nil=>rfl
 |cons x l a=>exact a
theorem oN(A:OA_)(c b o:Nat)(l:LI_)(d:l≠[]->A=some ⟨b,o,none⟩)(hl:l.length<=100000):
 Fn 99 [.slice A l.length c] [] [.seg b o (aj l)] λ v H'=>∃ (f:OA_) (i:Nat),v=.slice f l.length i/\H'=[.own (.slice f l.length i) 3 1 l.length (aj l)]:=by
 refine aT Tryz.func99 λ w0=>?_;refine c9 ?_;refine aF (wF rfl rfl rfl rfl) ?_;refine ah ?_
 cases A with
 |none=>
  have j:l=[]:=NG λ h=>by have:=d h;simp at this
  subst j;refine eu ?_;exact bX 3 1<|aM [0] ⟨_,rfl,none,0,rfl,rfl⟩
 |some a=>
  refine bo rfl (ag ?_);refine bu ?_;refine dp λ g=>?_;refine lx 1 0 rfl ab<|az ?_;exact bx (n:=0) (m:=l.length) (off:=o) (b:=b) (news:=aj l) 0 1 rfl rfl rfl rfl rfl rfl ab rfl rfl (bq _ _ _) (λ h=>d (λ e=>h (by rw[e];rfl))) (by rw[bY];omega) (wD l) aa aa (λ _ _=>rfl) λ A2 c2=>GG
theorem gW(A:OA_)(c b o:Nat)(l:LI_)(d:l≠[]->A=some ⟨b,o,none⟩)(hl:l.length<=100000):
 Fn 76 [.slice A l.length c] [] [.seg b o (aj l)] λ v H'=>∃ (f:OA_) (i:Nat),v=.slice f l.length i/\H'=[.own (.slice f l.length i) 2 1 l.length (aj l)]:=by
 refine aT Tryz.func76 λ w0=>?_;refine c9 ?_;refine aF (wF rfl rfl rfl rfl) ?_;refine ah ?_
 cases A with
 |none=>
  have j:l=[]:=NG λ h=>by have:=d h;simp at this
  subst j;refine eu ?_;exact bX 2 1<|aM [0] ⟨_,rfl,none,0,rfl,rfl⟩
 |some a=>
  refine bo rfl (ag ?_);refine bu ?_;refine dp λ g=>?_;refine lx 1 0 rfl ab<|az ?_;exact bx (n:=0) (m:=l.length) (off:=o) (b:=b) (news:=aj l) 0 1 rfl rfl rfl rfl rfl rfl ab rfl rfl (bq _ _ _) (λ h=>d (λ e=>h (by rw[e];rfl))) (by rw[bY];omega) (wD l) aa aa (λ _ _=>rfl) λ A2 c2=>GG
theorem DF{l:LI_}{A B:OA_}(h:aj l≠[]->A=B)(hl:l≠[]):A=B:=h λ a=>hl (by simpa [aj] using a)
theorem tS{H:Heap}:∀ (K:Heap) (i:Nat),(∀ j,H[i+j]?=K[j]?)->cK H (List.range' i K.length)=some K
 |[],i,_=>rfl
 |c::K,i,hi=>by
  have a:H[i]?=some c:=by simpa using hi 0
  rw[Nh,List.range'_succ];unfold cK;rw[a,tS K (i+1) (λ j=>by have:=hi (j+1);simpa [N7,P0 1] using this)]
theorem rV(c:aY)(K:Heap):cK (c::K) (List.range' 1 K.length)=some K:=tS K 1 λ j=>by rw[P0,Oj]
theorem G1(N:aV)(P:N.Right)(A:OA_)(c b o:Nat)(hA:N.arcs≠[]->A=some ⟨b,o,none⟩)(w:Wk)(hw:w.OK N)(hp:b5 w.left<w.left.length)(Y bl:Nat)(go n:Nat)(hn:N.nodes=n)(C:Nat)(rows:List fg)(Q:rows.length=n+1)(hL:∀ (v:Nat) (row:fg),rows[v]?=some row->row.l=(iE N (v:Int)).map λ (i:Nat)=>(i:Int))
 (gv:Nat->Nat) (hq:∀ (v:Nat) (row:fg),rows[v]?=some row->aj row.l≠[]->row.A=some ⟨gv v,0,none⟩) (pos:LN_) (vals:LV_) (hV:tG rows gv pos vals) (hD:zQ N w.left n pos):
 Fn 195 [.pointer (some ⟨C,0,none⟩)] (aC ([blk C 256 (pH N A c (some ⟨bl,0,none⟩) w.left.length Y w.val (some ⟨go,0,none⟩) (n+1) (n+1) (b5 w.left:Nat)),.own (.slice (some ⟨go,0,none⟩) (n+1) (n+1)) 23 1 (n+1) vals]++rows.map (bd 3)))
  ([.seg b o (arcs N.arcs),.seg bl 0 (aj w.left)]++([blk C 256 (pH N A c (some ⟨bl,0,none⟩) w.left.length Y w.val (some ⟨go,0,none⟩) (n+1) (n+1) (b5 w.left:Nat)),.own (.slice (some ⟨go,0,none⟩) (n+1) (n+1)) 23 1 (n+1) vals]++rows.map (bd 3)))
  λ u H'=>∃ (pos':LN_) (y:LV_) (A':OA_) (c':Nat),tG rows gv pos' y/\zQ N w.left n pos'/\u=.agg #[.int .u8 (xS N w).1,.slice A' (xS N w).2.length c',.int .i64 0]/\
   H'=[.own (.slice A' (xS N w).2.length c') 3 1 (xS N w).2.length (cJ (xS N w).2),blk C 256 (pH N A c (some ⟨bl,0,none⟩) w.left.length Y w.val (some ⟨go,0,none⟩) (n+1) (n+1) (b5 w.left:Nat)),.own (.slice (some ⟨go,0,none⟩) (n+1) (n+1)) 23 1 (n+1) y]++rows.map (bd 3):=by
 have hg:=P.len;have hd:=P.nodes;have hf:=hw.flow.len;have D:b5 w.left<N.arcs.length:=aa;obtain rfl:=hA (by intro h0;rw[h0] at D;simp at D);obtain⟨a0,h1⟩:∃ a,N.arcs[b5 w.left]?=some a:=⟨_,be D⟩;obtain⟨q0,q1,q2⟩:=gF h1;have hc:=kI h1;obtain⟨h2,h3⟩:=IE P hw hp
 generalize hM:aC _=M
 refine ia Tryz.func195 rfl rfl λ w0=>bu ?_;refine dD λ Z=>?_;refine ah<|aI ?_;refine fv ?_;refine dD λ p3=>?_;refine iA ?_;show J _ _ _ _ ([_,_,_,_,_,_]++rows.map (bd 3));refine cq ?_;refine bM 15 (dT [0,1,2,3,4,5,6,7,8,9,10,11]++[(12,false),(13,false)]++dT [14]) [2,4] aX ab rfl<|a9 ?_;refine bh (v:=ax b o N.arcs.length c) rfl (ad 1 rfl) ?_;refine a9 ?_;refine bh (v:=af ((b5 w.left:Nat):Int)) rfl (ad 1 rfl) ?_;refine bh rfl (jc rfl D) ?_;refine a9 ?_;refine bh (v:=af a0.fr) rfl (fJ 0 rfl rfl rfl (N7 _ _ _) q0) ?_;refine cz ?_;refine dD λ p4=>?_;refine b6 [3,5]<|cz ?_;refine dE 0 ?_;refine b6 [3,5]<|ir ?_;refine od ?_;have L:=LD N w;obtain⟨kd,E⟩:∃ x,x=MU w:=⟨_,rfl⟩;obtain⟨st,q⟩:∃ x,x=KB N w:=⟨_,rfl⟩;obtain⟨to_,j⟩:∃ x,x=L5 N w:=⟨_,rfl⟩;rw[<- q,<- j] at h2;rw[<- j] at h3;rw[<- E,<- q,<- j] at L
 refine iv (σ:=Unit) (λ _=>[(5,af to_),(4,ap p4 0),(3,ap p3 0),(2,ap Z 0),(0,ap C 0)])
  (λ _=>[blk p4 3 [af st],blk p3 235 [.int .u8 kd,.slice none 0 0,af 0],blk Z 235 [.int .u8 0,.slice none 0 0,af 0],.seg b o (arcs N.arcs),.seg bl 0 (aj w.left),blk C 256 (pH N (aL b o) c (aL bl 0) w.left.length Y w.val (aL go 0) (n+1) (n+1) (b5 w.left:Nat)),.own (ax go 0 (n+1) (n+1)) 23 1 (n+1) vals]++rows.map (bd 3)) ?_ ?_
 ·refine aq<|aI ?_;refine bj (v:=af w.val) 5 ?_;refine aN ?_;refine ak rfl (λ d=>?_) (λ f=>?_)
  ·have d:0<w.val:=d;obtain rfl:kd=112:=E.trans (if_pos d);obtain rfl:st=N.src:=q.trans (if_pos d);obtain rfl:to_=N.snk:=j.trans (if_pos d);refine Ht ?_;refine bh (v:=af N.src) rfl (ad 0 rfl) ?_;refine a9 ?_;refine bh (v:=af N.snk) rfl (ad 0 rfl) ?_;exact FN
  ·have f:¬ 0<w.val:=f;refine aI ?_;refine bj (v:=af w.val) 5 ?_;refine aN ?_;refine ak rfl (λ d=>?_) (λ g=>ag ?_)
   ·have d:w.val<0:=d;obtain rfl:kd=98:=E.trans ((if_neg f).trans (if_pos d));obtain rfl:st=N.snk:=q.trans ((if_neg f).trans (if_pos d));obtain rfl:to_=N.src:=j.trans ((if_neg f).trans (if_pos d));refine Ht ?_;refine bh (v:=af N.snk) rfl (ad 0 rfl) ?_;refine a9 ?_;refine bh (v:=af N.src) rfl (ad 0 rfl) ?_;exact FN
   ·have g:¬ w.val<0:=g;obtain rfl:kd=99:=E.trans ((if_neg f).trans (if_neg g));obtain rfl:st=a0.fr:=q.trans ((if_neg f).trans ((if_neg g).trans hc));obtain rfl:to_=0:=j.trans ((if_neg f).trans (if_neg g));exact⟨(),a7,ay.refl⟩
 rintro⟨⟩;refine od ?_;refine aI ?_;refine bj (v:=af st) 0 ?_;refine dp λ g6=>?_;refine jg ?_;refine im ?_;refine bX 3 1 ?_
 refine cA (σ:=Nat×LI_×LN_×Int×LN_×LV_×(OA_×Nat)×(OA_×Nat)) (λ t=>[(6,.slice t.2.2.2.2.2.2.1.1 t.2.1.length t.2.2.2.2.2.2.1.2),(5,af to_),(4,ap p4 0),(3,ap p3 0),(2,ap Z 0),(0,ap C 0)])
  (λ t=>[.own (.slice t.2.2.2.2.2.2.2.1 t.2.2.1.length t.2.2.2.2.2.2.2.2) 3 1 t.2.2.1.length (cJ t.2.2.1),.own (.slice t.2.2.2.2.2.2.1.1 t.2.1.length t.2.2.2.2.2.2.1.2) 3 1 t.2.1.length (aj t.2.1),blk p4 3 [af t.2.2.2.1],blk p3 235 [.int .u8 kd,.slice t.2.2.2.2.2.2.2.1 t.2.2.1.length t.2.2.2.2.2.2.2.2,af 0],blk Z 235 [.int .u8 0,.slice none 0 0,af 0],.seg b o (arcs N.arcs),.seg bl 0 (aj w.left),blk C 256 (pH N (aL b o) c (aL bl 0) w.left.length Y w.val (aL go 0) (n+1) (n+1) (b5 w.left:Nat)),.own (ax go 0 (n+1) (n+1)) 23 1 (n+1) t.2.2.2.2.2.1]++rows.map (bd 3))
  (λ t=>xm N w.left to_ st t.1 t.2.1 t.2.2.1 t.2.2.2.1/\xS N w=tl N w.left kd to_ t.1 t.2.1 t.2.2.1 t.2.2.2.1/\tG rows gv t.2.2.2.2.1 t.2.2.2.2.2.1/\zQ N w.left n t.2.2.2.2.1) (λ t=>t.1)
  (N.nodes.toNat+1,[st],[],st,pos,vals,(aL g6 0,1),(none,0)) a7 ay.refl ⟨h2,L,hV,hD⟩ ?_
 rintro⟨m,S,W,v,hy,R,⟨As,cs⟩,⟨Aw,cw⟩⟩ ⟨hI,s,hv,hr⟩;simp only at hI s hv hr ⊢;obtain⟨f1,f2,f3⟩:=hI.few P;obtain⟨m,rfl⟩:∃ k,m=k+1:=⟨m-1,aa⟩;obtain⟨e,a,he,ha,hs,hk⟩:=hI.step P hw.flow.toRanged h3;rw[Ee he] at s;rw[hs] at s;have e2:=hI.rng v (by rw[hI.shape];simp);obtain⟨vn,rfl⟩:∃ vn:Nat,v=vn:=⟨v.toNat,aa⟩;have h4:e<N.arcs.length:=(Ng.1 ha).1;obtain⟨r0,r1,r2⟩:=gF ha;have e1:=P.arc a (Nb ha);refine aR (aH 1 rfl) λ ⟨_,_,F,hH⟩=>?_;obtain⟨gs,F⟩:=bg F hH;refine aq<|aI ?_;refine bj (v:=af (vn:Int)) 2 ?_;refine dI (fst:=[]) (cap:=[]) (Ib N P (aL b o) c w.left hf Y bl w.val go n (b5 w.left:Nat) C rows Q hL gv hq hy R hv hr vn e aa he) rfl (ay.mid [7,8] [0,1,2,3,4,5,6] rfl rfl ab) ⟨bz 6 rfl,an⟩ ?_;rintro u H' ⟨z,r,U,V,rfl,rfl⟩;refine⟨dl rfl (dd _ rows),?_⟩;refine cD ay.swap<|aN ?_;show J _ _ _ _ ([_,_,_,_,_,_,_,_,_]++rows.map (bd 3));refine aI ?_;refine bj (v:=.slice Aw W.length cw) 5 ?_;refine az ?_;refine dp λ g8=>?_;refine bx (n:=W.length) (m:=1) (off:=0) (news:=aj [(e:Int)]) 3 0 rfl rfl rfl rfl rfl rfl ab rfl rfl (aS g8 _ _ (0,0)) aK rfl rfl aa aa (λ _ _=>rfl) λ H c4=>?_;rw[show W.length+1=(W++[e]).length by simp,oz];refine az ?_;refine dE 6 ?_;refine ah ?_;show J _ _ _ _ ([_,_,_,_,_,_,_,_,_,_]++rows.map (bd 3));refine bS (ay.re [1,2,3,4,5,6,7,8,9] rfl ab)<|aI ?_;refine bj (v:=ax b o N.arcs.length c) 0 ?_;refine az ?_;refine aF (jc rfl h4) ?_;refine az ?_;refine aF (v:=af a.to) (fJ 7 rfl rfl rfl (N7 _ _ _) r1) ?_;refine dE 4 ?_;refine ah<|aI ?_;refine bj (v:=af a.to) 4 ?_;refine aN ?_;refine ak rfl (λ heq=>?_) (λ I=>ag ?_)
 ·have heq:a.to=to_:=heq;rw[if_pos heq] at s;refine aI ?_;refine bj (v:=.agg #[.int .u8 kd,.slice H (W++[e]).length c4,af 0]) 5 ?_;refine dE 6 ?_;refine ah ?_;show J _ _ _ _ ([_,_,_,_,_,_,_,_,_]++rows.map (bd 3));refine bS (ay.re [6,2,0,1] rfl ab)<|bN<|?_;exact⟨[.agg #[.int .u8 kd,.slice H (W++[e]).length c4,af 0]],_,_,⟨⟨Z,0,_,_,rfl,rfl,rfl⟩,an⟩,PC,rV _ _,z,r,H,c4,U,V,by rw[s];rfl,by rw[s];rfl⟩
 have I:¬ a.to=to_:=I;rw[if_neg I] at s;refine aR (aH 2 rfl) λ ⟨_,_,K,ht⟩=>?_;obtain⟨g4,K⟩:=bg K ht;have TP:=DI As cs gs 0 S (DF F) aa a.to p4;refine aI ?_;refine cj (fst:=[]) (cap:=[]) TP rfl ⟨ew 4 rfl,ff 3 rfl F,an⟩ ?_;refine cR ?_;refine ak rfl (λ B=>?_) (λ hN=>ag ?_)
 ·have B:S.findIdx (fun x=>x==a.to)<S.length:=by omega
  have hb:a.to∈S:=by
   obtain⟨x,hx,hj⟩:=List.findIdx_lt_length.1 B;have:x=a.to:=by simpa using hj
   rw[<- this];exact hx
  rw[if_pos hb,show S.idxOf a.to=S.findIdx (λ x=>x==a.to) from rfl] at s
  generalize S.findIdx (λ x=>x==a.to)=k at B s ⊢
  have k2:k<(W++[e]).length:=by rw[Nj];simp only[Nh,NC];omega
  have O:H=aL g4 0:=K (mf ai)
  have X:fA H c4 k 1=aL g4 k:=by
   have:=eS (A:=H) (c:=c4) (l:=k) (n:=(W++[e]).length) (sz:=1) (b:=g4) (o:=0) (λ _=>O) aa k2;rw[this];simp
  have TC:=oN (fA H c4 k 1) (c4-k) g4 k (((W++[e]).drop k).map λ (i:Nat)=>(i:Int)) (λ _=>X) (by rw[Nm,Oe,Nj];simp only[Nh,NC];omega);rw[show aj (((W++[e]).drop k).map λ (i:Nat)=>(i:Int))=(cJ (W++[e])).drop k by unfold cJ;rw[List.map_drop,oZ],Nm,Oe] at TC;refine aI ?_;refine bj (v:=.slice H (W++[e]).length c4) 5 ?_;refine az ?_;refine aF (f5 (i:=k) rfl rfl rfl rfl rfl aa) ?_;refine eW (fst:=[]) (cap:=[]) TC rfl ⟨fX 2 rfl (by have:=dz (bC (e:=3) (sz:=1) (n:=(W++[e]).length) (cap:=c4) K) k;rw[NR] at this;exact this) (.inr (by rw[O];rfl)),an⟩ ?_;rintro u H' ⟨A6,c6,rfl,rfl⟩;refine fv ?_;refine dE 7 ?_;refine ah ?_;show J _ _ _ _ ([_,_,_,_,_,_,_,_,_,_]++rows.map (bd 3));refine bS (ay.re [7,0,1,2] rfl ab)<|bN<|?_;exact⟨[.agg #[.int .u8 99,.slice A6 ((W++[e]).length-k) c6,af 0]],_,_,⟨⟨Z,0,_,_,rfl,rfl,rfl⟩,an⟩,PC,rV _ _,z,r,A6,c6,U,V,by rw[s];simp only[Oe];rfl,by rw[s];simp only[Oe];rw[show cJ ((W++[e]).drop k)=(cJ (W++[e])).drop k by unfold cJ;rw[List.map_drop,oZ]];rfl⟩
 have hz:a.to∉S:=λ hm=>by
  have:S.findIdx (λ x=>x==a.to)<S.length:=List.findIdx_lt_length.2 ⟨a.to,hm,ai⟩;omega
 rw[if_neg hz] at s;refine aI ?_;refine bj (v:=af a.to) 4 ?_;refine dp λ g9=>?_;refine bx (n:=S.length) (m:=1) (off:=0) (news:=aj [a.to]) 4 0 rfl rfl rfl rfl rfl rfl ab rfl rfl (aS g9 _ _ (0,0)) aK rfl rfl aa aa (λ _ _=>rfl) λ A7 c7=>?_;rw[show S.length+1=(S++[a.to]).length by simp,show aj S++aj [a.to]=aj (S++[a.to]) by simp[aj]];refine aN ?_;exact⟨(m,S++[a.to],W++[e],a.to,z,r,(A7,c7),(H,c4)),a7,(show ay _ ([_,_,_,_,_,_,_,_,_,_]++rows.map (bd 3)) _ from ay.re [3,4,5,6,7,8,9,1,2] rfl ab),⟨hk I hz,s,U,V⟩,by simp only;omega⟩
theorem F2(l:LI_)(m:Int)(W:LN_)(e:Nat):pq l m (W++[e])=min (pq l m W) (l.getD e 0):=by unfold pq;rw[O3];rfl
theorem wB(m:Int)(i:Nat):∀ (W:LN_) (f:LI_),jC m (W++[i]) f=(jC m W f).set i ((jC m W f).getD i 0+m)
 |[],_=>rfl
 |j::W,f=>by simp only[Od,jC];exact wB m i W _
theorem Hi{N:aV}(a:N.Right){w:Wk}(h:w.OK N):-4611686018427387903<=w.val/\w.val<=4611686018427387903:=by
 have:=dm a h.flow.toRanged N.snk;rw[h.worth] at this;omega
theorem yG{N:aV}(d:N.Right){f:LI_}(b:aD N f)(i:Nat):0<=f.getD i 0/\f.getD i 0<=4611686018427387903:=by
 rw[Nf]
 cases h:f[i]? with
 |none=>simp
 |some x=>
  have hi:=(Ng.1 h).1;have hl:=b.len;obtain⟨a,c⟩:∃ a,N.arcs[i]?=some a:=⟨_,be aa⟩;have e:=b.all (a,x) (Nb (N0.2 ⟨c,h⟩));have g:=d.cap (Nb c);simp only[NL] at e ⊢;omega
theorem F4(N:aV)(L:N.Right)(A:OA_)(c b o:Nat)(hA:N.arcs≠[]->A=some ⟨b,o,none⟩)(w:Wk)(hw:w.OK N)(hp:b5 w.left<w.left.length)(cl bl:Nat)(go n:Nat)(hn:N.nodes=n)(g:Nat)(rows:List fg)(H:rows.length=n+1)(hL:∀ (v:Nat) (row:fg),rows[v]?=some row->row.l=(iE N (v:Int)).map λ (i:Nat)=>(i:Int))
 (U:Nat->Nat) (V:∀ (v:Nat) (row:fg),rows[v]?=some row->aj row.l≠[]->row.A=some ⟨U v,0,none⟩) (pos:LN_) (vals:LV_) (hV:tG rows U pos vals) (hD:zQ N w.left n pos):
 Fn 179 [.pointer (some ⟨g,0,none⟩)] (aC ([blk g 256 (pH N A c (some ⟨bl,0,none⟩) w.left.length cl w.val (some ⟨go,0,none⟩) (n+1) (n+1) (b5 w.left:Nat)),.own (.slice (some ⟨go,0,none⟩) (n+1) (n+1)) 23 1 (n+1) vals,.own (.slice (some ⟨bl,0,none⟩) w.left.length cl) 2 1 w.left.length (aj w.left)]++rows.map (bd 3)))
  ([.seg b o (arcs N.arcs)]++([blk g 256 (pH N A c (some ⟨bl,0,none⟩) w.left.length cl w.val (some ⟨go,0,none⟩) (n+1) (n+1) (b5 w.left:Nat)),.own (.slice (some ⟨go,0,none⟩) (n+1) (n+1)) 23 1 (n+1) vals,.own (.slice (some ⟨bl,0,none⟩) w.left.length cl) 2 1 w.left.length (aj w.left)]++rows.map (bd 3)))
  λ u H'=>∃ (pos':LN_) (j:LV_) (A':OA_) (c':Nat),tG rows U pos' j/\zQ N w.left n pos'/\u=.agg #[.int .u8 (hO N w).1,.slice A' (hO N w).2.1.length c',.int .i64 (hO N w).2.2]/\
   H'=[.own (.slice A' (hO N w).2.1.length c') 3 1 (hO N w).2.1.length (cJ (hO N w).2.1),blk g 256 (pH N A c (some ⟨bl,0,none⟩) w.left.length cl (zX N w).val (some ⟨go,0,none⟩) (n+1) (n+1) (b5 w.left:Nat)),.own (.slice (some ⟨go,0,none⟩) (n+1) (n+1)) 23 1 (n+1) j,.own (.slice (some ⟨bl,0,none⟩) w.left.length cl) 2 1 w.left.length (aj (zX N w).left)]++rows.map (bd 3):=by
 have ha:=L.len;have h4:=hw.flow.len;have hH:=Hi L hw;obtain⟨_,_,X,hP,I⟩:=pY L hw hp;have hm:(hO N w).2.2=pq w.left (jb w (hO N w).1 (hO N w).2.1) (hO N w).2.1:=rfl;have Y:(zX N w).left=jC (-(hO N w).2.2) (hO N w).2.1 w.left:=rfl;have Z:(zX N w).val=if (hO N w).1=112 then w.val-(hO N w).2.2 else if (hO N w).1=98 then w.val+(hO N w).2.2 else w.val:=rfl
 have h2:(xS N w).1=(hO N w).1:=rfl;have h3:(xS N w).2=(hO N w).2.1:=rfl;have TI:=G1 N L A c b o hA w hw hp cl bl go n hn g rows H hL U V pos vals hV hD;rw[h2,h3] at TI;rw[Y,Z]
 generalize hO N w=t at*
 obtain⟨kd,W,m⟩:=t;simp only at X hP I hm TI ⊢;have ht:=aD.inB L hw.flow.toRanged;have O:=yG L hw.flow
 obtain⟨p,s,q⟩:(∀ i∈W,i<w.left.length)/\W.Nodup/\W≠[]:=by
  rcases hP with ⟨_,_,h⟩|⟨_,_,h⟩|⟨_,v,h⟩<;>exact⟨λ i hi=>by obtain⟨r,hr,_⟩:=h.room i hi;have:=(Ng.1 hr).1;omega,h.nodup,h.ne⟩
 obtain⟨y,W0,B⟩:=List.exists_cons_of_ne_nil q
 have hj:W.length<=2000:=by
  have:=kv (W.map λ (i:Nat)=>(i:Int)) ((List.range w.left.length).map λ (i:Nat)=>(i:Int)) (by rw[List.nodup_iff_pairwise_ne] at s ⊢;exact List.pairwise_map.2 (s.imp λ h=>by omega)) λ x hx=>by
   obtain⟨i,hi,rfl⟩:=NF.1 hx;exact NF.2 ⟨i,N8.2 (p i hi),rfl⟩
  simp only[Nm,Ot] at this;omega
 generalize hM:aC _=M
 refine ia Tryz.func179 rfl rfl λ w0=>bu ?_;refine dD λ C=>?_;refine ah<|sy ?_;refine aI ?_;refine dI (fst:=[]) (cap:=[]) TI rfl (ay.mid [2,3] [0,1,4] rfl rfl ab) ⟨bz 1 rfl,fX 2 rfl ca (.inr rfl),an⟩ ?_;rintro u H' ⟨P,a,A4,c4,hy,hv,rfl,rfl⟩;refine⟨dl rfl (dd _ rows),?_⟩;refine cD ay.swap<|dD λ E=>?_;refine dE 0 ?_;refine eF (aH 1 rfl) λ ⟨_,_,K,hb⟩=>?_;obtain⟨g4,K⟩:=bg K hb;obtain rfl:A4=aL g4 0:=K (mf q);refine ah<|od ?_;have hz:W[0]?=some y:=by rw[B];rfl
 have F:=p y (by rw[B];simp);have hq:w.left[y]?=some (w.left.getD y 0):=by rw[Nf,be F];rfl
 refine cq ?_;refine bM 11 (dT [0,1,2,3,4,5,6,7,8,9,10]) [0,1,2,6] aX ab rfl<|a9 ?_;refine bh (v:=ax bl 0 w.left.length cl) rfl (ad 2 rfl) ?_;refine a9 ?_;refine bh (v:=ax g4 0 W.length c4) rfl (ad 0 rfl) ?_;refine bh rfl (bn (m:=0) rfl (NM.2 q)) ?_;refine bh rfl (aw (v:=af (y:Int)) 1 rfl rfl rfl (eH hz)) ?_;refine bh rfl (bn rfl F) ?_;refine bh rfl (aw (v:=af (w.left.getD y 0)) 3 rfl rfl rfl (bQ hq)) ?_;refine hZ [] rfl<|iA ?_;refine od ?_
 refine iv (σ:=Unit) (λ _=>[(3,ap E 0),(2,ap C 0),(0,ap g 0)])
  (λ _=>[blk E 235 [.int .u8 kd,ax g4 0 W.length c4,af (jb w kd W)],.own (ax g4 0 W.length c4) 3 1 W.length (cJ W),blk g 256 (pH N A c (aL bl 0) w.left.length cl w.val (aL go 0) (n+1) (n+1) (b5 w.left:Nat)),.own (ax go 0 (n+1) (n+1)) 23 1 (n+1) a,blk C 235 [.int .u8 0,.slice none 0 0,af 0],.seg b o (arcs N.arcs),.own (ax bl 0 w.left.length cl) 2 1 w.left.length (aj w.left)]++rows.map (bd 3)) ?_ ?_
 ·refine aI ?_;refine bj (v:=.int .u8 kd) 0 ?_;refine aN ?_;refine ak rfl (λ d=>?_) (λ d=>ag ?_)
  ·have d:¬ kd=99:=d;refine cq ?_;refine bM 12 (dT [0,1,2,3,4,5,6,7,8,9,10]++[(11,false)]) [2] aX ab rfl<|a9 ?_;refine bh (v:=af w.val) rfl (ad 0 rfl) ?_;refine a9 ?_;refine bh (v:=af w.val) rfl (ad 0 rfl) ?_;refine a9 ?_;refine dK 33 (v':=af (jb w kd W)) rfl (Na (Value.int .i64) (by rw[cp aa];unfold jb;rw[if_neg d];split<;>omega))<|cz ?_;refine dE 0 ?_;refine b6 [2]<|lo ?_;exact⟨(),a7,ay.refl⟩
  ·have d:kd=99:=Classical.not_not.1 d;have hi:jb w kd W=w.left.getD y 0:=by unfold jb;rw[if_pos d,B];rfl
   rw[hi];exact⟨(),a7,ay.refl⟩
 rintro⟨⟩;refine od ?_;refine aI ?_;refine bj (v:=ax g4 0 W.length c4) 0 ?_;refine im ?_
 refine cA (σ:=Nat) (λ k=>[(38,af (k:Int)),(37,af (W.length:Int)),(36,ax g4 0 W.length c4),(3,ap E 0),(2,ap C 0),(0,ap g 0)])
  (λ k=>[blk E 235 [.int .u8 kd,ax g4 0 W.length c4,af (pq w.left (jb w kd W) (W.take k))],.own (ax g4 0 W.length c4) 3 1 W.length (cJ W),blk g 256 (pH N A c (aL bl 0) w.left.length cl w.val (aL go 0) (n+1) (n+1) (b5 w.left:Nat)),.own (ax go 0 (n+1) (n+1)) 23 1 (n+1) a,blk C 235 [.int .u8 0,.slice none 0 0,af 0],.seg b o (arcs N.arcs),.own (ax bl 0 w.left.length cl) 2 1 w.left.length (aj (w.left))]++rows.map (bd 3)) (λ k=>k<=W.length) (λ k=>W.length-k) 0 a7 ay.refl (Nl _) ?_
 ·intro k d;refine od ?_;refine ao ?_;refine am (ak rfl (λ hlt=>ag ?_) (λ hf=>aO ?_))
  ·have hlt:k<W.length:=by omega
   obtain⟨e,he⟩:∃ e,W[k]?=some e:=⟨_,be hlt⟩;have hel:=p e (Nb he);have hxe:w.left[e]?=some (w.left.getD e 0):=by rw[Nf,be hel];rfl
   have D:W.take (k+1)=W.take k++[e]:=by rw[Nu,he];rfl
   refine am (aq ?_);refine F0 ?_;refine a9 ?_;refine bh (v:=af (pq w.left (jb w kd W) (W.take k))) rfl (ad 0 rfl) ?_;refine KY ?_;refine dK 51 (v':=af (pq w.left (jb w kd W) (W.take (k+1)))) rfl (Na (Value.int .i64) (by rw[D,F2];split<;>omega))<|cM<|dE 0 ?_;refine dv ?_;exact⟨k+1,⟨Na (λ z=>some (af z)) (cp aa),rfl,rfl,rfl,rfl,rfl,an⟩,ay.refl,aa,aa⟩
  obtain rfl:k=W.length:=aa;rw[NH,<- hm];refine aI ?_;refine bj (v:=ax g4 0 W.length c4) 0 ?_;refine im ?_
  refine cA (σ:=Nat) (λ k=>[(57,af (k:Int)),(56,af (W.length:Int)),(55,ax g4 0 W.length c4),(3,ap E 0),(2,ap C 0),(0,ap g 0)])
   (λ k=>[blk E 235 [.int .u8 kd,ax g4 0 W.length c4,af (m)],.own (ax g4 0 W.length c4) 3 1 W.length (cJ W),blk g 256 (pH N A c (aL bl 0) w.left.length cl w.val (aL go 0) (n+1) (n+1) (b5 w.left:Nat)),.own (ax go 0 (n+1) (n+1)) 23 1 (n+1) a,blk C 235 [.int .u8 0,.slice none 0 0,af 0],.seg b o (arcs N.arcs),.own (ax bl 0 w.left.length cl) 2 1 w.left.length (aj (jC (-m) (W.take k) w.left))]++rows.map (bd 3)) (λ k=>k<=W.length) (λ k=>W.length-k) 0 a7 ay.refl (Nl _) ?_
  clear d
  intro k d;refine od ?_;refine ao ?_;refine am (ak rfl (λ hlt=>ag ?_) (λ hf=>aO ?_))
  ·have hlt:k<W.length:=by omega
   obtain⟨e,he⟩:∃ e,W[k]?=some e:=⟨_,be hlt⟩;have Q:=Nb he;have hel:=p e Q;have D:W.take (k+1)=W.take k++[e]:=by rw[Nu,he];rfl
   have h0:e∉W.take k:=by
    intro hc;have h1:=s;rw[<- Oa (k+1) W,D] at h1;exact (Nz.1 (Nz.1 h1).1).2.2 e hc e ai rfl
   have R:(jC (-m) (W.take k) w.left).getD e 0=w.left.getD e 0:=by rw[sA ((List.take_sublist k W).nodup s) (λ i hi=>p i (Oi hi)),if_neg h0]
   have k2:=kY (-m) (W.take k) w.left;have hxe:(jC (-m) (W.take k) w.left)[e]?=some (w.left.getD e 0):=by rw[<- R,Nf,be aa];rfl
   have S:jC (-m) (W.take (k+1)) w.left=(jC (-m) (W.take k) w.left).set e (w.left.getD e 0-m):=by rw[D,wB,R];rfl
   have hN:=O e;have hg:=I e Q;refine am (aq ?_);refine F0 ?_;refine KY ?_;refine bh (v:=af m) rfl (ad 0 rfl) ?_;refine a9 ?_;refine dK 70 (v':=af (w.left.getD e 0-m)) rfl (Na (Value.int .i64) (cp aa))<|bh rfl (bn rfl hel) ?_;refine cM<|aW 6 rfl rfl rfl rfl (fh rfl aa) [] rfl<|dv ?_;exact⟨k+1,⟨Na (λ z=>some (af z)) (cp aa),rfl,rfl,rfl,rfl,rfl,an⟩,by rw[S];exact ay.refl,aa,aa⟩
  obtain rfl:k=W.length:=aa;rw[NH];have hd:=I y (by rw[B];simp);have hs:=O y;obtain⟨nv,hnv⟩:∃ x,x=if kd=112 then w.val-m else if kd=98 then w.val+m else w.val:=⟨_,rfl⟩
  rw[<- hnv]
  refine iv (σ:=Unit) (λ _=>[(3,ap E 0),(2,ap C 0),(0,ap g 0)])
   (λ _=>[blk E 235 [.int .u8 kd,ax g4 0 W.length c4,af (m)],.own (ax g4 0 W.length c4) 3 1 W.length (cJ W),blk g 256 (pH N A c (aL bl 0) w.left.length cl (nv) (aL go 0) (n+1) (n+1) (b5 w.left:Nat)),.own (ax go 0 (n+1) (n+1)) 23 1 (n+1) a,blk C 235 [.int .u8 0,.slice none 0 0,af 0],.seg b o (arcs N.arcs),.own (ax bl 0 w.left.length cl) 2 1 w.left.length (aj (jC (-m) W w.left))]++rows.map (bd 3)) ?_ ?_
  ·refine aI ?_;refine bj (v:=.int .u8 kd) 0 ?_;refine iZ ?_;refine ao ?_;refine ak rfl (λ d=>?_) (λ d=>?_)
   ·have d:kd=112:=d;rw[if_pos d] at hnv;refine Kx ?_;refine dK 83 (v':=af (w.val-m)) rfl (Na (Value.int .i64) (cp aa))<|cM<|dE 2 ?_;exact ah<|⟨(),a7,ay.refl⟩
   ·have d:¬ kd=112:=d;rw[if_neg d] at hnv;refine ao ?_;refine ak rfl (λ f=>?_) (λ f=>ag ?_)
    ·have f:kd=98:=f;rw[if_pos f] at hnv;refine Kx ?_;refine dK 94 (v':=af (w.val+m)) rfl (Na (Value.int .i64) (cp aa))<|cM<|dE 2 ?_;exact ah<|⟨(),a7,ay.refl⟩
    ·have f:¬ kd=98:=f;rw[if_neg f] at hnv;rw[hnv];exact⟨(),a7,ay.refl⟩
  rintro⟨⟩;refine od ?_;refine aI ?_;refine bj (v:=.agg #[.int .u8 kd,ax g4 0 W.length c4,af m]) 0 ?_;refine dE 4 ?_;refine ah<|od ?_;exact bS (ay.re [4,1,2,3,6] rfl ab)<|bN<|⟨[.agg #[.int .u8 kd,ax g4 0 W.length c4,af m]],_,_,⟨⟨C,0,_,_,rfl,rfl,rfl⟩,an⟩,PC,rV _ _,P,a,aL g4 0,c4,hy,hv,rfl,rfl⟩
theorem zQ.fall{N:aV}{left a:LI_}{n:Nat}{pos:LN_}(h:zQ N left n pos)(hm:∀ i,0<a.getD i 0->0<left.getD i 0):zQ N a n pos:=by
 refine⟨h.len,λ v q b=>⟨(h.used v q b).1,λ j e d he=>?_⟩⟩;have c:=(h.used v q b).2 j e d he;unfold i6 at c ⊢;have f:=PX c;exact OB λ hp=>f (hm e hp)
theorem zQ.start(N:aV)(left:LI_)(n:Nat):zQ N left n (List.replicate (n+1) 0):=by
 refine⟨ai,λ v q a=>?_⟩;rw[Nw] at a;split at a
 ·obtain rfl:=NK a;exact⟨Nl _,λ j e b=>absurd b aa⟩
 ·cases a
theorem D0{N:aV}(b:N.Right){w:Wk}(h:w.OK N)(hp:b5 w.left<w.left.length)(i:Nat):(0<(zX N w).left.getD i 0->0<w.left.getD i 0)/\(zX N w).left.length=w.left.length:=by
 obtain⟨_,_,c,hP,d⟩:=pY b h hp
 have a:(hO N w).2.1.Nodup/\∀ i∈(hO N w).2.1,i<w.left.length:=by
  have f:=h.flow.len
  rcases hP with ⟨_,_,h⟩|⟨_,_,h⟩|⟨_,v,h⟩<;>exact⟨h.nodup,λ i hi=>by obtain⟨r,g,_⟩:=h.room i hi;have:=(Ng.1 g).1;omega⟩
 have e:(zX N w).left=jC (-(hO N w).2.2) (hO N w).2.1 w.left:=rfl;refine⟨λ hi=>?_,by rw[e,kY]⟩;rw[e,sA a.1 a.2] at hi;split at hi<;>omega
theorem Be{l:LI_}{j:Nat}{x:Int}(a:j<b5 l)(b:l[j]?=some x):i6 x=false:=by
 have:=Py a;rw[(Ng.1 b).2] at this
 simpa using this
theorem E6{l m:LI_}(hlen:m.length=l.length)(hm:∀ i,0<m.getD i 0->0<l.getD i 0){k:Nat}(h:∀ j x,j<k->l[j]?=some x->i6 x=false):∀ j x,j<k->m[j]?=some x->i6 x=false:=by
 intro j x e b;have a:j<l.length:=by have:=(Ng.1 b).1;omega
 have c:=h j _ e (be a);unfold i6 at c ⊢;have f:=PX c;refine OB λ hp=>f ?_;have d:=hm j (by rw[Nf,b];exact hp);rw[Nf,be a] at d;exact d
def lD(N:aV)(w:Wk):List (Int×LN_×Int):=lj N w.size w
theorem yV{N:aV}(a:N.Right){w:Wk}(h:w.OK N)(hp:b5 w.left<w.left.length):lD N w=hO N w::lD N (zX N w):=by
 have b:=pY a h hp;have d:0<w.size:=aa;obtain⟨k,c⟩:∃ k,w.size=k+1:=⟨w.size-1,aa⟩;unfold lD;rw[c];rw[show lj N (k+1) w=if b5 w.left<w.left.length then hO N w::lj N k (zX N w) else [] from rfl,if_pos hp,uW a k (zX N w).size _ b.1 aa (Nr _)]
theorem yp{N:aV}{w:Wk}(hp:¬ b5 w.left<w.left.length):lD N w=[]:=by
 unfold lD
 cases w.size with
 |zero=>rfl
 |succ k=>exact if_neg hp
section
variable {X:Cx}
theorem ay.mid2{A A1 b R I:Heap}(ix a:LN_)(c:Proofs.YtmcnpaelaieniaaGreatDoor.cK A ix=some A1)(d:Proofs.YtmcnpaelaieniaaGreatDoor.cK A a=some b)(e:(ix++a).Nodup):ay X (A++(R++I)) ((A1++R)++(I++b)):=by
 have:=ay.mid (X:=X) (R:=R++I) ix a c d e
 simpa [NQ] using this
theorem ay.ret2{A B R I:Heap}:ay X ((A++R)++(I++B)) ((A++B)++(R++I)):=ay.perm (by
 rw[NQ,NQ,<- NQ R I B];exact Pf A OP)
theorem ay.give{A R I:Heap}{c:aY}:ay X (c::(A++(R++I))) (A++(R++(I++[c]))):=ay.perm (by
 have h:(A++(R++I))++[c]=A++(R++(I++[c])):=by simp[NQ]
 rw[<- h];exact (OP (l₁:=[c]) (l₂:=A++(R++I))))
end
open Go.Lib
theorem yy{u:Nat}(h:u<10):decDigits u=[UInt8.ofNat (48+u)]:=by rw[decDigits,dif_pos h]
theorem C3{u:Nat}(h:10<=u):decDigits u=decDigits (u/10)++[UInt8.ofNat (48+u%10)]:=by rw[decDigits,dif_neg aa]
theorem AS{P:Nat->Prop}(h1:∀ u,u<10->P u)(h2:∀ u,10<=u->P (u/10)->P u)(u:Nat):P u:=by
 induction u using Nat.strongRecOn with
 |_ u ih=>
  by_cases h:u<10
  ·exact h1 u h
  ·exact h2 u aa (ih _ aa)
theorem Gn(acc:Nat)(l m:LU_):jP acc (l++m)=jP (jP acc l) m:=by unfold jP;rw[O3]
theorem tn{k:Nat}(h:k<10):(UInt8.ofNat (48+k)).toNat=48+k:=by
 rw[UInt8.toNat_ofNat'];omega
theorem Hu(u:Nat):jP 0 (decDigits u)=u:=by
 induction u using AS with
 |h1 u h=>rw[yy h];show 0*10+((UInt8.ofNat (48+u)).toNat-48)=u;rw[tn h];omega
 |h2 u h ih=>rw[C3 h,Gn,ih];show u/10*10+((UInt8.ofNat (48+u%10)).toNat-48)=u;rw[tn aa];omega
theorem xM(u:Nat):(decDigits u).all sd=true:=by
 induction u using AS with
 |h1 u h=>rw[yy h];simp only[Pi,List.all_nil,Bool.and_true];unfold sd;rw[tn h];simp;omega
 |h2 u h ih=>rw[C3 h,List.all_append,ih];simp only[Pi,List.all_nil,Bool.and_true,Bool.true_and];unfold sd;rw[tn aa];simp;omega
theorem x3(u:Nat):decDigits u≠[]:=by
 by_cases h:u<10
 ·rw[yy h];simp
 ·rw[C3 aa];simp
theorem x8(u:Nat):∀ k,u<10^k->1<=k->(decDigits u).length<=k:=by
 induction u using AS with
 |h1 u h=>intro k _ hk;rw[yy h];simpa using hk
 |h2 u h ih=>
  intro k hk h1
  match k,h1 with
  |1,_=>omega
  |k+2,_=>
   rw[C3 h,Nj];have:=ih (k+1) (by rw[Nat.pow_succ] at hk;omega) aa;simp;omega
theorem FQ(n:Int)(h:-9223372036854775808<=n/\n<=9223372036854775807):1<=(itoa n).length/\(itoa n).length<=20:=by
 unfold itoa;by_cases hn:n<0
 ·rw[if_pos hn];have:=x8 n.natAbs 19 aa aa;simp;omega
 ·rw[if_neg hn];have:=x8 n.toNat 19 aa aa;have:=NM.2 (x3 n.toNat);omega
theorem tQ(n:Int)(h:-9223372036854775808<=n/\n<=9223372036854775807):dA (itoa n)=(n,0):=by
 unfold itoa;by_cases hn:n<0
 ·rw[if_pos hn];unfold dA;simp only[PV,↓reduceIte,List.drop_succ_cons,List.drop_zero];rw[if_neg (by rw[xM];simp[x3]),Hu,if_pos aa];simp;omega
 ·rw[if_neg hn]
  have h45:¬ (decDigits n.toNat).head?=some 45:=by
   intro e;have h1:=xM n.toNat
   cases hd:decDigits n.toNat with
   |nil=>exact x3 _ hd
   |cons b r=>
    rw[hd] at e h1;simp only[PV,Nc] at e;subst e;rw[Pi,N6] at h1;exact absurd h1.1 ab
  unfold dA;simp only;rw[if_neg h45,if_neg h45,if_neg (by rw[xM];simp[x3]),Hu,if_pos aa];simp;omega
theorem kS(c:UInt8):∀ (l cur:LU_),(cL c cur l).length=l.count c+1
 |[],cur=>rfl
 |b::l,cur=>by
  unfold cL;by_cases h:b=c
  ·rw[if_pos h,Nh,kS c l [],h,List.count_cons_self]
  ·rw[if_neg h,kS c l _,List.count_cons_of_ne (λ e=>h e)]
theorem kf(c:UInt8):∀ (l cur:LU_),((cL c cur l).map (·++[c])).flatten=cur++l++[c]
 |[],cur=>by simp[cL]
 |b::l,cur=>by
  unfold cL;by_cases h:b=c
  ·rw[if_pos h,Nv,OA,kf c l [],h];simp
  ·rw[if_neg h,kf c l _];simp
theorem lg(c:UInt8):∀ (l cur r:LU_),cL c cur (l++c::r)=cL c cur l++cL c [] r
 |[],cur,r=>by simp[cL]
 |b::l,cur,r=>by
  rw[Od];have e1:cL c cur (b::(l++c::r))=if b=c then cur::cL c [] (l++c::r) else cL c (cur++[b]) (l++c::r):=rfl
  have e2:cL c cur (b::l)=if b=c then cur::cL c [] l else cL c (cur++[b]) l:=rfl
  rw[e1,e2];by_cases h:b=c
  ·rw[if_pos h,if_pos h,lg c l [] r];rfl
  ·rw[if_neg h,if_neg h,lg c l _ r]
theorem Ef(c:UInt8)(m:LU_):trimSuffix (m++[c]) [c]=m:=by
 unfold trimSuffix hasSuffix;have:([c]:LU_).isSuffixOf (m++[c])=true:=List.isSuffixOf_iff_suffix.2 ⟨m,rfl⟩;rw[if_pos this];simp
theorem Dg{c:UInt8}{l:LU_}(h:l.getLast?≠some c):trimSuffix l [c]=l:=by
 unfold trimSuffix hasSuffix;rw[if_neg];intro e;obtain⟨m,rfl⟩:=List.isSuffixOf_iff_suffix.1 e;exact h ai
theorem jf(m:LU_):aB (m++[10])=cL 10 [] m:=by
 unfold aB;rw[if_neg ai,Ef]
theorem o3{l:LU_}(hne:l≠[])(h:l.getLast?≠some 10):aB l=cL 10 [] l:=by
 unfold aB;rw[if_neg hne,Dg h]
theorem qy(l:LU_)(c:UInt8):l=[]\/(∃ m,l=m++[c])\/(l≠[]/\l.getLast?≠some c):=by
 by_cases h:l=[]
 ·exact .inl h
 ·by_cases h2:l.getLast?=some c
  ·exact .inr (.inl ⟨_,(List.getLast?_eq_some_iff.1 h2).choose_spec⟩)
  ·exact .inr (.inr ⟨h,h2⟩)
theorem DX(s t:LU_):aB (s++10::t)=aB (s++[10])++aB t:=by
 rw[jf]
 rcases qy t 10 with rfl|⟨m,rfl⟩|⟨h1,h2⟩
 ·rw[jf];simp[aB]
 ·rw[jf,show s++10::(m++[10])=(s++10::m)++[10] by simp,jf,lg]
 ·have hl:(s++10::t).getLast?=t.getLast?:=by
   rw[show s++10::t=(s++[10])++t by simp,N1]
   cases ht:t.getLast? with
   |none=>exact absurd (List.getLast?_eq_none_iff.1 ht) h1
   |some x=>rfl
  rw[o3 h1 h2,o3 ai (by rw[hl];exact h2),lg]
theorem Er(l:LU_):(aB l).length=l.count 10+(if l≠[]/\l.getLast?≠some 10 then 1 else 0):=by
 rcases qy l 10 with rfl|⟨m,rfl⟩|⟨h1,h2⟩
 ·rfl
 ·rw[jf,kS,if_neg ai,List.count_append];simp
 ·rw[o3 h1 h2,kS,if_pos ⟨h1,h2⟩]
theorem AB(l:LU_):((aB l).map (·++[10])).flatten=l\/((aB l).map (·++[10])).flatten=l++[10]:=by
 rcases qy l 10 with rfl|⟨m,rfl⟩|⟨h1,h2⟩
 ·exact .inl rfl
 ·rw[jf,kf];exact .inl rfl
 ·rw[o3 h1 h2,kf];exact .inr rfl
theorem nB{b:UInt8}(hb:tj b=true):∀ (s cur t:LU_),da cur (s++b::t)=da cur s++da [] t
 |[],cur,t=>by
  rw[Oq,da,da,if_pos hb];by_cases h:cur=[]
  ·rw[if_pos h,if_pos h];rfl
  ·rw[if_neg h,if_neg h];rfl
 |x::s,cur,t=>by
  rw[Od,da,da];by_cases hx:tj x=true
  ·rw[if_pos hx,if_pos hx,nB hb s [] t];by_cases h:cur=[]
   ·rw[if_pos h,if_pos h]
   ·rw[if_neg h,if_neg h];rfl
  ·rw[if_neg hx,if_neg hx,nB hb s _ t]
theorem l9{b:UInt8}(hb:tj b=true)(s t:LU_):bB (s++b::t)=bB s++bB t:=nB hb s [] t
structure LibV where
 oM:Obj
 oP:Obj
 oE:Obj
 m:Int
 tp:Nat
 pe:Value
 hM:∃ cs t k,oM=.cells cs t k/\cs[0]?=some (.int .i64 m)
 hP:∃ t k,oP=.cells (Lib.pow10Tab.map λ z=>Value.int .u64 z).toArray t k
 hE:∃ t k,oE=.cells #[.iface tp pe] t k
def LibV.heap(V:LibV):Heap:=[.tab 0 V.oM,.tab 3 V.oP,.tab 5 V.oE]
theorem IK{w:World}{b i:Nat}{cs:Array Value}{t:Nat}{k:Nat×Nat}{v:Value}(h:w.heap[b]?=some (.cells cs t k))(a:cs[i]?=some v):w.cell? ⟨b,i,none⟩=some v:=by
 simp[World.cell?,h,a]
theorem LibV.cellM(V:LibV){w:World}(h:w.heap[0]?=some V.oM):w.cell? ⟨0,0,none⟩=some (.int .i64 V.m):=by
 obtain⟨cs,t,k,e,a⟩:=V.hM;rw[e] at h;exact IK h a
theorem LibV.tabP(V:LibV){w:World}(h:w.heap[3]?=some V.oP):Lib.TabIs Tryz.prog w "internal/strconv.uint64pow10" .u64 Lib.pow10Tab:=by
 obtain⟨t,k,e⟩:=V.hP;rw[e] at h;have a:Tryz.prog.globalNamed "internal/strconv.uint64pow10" =some 3:=by kernel_rfl
 unfold Lib.TabIs World.var?;rw[a];simp only[Option.bind_some,h]
theorem LibV.varE(V:LibV){w:World}(h:w.heap[5]?=some V.oE):w.var? Tryz.prog "strconv.ErrRange" =some #[.iface V.tp V.pe]:=by
 obtain⟨t,k,e⟩:=V.hE;rw[e] at h;have a:Tryz.prog.globalNamed "strconv.ErrRange" =some 5:=by kernel_rfl
 unfold World.var?;rw[a];simp only[Option.bind_some,h]
def cv(l:List (LU_)):LV_:=l.map dk
theorem yN(l:List (LU_)):(cv l).length=l.length:=by simp[cv]
theorem x4{l:List (LU_)}{i:Nat}{x:LU_}(h:l[i]?=some x):(cv l)[i]?=some (dk x):=by simp[cv,h]
theorem uD(s:ByteArray):dk s.data.toList=.string s:=by unfold dk;rw[Lib.mk_data]
theorem Bw(l p:LU_):Fn 121 [dk l,dk p] [] [] λ v H'=>v=dk (Lib.trimPrefix l p)/\H'=[]:=
 Fn.of_same (λ w=>Any.strings_TrimPrefix Tryz.lays101 ⟨l.toArray⟩ ⟨p.toArray⟩ w) ⟨rfl,rfl⟩
theorem Ad(l p:LU_)(hl:l.length<=9223372036854775807):Fn 52 [dk l,dk p] [] [] λ v H'=>v=dk (Lib.trimSuffix l p)/\H'=[]:=
 Fn.of_same (λ w=>Any.strings_TrimSuffix Tryz.lays102 ⟨l.toArray⟩ ⟨p.toArray⟩ w (by rw[cS];exact hl)) ⟨rfl,rfl⟩
theorem J5(l p:LU_)(hl:l.length<=9223372036854775807)(hp:p.length<4294967281)(a:p.all (λ b=>decide (b.toNat<128))=true):Fn 122 [dk l,dk p] [] [] λ v H'=>v=dk (Lib.trimS l p)/\H'=[]:=
 Fn.of_below λ w _=>(Any.strings_Trim_laid Tryz.lays160 aX ⟨l.toArray⟩ ⟨p.toArray⟩ w (by rw[cS];exact hl) (by rw[cS];exact hp) (ascii_of_all a)).mono λ e w' ⟨he,c⟩=>⟨_,he,c,rfl,rfl⟩
theorem Io(V:LibV)(l:LU_)(c:UInt8)(hl:l.length<4294967281):Fn 51 [dk l,dk [c]] [] V.heap λ v H'=>∃ (A:OA_) (n:Nat),n=(cL c [] l).length/\v=.slice A n n/\H'=[.own (.slice A n n) 9 1 n (cv (cL c [] l))]:=by
 intro w hw;have hm:=V.cellM (hw.holds (.tab _ V.oM) IS);refine (Any.strings_Split { Tryz.laysM146 with } Tryz.laysM146.i9 ⟨l.toArray⟩ ⟨#[c]⟩ V.m w (by rw[cS];exact hl) hm (Nr 1)).mono ?_;rintro e w' ⟨he,b⟩;have a:=wC c _ ⟨l.toArray⟩ rfl;have hle:=Lib.countB_le ⟨#[c]⟩ (Nr 1) l.length ⟨l.toArray⟩ (by rw[cS];exact Nr _);rw[cS] at hle
 have hlen:(cL c [] l).length=Lib.countB ⟨l.toArray⟩ ⟨#[c]⟩+1:=by
  rw[<- a,Nm];exact Lib.splitB_all ⟨#[c]⟩ (Nr 1) 0 _ ⟨l.toArray⟩ rfl
 have d:(Lib.splitB ⟨#[c]⟩ 0 (Lib.countB ⟨l.toArray⟩ ⟨#[c]⟩) ⟨l.toArray⟩).map Value.string=cv (cL c [] l):=by
  rw[<- a];simp[cv,uD]
 have f:dN w [] w' [blk w.heap.size 9 (cv (cL c [] l))]:=by
  rw[b,d];exact (hw.mono (K:=[]) (λ c g=>absurd g Nt) List.Pairwise.nil).alloc _
 refine⟨_,_,he,f.blkOwn (sz:=1) (n:=(cL c [] l).length) (by rw[yN];simp) (by rw[hlen];unfold maxLen;omega),aL w.heap.size 0,_,hlen.symm,rfl,by rw[hlen]⟩
theorem kJ(V:LibV)(l:LU_)(hl:l.length<4294967281):Fn 28 [dk l] [] V.heap λ v H'=>∃ (A:OA_) (n:Nat),n=(aB l).length/\v=.slice A n n/\H'=[.own (.slice A n n) 9 1 n (cv (aB l))]:=by
 refine aT Tryz.func28 λ w0=>?_;refine ao ?_;refine gN ?_;refine aF (tq (m:=[]) rfl rfl rfl) ?_;refine aN ?_;refine ak rfl (λ a=>?_) (λ a=>ag ?_)
 ·refine ao ?_;refine bX 9 1<|aM [0] ⟨_,rfl,none,0,?_,rfl,?_⟩
  ·rw[a];rfl
  ·rw[a];rfl
 have he:aB l=cL 10 [] (Lib.trimSuffix l [10]):=by unfold aB;rw[if_neg a]
 have hle:(Lib.trimSuffix l [10]).length<=l.length:=by
  unfold Lib.trimSuffix;split
  ·rw[NE];omega
  ·exact Nr _
 refine gN ?_;refine cj (Ad l [10] aa) rfl an ?_;refine eW (Io V (Lib.trimSuffix l [10]) 10 aa) rfl ⟨⟨0,ai,rfl⟩,⟨1,ai,rfl⟩,⟨2,ai,rfl⟩,an⟩ ?_;rintro v H' ⟨A,n,b,rfl,rfl⟩;refine aN ?_;refine aM [0] ⟨_,rfl,A,n,by rw[he];exact b,rfl,by rw[he]⟩
theorem Ik(V:LibV)(n:Int)(a:b7 n):Fn 94 [.int .i64 n] [] V.heap λ v H'=>v=dk (Lib.itoa n)/\H'=[]:=by
 have T:Fn 119 [af n,af 10] [] V.heap λ v H'=>v=dk (Lib.itoa n)/\H'=[]:=by
  intro w hw;have b:=V.tabP (hw.holds (.tab _ V.oP) IS);refine (Any.strconv_FormatInt_10 Tryz.laysM173 n (by unfold b7 at a;omega) (by unfold b7 at a;omega) w b).mono ?_;rintro e w' ⟨he,k,os,rfl⟩;refine⟨_,[],he,?_,rfl,rfl⟩;exact oU hw (Lib.below_grow _ w (Nr _) k os)
 refine aT Tryz.func94 λ w0=>?_;refine ao ?_;refine gN ?_;refine cj T rfl ⟨⟨0,ai,rfl⟩,⟨1,ai,rfl⟩,⟨2,ai,rfl⟩,an⟩ ?_;exact lG
theorem EA(x:Int)(c:0<=x/\x<=1114111):Fn 62 [.int .i32 x] [] [] λ v H'=>v=.bool (jW x.toNat)/\H'=[]:=by
 have key:jW x.toNat=dR (x=32\/x=9\/x=13):=by
  by_cases h:x=32\/x=9\/x=13
  ·rw[aQ h];rcases h with rfl|rfl|rfl<;>rfl
  ·rw[aU h];simp[jW];omega
 rw[key];refine aT Tryz.func62 λ w0=>?_;refine mM ?_;refine nG ?_;by_cases a:x=32
 ·refine dt 5 rfl a<|eq ?_;refine cW [2,6] ?_;exact bN ⟨_,rfl,Na Value.bool (aQ (.inl a)).symm,rfl⟩
 refine dc 5 rfl a<|eq ?_;by_cases b:x=9
 ·refine dt 9 rfl b<|cW [2,6] ?_;exact bN ⟨_,rfl,Na Value.bool (aQ (.inr (.inl b))).symm,rfl⟩
 refine dc 9 rfl b<|cW [2,6] ?_;exact bN ⟨_,rfl,Na Value.bool (ey ⟨λ h=>.inr (.inr h),λ h=>by omega⟩),rfl⟩
theorem uU(l:LU_)(hl:l.length<=4294967296):Fn 35 [dk l] [] [] λ v H'=>∃ (A:OA_) (n:Nat),n=(bB l).length/\v=.slice A n n/\H'=[.own (.slice A n n) 9 1 n (cv (bB l))]:=by
 have T:Fn 61 [dk l,.func (.func 62) #[] #[]] [] [] λ v H'=>∃ (A:OA_) (n:Nat),n=(bB l).length/\v=.slice A n n/\H'=[.own (.slice A n n) 9 1 n (cv (bB l))]:=by
  intro w hw
  have hp:PredGrows Tryz.prog 62 #[] jW w:=by
   intro W x u _;refine (EA (x:Int) ⟨aa,aa⟩ W ⟨rfl,rfl,rfl,Nr _,λ _ _ _=>rfl,λ c a=>absurd a Nt,λ c a=>absurd a Nt,List.Pairwise.nil⟩).mono ?_;rintro e w' ⟨v,H',he,d,rfl,rfl⟩;rw[NA] at he;exact⟨he,⟨d.os,d.tape,d.output,d.size,λ k j=>d.keep k j ai⟩⟩
  have heq:=vD ⟨l.toArray⟩;refine (Any.strings_FieldsFunc_grows Tryz.lays229 62 #[] (iI aX) jW ⟨l.toArray⟩ w (by rw[cS];exact hl) hp aX aX).mono ?_;rintro e w' ⟨g,he,y,f,i⟩
  have hlen:(Lib.goFieldsP jW ⟨l.toArray⟩).length=(bB l).length:=by
   have:=Na List.length heq
   simpa using this
  have m:(Lib.goFieldsP jW ⟨l.toArray⟩).map Value.string=cv (bB l):=by
   have o:bB l=(Lib.goFieldsP jW ⟨l.toArray⟩).map (·.data.toList):=heq.symm;rw[o];simp[cv,uD]
  refine⟨_,_,he,⟨i.os,i.tape,i.output,i.size,λ k j _=>i.block k j,λ c a=>?_,λ c a b p=>?_,OT _ _⟩,aL g 0,_,hlen,rfl,by rw[<- m]⟩
  ·obtain rfl:=Ni.1 a;obtain⟨q,o⟩:=f;refine⟨q,o.imp id ?_⟩;rintro⟨r,cap,cur,k1,z,s⟩;exact⟨r,cap,cur,k1,Nl _,s⟩
  ·obtain rfl:=Ni.1 a;simp only[aY.mine,Value.ownBlock,Nc] at p;exact .inl aa
 refine aT Tryz.func35 λ w0=>?_;refine ao ?_;refine gN ?_;refine eW T rfl an ?_;rintro v H' ⟨A,n,t,rfl,rfl⟩;refine aN ?_;exact aM [0] ⟨_,rfl,A,n,t,rfl,rfl⟩
theorem EY(V:LibV)(l:LU_)(hl:l.length<=281474976710656):Fn 96 [dk l] [] V.heap λ v H'=>v=tg (dA l)/\H'=[]:=by
 obtain⟨d,f⟩:∃ d,d=Lib.trimPrefix l [45]:=⟨_,rfl⟩;obtain⟨o,p⟩:=LJ l d f
 have q:d.length<=l.length:=by
  rw[f];unfold Lib.trimPrefix;split
  ·rw[Oe];omega
  ·exact Nr _
 have n:=Bw l [45];rw[<- f] at n;refine aT Tryz.func96 λ w0=>?_;refine ao ?_;refine gN ?_;refine cj (n) rfl an ?_;refine aN ?_;refine am<|fN [(15,.bool (dR (d=[]\/Lib.trimS d [48,49,50,51,52,53,54,55,56,57]≠[]))),(0,dk l)] V.heap ?_ ?_
 ·refine gN ?_;refine aF (tq (m:=[]) rfl rfl rfl) ?_;refine cE (gs:=[999]) rfl ?_;by_cases a:d=[]
  ·refine dt 11 rfl a<|cW [2] ?_;exact⟨[0,1,2],⟨Na some (Na Value.bool (aQ (.inl a)).symm),rfl,an⟩,ab,rfl⟩
  refine dc 11 rfl a<|eq ?_;refine bA [2] (J5 d [48,49,50,51,52,53,54,55,56,57] aa ab ab) rfl rfl rfl rfl aX an aK<|kD ?_;refine ae [2] (B5 (m:=[]) rfl rfl rfl) rfl<|cW [2] ?_;exact⟨[0,1,2],⟨Na some (Na Value.bool (ey ⟨λ h=>.inr h,λ h=>h.resolve_left a⟩)),rfl,an⟩,ab,rfl⟩
 refine ak rfl (λ c=>?_) (λ b=>ag ?_)
 ·refine ao ?_;refine aM [] ⟨_,rfl,?_,rfl⟩;rw[o c];rfl
 rcases p b with ⟨v,a,j⟩|⟨a,j⟩
 ·have T:Fn 123 [dk l,af 10,af 64] [] [] λ u H'=>u=.tuple #[af v,.nilIface]/\H'=[]:=by
   intro w hw;refine (Any.strconv_ParseInt_10_at64_ok Tryz.laysC174 ⟨l.toArray⟩ (by rw[cS];omega) v a w).mono ?_;rintro e w' ⟨he,k⟩;refine⟨_,[],he,oU hw ?_,rfl,rfl⟩
   rcases k with rfl|⟨t,rfl⟩
   ·exact Below.refl _ _
   ·exact Go.Joins.below_bytesWorld _ w _ _ (Nr _)
  refine gN ?_;refine cj (T) rfl an ?_;refine cR ?_;refine cq ?_;refine ao ?_;refine aM [] ⟨_,rfl,?_,rfl⟩;rw[j];rfl
 ·have T:Fn 123 [dk l,af 10,af 64] [] V.heap λ u H'=>∃ (i:Int) (g:Nat),u=.tuple #[af i,.iface 246 (ap g 0)]/\H'=[]:=by
   intro w hw;have r:=V.varE (hw.holds (.tab _ V.oE) IS);refine (Any.strconv_ParseInt_10_at64_range_var Tryz.laysC174 ⟨l.toArray⟩ (by rw[cS];exact hl) a V.tp V.pe w r).mono ?_;rintro e w' ⟨g,he,_,_,s⟩;exact⟨_,[],he,oU hw s,_,g,rfl,rfl⟩
  refine gN ?_;refine eW T rfl ⟨⟨0,ai,rfl⟩,⟨1,ai,rfl⟩,⟨2,ai,rfl⟩,an⟩ ?_;rintro u H' ⟨i,g,rfl,rfl⟩;refine cR ?_;refine cq ?_;refine ao ?_;refine aM [] ⟨_,rfl,?_,rfl⟩;rw[j];rfl
open Lib
theorem JM{w:World}{t u ty e:Nat}{i:TypeInfo}(l:Tryz.prog.underlying t=some (.slice e))(hu:Tryz.prog.underlying u=some .string)(hi:Tryz.prog.info? e=some i)(p:i.zero=some (.int .u8 0))(m:i.size=1)(q:i.bytes=1)
 (v:Value) (n:Nat) (xs:LV_) (a:w.ownsRow 0 e 1 v n xs) (s:ByteArray) (h:n+s.size<=140737488355328):
 ∃ v' w',(Builtin.append_ #[t,u] ty #[v,.string s]).run Tryz.prog w=.ok v' w'/\w'.ownsRow 0 e 1 v' (n+s.size) (xs++strCells s)/\w.grownBy w' v.ownBlock/\∀ b,v'.ownBlock=some b->v.ownBlock=some b\/w.heap.size<=b:=by
 obtain⟨v',w',o,x,y,_⟩:=run_append_own_string w 0 t u ty e i l hu hi p m q v n xs a s (by unfold maxLen;omega) h (Nl _);refine⟨v',w',o,x,y,?_⟩;have hlen:xs.length=n:=by simpa using a.1
 rcases a.2 with ⟨rfl,rfl⟩|⟨g,cap,cur,rfl,_,z,A,B,r,_⟩
 ·obtain rfl:xs=[]:=List.eq_nil_of_length_eq_zero hlen;obtain⟨v2,D,j,k1,_,_⟩:=run_append_own_string w w.heap.size t u ty e i l hu hi p m q (.slice none 0 0) 0 [] (World.ownsRow_nil w _ e 1) s (by unfold maxLen;omega) h (Nat.le_refl _);rw[o] at j
  injection j with k _
  subst k;intro b c
  rcases k1.2 with ⟨rfl,_⟩|⟨g,cap,cur,rfl,C,_⟩
  ·cases c
  ·simp only[Value.ownBlock,Nc] at c;exact .inr aa
 ·by_cases f:n+s.size<=cap
  ·have d:=run_append_room_string (P:=Tryz.prog) w t u ty e i l hu hi m g n cap cur z s f (by simp at r;omega);rw[o] at d
   injection d with k _
   subst k;exact λ b c=>.inl c
  ·have d:=run_append_grow_string (P:=Tryz.prog) w t u ty e i (.int .u8 0) l hu hi p ⟨g,0,none⟩ n cap xs (by rw[m];simpa using hlen) (a.cells (g:=g) rfl) s aa aa (by rw[q];exact growslice_fits aa aa);rw[o] at d
   injection d with k _
   subst k;intro b c;simp only[Value.ownBlock,Nc] at c;exact .inr aa
section
variable {X:Cx} {Q:fb} {E:Env} {H K:Heap}
theorem Ew(m:LU_):strCells ⟨m.toArray⟩=byteCells m:=rfl
theorem qP{F:OA_->Nat->Env}{ops l:List Oper}{o:Oper}{t u e n c0 s1 s2 v y:Nat}{s x:Operand}{r:OA_}{z S:Option Value}{uk:UK}{xs:LV_}{m:LU_}(k:Nat)
 (U:o.op=.call ⟨.builtin .append,#[s,x],#[t,u]⟩) (V:val E s=some (.slice r n c0)) (Y:val E x=some (dk m)) (Z:tab t=some ⟨.slice e,v,y,z⟩) (hu:tab u=some ⟨.string,s1,s2,S⟩) (he:tab e=some ⟨uk,1,1,some (.int .u8 0)⟩)
 (O:H[k]?=some (.own (.slice r n c0) e 1 n xs)) (b:n+m.length<=140737488355328) (hb:∀ A c,jD X.n ops [] E o (.slice A (n+m.length) c)=some (F A c))
 (h:∀ A c,JL X ops l Q (F A c) (H.set k (.own (.slice A (n+m.length) c) e 1 (n+m.length) (xs++byteCells m)))):JL X ops (o::l) Q E H:=by
 obtain⟨j,hi,B,C,D⟩:=ki he
 refine xx (α:=OA_×Nat) (f:=λ p=>.slice p.1 (n+m.length) p.2) (F:=λ p=>F p.1 p.2)
  (G:=λ p=>H.set k (.own (.slice p.1 (n+m.length) p.2) e 1 (n+m.length) (xs++byteCells m))) [] (λ p=>hb p.1 p.2) (λ a w P R=>?_) (λ p=>h p.1 p.2)
 have d:w.ownsRow 0 e 1 (.slice r n c0) n xs:=R.holds _ (Nb O);obtain⟨v',w',hr,I,i,h3⟩:=JM (w:=w) (ty:=o.type) (eZ Z) (ku hu) hi B C D _ n xs d ⟨m.toArray⟩ (by rw[cS];exact b);rw[cS,Ew] at I
 obtain⟨A,c,rfl⟩:∃ A c,v'=.slice A (n+m.length) c:=by
  rcases I.2 with ⟨rfl,e0⟩|⟨g,cap,cur,rfl,_⟩
  ·exact⟨none,0,by rw[e0]⟩
  ·exact⟨_,_,rfl⟩
 refine⟨(A,c),w',?_,?_⟩
 ·have L:(Builtin.append_ #[t,u] o.type #[.slice r n c0,dk m]).run Tryz.prog w=.ok (.slice A (n+m.length) c) w':=hr;simp[execOp,U,resolve,invoke,builtin,P.val V,P.val Y,L]
 ·exact R.step k O i.os i.tape i.output i.size (λ q hq M=>i.block q hq (λ x=>M x.symm)) I (λ b' N=>h3 b' N)
theorem Ch{p:Env}{ops l:List Oper}{o:Oper}{f:Operand}{args:Array Operand}{ts:Array TypeId}{g:FuncId}{fst cap vs b:LV_}{v:Value}(gs:LN_)(hM:X.M=[])
 (T:∀ w,dN X.w0 X.M w H->Calls Tryz.prog g b.toArray w λ e w'=>e=.returned v/\Below X.w0.heap.size w w') (r:o.op=.call ⟨.value f,args,ts⟩) (s:val E f=some (.func (.func g) fst.toArray cap.toArray))
 (t:vals E args.toList=some vs) (has:fst++vs++cap=b) (i:ee g=true) (u:jD X.n ops gs E o v=some p) (h:JL X ops l Q p []):JL X ops (o::l) Q E H:=by
 intro a w hA d;obtain⟨hg,hp⟩:=d7 u;refine na ?_
 left
 refine m7 ?_;rw[yq hA r s t i w,has];refine (T w d).mono ?_;rintro e w' ⟨rfl,j⟩;refine h _ _ (hA.putE hp) ⟨j.os.trans d.os,j.tape.trans d.tape,j.output.trans d.output,Ov d.size j.size,λ k q m=>?_,λ c i=>absurd i Nt,λ c i=>absurd i Nt,List.Pairwise.nil⟩;exact (j.block k q).trans (d.keep k q m)
end
def mi(b:Nat)(p:Value)(A:OA_)(c:Nat)(m:LU_):Heap:=[blk b 116 [p,.slice A m.length c],.own (.slice A m.length c) 5 1 m.length (byteCells m)]
def Kp(b:Nat)(p:Value):Prop:=p=.pointer none\/p=.pointer (some ⟨b,0,none⟩)
theorem EJ(b:Nat)(p v:Value)(hp:Kp b p):Fn 93 [.pointer (some ⟨b,0,none⟩)] (aC [blk b 116 [p,v]]) ([]++[blk b 116 [p,v]]) λ _ H'=>H'=[blk b 116 [.pointer (some ⟨b,0,none⟩),v]]:=by
 intro w hw;have hb:w.heap[b]?=some (.cells #[p,v] 116 (0,0)):=hw.holds _ (Pv ..);have hM:aC [blk b 116 [p,v]]=[b]:=rfl
 rcases hp with rfl|rfl
 ·refine (Any.Builder_copyCheck_fresh { Tryz.lays156 with } Tryz.Builder_Extra_156.toX72 b w (by simp[World.cell?,hb]) (by simp[World.shape?,hb];rfl) (by simp[World.frozen?,hb])).mono ?_;rintro e w' ⟨he,rfl⟩;refine⟨.tuple #[],_,he,?_,rfl⟩;refine hw.step 0 rfl rfl rfl rfl (by simp[World.setCell]) (λ k _ c=>Below.heap_setCell _ _ _ _ (λ e=>c (by rw[e];rfl))) ?_ (λ d a=>.inl a);show (w.setCell _ _).heap[b]?=_;simp[World.setCell,Array.getElem?_modify,hb]
 ·refine FA ?_;rintro e w' ⟨he,rfl⟩;exact⟨.tuple #[],_,he,hw,rfl⟩
theorem tI(b:Nat)(p:Value)(hp:Kp b p)(A:OA_)(c:Nat)(m s:LU_)(hl:m.length+s.length<=1000000000000):Fn 53 [.pointer (some ⟨b,0,none⟩),dk s] (aC (mi b p A c m)) ([]++mi b p A c m)
 λ _ H'=>∃ (a:OA_) (d:Nat),H'=mi b (.pointer (some ⟨b,0,none⟩)) a d (m++s):=by
 refine aT Tryz.func53 λ w0=>?_;refine c9 ?_;refine rW (fst:=[]) (cap:=[]) (EJ b p _ hp) rfl ay.refl an ?_;rintro v H' rfl;refine dQ ?_;refine aF (a8 (i:=1) (v:=.slice A m.length c) 0 rfl rfl rfl rfl) ?_;refine az ?_;refine qP (m:=s) 1 rfl rfl rfl rfl rfl rfl rfl aa (λ _ _=>rfl) λ a d=>az ?_;refine oa ?_;refine bN<|⟨_,rfl,a,d,?_⟩;unfold mi;rw[Nj,show byteCells (m++s)=byteCells m++byteCells s by simp[byteCells]];rfl
theorem Ho{X:Cx}(hM:X.M=[]){w:World}{H:Heap}(b:Nat)(p:Value)(hp:Kp b p)(A:OA_)(c:Nat)(m:LU_)(a:dN X.w0 X.M w (mi b p A c m++H)):
 Calls Tryz.prog 55 #[.pointer (some ⟨b,0,none⟩)] w λ e w'=>e=.returned (dk m)/\Below X.w0.heap.size w w':=by
 have t:w.heap[b]?=some (.cells #[p,.slice A m.length c] 116 (0,0)):=a.holds (blk b 116 [p,.slice A m.length c]) (by simp[mi]);have s:w.ownsRow 0 5 1 (.slice A m.length c) m.length (byteCells m):=a.holds (.own (.slice A m.length c) 5 1 m.length (byteCells m)) (by simp[mi]);have d:∀ i∈mi b p A c m,∀ k,i.mine=some k->X.w0.heap.size<=k:=λ i u k v=>(a.own i (List.mem_append_left _ u) k v).resolve_right (by rw[hM];exact Nt);have j:=d _ (Pv ..) b rfl;have l:=(Of.1 a.dis).1;have n:(Value.slice A m.length c).ownBlock≠some b:=(List.pairwise_cons.1 l).1 _ (Pv ..)|>.1 b rfl
 have o:w.ownsRow X.w0.heap.size 5 1 (.slice A m.length c) (byteCells m).length (byteCells m):=by
  rw[byteCells_length];refine⟨s.1,?_⟩
  rcases s.2 with h|⟨g,cap,cur,e,_,r⟩
  ·exact .inl h
  ·exact .inr ⟨g,cap,cur,e,d _ (Pm _ (Pv ..)) g (by rw[show (aY.own (.slice A m.length c) 5 1 m.length (byteCells m)).mine=(Value.slice A m.length c).ownBlock from rfl,e];rfl),r⟩
 have f:BuilderAt 116 5 X.w0.heap.size b p (byteCells m) w:=⟨j,_,t,o,n⟩
 have q:IsBuilder 116 5 X.w0.heap.size b (byteCells m) w:=by
  rcases hp with rfl|rfl
  ·exact .inl f
  ·exact .inr f
 exact Any.Builder_String_any Tryz.lays169 Tryz.Builder_Extra_169 X.w0.heap.size b m w q a.size
end Go.Proofs.YtmcnpaelaieniaaGreatDoor
