import Derived.Test.YtmcnpaelaieniaaGreatDoorQA
import Derived.Lib.SpaceUEq
import Derived.Lib.FieldsP
import Derived.Lib.SplitLaws
import Derived.Lib.ParseIntBCases
import Derived.Lib.SlTrimSet
import Derived.Laws.Concat
import Derived.Laws.Strings
import Derived.Laws.Strings2
import Derived.Laws.Slices
/- A part of the proof. -/
set_option linter.unusedVariables false
set_option linter.unusedSimpArgs false
namespace Go.Proofs.YtmcnpaelaieniaaGreatDoor
open Go.RowKit
variable {X:Cx} {Q:fb} {E E':Env} {H:Heap}
theorem eF{ops l:List Oper}{p:Prop}(c:∀ w,dN X.w0 X.M w H->p)(h:p->JL X ops l Q E H):JL X ops l Q E H:=λ a w d b=>h (c w b) a w d b
theorem aR{c:Code}{p:Prop}(d:∀ w,dN X.w0 X.M w H->p)(h:p->J X c Q E H):J X c Q E H:=λ a w e b=>h (d w b) a w e b
theorem aH(k:Nat){A:OA_}{n m c e sz:Nat}{xs:LV_}(d:H[k]?=some (.own (.slice A m c) e sz n xs)):∀ w,dN X.w0 X.M w H->n=m/\n<=c/\(0<n->∃ g,A=some ⟨g,0,none⟩)/\xs.length=n*sz:=by
 intro w f;have h:w.ownsRow 0 e sz (.slice A m c) n xs:=f.holds _ (Nb d);obtain⟨b,i|⟨g,cap,cur,a,_,_,j,_⟩⟩:=h
 ·obtain⟨a,rfl⟩:=i;simp only[Value.slice.injEq] at a;exact⟨a.2.1.symm,Nl _,λ h=>absurd h aa,b⟩
 ·simp only[Value.slice.injEq] at a;obtain⟨rfl,rfl,rfl⟩:=a;exact⟨rfl,j,λ _=>⟨g,rfl⟩,b⟩
theorem dz{c:aY}{b off:Nat}{xs:LV_}(h:c.shows b off xs)(k:Nat):c.shows b (off+k) (xs.drop k):=by
 intro w hw i v a;rw[Ol] at a;rw[N7];exact h w hw _ v a
theorem fE{c:aY}{b off:Nat}:c.shows b off []:=λ _ _ _ _ a=>by simp at a
theorem bC{g e sz n cap:Nat}{A:OA_}{xs:LV_}(a:xs≠[]->A=some ⟨g,0,none⟩):(aY.own (.slice A n cap) e sz n xs).shows g 0 xs:=by
 by_cases h:xs=[]
 ·subst h;exact fE
 ·rw[a h];exact ca
theorem bW{g e sz n cap:Nat}{A:OA_}{xs:LV_}(a:xs≠[]->A=some ⟨g,0,none⟩):xs=[]\/(aY.own (.slice A n cap) e sz n xs).at_=some g:=by
 by_cases h:xs=[]
 ·exact .inl h
 ·rw[a h];exact .inr rfl
theorem cC{b off:Nat}{vs:LV_}:vs=[]\/(aY.seg b off vs).at_=some b:=by
 by_cases h:vs=[]
 ·exact .inl h
 ·exact .inr (by simp only[aY.at_];rw[if_neg h])
theorem bg{A:OA_}{n sz:Nat}{xs:LV_}(h:0<n->∃ g,A=some ⟨g,0,none⟩)(hl:xs.length=n*sz):∃ g,xs≠[]->A=some ⟨g,0,none⟩:=by
 by_cases a:0<n
 ·obtain⟨g,b⟩:=h a;exact⟨g,λ _=>b⟩
 ·refine⟨0,λ c=>absurd (Ny.1 ?_) c⟩;rw[hl,show n=0 by omega,Nat.zero_mul]
theorem Ag{w:World}{b e sz n:Nat}{cs:LV_}(h:(blk b e cs).holds w)(hl:cs.length=n*sz)(a:n<=maxLen):(aY.own (.slice (some ⟨b,0,none⟩) n n) e sz n cs).holds w:=by
 refine⟨hl,.inr ⟨b,n,cs.toArray,rfl,Nl _,h,Nr _,a,by simp[hl],?_⟩⟩;simp only[<- hl];exact NH
theorem dN.blkOwn{w0 w:World}{M:LN_}{b e sz n:Nat}{cs:LV_}(a:dN w0 M w (blk b e cs::H))(hl:cs.length=n*sz)(h:n<=maxLen):dN w0 M w (.own (.slice (some ⟨b,0,none⟩) n n) e sz n cs::H):=by
 refine⟨a.os,a.tape,a.output,a.size,a.keep,λ c d=>?_,λ c d g f=>?_,?_⟩
 ·rcases Nn.1 d with rfl|d
  ·exact Ag (a.holds _ ai) hl h
  ·exact a.holds c (by simp[d])
 ·rcases Nn.1 d with rfl|d
  ·exact a.own (blk b e cs) ai g f
  ·exact a.own c (by simp[d]) g f
 ·obtain⟨i,j⟩:=List.pairwise_cons.1 a.dis;exact List.pairwise_cons.2 ⟨λ c d=>i c d,j⟩
theorem lx{ops l:List Oper}{b e:Nat}{cs:LV_}(sz n:Nat)(hl:cs.length=n*sz)(c:n<=maxLen)(h:JL X ops l Q E (.own (.slice (some ⟨b,0,none⟩) n n) e sz n cs::H)):JL X ops l Q E (blk b e cs::H):=
 λ a w d f=>h a w d (f.blkOwn hl c)
theorem zC{t ty e sz a n c cx:Nat}{A Ax:OA_}{z:Option Value}{b:TI}(w:World)(d:tab t=some ⟨.slice e,sz,a,z⟩)(he:tab e=some b)(f:n<=c):
 (Builtin.append_ #[t,t] ty #[.slice A n c,.slice Ax 0 cx]).run Tryz.prog w=.ok (.slice A n c) w:=by
 have g:=eZ d
 cases A<;>cases Ax<;>simp[Builtin.append_,run_underlying g,dW he,Builtin.lenOf,Builtin.firstCells,loadCells,loadCellsFrom,storeCells,f]
theorem bx{F:OA_->Nat->Env}{ops l:List Oper}{o:Oper}{t e sz j y B n m c0 cx b off:Nat}{s x:Operand}{uk:UK}{N:Value}{f Ax:OA_}{z:Option Value}{xs news:LV_}{c2:aY}(k O:Nat)
 (P:o.op=.call ⟨.builtin .append,#[s,x],#[t,t]⟩) (R:val E s=some (.slice f n c0)) (C:val E x=some (.slice Ax m cx)) (S:tab t=some ⟨.slice e,y,B,z⟩)
 (he:tab e=some ⟨uk,sz,j,some N⟩) (D:N.cells.size=sz) (p:0<sz) (q:H[k]?=some (.own (.slice f n c0) e sz n xs)) (G:H[O]?=some c2) (I:c2.shows b off news) (K:news≠[]->Ax=some ⟨b,off,none⟩)
 (hl:news.length=m*sz) (Y:one news=true)
 (r:(n+m)*j<=140737488355328) (d:n+m<=2147483648) (U:∀ A c,jD X.n ops [] E o (.slice A (n+m) c)=some (F A c))
 (h:∀ A c,JL X ops l Q (F A c) (H.set k (.own (.slice A (n+m) c) e sz (n+m) (xs++news)))):JL X ops (o::l) Q E H:=by
 rcases Pa m with L|hm
 ·subst L;have u:news=[]:=List.length_eq_zero_iff.1 (by simpa using hl);subst u;refine eF (aH k q) fun ⟨_,hle,_,_⟩=>ae [] (v:=.slice f (n+0) c0) (fun a w V hH=>?_) (U f c0) ?_
  ·simp[execOp,P,resolve,invoke,builtin,V.val R,V.val C,zC w S he hle]
  ·have:=h f c0;rw[NN] at this
   have Z:H.set k (.own (.slice f (n+0) c0) e sz (n+0) xs)=H:=by
    refine Pl λ i=>?_;rw[List.getElem?_set];split
    ·rename_i hi;subst hi;split
     ·exact q.symm
     ·rename_i h2;rw[N4 aa] at q;cases q
    ·rfl
   rw[Z] at this;exact this
 ·have M:news≠[]:=by
   intro L;rw[L,NC] at hl;have:=Nat.mul_pos hm p;omega
  rw[K M] at C;exact Dd k O P R C S he D p q G I hl Y hm r d (λ g c=>U _ c) (λ g c=>h _ c)
def fA(A:OA_)(c l sz:Nat):OA_:=if c=l then A else A.map (·.add (l*sz))
theorem eS{A:OA_}{c l sz n b o:Nat}(a:l<n->A=some ⟨b,o,none⟩)(d:n<=c)(hl:l<n):fA A c l sz=some ⟨b,o+l*sz,none⟩:=by
 unfold fA;rw[if_neg aa,a hl];simp[Addr.add_at]
theorem EI{A:OA_}{c sz:Nat}:fA A c 0 sz=A:=by
 unfold fA;split
 ·rfl
 ·cases A<;>simp[Addr.add]
theorem uq{t e sz a:Nat}{z:Option Value}(b:tab t=some ⟨.slice e,sz,a,z⟩):Tryz.prog.underlying t=some (.slice (Tryz.prog.elem t)):=by
 have h:=eZ b;rw[h];simp[Program.elem,h]
theorem rO{t e sz a:Nat}{z:Option Value}(b:tab t=some ⟨.slice e,sz,a,z⟩):Tryz.prog.elem t=e:=by
 have h:=eZ b;simp[Program.elem,h]
theorem f5{o:Oper}{t e n c i b d:Nat}{x g:Operand}{A:OA_}{z:Option Value}{h:TI}{k:IntKind}(q:o.op=.slice t x (some g) none none)(r:val E x=some (.slice A n c))(f:val E g=some (.int k (i:Int)))
 (j:tab t=some ⟨.slice e,b,d,z⟩) (he:tab e=some h) (hi:i<=n):i8 X o E H (.slice (fA A c i h.size) (n-i) (c-i)):=by
 intro a w l s;have m:=uq j;have p:=run_slice_l (P:=Tryz.prog) (w:=w) t A n c m k (i:Int) aa aa;rw[rO j] at p;simp[execOp,q,l.val r,l.val f,run_sliceAt_slice w t _ _ _ _ m,p,dW he,sliced,fA]
theorem jG{o:Oper}{t e n c i b d:Nat}{x hi:Operand}{A:OA_}{z:Option Value}{h:TI}{k:IntKind}(q:o.op=.slice t x none (some hi) none)(r:val E x=some (.slice A n c))(f:val E hi=some (.int k (i:Int)))
 (j:tab t=some ⟨.slice e,b,d,z⟩) (he:tab e=some h) (s:i<=c):i8 X o E H (.slice A i c):=by
 intro a w l u;have m:=uq j;have p:=run_slice_h (P:=Tryz.prog) (w:=w) t A n c m k (i:Int) aa aa;rw[rO j] at p;have g:=EI (A:=A) (c:=c) (sz:=h.size);unfold fA at g;simp only[Nat.zero_mul] at g;simp[execOp,q,l.val r,l.val f,run_sliceAt_slice w t _ _ _ _ m,p,dW he,sliced,g]
section
variable {P:Program} {ops:Array Oper} {md:Region.Mode} {S:World->Prop} {F:Exit->Act->World->Prop}
def YS(P:Program)(ops:Array Oper)(S:World->Prop)(o:Oper)(v:Value)(a:Act):Prop:=
 (Region.wanted o (yielded ops a.tmps)=true/\∀ w,S w->(execOp a.eval o).run P w=.ok (.value v) w)\/(Region.wanted o (yielded ops a.tmps)=false/\v=undef)
theorem YS.of_same{o:Oper}{v:Value}{a b:Act}(c:YS P ops S o v a)(he:execOp b.eval o=execOp a.eval o)(hw:Region.wanted o (yielded ops b.tmps)=Region.wanted o (yielded ops a.tmps)):YS P ops S o v b:=by
 unfold YS at*;rw[he,hw];exact c
theorem YS.wpOp{i:Nat}{o:Oper}{v:Value}{a:Act}{w:World}{K:Act->World->Prop}(hi:ops[i]?=some o)(c:YS P ops S o v a)(hw:S w)(h:K (a.put o.dst v) w):wpOp P ops F i K a w:=by
 unfold Go.wpOp;simp only[hi]
 rcases c with ⟨b,d⟩|⟨b,rfl⟩
 ·rw[if_pos b];left;unfold Oper.wp;rw[d w hw];exact h
 ·rw[if_neg (by rw[b];decide)];exact h
def pQ:Exit->Act->World->Prop:=λ _ _ _=>False
theorem zN{j:Nat}{c i:Oper}{v:Value}(z:ops[j]?=some i)(m:c.apart ops i=true)(o:∀ cs b,c.op≠.select cs b)(p:∀ cs b,i.op≠.select cs b){K:Act->World->Prop}{a:Act}{w:World}
 (g:YS P ops S c v a) (h:wpOp P ops pQ j K (a.put c.dst v) w):wpOp P ops pQ j (λ s w'=>YS P ops S c v s/\K (s.put c.dst v) w') a w:=by
 obtain⟨t,l,y⟩:=Oper.apart_spec m;have keep:∀ (a:Act),YS P ops S c v a->∀ u,YS P ops S c v (a.put i.dst u):=λ a g u=>g.of_same (execOp_put c o a i.dst u y) (wanted_put c a i.dst u y);have k:∀ (a:Act) (d:Deferred),YS P ops S c v a->YS P ops S c v { a with defers:=d::a.defers }:=λ a d g=>g;unfold wpOp at*;simp only[z] at*;rw[wanted_put i a c.dst v t] at h;split
 ·rename_i hw;rw[if_pos hw] at h
  rcases h with h|⟨_,_,_,h⟩
  ·left
   unfold Oper.wp at*;rw[execOp_put i p a c.dst v t] at h
   generalize (execOp a.eval i).run P w=r at*
   cases r with
   |ok n w'=>
    cases n<;>simp only[Oper.upon] at h ⊢
    case value u=>exact⟨keep a g u,by rw[<- Act.put_comm a v u l];exact h⟩
    case skip=>exact⟨keep a g _,by rw[<- Act.put_comm a v undef l];exact h⟩
    case defer d=>
     have e:({ a.put c.dst v with defers:=d::(a.put c.dst v).defers }:Act)=({ a with defers:=d::a.defers }:Act).put c.dst v:=by cases c.dst<;>rfl
     exact⟨keep _ (k a d g) _,by rw[<- Act.put_comm _ v undef l,<- e];exact h⟩
    case enter f args=>
     refine h.mono λ e q he=>?_
     cases e with
     |returned u=>exact⟨keep a g u,by rw[<- Act.put_comm a v u l];exact he⟩
     |panicked A=>exact he
     |outgrown=>exact he
    case row r args=>exact h.mono λ u q hu=>⟨keep a g u,by rw[<- Act.put_comm a v u l];exact hu⟩
   |halt x w'=>cases x<;>simp only[Oper.upon] at h ⊢<;>exact h
  ·exact h.elim
 ·rename_i hw;rw[if_neg hw] at h;exact⟨keep a g _,by rw[<- Act.put_comm a v undef l];exact h⟩
def mR(P:Program)(md:Region.Mode)(ops:Array Oper)(S:World->Prop)(n:Nat)(L:Array Bool->Act->World->Prop):Nat->Array Bool->Act->World->Prop
 |0,listed,a,w=>L listed a w
 |f+1,listed,a,w=>Region.ready md ops listed≠[]/\∀ i∈Region.ready md ops listed,i<n/\wpOp P ops pQ i (λ a' w'=>S w'/\mR P md ops S n L f (listed.setIfInBounds i true) a' w') a w
theorem mP{i:Nat}{K:Act->World->Prop}{Q1 Q':Exit->Act->World->Prop}{a:Act}{w:World}(b:∀ e a w,e≠.normal->¬ Q1 e a w)(h:wpOp P ops Q1 i K a w):wpOp P ops Q' i K a w:=by
 unfold wpOp at*;split
 ·rename_i c;simp only[c] at h;exact h
 ·rename_i o c;simp only[c] at h;split
  ·rename_i hw;rw[if_pos hw] at h
   rcases h with h|⟨_,g,j,h⟩
   ·left
    unfold Oper.wp at*
    generalize (execOp a.eval o).run P w=r at*
    cases r with
    |ok n w'=>
     cases n<;>simp only[Oper.upon] at h ⊢
     case enter f args=>
      refine h.mono λ e d he=>?_
      cases e with
      |returned u=>exact he
      |panicked k=>exact (b _ _ _ ai he).elim
      |outgrown=>obtain⟨_,_,h⟩:=he;exact (b _ _ _ ai h).elim
     all_goals exact h
    |halt x w'=>cases x<;>simp only[Oper.upon] at h ⊢<;>exact (b _ _ _ ai h).elim
   ·exact (b _ _ _ ai h).elim
  ·rename_i hw;rw[if_neg hw] at h;exact h
theorem kL{n g:Nat}{L:Array Bool->Act->World->Prop}{Q':Exit->Act->World->Prop}(c:∀ b a w,L b a w->wpAny P md ops Q' g b a w):
 ∀ (f:Nat) (b:Array Bool) (a:Act) (w:World),mR P md ops S n L f b a w->wpAny P md ops Q' (f+g) b a w
 |0,b,a,w,h=>by rw[NR];exact c _ _ _ h
 |f+1,b,a,w,h=>by
  rw[show f+1+g=(f+g)+1 by omega];exact⟨λ d=>absurd d h.1,λ i hi=>mP (λ _ _ _ _ h=>h) (wpOp_mono (λ e w' j=>kL c f _ e w' j.2) (h.2 i hi).2)⟩
def rG(md:Region.Mode)(ops:Array Oper)(n:Nat):Bool:=decide (n=ops.size)||(decide (n<ops.size)&&Region.sinkB md ops n&&Region.chainB md ops n)
theorem kV{n:Nat}{a:Array Bool}(b:rG md ops n=true)(inv:HeadInv md ops n a){i:Nat}(c:i<n)(d:a.getD i true=false):∀ j∈Region.ready md ops a,j<n:=by
 intro j e;simp only[rG,Bool.or_eq_true,N6,NX] at b
 rcases b with b|⟨⟨f,g⟩,k⟩
 ·obtain⟨_,o,l,_⟩:=mem_ready.1 e;have:=(OL.1 l).1;omega
 ·rcases P1 j n with h|h
  ·exact h
  ·exact absurd e (tail_waits g k f inv _ i rfl c d j h)
theorem ru{n i:Nat}{z:Oper}{v:Value}{L:Array Bool->Act->World->Prop}(hi:ops[i]?=some z)(q:∀ (j:Nat) (o:Oper) cs b,ops[j]?=some o->o.op≠.select cs b)
 (U:rG md ops n=true) (A:i<n) (t:∀ c a w,L c a w->∀ j∈Region.ready md ops c,n<=j):
 ∀ (f:Nat) (c:Array Bool) (a:Act) (w:World),HeadInv md ops n c->
   (∀ j u,ops[j]?=some u->j≠i->c.getD j true=false->(∀ e∈u.after,Region.binds md e=true->e.on≠i)->z.apart ops u=true)->
   i∈Region.ready md ops c->YS P ops S z v a->S w->
   mR P md ops S n L f (c.setIfInBounds i true) (a.put z.dst v) w->mR P md ops S n L (f+1) c a w:=by
 intro f
 induction f with
 |zero=>
  intro c a w inv _ r I B H;have g:=(mem_ready.1 r).1;refine⟨λ h=>(by rw[h] at r;cases r),λ j x=>?_⟩;have m:=kV U inv A g j x;refine⟨m,?_⟩;by_cases d:j=i
  ·subst d;exact I.wpOp hi B ⟨B,H⟩
  ·have:=t _ _ _ H j (ready_mono x d);omega
 |succ f V=>
  intro c a w inv l r I B H;have g:=(mem_ready.1 r).1;refine⟨λ h=>(by rw[h] at r;cases r),λ j x=>?_⟩;have m:=kV U inv A g j x;refine⟨m,?_⟩;by_cases d:j=i
  ·subst d;exact I.wpOp hi B ⟨B,H⟩
  ·have M:=(H.2 j (ready_mono x d)).2;obtain⟨s,u,y,C⟩:=mem_ready.1 x
   have D:∀ e∈u.after,Region.binds md e=true->e.on≠i:=λ e he Y heq=>by
    have M:=C e he Y;rw[heq,getD_both g] at M
    cases M
   have Z:=zN y (l j u y d s D) (λ cs b=>q i z cs b hi) (λ cs b=>q j u cs b y) I M
   have p:∀ k ok,ops[k]?=some ok->k≠i->(c.setIfInBounds j true).getD k true=false->
    (∀ e∈ok.after,Region.binds md e=true->e.on≠i)->z.apart ops ok=true:=λ k ok hk O g R=>by
    refine l k ok hk O ?_ R;by_cases G:j=k
    ·subst G;exact s
    ·rw[getD_set_ne true G] at g;exact g
   refine wpOp_mono (λ a' w' N=>⟨N.2.1,V (c.setIfInBounds j true) a' w' (inv.set x m) p (ready_mono r (Ne.symm d)) N.1 N.2.1 ?_⟩) Z;rw[Array.setIfInBounds_comm _ _ d];exact N.2.2
def xR(P:Program)(ops:Array Oper)(S:World->Prop)(Q:Act->World->Prop):List (Nat×Bool)->Act->World->Prop
 |[],a,w=>Q a w
 |(k,true)::rest,a,w=>∃ o v,ops[k]?=some o/\YS P ops S o v a/\xR P ops S Q rest (a.put o.dst v) w
 |(k,false)::rest,a,w=>wpOp P ops pQ k (λ a' w'=>S w'/\xR P ops S Q rest a' w') a w
def ot(md:Region.Mode)(ops:Array Oper)(n g:Nat):List (Nat×Bool)->Array Bool->Bool
 |[],listed=>Region.seqB md ops g n listed
 |(k,st)::rest,listed=>decide (k<n)&&(match st with
    |true=>(Region.ready md ops listed).contains k&&Region.free md ops listed k
    |false=>decide (Region.ready md ops listed=[k]))&&ot md ops n g rest (listed.setIfInBounds k true)
theorem n9{n g:Nat}{u:Act->World->Prop}(d:Region.noSelect ops=true)(q:rG md ops n=true):∀ (l:List (Nat×Bool)) (b:Array Bool) (a:Act) (w:World),HeadInv md ops n b->S w->
 ot md ops n g l b=true->xR P ops S u l a w->mR P md ops S n (λ c r w'=>Region.seqB md ops g n c=true/\u r w') l.length b a w
 |[],b,a,w,_,_,j,h=>⟨j,h⟩
 |(k,true)::l,b,a,w,inv,s,j,h=>by
  simp only[ot,N6,NX] at j;obtain⟨⟨e,p,y⟩,m⟩:=j;obtain⟨o,v,x,z,A⟩:=h;have f:k∈Region.ready md ops b:=by simpa using p
  exact ru x (Region.noSelect_spec d) q e (λ c r w' B=>seqB_ready B.1) l.length b a w inv (Region.free_spec x y) f z s (n9 d q l _ _ w (inv.set f e) s m A)
 |(k,false)::l,b,a,w,inv,s,j,h=>by
  simp only[ot,N6,NX] at j;obtain⟨⟨e,p⟩,m⟩:=j;refine⟨by rw[p];simp,λ i hi=>?_⟩;have f:k∈Region.ready md ops b:=by rw[p];simp
  rw[p] at hi;obtain rfl:i=k:=by simpa using hi
  exact⟨e,wpOp_mono (λ r w' t=>⟨t.1,n9 d q l _ _ _ (inv.set f e) t.1 m t.2⟩) h⟩
def dT(l:LN_):List (Nat×Bool):=l.map λ k=>(k,true)
def ut(ops:Array Oper)(n:Nat)(l:List (Nat×Bool)):Bool:=Region.noSelect ops&&rG .any ops n&&decide (l.length=n)&&decide (n<=ops.size)&&ot .any ops n (ops.size-n) l (Array.replicate ops.size false)
theorem nx{id:Nat}{Q:Exit->Act->World->Prop}{a:Act}{w:World}{l:List Oper}(n:Nat)(order:List (Nat×Bool))(hm:P.follows .mixedOrders=true)(m:ut l.toArray n order=true)(p:S { w with drawn:=w.drawn+1 })
 (h:xR P l.toArray S (λ f w'=>wpList P l.toArray Q (l.drop n) f w') order a { w with drawn:=w.drawn+1 }):(Code.region id l.toArray true).wp P Q a w:=by
 simp only[ut,N6,NX] at m;obtain⟨⟨⟨⟨c,i⟩,hlen⟩,q⟩,k⟩:=m
 have d:HeadInv .any l.toArray n (Array.replicate l.toArray.size false):=
  ⟨ai,λ j r _ hl=>(by rw[getD_replicate_false] at hl;cases hl),λ t _ i=>getD_in (by simpa using i) (getD_replicate_false _ _)⟩
 have e:(l.drop n).length=l.toArray.size-n:=ai;have H:=n9 (md:=.any) (g:=l.toArray.size-n) c i order _ a _ d p k h;refine wp_region_any hm ?_
 have:=kL (Q':=Q) (g:=l.toArray.size-n) (λ b f w' o=>by
  have:=wpAny_of_seq (md:=.any) (Q':=Q) (l.drop n) n b f w' (λ j=>by simp[Ol]) (by rw[e];exact o.1) o.2
  rwa [e] at this) _ _ _ _ H
 rw[hlen,show n+(l.toArray.size-n)=l.toArray.size by omega] at this;exact this
end
section
variable {X:Cx} {Q:fb} {E E':Env} {H Sf:Heap} {K:Env->Heap->Prop}
def JW(X:Cx)(ops:List Oper)(order:List (Nat×Bool))(Sf:Heap)(K:Env->Heap->Prop)(E:Env)(H:Heap):Prop:=
 ∀ a w,gz X.n a E->dN X.w0 X.M w H->xR Tryz.prog ops.toArray (λ w=>dN X.w0 X.M w Sf) (λ a' w'=>∃ E' H',gz X.n a' E'/\dN X.w0 X.M w' H'/\K E' H') order a w
theorem bM{id:Nat}{l:List Oper}(n:Nat)(order:List (Nat×Bool))(ix:LN_)(j:ut l.toArray n order=true)(hi:ix.Nodup)(m:cK H ix=some Sf)(h:JW X l order Sf (λ E' H'=>JL X l (l.drop n) Q E' H') E H):
 J X (.region id l.toArray true) Q E H:=by
 intro a w p f;refine nx (S:=λ w=>dN X.w0 X.M w Sf) n order C7 j (f.drew.picks ix hi m) ?_;have:=h a _ p f.drew;refine (?_:∀ (Q1 b:Act->World->Prop),(∀ a w,Q1 a w->b a w)->∀ l a w,xR Tryz.prog _ _ Q1 l a w->xR Tryz.prog _ _ b l a w) _ _ ?_ _ a _ this
 ·intro Q1 b c l
  induction l with
  |nil=>exact λ a w h=>c a w h
  |cons o l g=>
   intro a w h;obtain⟨k,st⟩:=o
   cases st with
   |true=>obtain⟨o,v,q,r,s⟩:=h;exact⟨o,v,q,r,g _ _ s⟩
   |false=>exact wpOp_mono (λ t w' i=>⟨i.1,g _ _ i.2⟩) h
 ·rintro a w ⟨E',H',d,e,c⟩;exact c a w d e
theorem cM{ops:List Oper}(h:K E H):JW X ops [] Sf K E H:=λ _ _ a b=>⟨E,H,a,b,h⟩
theorem aG{ops:List Oper}{rest:List (Nat×Bool)}{k:Nat}{o:Oper}{v:Value}(gs:LN_)(d:ops[k]?=some o)(e:i8 X o E Sf v)(f:jD X.n ops gs E o v=some E')(h:JW X ops rest Sf K E' H):JW X ops ((k,true)::rest) Sf K E H:=by
 intro a w b g;obtain⟨i,hp⟩:=d7 f;exact⟨o,v,by simpa using d,.inl ⟨fB b i,λ w' c=>e a w' b c⟩,h _ w (b.putE hp) g⟩
theorem eJ{ops:List Oper}{rest:List (Nat×Bool)}{k:Nat}{o:Oper}{gs:LN_}(c:ops[k]?=some o)(he:IL X.n ops gs E o=some E')(h:JW X ops rest Sf K E' H):JW X ops ((k,true)::rest) Sf K E H:=by
 unfold IL at he;split at he
 ·rename_i b;split at he
  ·rename_i v e;exact aG gs c (mc e) (by unfold jD;rw[b];exact he) h
  ·cases he
 ·rename_i b;intro a w d f;exact⟨o,undef,by simpa using c,.inr ⟨fB d b,rfl⟩,h _ w (d.putE he) f⟩
 ·cases he
noncomputable def L9(n:uT)(ops:List Oper)(gs:LN_)(E:Env):List (Nat×Bool)->Env×List (Nat×Bool)
 |[]=>(E,[])
 |(k,false)::l=>(E,(k,false)::l)
 |(k,true)::l=>match ops[k]? with
  |some o=>match IL n ops gs E o with
   |some E'=>L9 n ops gs E' l
   |none=>(E,(k,true)::l)
  |none=>(E,(k,true)::l)
theorem my{ops:List Oper}{a:List (Nat×Bool)}(gs:LN_):∀ {l:List (Nat×Bool)} {E:Env},L9 X.n ops gs E l=(E',a)->JW X ops a Sf K E' H->JW X ops l Sf K E H
 |[],E,h,k=>by
  simp only[L9,N3] at h;obtain⟨rfl,rfl⟩:=h;exact k
 |(_,false)::l,E,h,k=>by
  simp only[L9,N3] at h;obtain⟨rfl,rfl⟩:=h;exact k
 |(i,true)::l,E,h,k=>by
  unfold L9 at h;split at h
  ·rename_i o b;split at h
   ·rename_i d c;exact eJ b c (my gs h k)
   ·simp only[N3] at h;obtain⟨rfl,rfl⟩:=h;exact k
  ·simp only[N3] at h;obtain⟨rfl,rfl⟩:=h;exact k
theorem hZ{ops:List Oper}(gs:LN_){l:List (Nat×Bool)}{E:Env}(h:L9 X.n ops gs E l=(E',[]))(k:K E' H):JW X ops l Sf K E H:=my gs h (cM k)
theorem dK{ops:List Oper}{l:List (Nat×Bool)}(t:Nat){v v':Value}(b:ij E t=some v)(e:v=v')(h:JW X ops l Sf K ((t,v')::E) H):JW X ops l Sf K E H:=λ a w c d=>h a w (c.set b e) d
def Is(X:Cx)(ops:List Oper)(rest:List (Nat×Bool))(Sf:Heap)(K:Env->Heap->Prop):fb:=λ e E' H'=>match e with
 |.normal=>(∃ ix:LN_,ix.Nodup/\cK H' ix=some Sf)/\JW X ops rest Sf K E' H'
 |_=>False
theorem xG{ops:List Oper}{rest:List (Nat×Bool)}{k:Nat}{o:Oper}(p:ops[k]?=some o)(h:JL X ops [o] (Is X ops rest Sf K) E H):JW X ops ((k,false)::rest) Sf K E H:=by
 intro a w q r;have d:=h a w q r;show wpOp _ _ _ _ _ _ _;refine mP (Q1:=qv X (Is X ops rest Sf K)) (λ e a w g i=>?_) ?_
 ·obtain⟨s,H1,_,_,i⟩:=i
  cases e with
  |normal=>exact g rfl
  |_=>exact i
 ·unfold wpOp;have j:ops.toArray[k]?=some o:=by simpa using p
  simp only[j];unfold wpList at d
  have b:∀ c w',wpList Tryz.prog ops.toArray (qv X (Is X ops rest Sf K)) [] c w'->dN X.w0 X.M w' Sf/\xR Tryz.prog ops.toArray (λ w=>dN X.w0 X.M w Sf) (λ c w'=>∃ E' H',gz X.n c E'/\dN X.w0 X.M w' H'/\K E' H') rest c w':=by
   rintro c w' ⟨s,H1,l,f,⟨ix,m,hp⟩,t⟩;exact⟨f.picks ix m hp,t c w' l f⟩
  split
  ·rename_i hw;rw[if_pos hw] at d;exact d.imp (Oper.wp_mono b) id
  ·rename_i hw;rw[if_neg hw] at d;exact b _ _ d
end
def DL(E:Env)(H:Heap):List ResultVar->LV_->Prop
 |[],[]=>True
 |.tmp t::rs,v::vs=>ij E t=some v/\DL E H rs vs
 |.cell t e::rs,v::vs=>(∃ (b k e':Nat) (cs:LV_),ij E t=some (.pointer (some ⟨b,0,none⟩))/\H[k]?=some (blk b e' cs)/\fQ e cs 0=some v)/\DL E H rs vs
 |_,_=>False
def ML(rs:List ResultVar)(R:Value->Heap->Prop):fb:=λ e E H=>match e with
 |.normal=>∃ vs ix H',DL E H rs vs/\ix.Nodup/\cK H ix=some H'/\R (mH vs) H'
 |.ret=>∃ vs ix H',DL E H rs vs/\ix.Nodup/\cK H ix=some H'/\R (mH vs) H'
 |_=>False
theorem tR{w0 w:World}{M:LN_}{H:Heap}{E:Env}{a:Act}{n:uT}(f:gz n a E)(g:dN w0 M w H):∀ (c:List ResultVar) (vs:LV_),DL E H c vs->(c.toArray.toList.mapM (m:=Sem) (pU a.tmps)).run Tryz.prog w=.ok vs w
 |[],[],_=>by simp
 |.tmp t::c,v::vs,h=>by
  have i:=f.get _ _ h.1;have d:=tR f g c vs h.2;simp only[List.mapM_cons] at d ⊢;simp[pU,d,O8,i]
 |.cell t e::c,v::vs,h=>by
  obtain⟨⟨b,k,j,cs,g1,g2,g3⟩,l⟩:=h;have i:=f.get _ _ g1;have d:=tR f g c vs l;have p:=sO (w:=w) (b:=b) (o:=0) (t:=e) (cs:=cs) (v:=v) (aS b j cs (0,0) w (g.holds _ (Nb g2))) g3;simp only[List.mapM_cons] at d ⊢;simp[pU,d,O8,i,asAddr,p]
 |[],_::_,h=>h.elim
 |.tmp _::_,[],h=>h.elim
 |.cell _ _::_,[],h=>h.elim
theorem rC{w0 w:World}{M:LN_}{H:Heap}{E:Env}{a:Act}{n:uT}(c:gz n a E)(d:dN w0 M w H){fn:Func}{vs:LV_}(h:DL E H fn.results.toList vs):(results fn a.tmps).run Tryz.prog w=.ok (mH vs) w:=by
 have e:results fn a.tmps=(do let vs <- fn.results.mapM (pU a.tmps);pure (if h:vs.size=1 then vs[0] else .tuple vs)):=rfl;have b:=tR c d _ _ h;rw[List.toList_toArray] at b;rw[e,PU];simp only[map_eq_pure_bind,bind_assoc,pure_bind,Sem.run_bind,b];show Result.ok (if h:vs.toArray.size=1 then vs.toArray[0] else Value.tuple vs.toArray) w=_
 congr 1
 match vs with
 |[]=>rfl
 |[v]=>rfl
 |u::v::l=>
  have:¬ (u::v::l).toArray.size=1:=ai;rw[dif_neg this];rfl
theorem ia{f:FuncId}{fn:Func}{c:Code}{args:LV_}{M:LN_}{H:Heap}{R:Value->Heap->Prop}(n:Tryz.prog.funcs[f]?=some fn)(o:fn.body=some c)(p:Nat.ble args.length fn.ntmps=true)
 (h:∀ w0,J ⟨w0,M,⟨fn.ntmps,[]⟩⟩ c (ML fn.results.toList R) (pE 0 args) H):Fn f args M H R:=by
 intro w q;refine calls_of_wp n o ?_;have r:=np (args:=args) p;refine wp_mono (h w _ w r q) ?_;rintro e a w' ⟨E',H',b,d,g⟩
 cases e with
 |normal=>
  obtain⟨vs,ix,i,j,k,l,m⟩:=g;exact⟨b.defers,mH vs,rC b d j,mH vs,i,rfl,d.picks ix k l,m⟩
 |ret=>
  obtain⟨vs,ix,i,j,k,l,m⟩:=g;exact⟨b.defers,mH vs,rC b d j,mH vs,i,rfl,d.picks ix k l,m⟩
 |_=>exact g.elim
variable {X:Cx} {Q:fb} {E E':Env} {H:Heap}
def gG(i:Nat):List (Int×Value)->List MapEntry
 |[]=>[]
 |(k,v)::l=>⟨.int .i64 k,v,i⟩::gG (i+1) l
def jT(l:List (Int×Value)):Obj:=.map (gG 0 l).toArray l.length
def m9:List (Int×Value)->Int->Option Value
 |[],_=>none
 |(k,v)::l,n=>if k=n then some v else m9 l n
theorem B1{l:List (Int×Value)}{n:Int}(h:∀ p∈l,p.1≠n):m9 l n=none:=by
 induction l with
 |nil=>rfl
 |cons p l a=>obtain⟨k,v⟩:=p;unfold m9;rw[if_neg (h (k,v) ai)];exact a λ q b=>h q (by simp[b])
theorem rJ{u:IntKind}(n:Int):∀ (l:List (Int×Value)) (i j:Nat),∃ r,Instr.findNow (.int u) (.int .i64 n) (gG i l) j=some r/\(r.map (·.2))=m9 l n
 |[],i,j=>⟨none,rfl,rfl⟩
 |(k,v)::l,i,j=>by
  by_cases h:n=k
  ·subst h;exact⟨some (j,v),by simp[gG,Instr.findNow,Instr.sameNow],by simp[m9]⟩
  ·obtain⟨r,a,b⟩:=rJ (u:=u) n l (i+1) (j+1);have c:(n==k)=false:=by simpa using h
   exact⟨r,by simp[gG,Instr.findNow,Instr.sameNow,c,a],by unfold m9;rw[if_neg (λ e=>h e.symm)];exact b⟩
theorem qE{w:World}{a:TypeId}{u:IntKind}(b:Tryz.prog.underlying a=some (.int u))(n:Int)(l:List (Int×Value))(i:Nat):∃ r,(Instr.findKey a (.int .i64 n) (gG i l)).run Tryz.prog w=.ok r w/\(r.map (·.2))=m9 l n:=by
 obtain⟨r,c,d⟩:=rJ (u:=u) n l i 0;exact⟨r,by simp[Instr.findKey,run_underlying b,c],d⟩
theorem mU{w:World}{a:TypeId}{u:IntKind}(b:Tryz.prog.underlying a=some (.int u))(e:Bool)(n:Int):(Instr.checkKey e 10000 a (.int .i64 n)).run Tryz.prog w=.ok () w:=by
 show (Instr.checkKey e (9999+1) a (.int .i64 n)).run Tryz.prog w=.ok () w;unfold Instr.checkKey;simp[run_underlying b]
theorem qe{F:Nat->Env}{ops l:List Oper}{o:Oper}{t:TypeId}(c:o.op=.makeMap t none)(d:∀ b,jD X.n ops [] E o (.map (some b))=some (F b))(h:∀ b,JL X ops l Q (F b) (.obj b (jT [])::H)):JL X ops (o::l) Q E H:=
 wV (f:=λ b=>.map (some b)) [] (λ a w e _=>by simp[execOp,c,Instr.makeMap,newObj,Sem.run,jT,gG,World.alloc_eq]) d h
theorem fW{o:Oper}{t q s b sz e:Nat}{x ix:Operand}{n:Int}{u:IntKind}{uk:UK}{z:Value}{l:List (Int×Value)}(k:Nat)(y:Tryz.prog.underlying t=some (.map q s))(f:Tryz.prog.underlying q=some (.int u))(D:o.op=.lookup t x ix false)
 (F:val E x=some (.map (some b))) (hi:val E ix=some (.int .i64 n)) (G:H[k]?=some (.obj b (jT l))) (I:tab s=some ⟨uk,sz,e,some z⟩):i8 X o E H ((m9 l n).getD z):=by
 intro a w A c;have B:w.heap[b]?=some (jT l):=c.holds _ (Nb G);obtain⟨d,j,_,g,_,_,_,h⟩:=eU I;obtain⟨r,C,K⟩:=qE (w:=w) f n l 0;have m:(getObj b).run Tryz.prog w=.ok (jT l) w:=by unfold jT at B ⊢;simp[getObj,Sem.run,B]
 unfold jT at m
 have L:(Instr.lookup t (.map (some b)) (.int .i64 n) false).run Tryz.prog w=.ok ((m9 l n).getD z) w:=by
  rw[<- K]
  cases r with
  |none=>simp[Instr.lookup,run_underlying y,m,mU f,C,zeroValue,typeInfo,g,h z rfl]
  |some p=>obtain⟨i,v⟩:=p;simp[Instr.lookup,run_underlying y,m,mU f,C]
 simp[execOp,D,A.val F,A.val hi,L]
theorem wI(n:Int)(v:Value):∀ (l:List (Int×Value)) (i:Nat),gG i l++[⟨.int .i64 n,v,i+l.length⟩]=gG i (l++[(n,v)])
 |[],i=>by simp[gG]
 |(k,u)::l,i=>by
  have:=wI n v l (i+1);simp only[gG,Od,Nh];rw[<- this,show i+(l.length+1)=i+1+l.length by omega]
theorem qq{ops l:List Oper}{o:Oper}{t B I b:Nat}{x ix y:Operand}{n:Int}{v:Value}{u:IntKind}{es:List (Int×Value)}(k:Nat)(K:Tryz.prog.underlying t=some (.map B I))(C:Tryz.prog.underlying B=some (.int u))(L:o.op=.mapUpdate t x ix y)
 (M:val E x=some (.map (some b))) (hi:val E ix=some (.int .i64 n)) (N:val E y=some v) (D:H[k]?=some (.obj b (jT es))) (f:∀ p∈es,p.1≠n) (gs:LN_) (O:jD X.n ops gs E o undef=some E')
 (h:JL X ops l Q E' (H.set k (.obj b (jT (es++[(n,v)]))))):JL X ops (o::l) Q E H:=by
 intro a w hA d;obtain⟨hg,hp⟩:=d7 O;refine na ?_
 left
 have c:w.heap[b]?=some (jT es):=d.holds _ (Nb D);have i:b<w.heap.size:=(OL.1 c).1;obtain⟨r,P,F⟩:=qE (w:=w) C n es 0;rw[B1 f] at F
 have j:r=none:=by cases r with
  |none=>rfl
  |some p=>simp at F
 subst j;have g:(getObj b).run Tryz.prog w=.ok (jT es) w:=by unfold jT at c ⊢;simp[getObj,Sem.run,c]
 unfold jT at g
 have m:(setObj b (jT (es++[(n,v)]))).run Tryz.prog w=.ok () { w with heap:=w.heap.setIfInBounds b (jT (es++[(n,v)])) }:=by
  unfold jT at c;simp[setObj,Sem.run,c]
 have R:(Instr.mapUpdate t (.map (some b)) (.int .i64 n) v).run Tryz.prog w=.ok () { w with heap:=w.heap.setIfInBounds b (jT (es++[(n,v)])) }:=by
  rw[<- m];simp[Instr.mapUpdate,run_underlying K,g,mU C,P,jT,<- wI]
 refine m7 ?_
 have s:(execOp a.eval o).run Tryz.prog w=.ok .skip { w with heap:=w.heap.setIfInBounds b (jT (es++[(n,v)])) }:=by
  simp[execOp,L,hA.val M,hA.val hi,hA.val N,R]
 rw[s];refine h _ _ (hA.putE hp) (d.step k D rfl rfl rfl ai (λ q S z=>?_) ?_ (λ U A=>.inl A))
 ·have:b≠q:=λ e=>z (by rw[<- e];rfl);simp[Array.getElem?_setIfInBounds_ne this]
 ·show (w.heap.setIfInBounds b _)[b]?=_;simp[i]
variable {X:Cx} {Q:fb} {E E':Env} {H H' K:Heap}
def ay(X:Cx)(H K:Heap):Prop:=∀ w,dN X.w0 X.M w H->dN X.w0 X.M w K
theorem ay.refl:ay X H H:=λ _ h=>h
theorem ay.trans(a:ay X H H')(b:ay X H' K):ay X H K:=λ w h=>b w (a w h)
theorem ay.picks(ix:LN_)(hi:ix.Nodup)(h:Proofs.YtmcnpaelaieniaaGreatDoor.cK H ix=some K):ay X H K:=λ _ hw=>hw.picks ix hi h
theorem dN.perm{w0 w:World}{M:LN_}(h:dN w0 M w H)(hp:H.Perm K):dN w0 M w K:=
 ⟨h.os,h.tape,h.output,h.size,h.keep,λ c a=>h.holds c (hp.mem_iff.2 a),λ c a=>h.own c (hp.mem_iff.2 a),h.dis.perm hp λ h=>qk h⟩
theorem ay.perm(h:H.Perm K):ay X H K:=λ _ hw=>hw.perm h
theorem dN.sub{w0 w:World}{M:LN_}(h:dN w0 M w H)(hp:K.Sublist H):dN w0 M w K:=
 ⟨h.os,h.tape,h.output,h.size,h.keep,λ c a=>h.holds c (hp.mem a),λ c a=>h.own c (hp.mem a),h.dis.sublist hp⟩
theorem ay.sub(h:K.Sublist H):ay X H K:=λ _ hw=>hw.sub h
theorem cD{ops l:List Oper}(b:ay X H K)(h:JL X ops l Q E K):JL X ops l Q E H:=λ a w c d=>h a w c (b w d)
theorem bS{c:Code}(b:ay X H K)(h:J X c Q E K):J X c Q E H:=λ a w d e=>h a w d (b w e)
theorem cA{σ:Type}{c:Code}(F:σ->Env)(K:σ->Heap)(I:σ->Prop)(μ:σ->Nat)(s:σ)(l:nn E (F s))(m:ay X H (K s))(g:I s)
 (round:∀ s,I s->J X c (yi (λ E' H'=>∃ b,nn E' (F b)/\ay X H' (K b)/\I b/\μ b<μ s) Q) (F s) (K s)):J X (.loop c) Q E H:=by
 intro a w h i;refine wp_loop_ghost (λ k a w=>∃ s,k=μ s/\I s/\gz X.n a (F s)/\dN X.w0 X.M w (K s)) (μ s) ⟨s,rfl,g,h.ents _ l,m w i⟩ ?_;rintro k a w ⟨s,rfl,g,h,i⟩;refine wp_mono (round s g a w h i) ?_;rintro e t w' ⟨E',H',d,f,j⟩
 cases e with
 |normal=>
  obtain⟨b,o,p,q,r⟩:=j;exact⟨μ b,r,b,rfl,q,d.ents _ o,p w' f⟩
 |_=>exact⟨E',H',d,f,j⟩
theorem vh{A R:Heap}{c:aY}{i:Nat}(h:R[i]?=some c):(A++R).Perm (c::(A++R.eraseIdx i)):=by
 obtain⟨hi,rfl⟩:=Ng.1 h
 have a:R.Perm (R[i]::R.eraseIdx i):=by
  rw[Pr];have e:R=R.take i++R[i]::R.drop (i+1):=by rw[<- N5 hi,Oa]
  exact (List.Perm.of_eq e).trans PL
 exact (Pf A a).trans PL
theorem Eh{A R:Heap}{c:aY}{i:Nat}(h:i<R.length):(c::(A++R.eraseIdx i)).Perm (A++R.set i c):=by
 have a:(R.set i c)[i]?=some c:=by simp[h]
 have b:(R.set i c).eraseIdx i=R.eraseIdx i:=by
  rw[Pr,Pr,List.take_set_of_le (Nr _),List.drop_set_of_lt aa]
 have:=(vh (A:=A) a).symm
 rwa [b] at this
def Kq(Q:fb):fb
 |.goto _,_,_=>False
 |e,E,H=>Q e E H
theorem Cl{c:Code}(h:J X c (Kq Q) E H):J X (.scope c) Q E H:=by
 intro a w g i;refine wp_scope_straight (wp_mono (h a w g i) ?_);rintro e j w' ⟨E',H',b,d,f⟩
 cases e with
 |goto l=>exact f.elim
 |_=>exact⟨E',H',b,d,f⟩
theorem CS{l:Nat}(h:Q .normal E H):J X (.label l) Q E H:=λ _ _ a b=>wp_label ⟨E,H,a,b,h⟩
theorem t6{w:World}{e sz n m c:Nat}{A:OA_}{xs:LV_}(h:w.ownsRow 0 e sz (.slice A n c) n xs)(hm:m<=n):w.ownsRow 0 e sz (.slice A m c) m (xs.take (m*sz)):=by
 obtain⟨b,d|⟨g,cap,cur,a,f,i,o,j,k,l⟩⟩:=h
 ·obtain⟨a,rfl⟩:=d;obtain rfl:m=0:=aa;simp only[Value.slice.injEq] at a;obtain⟨rfl,_,rfl⟩:=a;exact⟨ai,.inl ⟨rfl,rfl⟩⟩
 ·simp only[Value.slice.injEq] at a;obtain⟨rfl,_,rfl⟩:=a;have hle:m*sz<=n*sz:=Ow sz hm;refine⟨by rw[NE,b];omega,.inr ⟨g,c,cur,rfl,f,i,aa,j,k,?_⟩⟩;rw[<- l,List.take_take,OX hle]
theorem dN.chunk{w0 w:World}{M:LN_}{c d:aY}(k:Nat)(f:dN w0 M w H)(o:H[k]?=some c)(t:d.holds w)(hm:∀ b,d.mine=some b->c.mine=some b)(s:∀ b,d.at_=some b->c.at_=some b ):dN w0 M w (H.set k d):=by
 have p:k<H.length:=(Ng.1 o).1
 have g:∀ e∈H.set k d,e=d\/e∈H:=λ e he=>by
  rcases List.mem_or_eq_of_mem_set he with h|h
  ·exact .inr h
  ·exact .inl h
 refine⟨f.os,f.tape,f.output,f.size,f.keep,λ e he=>?_,λ e he b a=>?_,?_⟩
 ·rcases g e he with rfl|h
  ·exact t
  ·exact f.holds e h
 ·rcases g e he with rfl|h
  ·exact f.own c (Nb o) b (hm b a)
  ·exact f.own e h b a
 ·rw[List.pairwise_iff_getElem];intro i j hi l u;simp only[List.length_set] at hi l;have hp:∀ i j (hi:i<H.length) (l:j<H.length),i≠j→apart H[i] H[j]:=fun i j hi l q=>fY f.dis (List.getElem?_eq_getElem hi) (List.getElem?_eq_getElem l) q;have n:c=H[k]:=by rw[List.getElem?_eq_getElem p] at o;exact (Option.some.inj o).symm
  simp only[List.getElem_set];split
  ·rename_i r;subst r;rw[if_neg aa];have:=hp k j hi l aa;rw[<- n] at this;exact⟨λ b a=>this.1 b (hm b a),λ b a m=>this.2 b a (s b m)⟩
  ·split
   ·rename_i r;subst r;have:=hp i k hi l aa;rw[<- n] at this;exact⟨λ b a m=>this.1 b a (s b m),λ b a=>this.2 b (hm b a)⟩
   ·exact hp i j hi l aa
theorem Ff{ops l:List Oper}{e sz n m c:Nat}{A:OA_}{xs:LV_}(k:Nat)(b:H[k]?=some (.own (.slice A n c) e sz n xs))(hm:m<=n)(h:JL X ops l Q E (H.set k (.own (.slice A m c) e sz m (xs.take (m*sz))))):JL X ops l Q E H:=
 λ a w f d=>h a w f (d.chunk k b (t6 (d.holds _ (Nb b)) hm) (λ _ h=>by cases A<;>exact h) (λ _ h=>by cases A<;>exact h))
theorem ay.shrink{e sz n m c:Nat}{A:OA_}{xs:LV_}(k:Nat)(a:H[k]?=some (.own (.slice A n c) e sz n xs))(hm:m<=n):ay X H (H.set k (.own (.slice A m c) e sz m (xs.take (m*sz)))):=
 λ _ b=>b.chunk k a (t6 (b.holds _ (Nb a)) hm) (λ _ h=>by cases A<;>exact h) (λ _ h=>by cases A<;>exact h)
structure fg where
 A:OA_
 c:Nat
 l:LI_
def cT(r:fg):Value:=.slice r.A r.l.length r.c
def bd(e:Nat)(r:fg):aY:=.own (cT r) e 1 r.l.length (aj r.l)
def en:fg:=⟨none,0,[]⟩
theorem dN.nils{w0 w:World}{M:LN_}(e:Nat)(h:dN w0 M w H):∀ n:Nat,dN w0 M w (H++List.replicate n (bd e en))
 |0=>by simpa using h
 |n+1=>by
  have a:=(h.nils e n).addnil e 1;refine a.perm ?_;rw[Oo];exact List.perm_middle.symm
theorem ay.nils(e n:Nat):ay X H (H++(List.replicate n en).map (bd e)):=λ w h=>by rw[OI];exact h.nils e n
theorem fz{t a i:Nat}{uk:UK}{z:Option Value}{cs:LV_}{v:Value}(b:tab t=some ⟨uk,1,a,z⟩)(c:v.cells.toList=[v])(d:v.oneCell'=true)(hi:i<cs.length):rj t cs i v.cells.toList=some (cs.set i v):=by
 unfold rj;rw[b,c];have e:Nat.ble (i+1) cs.length=true:=Nat.ble_eq_true_of_le aa;simp only[Nh,NC,NR,Nat.beq_refl,e,one,d,wr]
theorem ay.front{A R:Heap}{c:aY}{i:Nat}(h:R[i]?=some c):ay X (A++R) (c::(A++R.eraseIdx i)):=ay.perm (vh h)
theorem ay.back{A R:Heap}{c:aY}{i:Nat}(h:i<R.length):ay X (c::(A++R.eraseIdx i)) (A++R.set i c):=ay.perm (Eh h)
variable {X:Cx} {Q:fb} {E E':Env} {H H' K:Heap}
def aC(C:Heap):LN_:=C.filterMap aY.mine
theorem vH{C:Heap}{b:Nat}:b∈aC C↔∃ c∈C,c.mine=some b:=List.mem_filterMap
theorem rH(H:Heap):∀ (K:Heap) (i:Nat),(∀ j,j<K.length->H[i+j]?=K[j]?)->cK H (List.range' i K.length)=some K
 |[],_,_=>rfl
 |c::K,i,hi=>by
  have a:H[i]?=some c:=by simpa using hi 0 ai
  rw[Nh,List.range'_succ];unfold cK;rw[a,rH H K (i+1) (λ j b=>by have:=hi (j+1) eK;simpa [N7,P0 1] using this)]
theorem kw{i:Nat}{l:LN_}{A1:Heap}:cK H (i::l)=some A1↔∃ c K,H[i]?=some c/\cK H l=some K/\A1=c::K:=by
 constructor
 ·intro h;unfold cK at h;split at h
  ·rename_i c a;split at h
   ·rename_i K b;simp only[Nc] at h;exact⟨c,K,a,b,h.symm⟩
   ·cases h
  ·cases h
 ·rintro⟨c,K,d,e,rfl⟩;unfold cK;rw[d,e]
theorem oQ{B:Heap}{a:LN_}(b:cK H a=some B):∀ {l:LN_} {A:Heap},cK H l=some A->cK H (l++a)=some (A++B)
 |[],A,h=>by
  simp only[cK,Nc] at h;subst h;exact b
 |i::l,A,h=>by
  obtain⟨c,K,d,e,rfl⟩:=kw.1 h;exact kw.2 ⟨c,K++B,d,oQ b e,rfl⟩
theorem lZ{A R:Heap}:∀ {l:LN_} {A1:Heap},cK A l=some A1->cK (A++R) l=some A1/\∀ i∈l,i<A.length
 |[],A1,h=>⟨h,λ _ h=>by cases h⟩
 |i::l,A1,h=>by
  obtain⟨c,K,d,e,rfl⟩:=kw.1 h;have a:=(Ng.1 d).1;obtain⟨k1,f⟩:=lZ (R:=R) e;refine⟨kw.2 ⟨c,K,by rw[NZ a];exact d,k1,rfl⟩,λ j b=>?_⟩
  rcases Nn.1 b with rfl|b
  ·exact a
  ·exact f j b
theorem ay.mid{A A1 f R:Heap}(ix e:LN_)(g:Proofs.YtmcnpaelaieniaaGreatDoor.cK A ix=some A1)(h:Proofs.YtmcnpaelaieniaaGreatDoor.cK A e=some f)(i:(ix++e).Nodup):ay X (A++R) ((A1++R)++f):=by
 obtain⟨k1,k⟩:=lZ (R:=R) g;obtain⟨l,m⟩:=lZ (R:=R) h;have n:Proofs.YtmcnpaelaieniaaGreatDoor.cK (A++R) (List.range' A.length R.length)=some R:=rH _ R A.length λ j _=>by rw[NB aa,NY]
 refine ay.picks ((ix++List.range' A.length R.length)++e) ?_ (oQ l (oQ n k1));obtain⟨o,p,q⟩:=Nz.1 i;rw[Nz,Nz];refine⟨⟨o,PC,λ a c b d=>?_⟩,p,λ a c b d=>?_⟩
 ·have:=k a c;have:=(List.mem_range'_1.1 d).1;omega
 ·rcases Np.1 c with c|c
  ·exact q a c b d
  ·have:=m b d;have:=(List.mem_range'_1.1 c).1;omega
theorem ay.re{A A1 R:Heap}(ix:LN_)(a:Proofs.YtmcnpaelaieniaaGreatDoor.cK A ix=some A1)(b:ix.Nodup):ay X (A++R) (A1++R):=by
 have:=ay.mid (X:=X) (R:=R) ix [] a rfl (by simpa using b)
 simpa using this
theorem ay.swap{A R B:Heap}:ay X ((A++R)++B) ((A++B)++R):=ay.perm (by rw[NQ,NQ];exact Pf A OP)
theorem jt.tail{C:Heap}:∀ {S:Heap},jt K [] S->jt (C++K) (List.range C.length) S
 |[],_=>trivial
 |.seg b off vs::S,⟨⟨k,c,_,a,e,f⟩,d⟩=>⟨⟨C.length+k,c,by rw[N8];omega,by rw[NB aa,NY];exact a,e,f⟩,jt.tail d⟩
 |.tab b o::S,⟨⟨k,_,a⟩,d⟩=>⟨⟨C.length+k,by rw[N8];omega,by rw[NB aa,NY];exact a⟩,jt.tail d⟩
 |.obj ..::_,h=>h.elim
 |.own ..::_,h=>h.elim
theorem dl:∀ {A B:Heap},f7 A=true->f7 B=true->f7 (A++B)=true
 |[],_,_,h=>h
 |.seg ..::_,_,h,_=>by simp[f7] at h
 |.tab ..::_,_,h,_=>by simp[f7] at h
 |.obj ..::A,B,h,a=>dl (A:=A) h a
 |.own ..::A,B,h,a=>dl (A:=A) h a
theorem dd(e:Nat):∀ rows:List fg,f7 (rows.map (bd e))=true
 |[]=>rfl
 |_::rows=>dd e rows
theorem wF{o:Oper}{t d n c e sz b:Nat}{x y:Operand}{A:OA_}{z:Option Value}(ho:o.op=.binOp .eql t x y d)(hx:val E x=some (.slice A n c))(hy:val E y=some (.slice none 0 0))(f:tab t=some ⟨.slice e,sz,b,z⟩):
 i8 X o E H (.bool A.isNone):=by
 intro a w hA i;have g:=eZ f
 have he:(Op.equal t (.slice A n c) (.slice none 0 0)).run Tryz.prog w=.ok A.isNone w:=by
  show (Op.equalIn (9999+1) t (.slice A n c) (.slice none 0 0)).run Tryz.prog w=.ok A.isNone w;rw[Op.equalIn];simp only[Sem.run_bind,run_underlying g,Result.andThen_ok]
  cases A<;>rfl
 have hg:(eqGuard .eql t x y (.slice A n c) (.slice none 0 0)).run Tryz.prog w=.ok () w:=by simp[eqGuard]
 have hb:(binOp .eql t (.slice A n c) (.slice none 0 0)).run Tryz.prog w=.ok (.bool A.isNone) w:=by
  unfold binOp;simp only[Sem.run_bind,he,Result.andThen_ok];rfl
 refine HV ?_;rfl
theorem bK{F:Value->Env}{ops l:List Oper}{o:Oper}{f:Operand}{args:Array Operand}{ts:Array TypeId}{g:FuncId}{fst cap vs a:LV_}{R:Value->Heap->Prop}{S C:Heap}(gs:LN_)
 (T:Fn g a (aC C) (S++C) R) (m:o.op=.call ⟨.value f,args,ts⟩) (p:val E f=some (.func (.func g) fst.toArray cap.toArray)) (q:vals E args.toList=some vs) (has:fst++vs++cap=a) (k:ee g=true)
 (d:ay X H (C++K)) (r:jt K [] S) (e:∀ v,jD X.n ops gs E o v=some (F v)) (h:∀ v H',R v H'->f7 H'=true/\JL X ops l Q (F v) (H'++K)):JL X ops (o::l) Q E H:=by
 refine cD d ?_
 have hC:cK (C++K) (List.range C.length)=some C:=by
  rw[List.range_eq_range'];exact rH _ C 0 λ j s=>by rw[NR,NZ s]
 have t:cK (C++K) (List.range' C.length K.length)=some K:=rH _ K C.length λ j _=>by rw[NB aa,NY]
 exact CU (List.range C.length) (List.range' C.length K.length) gs T m p q has k r.tail OU hC (λ c k b e=>vH.2 ⟨c,k,e⟩) (λ b e=>vH.1 e) t PC
  (λ i hi=>by rw[N8];have:=(List.mem_range'_1.1 hi).1;omega) e h
noncomputable def xA(t:Nat)(name:String):Option FuncId:=match Tryz.prog.info? t with
 |some i=>match i.methods.find? (·.name==name) with
  |some m=>match m.path.isEmpty,m.func with
   |true,some (f,false)=>some f
   |_,_=>none
  |none=>none
 |none=>none
theorem z6{t s a:Nat}{fs:List (Nat×Nat×Nat)}{z:Option Value}{name:String}{g:FuncId}(h:xA t name=some g)(c:tab t=some ⟨.struct fs,s,a,z⟩)(v:Value)(w:World):
 (method (Tryz.prog.types.size+Made.depth) t v name).run Tryz.prog w=.ok (g,v) w:=by
 obtain⟨F,d,_⟩:=mu c;have e:0<Made.depth:=ab;have j:∃ k,Tryz.prog.types.size+Made.depth=k+1:=⟨Tryz.prog.types.size+Made.depth-1,aa⟩;obtain⟨k,l⟩:=j;rw[l];unfold xA at h;split at h
 ·rename_i i hi;split at h
  ·rename_i m hm;split at h
   ·rename_i f hp n;simp only[Option.some.injEq] at h;subst h;have b:m.path.toList=[]:=by simpa using hp
    unfold method;simp[typeInfo,hi,hm,b,follow,n,receiverAt,run_underlying d,Place.get]
   ·cases h
  ·cases h
 ·cases h
theorem wd{F:Value->Env}{ops l:List Oper}{o:Oper}{x:Operand}{name:String}{args:Array Operand}{ts:Array TypeId}{g t s j:Nat}{u:Value}{vs d:LV_}{fs:List (Nat×Nat×Nat)}{z:Option Value}{R:Value->Heap->Prop}{S:Heap}(gs:LN_)
 (T:Fn g d [] S R) (q:o.op=.call ⟨.invoke x name,args,ts⟩) (r:val E x=some (.iface t u)) (y:vals E args.toList=some vs) (has:u::vs=d) (hm:xA t name=some g) (A:tab t=some ⟨.struct fs,s,j,z⟩) (k:ee g=true)
 (B:jt H [] S) (i:∀ v,jD X.n ops gs E o v=some (F v)) (h:∀ v H',R v H'->f7 H'=true/\JL X ops l Q (F v) (H'++H)):JL X ops (o::l) Q E H:=by
 intro a w hA p;have hg:=(d7 (i undef)).1;refine na ?_
 left
 refine m7 ?_;have D:args.map a.eval=vs.toArray:=by rw[<- hA.vals _ _ y];exact Array.ext' ai
 have I:(execOp a.eval o).run Tryz.prog w=.ok (.enter g (u::vs).toArray) w:=by
  have m:=z6 hm A u w;simp only[execOp,q,resolve,D,hA.val r,Sem.run_bind,Sem.run_pure,Result.andThen_ok,invoke];have L:(#[Value.iface t u]++vs.toArray)[0]?=some (.iface t u):=ai;have M:(#[Value.iface t u]++vs.toArray).extract 1 (#[Value.iface t u]++vs.toArray).size=vs.toArray:=ai;simp only[L,M,callMethod,Sem.run_bind,run_program,Result.andThen_ok,m,iI k];simp
 rw[I,has];have f:dN w [] w (S++[]):=p.hand (ix:=[]) (C:=[]) B PH rfl (λ c k=>by cases k);rw[NN] at f;refine (T w f).mono ?_;rintro e w' ⟨v,H',rfl,m,N⟩;obtain⟨O,P⟩:=h v H' N;exact P _ _ (hA.putE (d7 (i v)).2) (p.back (ix:=[]) (C:=[]) (K:=H) (Mc:=[]) rfl (λ b i=>by cases i) (sP H) OU (λ _ _ h=>by cases h) m O)
theorem ri{P:Program}{ops:Array Oper}{o:Oper}{j:Nat}{Q1 l:Exit->Act->World->Prop}{K:Act->World->Prop}{a:Act}{w:World}(m:ops.toList[j]?=some o)(h:wpList P ops Q1 [o] a w)
 (p:∀ a w,Q1 .normal a w->K a w) (he:∀ e a w,e≠.normal->Q1 e a w->l e a w):wpOp P ops l j K a w:=by
 have i:ops[j]?=some o:=by simpa using m
 unfold wpOp;simp only[i];unfold wpList at h;have b:∀ g w',wpList P ops Q1 [] g w'->K g w':=λ g w' q=>p g w' q;split
 ·rename_i hw;rw[if_pos hw] at h
  rcases h with h|h
  ·left
   unfold Oper.wp at*
   generalize (execOp a.eval o).run P w=r at*
   cases r with
   |ok n w'=>
    cases n<;>simp only[Oper.upon] at h ⊢
    case value u=>exact b _ _ h
    case skip=>exact b _ _ h
    case defer d=>exact b _ _ h
    case enter f args=>
     refine h.mono λ e k c=>?_
     cases e with
     |returned u=>exact b _ _ c
     |panicked t=>exact he _ _ _ ai c
     |outgrown=>obtain⟨x,y,c⟩:=c;exact⟨x,y,he _ _ _ ai c⟩
    case row r args=>exact h.mono λ u k hu=>b _ _ hu
   |halt x w'=>cases x<;>simp only[Oper.upon] at h ⊢<;>exact he _ _ _ ai h
  ·obtain⟨s,x,y,c⟩:=h;exact .inr ⟨s,x,y,he _ _ _ ai c⟩
 ·rename_i hw;rw[if_neg hw] at h;exact b _ _ h
def Ms(X:Cx)(ops:List Oper)(Q:fb)(fuel:Nat)(listed:Array Bool):fb:=λ e E H=>match e with
 |.normal=>∀ a w,gz X.n a E->dN X.w0 X.M w H->wpAny Tryz.prog .any ops.toArray (qv X Q) fuel listed a w
 |e=>Q e E H
def JO(X:Cx)(ops:List Oper)(Q:fb)(fuel:Nat)(listed:Array Bool)(E:Env)(H:Heap):Prop:=Ms X ops Q fuel listed .normal E H
def MY(X:Cx)(ops:List Oper)(Q:fb)(fuel:Nat)(listed:Array Bool)(E:Env)(H:Heap):LN_->Prop
 |[]=>True
 |i::is=>(∃ o,ops[i]?=some o/\JL X ops [o] (Ms X ops Q fuel (listed.setIfInBounds i true)) E H)/\MY X ops Q fuel listed E H is
theorem MF{id:Nat}{l:List Oper}(h:JO X l Q l.length (Array.replicate l.length false) E H):J X (.region id l.toArray true) Q E H:=by
 intro a w b c;refine wp_region_any C7 ?_;have:=h a _ b c.drew
 simpa using this
theorem Jc{ops:List Oper}{a:Array Bool}(b:Region.ready .any ops.toArray a=[])(h:Q .normal E H):JO X ops Q 0 a E H:=λ _ _ c d=>⟨b,E,H,c,d,h⟩
theorem kW{ops:List Oper}{b:Array Bool}{fuel:Nat}(i:Nat)(is:LN_)(n:Region.ready .any ops.toArray b=i::is)(h:MY X ops Q fuel b E H (i::is)):JO X ops Q (fuel+1) b E H:=by
 intro a w r s;refine⟨λ p=>(by rw[n] at p;cases p),?_⟩;rw[n]
 have key:∀ l:LN_,MY X ops Q fuel b E H l->∀ j∈l,wpOp Tryz.prog ops.toArray (qv X Q) j (wpAny Tryz.prog .any ops.toArray (qv X Q) fuel (b.setIfInBounds j true)) a w:=by
  intro l
  induction l with
  |nil=>intro _ j f;cases f
  |cons k l t=>
   rintro⟨⟨o,u,v⟩,hl⟩ j f
   rcases Nn.1 f with rfl|f
   ·have x:=v a w r s;refine ri u x ?_ ?_
    ·rintro q w' ⟨E',H',c,d,g⟩;exact g q w' c d
    ·rintro e q w' m ⟨E',H',c,d,g⟩
     cases e with
     |normal=>exact absurd rfl m
     |_=>exact⟨E',H',c,d,g⟩
   ·exact t hl j f
 exact key _ h
def CL(Q:Exit->Act->World->Prop)(ops:Array Oper)(listed:Array Bool)(a:Act)(w:World):Prop:=Region.ready .any ops listed=[]/\Q .normal a w
def sH(ops:Array Oper):LN_->Array Bool->Bool
 |[],_=>true
 |k::l,listed=>decide (k<ops.size)&&(Region.ready .any ops listed).contains k&&Region.free .any ops listed k&&sH ops l (listed.setIfInBounds k true)
def w5:LN_->Array Bool->Array Bool
 |[],listed=>listed
 |k::l,listed=>w5 l (listed.setIfInBounds k true)
theorem ui{P:Program}{ops:Array Oper}{S:World->Prop}{Q:Exit->Act->World->Prop}(c:Region.noSelect ops=true){f:Nat}:∀ (l:LN_) (b:Array Bool) (a:Act) (w:World),HeadInv .any ops ops.size b->S w->sH ops l b=true->
 xR P ops S (λ m w'=>mR P .any ops S ops.size (CL Q ops) f (w5 l b) m w') (l.map λ k=>(k,true)) a w->mR P .any ops S ops.size (CL Q ops) (f+l.length) b a w
 |[],_,_,_,_,_,_,h=>h
 |k::l,b,a,w,inv,n,p,h=>by
  simp only[sH,N6,NX] at p;obtain⟨⟨⟨d,r⟩,s⟩,i⟩:=p;obtain⟨o,v,q,t,u⟩:=h;have e:k∈Region.ready .any ops b:=by simpa using r
  have x:=ui c l (b.setIfInBounds k true) (a.put o.dst v) w (inv.set e d) n i u;exact ru q (Region.noSelect_spec c) (by simp[rG]) d (λ g m w' y=>by rw[y.1];exact λ j z=>by cases z) (f+l.length) b a w inv (Region.free_spec q s) e t n x
def JA(X:Cx)(ops:List Oper)(Q:fb)(Sf:Heap)(fuel:Nat)(listed:Array Bool)(E:Env)(H:Heap):Prop:=∀ a w,HeadInv .any ops.toArray ops.toArray.size listed->gz X.n a E->dN X.w0 X.M w H->
 mR Tryz.prog .any ops.toArray (λ w=>dN X.w0 X.M w Sf) ops.toArray.size (CL (qv X Q) ops.toArray) fuel listed a w
def M4(X:Cx)(ops:List Oper)(Q:fb)(Sf:Heap)(fuel:Nat)(listed:Array Bool):fb:=λ e E H=>match e with
 |.normal=>(∃ ix:LN_,ix.Nodup/\cK H ix=some Sf)/\JA X ops Q Sf fuel listed E H
 |_=>False
def MW(X:Cx)(ops:List Oper)(Q:fb)(Sf:Heap)(fuel:Nat)(listed:Array Bool)(E:Env)(H:Heap):LN_->Prop
 |[]=>True
 |i::is=>(∃ o,ops[i]?=some o/\JL X ops [o] (M4 X ops Q Sf fuel (listed.setIfInBounds i true)) E H)/\MW X ops Q Sf fuel listed E H is
theorem ly{id:Nat}{l:List Oper}{Sf:Heap}(h:JA X l Q Sf l.length (Array.replicate l.length false) E H):J X (.region id l.toArray true) Q E H:=by
 intro a w e f;refine wp_region_any C7 ?_
 have b:HeadInv .any l.toArray l.toArray.size (Array.replicate l.length false):=
  ⟨ai,λ j m _ hl=>(by rw[getD_replicate_false] at hl;cases hl),λ t _ i=>getD_in (by simpa using i) (getD_replicate_false _ _)⟩
 have k:=h a _ b e f.drew;have:=kL (Q':=qv X Q) (g:=0) (λ c a w d=>⟨d.1,d.2⟩) _ _ _ _ k
 simpa using this
theorem fd{ops:List Oper}{Sf:Heap}{a:Array Bool}(b:Region.ready .any ops.toArray a=[])(h:Q .normal E H):JA X ops Q Sf 0 a E H:=λ _ _ _ c d=>⟨b,E,H,c,d,h⟩
theorem av{ops:List Oper}{Sf:Heap}{b:Array Bool}{fuel:Nat}(i:Nat)(is:LN_)(u:Region.ready .any ops.toArray b=i::is)(p:(i::is).all (λ k=>decide (k<ops.length))=true)(h:MW X ops Q Sf fuel b E H (i::is)):JA X ops Q Sf (fuel+1) b E H:=by
 intro a w inv x y;refine⟨λ v=>(by rw[u] at v;cases v),?_⟩
 have key:∀ l:LN_,(∀ j∈l,j∈Region.ready .any ops.toArray b/\j<ops.toArray.size)->MW X ops Q Sf fuel b E H l->∀ j∈l,j<ops.toArray.size/\wpOp Tryz.prog ops.toArray pQ j (λ n w'=>dN X.w0 X.M w' Sf/\mR Tryz.prog .any ops.toArray (λ w=>dN X.w0 X.M w Sf) ops.toArray.size (CL (qv X Q) ops.toArray) fuel (b.setIfInBounds j true) n w') a w:=by
  intro l
  induction l with
  |nil=>intro _ _ j c;cases c
  |cons k l z=>
   rintro hl ⟨⟨o,A,B⟩,d⟩ j c
   rcases Nn.1 c with rfl|c
   ·obtain⟨q,g⟩:=hl j ai;refine⟨g,?_⟩;have C:=B a w x y;refine ri A C ?_ ?_
    ·rintro n w' ⟨E',H',m,f,⟨ix,r,hp⟩,s⟩;exact⟨f.picks ix r hp,s n w' (inv.set q g) m f⟩
    ·rintro e n w' t ⟨E',H',m,f,s⟩
     cases e with
     |normal=>exact absurd rfl t
     |_=>exact s
   ·exact z (λ i hi=>hl i (by simp[hi])) d j c
 rw[u] at key ⊢;refine key (i::is) (λ j c=>⟨c,?_⟩) h;have:=(PM.1 p) j c
 simpa using this
theorem jU{ops:List Oper}{Sf:Heap}{b:Array Bool}{fuel:Nat}(order:LN_)(c:(Region.noSelect ops.toArray&&sH ops.toArray order b)=true)(ix:LN_)(hi:ix.Nodup)(r:cK H ix=some Sf)
 (h:JW X ops (order.map λ k=>(k,true)) Sf (λ E' H'=>JA X ops Q Sf fuel (w5 order b) E' H') E H):JA X ops Q Sf (fuel+order.length) b E H:=by
 intro a w inv s p;simp only[N6] at c;refine ui c.1 order b a w inv (p.picks ix hi r) c.2 ?_;have t:=h a w s p
 have hinv:∀ (l:LN_) (b:Array Bool),HeadInv .any ops.toArray ops.toArray.size b->sH ops.toArray l b=true->HeadInv .any ops.toArray ops.toArray.size (w5 l b):=by
  intro l
  induction l with
  |nil=>exact λ _ h _=>h
  |cons k l d=>
   intro b e q;simp only[sH,N6,NX] at q;obtain⟨⟨⟨f,u⟩,_⟩,g⟩:=q;exact d _ (e.set (by simpa using u) f) g
 have e:=hinv order b inv c.2
 have mono:∀ (Q1 i:Act->World->Prop),(∀ a w,Q1 a w->i a w)->∀ (l:LN_) a w,xR Tryz.prog ops.toArray (λ w=>dN X.w0 X.M w Sf) Q1 (l.map λ k=>(k,true)) a w->xR Tryz.prog ops.toArray (λ w=>dN X.w0 X.M w Sf) i (l.map λ k=>(k,true)) a w:=by
  intro Q1 i j l
  induction l with
  |nil=>exact λ a w h=>j a w h
  |cons k l d=>rintro a w ⟨o,v,g1,g2,g3⟩;exact⟨o,v,g1,g2,d _ _ g3⟩
 refine mono _ _ ?_ order a w t;rintro x w' ⟨E',H',m,n,j⟩;exact j x w' e m n
theorem mF{ops:List Oper}{Sf:Heap}{b:Array Bool}{fuel:Nat}(t:Nat){v v':Value}(c:ij E t=some v)(e:v=v')(h:JA X ops Q Sf fuel b ((t,v')::E) H):JA X ops Q Sf fuel b E H:=λ a w inv d f=>h a w inv (d.set c e) f
theorem iv{σ:Type}{x y:Code}(F:σ->Env)(K:σ->Heap)(c:J X x (yi (λ E' H'=>∃ s,nn E' (F s)/\ay X H' (K s)) Q) E H)(d:∀ s,J X y Q (F s) (K s)):J X (.seq x y) Q E H:=by
 refine am (BL c ?_);intro e E' H' b
 cases e with
 |normal=>obtain⟨s,f,g⟩:=b;exact λ a w h i=>d s a w (h.ents _ f) (g w i)
 |_=>exact b
open Go.Lib
def tj(b:UInt8):Bool:=b.toNat==32||b.toNat==9||b.toNat==13
def jW(r:Nat):Bool:=r==32||r==9||r==13
def da(cur:LU_):LU_->List (LU_)
 |[]=>if cur=[] then [] else [cur]
 |b::l=>if tj b then (if cur=[] then da [] l else cur::da [] l) else da (cur++[b]) l
def bB(l:LU_):List (LU_):=da [] l
theorem mN:∀ (t cur r:LU_),(∀ b∈t,tj b=false)->da cur (t++r)=da (cur++t) r
 |[],cur,r,_=>by simp
 |b::t,cur,r,h=>by
  rw[Od,da,if_neg (by rw[h b ai];decide),mN t (cur++[b]) r (λ x a=>h x (by simp[a])),NQ];rfl
theorem AA(n a b d f:Nat)(i:1<=n):1<=(decodeN n a b d f).2/\(decodeN n a b d f).2<=n/\(jW (decodeN n a b d f).1=true->(decodeN n a b d f).2=1/\jW a=true)/\
 (jW (decodeN n a b d f).1=false->jW a=false/\(2<=(decodeN n a b d f).2->128<=b)/\(3<=(decodeN n a b d f).2->128<=d)/\(4<=(decodeN n a b d f).2->128<=f))/\(decodeN n a b d f).2<=4:=by
 have hle:=decodeN_le_n' n a b d f i;obtain⟨c2,c3,c4,c5⟩:=decodeN_conts n a b d f;have key:∀ r:Nat,jW r=true↔(r=32\/r=9\/r=13):=λ r=>by simp[jW,or_assoc]
 have g:∀ r:Nat,jW r=false↔¬ (r=32\/r=9\/r=13):=λ r=>by rw[<- key];simp
 have j:1<=(decodeN n a b d f).2:=by
  rcases decodeN_cases n a b d f with ⟨c,e⟩|⟨_,_,_,_,e⟩|⟨_,_,_,_,_,e⟩|⟨_,e⟩|e<;>rw[e]<;>simp
 refine⟨j,hle,λ h=>?_,λ h=>⟨?_,λ k=>?_,λ k=>?_,λ k=>?_⟩,c5⟩
 ·rw[key] at h ⊢
  rcases decodeN_cases n a b d f with ⟨c,e⟩|⟨_,_,_,_,e⟩|⟨_,_,_,_,_,e⟩|⟨c,e⟩|e
  ·rw[e] at h ⊢;exact⟨rfl,h⟩
  ·rw[e] at h;dsimp only at h;omega
  ·rw[e] at h;dsimp only at h;omega
  ·omega
  ·rw[e] at h;dsimp only at h;omega
 ·rw[g] at h ⊢
  rcases decodeN_cases n a b d f with ⟨c,e⟩|⟨c,_,_,_,e⟩|⟨c,_,_,_,_,e⟩|⟨c,e⟩|e
  ·rw[e] at h;exact h
  ·omega
  ·omega
  ·intro l;have:decodeN n a b d f=(a,1):=by unfold decodeN;rw[if_pos aa]
   rw[this] at e;simp at e
  ·intro l;have:decodeN n a b d f=(a,1):=by unfold decodeN;rw[if_pos aa]
   rw[this] at e;simp only[N3] at e;omega
 ·have:=(c2 k).1;omega
 ·have:=(c3 k).1;omega
 ·have:=(c4 k).1;omega
theorem vU(s:ByteArray)(i:Nat)(h:i<s.size):s.data.toList[i]?=some (s.get! i):=by
 obtain⟨⟨l⟩⟩:=s;have a:i<l.length:=h;show l[i]?=_;rw[be a];simp only[ByteArray.get!,Nc];show l[i]=l.toArray[i]!;rw[getElem!_pos l.toArray i (by simpa using a)];simp
theorem zP(b:UInt8):tj b=jW b.toNat:=rfl
theorem EN(s:ByteArray)(i:Nat)(h:i<s.size):1<=(Utf8.decode s i).2/\i+(Utf8.decode s i).2<=s.size/\
 (jW (Utf8.decode s i).1=true->(Utf8.decode s i).2=1/\∃ b,s.data.toList[i]?=some b/\tj b=true)/\
 (jW (Utf8.decode s i).1=false->∀ b∈(s.data.toList.drop i).take (Utf8.decode s i).2,tj b=false):=by
 rw[decode_at];obtain⟨k,p,f,l,q⟩:=AA (s.size-i) (s.get! i).toNat (s.get! (i+1)).toNat (s.get! (i+2)).toNat (s.get! (i+3)).toNat aa;refine⟨k,aa,λ d=>⟨(f d).1,_,vU s i h,by rw[zP];exact (f d).2⟩,λ d b m=>?_⟩;obtain⟨g0,g1,g2,g3⟩:=l d;obtain⟨j,c,e⟩:=Pq m;rw[NE,Oe] at c;rw[PD,List.getElem_drop] at e;have n:s.data.toList.length=s.size:=(size_eq s).symm;have g:s.data.toList[i+j]?=some b:=by rw[be aa,e]
 have o:=vU s (i+j) aa;rw[o] at g;obtain rfl:=NK g;have a:∀ r:Nat,128<=r->jW r=false:=λ r t=>by simp[jW];omega
 rw[zP]
 match j,c with
 |0,_=>exact g0
 |1,c=>exact a _ (g1 aa)
 |2,c=>exact a _ (g2 aa)
 |3,c=>exact a _ (g3 aa)
 |j+4,c=>omega
def nN(s:ByteArray)(x:Nat×Nat):LU_:=(s.extract x.1 x.2).data.toList
theorem DH(s:ByteArray):∀ (f pos:Nat) (st:Option Nat) (acc:List (Nat×Nat)),s.size<=pos+f->pos<=s.size->(∀ a,st=some a->a<pos)->
 (closeSpans s (spansFromP jW s f pos st acc)).map (nN s)=acc.map (nN s)++da (openPiece s.data.toList st pos) (s.data.toList.drop pos):=by
 have t:s.data.toList.length=s.size:=(size_eq s).symm
 have fin:∀ (f pos:Nat) (st:Option Nat) (acc:List (Nat×Nat)),pos=s.size->(∀ a,st=some a->a<pos)->
  (closeSpans s (spansFromP jW s f pos st acc)).map (nN s)=acc.map (nN s)++da (openPiece s.data.toList st pos) (s.data.toList.drop pos):=by
  intro f pos st acc hp p;rw[spansFromP_end jW s f pos st acc aa,List.drop_eq_nil_of_le aa]
  cases st with
  |none=>simp[closeSpans,da,openPiece]
  |some a=>
   have c:=p a rfl;have g:pieceU s.data.toList a pos≠[]:=pieceU_ne _ _ _ c aa;have i:nN s (a,s.size)=pieceU s.data.toList a pos:=by unfold nN pieceU;rw[extract_eq,hp]
   simp only[closeSpans,da,openPiece,g,↓reduceIte,NI,Nv,Og,i]
 intro f
 induction f with
 |zero=>exact λ pos st acc u v k=>fin 0 pos st acc aa k
 |succ f o=>
  intro pos st acc u v k;by_cases c:pos<s.size
  ·obtain⟨d1,d2,d3,d4⟩:=EN s pos c
   have d:s.data.toList.drop pos=(s.data.toList.drop pos).take (Utf8.decode s pos).2++s.data.toList.drop (pos+(Utf8.decode s pos).2):=by
    rw[<- List.drop_drop,Oa]
   unfold spansFromP;rw[if_pos c]
   cases q:jW (Utf8.decode s pos).1 with
   |true=>
    obtain⟨r,b,w,l⟩:=d3 q
    have j:s.data.toList.drop pos=b::s.data.toList.drop (pos+1):=by
     obtain⟨hl,e⟩:=Ng.1 w;rw[N5 hl,e]
    rw[if_pos rfl,j]
    cases st with
    |none=>
     simp only;rw[o _ none acc aa aa (λ a h=>by cases h),r];simp[openPiece,da,l]
    |some a=>
     have m:=k a rfl;have g:pieceU s.data.toList a pos≠[]:=pieceU_ne _ _ _ m aa;simp only;rw[o _ none _ aa aa (λ a h=>by cases h),r];have i:nN s (a,pos)=pieceU s.data.toList a pos:=by unfold nN pieceU;rw[extract_eq]
     simp only[openPiece,da,l,↓reduceIte,g,NI,Nv,Og,NQ,List.singleton_append,i]
   |false=>
    have n:=d4 q;rw[if_neg ab]
    have hw:∀ cur,da cur (s.data.toList.drop pos)=da (cur++(s.data.toList.drop pos).take (Utf8.decode s pos).2) (s.data.toList.drop (pos+(Utf8.decode s pos).2)):=by
     intro cur
     conv=>lhs;rw[d]
     exact mN _ _ _ n
    cases st with
    |none=>
     simp only;rw[o _ (some pos) acc aa aa (λ a h=>by obtain rfl:=NK h;omega),hw]
     congr 2
     show pieceU _ _ _=[]++_;unfold pieceU;rw[Oq,NY]
    |some a=>
     have m:=k a rfl;simp only;rw[o _ (some a) acc aa aa (λ x h=>by obtain rfl:=NK h;omega),hw]
     congr 2
     exact (pieceU_grow _ _ _ _ aa).symm
  ·exact fin (f+1) pos st acc aa k
theorem vD(s:ByteArray):(goFieldsP jW s).map (·.data.toList)=bB s.data.toList:=by
 unfold goFieldsP spansOfP bB;rw[OG];have:=DH s s.size 0 none [] aa aa (λ a h=>by cases h);rw[Og,Oq,List.drop_zero] at this;exact this
def cL(c:UInt8)(cur:LU_):LU_->List (LU_)
 |[]=>[cur]
 |b::l=>if b=c then cur::cL c [] l else cL c (cur++[b]) l
def aB(l:LU_):List (LU_):=if l=[] then [] else cL 10 [] (trimSuffix l [10])
theorem mK(c:UInt8):∀ (l cur:LU_),(∀ b∈l,b≠c)->cL c cur l=[cur++l]
 |[],cur,_=>by simp[cL]
 |b::l,cur,h=>by rw[cL,if_neg (h b ai),mK c l _ (λ x a=>h x (by simp[a])),NQ];rfl
theorem rd(c:UInt8):∀ (l cur r:LU_),(∀ b∈l,b≠c)->cL c cur (l++c::r)=(cur++l)::cL c [] r
 |[],cur,r,_=>by simp[cL]
 |b::l,cur,r,h=>by rw[Od,cL,if_neg (h b ai),rd c l _ r (λ x a=>h x (by simp[a])),NQ];rfl
theorem wC(c:UInt8):∀ (k:Nat) (s:ByteArray),countB s ⟨#[c]⟩=k->(splitB ⟨#[c]⟩ 0 k s).map (·.data.toList)=cL c [] s.data.toList
 |k,s,t=>by
  rcases indexB_cases s ⟨#[c]⟩ with h|⟨i,h,hi⟩
  ·have g:indexByte s.data.toList c=-1:=by rw[← index_one];exact h
   rw[splitB_miss _ _ _ _ h,mK c _ _ (λ b l e=>by
    obtain⟨j,m,f⟩:=Pq l;exact indexByte_none g j (by rw[be m,f,e]))]
   simp
  ·have g:indexByte s.data.toList c=i:=by rw[← index_one];exact h
   obtain⟨p,q⟩:=indexByte_some g;have n:=countB_hit s ⟨#[c]⟩ i (Nr 1) h;have a:(⟨#[c]⟩:ByteArray).size=1:=rfl;rw[a] at n;obtain⟨o,rfl⟩:∃ o,k=o+1:=⟨countB (s.extract (i+1) s.size) ⟨#[c]⟩,aa⟩;have r:=wC c o (s.extract (i+1) s.size) aa;have hl:i<s.data.toList.length:=(Ng.1 p).1
   have d:s.data.toList=s.data.toList.take i++c::s.data.toList.drop (i+1):=by
    have e:s.data.toList.drop i=c::s.data.toList.drop (i+1):=by
     rw[N5 hl,(Ng.1 p).2]
    rw[<- e,Oa]
   rw[splitB_hit _ _ _ _ i h,a,Nv,r,extract_to_end]
   conv=>rhs;rw[d]
   rw[rd c _ _ _ (λ b l e=>by
    obtain⟨j,m,f⟩:=Pq l;rw[NE] at m;rw[PD] at f;exact q j aa (by rw[be aa,f,e]))]
   rw[Oq,extract_eq];simp
def sd(b:UInt8):Bool:=decide (48<=b.toNat/\b.toNat<=57)
def jP(acc:Nat)(l:LU_):Nat:=l.foldl (λ n b=>n*10+(b.toNat-48)) acc
def dA(l:LU_):Int×Int:=
 let neg:=l.head?=some 45
 let d:=if neg then l.drop 1 else l
 if d=[]\/¬ d.all sd then (0,2) else
 if neg then (if jP 0 d<=9223372036854775808 then (-(jP 0 d:Int),0) else (0,3))
 else (if jP 0 d<=9223372036854775807 then ((jP 0 d:Int),0) else (0,3))
theorem Cb:∀ (l:LU_) (acc:Nat),acc<=jP acc l
 |[],_=>Nr _
 |b::l,acc=>by
  have:=Cb l (acc*10+(b.toNat-48));show acc<=jP (acc*10+(b.toNat-48)) l;omega
theorem wq:∀ (l:LU_) (acc:Nat),acc<=18446744073709551615->l.all sd=true->parseUintM 18446744073709551615 acc l=if jP acc l<=18446744073709551615 then .ok (jP acc l) else .range
 |[],acc,h,_=>by rw[if_pos (by exact h)];rfl
 |b::l,acc,h,a=>by
  rw[Pi,N6] at a;have e:48<=b.toNat/\b.toNat<=57:=by simpa [sd] using a.1
  have f:=Cb l (acc*10+(b.toNat-48));have g:jP acc (b::l)=jP (acc*10+(b.toNat-48)) l:=rfl;unfold parseUintM;rw[if_pos e,g];by_cases c:1844674407370955162<=acc
  ·rw[if_pos c,if_neg aa]
  ·rw[if_neg c];by_cases d:18446744073709551615<acc*10+(b.toNat-48)
   ·rw[if_pos d,if_neg aa]
   ·rw[if_neg d];exact wq l _ aa a.2
theorem Fd(cs:LU_):∀ l:LU_,trimS l cs=[]↔∀ b∈l,cs.contains b=true:=by
 have d:∀ l:LU_,l.dropWhile (cs.contains ·)=[]↔∀ b∈l,cs.contains b=true:=by
  intro l
  induction l with
  |nil=>simp
  |cons b l f=>
   rw[PR]
   cases a:cs.contains b with
   |true=>rw[if_pos rfl,f];simp only[Nn,forall_eq_or_imp,a,true_and]
   |false=>
    rw[if_neg ab];exact⟨λ h=>by simp at h,λ h=>by rw[h b ai] at a;cases a⟩
 intro l;unfold trimS trimLeftS trimRightS;rw[d]
 constructor
 ·intro h
  have:l.reverse.dropWhile (cs.contains ·)=[]:=by
   cases e:l.reverse.dropWhile (cs.contains ·) with
   |nil=>rfl
   |cons x r=>
    have g:=h x (by rw[e];simp);have c:=List.head?_dropWhile_not (cs.contains ·) l.reverse;rw[e] at c;simp only[PV] at c;rw[g] at c;simp at c
  intro b a;exact (d l.reverse).1 this b (by simpa using a)
 ·intro h b a
  exact h b (by
   have:=List.mem_reverse.1 a
   simpa using (List.dropWhile_sublist (cs.contains ·)).subset this)
theorem tJ(b:UInt8):([48,49,50,51,52,53,54,55,56,57]:LU_).contains b=sd b:=by
 have key:∀ i:Fin 256,([48,49,50,51,52,53,54,55,56,57]:LU_).contains (UInt8.ofNat i.val)=sd (UInt8.ofNat i.val):=by decide+kernel
 have:=key ⟨b.toNat,b.toNat_lt⟩
 simpa using this
theorem LJ(l:LU_)(d:LU_)(q:d=trimPrefix l [45]):
 (d=[]\/trimS d [48,49,50,51,52,53,54,55,56,57]≠[]->dA l=(0,2))/\
 (¬ (d=[]\/trimS d [48,49,50,51,52,53,54,55,56,57]≠[])->(∃ v,parseIntB 64 l=.ok v/\dA l=(v,0))\/(parseIntB 64 l=.range/\dA l=(0,3))):=by
 have a:d=if l.head?=some 45 then l.drop 1 else l:=by
  rw[q];unfold trimPrefix hasPrefix
  cases l with
  |nil=>simp
  |cons b l=>
   by_cases f:b=45
   ·subst f;simp[List.isPrefixOf]
   ·have:¬ (45:UInt8)=b:=λ e=>f e.symm;simp[List.isPrefixOf,f,this]
 have n:trimS d [48,49,50,51,52,53,54,55,56,57]≠[]↔¬ d.all sd=true:=by
  rw[ne_eq,Fd];simp only[tJ,PM]
 rw[n]
 constructor
 ·intro h;unfold dA;simp only;rw[<- a,if_pos h]
 ·intro h;obtain⟨o,g⟩:=not_or.1 h;have g:=No.1 g
  have m:dA l=if l.head?=some 45 then (if jP 0 d<=9223372036854775808 then (-(jP 0 d:Int),0) else (0,3)) else (if jP 0 d<=9223372036854775807 then ((jP 0 d:Int),0) else (0,3)):=by
   unfold dA;simp only;rw[<- a,if_neg h]
  have p:parseUintB 64 d=if jP 0 d<=18446744073709551615 then .ok (jP 0 d) else .range:=by
   unfold parseUintB;rw[if_neg o];exact wq d 0 aa g
  cases l with
  |nil=>rw[a] at o;simp at o
  |cons b r=>
   by_cases f:b=45
   ·subst f;have c:d=r:=by rw[a];rfl
    rw[if_pos (show (45::r).head?=some 45 from rfl)] at m
    have hP:parseIntB 64 (45::r)=match parseUintB 64 r with
     |NumEnd.syntax=>NumEnd.syntax
     |.range=>.range
     |.ok u=>if 2^63<u then .range else .ok (-(u:Int)):=by
     unfold parseIntB;simp;rfl
    rw[m,hP,<- c,p];by_cases i:jP 0 d<=18446744073709551615
    ·rw[if_pos i];simp only;by_cases j:jP 0 d<=9223372036854775808
     ·rw[if_neg aa,if_pos j];exact .inl ⟨_,rfl,rfl⟩
     ·rw[if_pos aa,if_neg j];exact .inr ⟨rfl,rfl⟩
    ·rw[if_neg i,if_neg aa];exact .inr ⟨rfl,rfl⟩
   ·have c:d=b::r:=by rw[a,if_neg (by simp[f])]
    rw[if_neg (by simp[f])] at m;have k:sd b=true:=by rw[c] at g;simp at g;exact g.1
    have s:48<=b.toNat/\b.toNat<=57:=by simpa [sd] using k
    have hP:parseIntB 64 (b::r)=match parseUintB 64 (b::r) with
     |NumEnd.syntax=>NumEnd.syntax
     |.range=>.range
     |.ok u=>if 2^63<=u then .range else .ok (u:Int):=by
     have t:¬ b.toNat=45:=aa;have w:¬ b.toNat=43:=aa;unfold parseIntB;simp[t,w];rfl
    rw[m,hP,<- c,p];by_cases i:jP 0 d<=18446744073709551615
    ·rw[if_pos i];simp only;by_cases j:jP 0 d<=9223372036854775807
     ·rw[if_neg aa,if_pos j];exact .inl ⟨_,rfl,rfl⟩
     ·rw[if_pos aa,if_neg j];exact .inr ⟨rfl,rfl⟩
    ·rw[if_neg i,if_neg aa];exact .inr ⟨rfl,rfl⟩
def dk(l:LU_):Value:=.string ⟨l.toArray⟩
theorem cS(l:LU_):(⟨l.toArray⟩:ByteArray).size=l.length:=by show l.toArray.size=_;simp
theorem qW(l:LU_):(⟨l.toArray⟩:ByteArray).toList=l:=by rw[ByteArray.toList_eq]
theorem iS(l m:LU_):((⟨l.toArray⟩:ByteArray).toList==(⟨m.toArray⟩:ByteArray).toList)=dR (l=m):=by
 rw[qW,qW];by_cases h:l=m
 ·rw[aQ h,h];simp
 ·rw[aU h];simpa using h
section
variable {X:Cx} {E:Env} {H:Heap}
theorem iW{o:Oper}{t d:Nat}{x y:Operand}{l m:LU_}(f:o.op=.binOp .add t x y d)(g:val E x=some (dk l))(i:val E y=some (dk m))(h:l.length+m.length<=9223372036854775807):i8 X o E H (dk (l++m)):=by
 intro a w b j;have c:=run_string_add_sum (P:=Tryz.prog) (w:=w) ⟨l.toArray⟩ ⟨m.toArray⟩ (by rw[cS,cS];exact h)
 have e:(⟨l.toArray⟩:ByteArray)++⟨m.toArray⟩=⟨(l++m).toArray⟩:=by
  apply ByteArray.ext
  rw[ByteArray.data_append];simp
 rw[e] at c;unfold dk at*;simp[execOp,f,b.val g,b.val i,sM,c,binOp]
theorem tq{o:Oper}{t a:Nat}{x y:Operand}{l m:LU_}(b:o.op=.binOp .eql t x y a)(c:val E x=some (dk l))(d:val E y=some (dk m)):i8 X o E H (.bool (dR (l=m))):=by
 have h:i8 X o E H (.bool ((⟨l.toArray⟩:ByteArray).toList==(⟨m.toArray⟩:ByteArray).toList)):=mc (by rw[b];simp only[tk,c,d,dk];rfl);rw[iS] at h;exact h
theorem B5{o:Oper}{t a:Nat}{x y:Operand}{l m:LU_}(b:o.op=.binOp .neq t x y a)(c:val E x=some (dk l))(d:val E y=some (dk m)):i8 X o E H (.bool (dR (l≠m))):=by
 have h:i8 X o E H (.bool (!((⟨l.toArray⟩:ByteArray).toList==(⟨m.toArray⟩:ByteArray).toList))):=mc (by rw[b];simp only[tk,c,d,dk];rfl);rw[iS] at h
 have e:(!(dR (l=m)))=dR (l≠m):=by
  by_cases h:l=m
  ·rw[aQ h,aU (λ k=>k h)];rfl
  ·rw[aU h,aQ h];rfl
 rw[e] at h;exact h
theorem tx{o:Oper}{t s1 s2 i:Nat}{x ix:Operand}{l:LU_}{b:UInt8}{k:IntKind}{z:Option Value}(h:o.op=.index t x ix)(e:val E x=some (dk l))(hi:val E ix=some (.int k (i:Int)))
 (j:tab t=some ⟨.string,s1,s2,z⟩) (f:l[i]?=some b):i8 X o E H (.int .u8 (b.toNat:Int)):=by
 intro a w g n;have c:=(Ng.1 f).1;have d:=cS l
 have m:(⟨l.toArray⟩:ByteArray)[i]?=some b:=by
  rw[getElem?_pos _ _ (by rw[d];exact c)];show some (l.toArray[i])=_;rw[<- f,be c];simp
 unfold dk at e;simp[execOp,h,g.val e,g.val hi,Instr.index,asIntOf,run_underlying (ku j),m]
theorem Gi{o:Oper}{t s1 s2 i:Nat}{x c:Operand}{l:LU_}{k:IntKind}{z:Option Value}(g:o.op=.slice t x (some c) none none)(d:val E x=some (dk l))(b:val E c=some (.int k (i:Int)))
 (h:tab t=some ⟨.string,s1,s2,z⟩) (hi:i<=l.length):i8 X o E H (dk (l.drop i)):=by
 intro a w e m;have f:=ku h;have j:=run_slice_string_l (P:=Tryz.prog) (w:=w) (t:=t) (s:=⟨l.toArray⟩) f k (i:Int) aa (by rw[cS];omega);unfold dk at d;simp[execOp,g,e.val d,e.val b,run_sliceAt_string w t _ _ _ _ f,j,dk];rw[Go.Lib.extract_eq,Oh (by rw[Oe];simp[cS])]
end
theorem Fn.of_same{f:FuncId}{args:LV_}{H:Heap}{v:Value}{R:Value->Heap->Prop}(h:∀ w,Calls Tryz.prog f args.toArray w λ e w'=>e=.returned v/\w'=w)(b:R v []):Fn f args [] H R:=λ w hw=>
 (h w).mono λ e w' ⟨he,a⟩=>⟨v,[],he,(by subst a;exact hw.mono (λ c d=>by cases d) List.Pairwise.nil),b⟩
theorem oU{w w':World}{H:Heap}(hw:dN w [] w H)(a:Below w.heap.size w w'):dN w [] w' []:=
 ⟨a.os,a.tape,a.output,a.size,λ k d _=>a.block k d,λ c b=>absurd b Nt,λ c b=>absurd b Nt,List.Pairwise.nil⟩
theorem Fn.of_below{f:FuncId}{args:LV_}{H:Heap}{R:Value->Heap->Prop}(h:∀ w,dN w [] w H->Calls Tryz.prog f args.toArray w λ e w'=>∃ v,e=.returned v/\Below w.heap.size w w'/\R v []):Fn f args [] H R:=λ w hw=>
 (h w hw).mono λ e w' ⟨v,he,a,b⟩=>⟨v,[],he,oU hw a,b⟩
variable {X:Cx} {Q:fb} {E E':Env} {H H' K Sf:Heap}
abbrev af(x:Int):Value:=.int .i64 x
abbrev aL(b o:Nat):OA_:=some ⟨b,o,none⟩
abbrev ap(b o:Nat):Value:=.pointer (some ⟨b,o,none⟩)
abbrev ax(b o n c:Nat):Value:=.slice (some ⟨b,o,none⟩) n c
theorem bz{b off:Nat}{vs:LV_}(k:Nat)(h:H[k]?=some (.seg b off vs)):∃ k c,k∉([]:LN_)/\H[k]?=some c/\c.shows b off vs/\(vs=[]\/c.at_=some b):=⟨k,_,by simp,h,bq _ _ _,cC⟩
theorem ew{b e:Nat}{vs:LV_}(k:Nat)(h:H[k]?=some (blk b e vs)):∃ k c,k∉([]:LN_)/\H[k]?=some c/\c.shows b 0 vs/\(vs=[]\/c.at_=some b):=⟨k,_,by simp,h,aS _ _ _ (0,0),.inr rfl⟩
theorem ff{g e sz n cap:Nat}{A:OA_}{xs:LV_}(k:Nat)(h:H[k]?=some (.own (.slice A n cap) e sz n xs))(hA:xs≠[]->A=some ⟨g,0,none⟩):∃ k c,k∉([]:LN_)/\H[k]?=some c/\c.shows g 0 xs/\(xs=[]\/c.at_=some g):=⟨k,_,by simp,h,bC hA,bW hA⟩
theorem fX{c:aY}{b off:Nat}{vs:LV_}(k:Nat)(h:H[k]?=some c)(h1:c.shows b off vs)(h2:vs=[]\/c.at_=some b):∃ k c,k∉([]:LN_)/\H[k]?=some c/\c.shows b off vs/\(vs=[]\/c.at_=some b):=⟨k,c,by simp,h,h1,h2⟩
theorem b6{ops:List Oper}{ops0:List Oper}{rest:List (Nat×Bool)}{P:Env->Heap->Prop}(ix:LN_)(h:JW X ops0 rest Sf P E H)(h1:ix.Nodup:=by decide)(h2:cK H ix=some Sf:=by exact rfl):JL X ops [] (Is X ops0 rest Sf P) E H:=ah ⟨⟨ix,h1,h2⟩,h⟩
theorem bj{ops l:List Oper}{o:Oper}{t b i e:Nat}{x:Operand}{cs:LV_}{v:Value}(k:Nat)(h:JL X ops l Q E' H)(h1:(o.op,val E x,H[k]?,fQ t cs i)=(.load t x,some (.pointer (some ⟨b,i,none⟩)),some (blk b e cs),some v):=by exact rfl)(hb:jD X.n ops [] E o v=some E':=by exact rfl):JL X ops (o::l) Q E H:=by
 simp only[N3] at h1;exact ae [] (a8 k h1.1 h1.2.1 h1.2.2.1 h1.2.2.2) hb h
theorem aF{ops l:List Oper}{o:Oper}{v:Value}(hv:i8 X o E H v)(h:JL X ops l Q E' H)(hb:jD X.n ops [] E o v=some E':=by exact rfl):JL X ops (o::l) Q E H:=ae [] hv hb h
theorem bh{ops:List Oper}{rest:List (Nat×Bool)}{k:Nat}{o:Oper}{v:Value}{K:Env->Heap->Prop}(ho:ops[k]?=some o)(hv:i8 X o E Sf v)(h:JW X ops rest Sf K E' H)(hb:jD X.n ops [] E o v=some E':=by exact rfl):JW X ops ((k,true)::rest) Sf K E H:=aG [] ho hv hb h
section
variable {F:Value->Env} {ops l:List Oper} {o:Oper} {f:Operand} {args:Array Operand} {ts:Array TypeId} {g:FuncId} {fst cap vs args':LV_} {R:Value->Heap->Prop} {S C G:Heap} {V:Value}
theorem dG(T:Fn g args' [] S R)(h1:(o.op,val E f,vals E args.toList,fst++vs++cap)=(.call ⟨.value f,args,ts⟩,some (.func (.func g) fst.toArray cap.toArray),some vs,args'))
 (hS:jt H [] S) (h:∀ v H',R v H'->f7 H'=true/\JL X ops l Q (F v) (H'++H)) (hc:ee g=true:=by kernel_rfl) (hb:∀ v,jD X.n ops [] E o v=some (F v):=by exact λ _=>rfl):JL X ops (o::l) Q E H:=by
 simp only[N3] at h1;exact bA [] T h1.1 h1.2.1 h1.2.2.1 h1.2.2.2 hc hS hb h
theorem eW(T:Fn g args' [] S R)(h1:(o.op,val E f,vals E args.toList,fst++vs++cap)=(.call ⟨.value f,args,ts⟩,some (.func (.func g) fst.toArray cap.toArray),some vs,args'))
 (hS:jt H [] S) (h:∀ v H',R v H'->JL X ops l Q (F v) (H'++H)) (hc:ee g=true:=by kernel_rfl) (hb:∀ v,jD X.n ops [] E o v=some (F v):=by exact λ _=>rfl)
 (hn:∀ v H',R v H'->f7 H'=true:=by rintro _ _ _h;repeat (first|exact (by subst _h;rfl)|obtain⟨_,_h⟩:=_h)):JL X ops (o::l) Q E H:=dG T h1 hS (λ v H' k=>⟨hn v H' k,h v H' k⟩) hc hb
theorem cj(T:Fn g args' [] S λ v H'=>v=V/\H'=G)(h1:(o.op,val E f,vals E args.toList,fst++vs++cap)=(.call ⟨.value f,args,ts⟩,some (.func (.func g) fst.toArray cap.toArray),some vs,args'))
 (hS:jt H [] S) (h:JL X ops l Q (F V) (G++H)) (hc:ee g=true:=by kernel_rfl) (hb:∀ v,jD X.n ops [] E o v=some (F v):=by exact λ _=>rfl) (hn:f7 G=true:=by exact rfl):JL X ops (o::l) Q E H:=
 dG T h1 hS (λ v H' k=>by obtain⟨rfl,rfl⟩:=k;exact⟨hn,h⟩) hc hb
theorem dI(T:Fn g args' (aC C) (S++C) R)(h1:(o.op,val E f,vals E args.toList,fst++vs++cap)=(.call ⟨.value f,args,ts⟩,some (.func (.func g) fst.toArray cap.toArray),some vs,args'))
 (hfit:ay X H (C++K)) (hS:jt K [] S) (h:∀ v H',R v H'->f7 H'=true/\JL X ops l Q (F v) (H'++K)) (hc:ee g=true:=by kernel_rfl) (hb:∀ v,jD X.n ops [] E o v=some (F v):=by exact λ _=>rfl):JL X ops (o::l) Q E H:=by
 simp only[N3] at h1;exact bK [] T h1.1 h1.2.1 h1.2.2.1 h1.2.2.2 hc hfit hS hb h
theorem rW(T:Fn g args' (aC C) (S++C) R)(h1:(o.op,val E f,vals E args.toList,fst++vs++cap)=(.call ⟨.value f,args,ts⟩,some (.func (.func g) fst.toArray cap.toArray),some vs,args'))
 (hfit:ay X H (C++K)) (hS:jt K [] S) (h:∀ v H',R v H'->JL X ops l Q (F v) (H'++K)) (hc:ee g=true:=by kernel_rfl) (hb:∀ v,jD X.n ops [] E o v=some (F v):=by exact λ _=>rfl)
 (hn:∀ v H',R v H'->f7 H'=true:=by rintro _ _ _h;repeat (first|exact (by subst _h;rfl)|obtain⟨_,_h⟩:=_h)):JL X ops (o::l) Q E H:=dI T h1 hfit hS (λ v H' k=>⟨hn v H' k,h v H' k⟩) hc hb
theorem iy(T:Fn g args' (aC C) (S++C) λ v H'=>v=V/\H'=G)(h1:(o.op,val E f,vals E args.toList,fst++vs++cap)=(.call ⟨.value f,args,ts⟩,some (.func (.func g) fst.toArray cap.toArray),some vs,args'))
 (hfit:ay X H (C++K)) (hS:jt K [] S) (h:JL X ops l Q (F V) (G++K)) (hc:ee g=true:=by kernel_rfl) (hb:∀ v,jD X.n ops [] E o v=some (F v):=by exact λ _=>rfl) (hn:f7 G=true:=by exact rfl):JL X ops (o::l) Q E H:=
 dI T h1 hfit hS (λ v H' k=>by obtain⟨rfl,rfl⟩:=k;exact⟨hn,h⟩) hc hb
end
theorem dE{ops l:List Oper}{o:Oper}{t b i e:Nat}{x y:Operand}{v:Value}{cs cs':LV_}(k:Nat)(h:JL X ops l Q E' (H.set k (blk b e cs')))(h1:(o.op,val E x,val E y,H[k]?,rj t cs i v.cells.toList)=(.store t x y,some (.pointer (some ⟨b,i,none⟩)),some v,some (blk b e cs),some cs'):=by exact rfl)(hb:jD X.n ops [] E o undef=some E':=by exact rfl):JL X ops (o::l) Q E H:=by
 simp only[N3] at h1;exact ur k h1.1 h1.2.1 h1.2.2.1 h1.2.2.2.1 h1.2.2.2.2 [] hb h
theorem cW{ops:List Oper}(gs:LN_){l:List Oper}(k:Q .normal E' H)(h:IM X.n ops gs E l=(E',[]):=by exact rfl):JL X ops l Q E H:=db gs h k
theorem bp{ops l l':List Oper}(gs:LN_)(k:JL X ops l' Q E' H)(h:IM X.n ops gs E l=(E',l'):=by exact rfl):JL X ops l Q E H:=fV gs h k
theorem dt{ops l:List Oper}(t:Nat){p:Prop}(hv:ij E t=some (.bool (dR p)))(hp:p)(h:JL X ops l Q ((t,.bool true)::E) H):JL X ops l Q E H:=aA t hv (Na Value.bool (aQ hp)) h
theorem dc{ops l:List Oper}(t:Nat){p:Prop}(hv:ij E t=some (.bool (dR p)))(hp:¬ p)(h:JL X ops l Q ((t,.bool false)::E) H):JL X ops l Q E H:=aA t hv (Na Value.bool (aU hp)) h
theorem nd{c:Code}(t:Nat){p:Prop}(hv:ij E t=some (.bool (dR p)))(hp:p)(h:J X c Q ((t,.bool true)::E) H):J X c Q E H:=bD t hv (Na Value.bool (aQ hp)) h
theorem lQ{c:Code}(t:Nat){p:Prop}(hv:ij E t=some (.bool (dR p)))(hp:¬ p)(h:J X c Q ((t,.bool false)::E) H):J X c Q E H:=bD t hv (Na Value.bool (aU hp)) h
theorem lF{c:Code}(t:Nat){l:LU_}(m:LU_)(h:J X c Q ((t,.bool false)::E) H)(hv:ij E t=some (.bool ((⟨l.toArray⟩:ByteArray).toList==(⟨m.toArray⟩:ByteArray).toList)):=by exact rfl)(hp:¬ l=m:=by first|assumption|decide):J X c Q E H:=bD t hv (Na Value.bool ((iS _ m).trans (aU hp))) h
theorem tm{c:Code}(t:Nat)(m:LU_)(h:J X c Q ((t,.bool true)::E) H)(hv:ij E t=some (.bool ((⟨m.toArray⟩:ByteArray).toList==(⟨m.toArray⟩:ByteArray).toList)):=by exact rfl):J X c Q E H:=bD t hv (Na Value.bool ((iS _ m).trans (aQ rfl))) h
theorem dD {F:Nat→Env} {ops l:List Oper} {o:Oper} {e sz by_:Nat} {uk:UK} {v:Value} {cs:List Value} (h:∀ b,JL X ops l Q (F b) (blk b e cs::H)) (ho:o.op=.alloc e:=by exact rfl) (ht:tab e=some ⟨uk,sz,by_,some v⟩:=by exact rfl) (hc:v.cells=cs.toArray:=by exact rfl)
 (hb:∀ b,jD X.n ops [] E o (.pointer (some ⟨b,0,none⟩))=some (F b):=by exact λ _=>rfl):JL X ops (o::l) Q E H:=nD ho ht hc hb h
theorem cY {F:Nat→Env} {ops l:List Oper} {o:Oper} {e:Nat} {x:Operand} {v:Value} {cs:List Value} (h:∀ b,JL X ops l Q (F b) (blk b e cs::H)) (ho:o.op=.box e x:=by exact rfl) (hx:val E x=some v:=by exact rfl) (hc:v.cells=cs.toArray:=by exact rfl)
 (hb:∀ b,jD X.n ops [] E o (.pointer (some ⟨b,0,none⟩))=some (F b):=by exact λ _=>rfl):JL X ops (o::l) Q E H:=Bi ho hx hc hb h
theorem dp {F:Nat→Env} {ops l:List Oper} {o:Oper} {t e n sz by_ sz' by':Nat} {ps:Array (Nat×Operand)} {vs:List (Nat×Value)} {uk:UK} {zv:Value} {z:Option Value} {cs:List Value} (h:∀ b,JL X ops l Q (F b) (blk b e cs::H)) (ho:o.op=.buildSlice t n ps:=by exact rfl)
 (hp:rg E ps.toList=some vs:=by exact rfl) (ht:tab t=some ⟨.slice e,sz',by',z⟩:=by exact rfl) (he:tab e=some ⟨uk,sz,by_,some zv⟩:=by exact rfl) (hd:uY vs 0 sz=some cs:=by exact rfl) (hn:vs.length=n:=by exact rfl) (hz:Nat.ble (n*sz) 65536=true:=by exact rfl)
 (hb:∀ b,jD X.n ops [] E o (.slice (some ⟨b,0,none⟩) n n)=some (F b):=by exact λ _=>rfl):JL X ops (o::l) Q E H:=b8 ho hp ht he hd hn hz hb h
theorem aM(l:LN_)(h:Q .ret E K)(hl:l.Nodup:=by decide)(hK:cK H l=some K:=by exact rfl):J X .ret Q E H:=i5 l hl hK (bN h)
theorem aT{f:FuncId}{fn:Func}{c:Code}{args:LV_}{M:LN_}{R:Value->Heap->Prop}(hf:Tryz.prog.funcs[f]?=some fn)
 (h:∀ w0,J ⟨w0,M,⟨fn.ntmps,[]⟩⟩ c (Mn fn.results.toList R) (pE 0 args) H) (hb:fn.body=some c:=by exact rfl) (hn:Nat.ble args.length fn.ntmps=true:=by exact rfl):Fn f args M H R:=KT hf hb hn h
end Go.Proofs.YtmcnpaelaieniaaGreatDoor
