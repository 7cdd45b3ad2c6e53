import Derived.Test.YtmcnpaelaieniaaGreatDoorQA
import Derived.Lib.SpaceUEq
import Derived.Lib.FieldsP
import Derived.Lib.SplitLaws
import Derived.Lib.ParseIntBCases
import Derived.Lib.SlTrimSet
import Derived.Laws.Concat
import Derived.Laws.Strings
import Derived.Laws.Strings2
import Derived.Laws.Slices
/- A part of the proof. -/
set_option linter.unusedVariables false
set_option linter.unusedSimpArgs false
namespace Go.Proofs.YtmcnpaelaieniaaGreatDoor
open Go.RowKit
variable {X:Cx} {Q:e6} {E E':Env} {H:Heap}
theorem fj{ops l:List Oper}{p:Prop}(c:∀ w,dL X.w0 X.M w H->p)(h:p->JL X ops l Q E H):JL X ops l Q E H:=λ a w d b=>h (c w b) a w d b
theorem aP{c:Code}{p:Prop}(d:∀ w,dL X.w0 X.M w H->p)(h:p->J X c Q E H):J X c Q E H:=λ a w e b=>h (d w b) a w e b
theorem aH(k:Nat){A:OA_}{n m c e sz:Nat}{xs:LV_}(d:H[k]?=some (.own (.slice A m c) e sz n xs)):∀ w,dL X.w0 X.M w H->n=m/\n<=c/\(0<n->∃ g,A=some ⟨g,0,none⟩)/\xs.length=n*sz:=by
 intro w f;have h:w.ownsRow 0 e sz (.slice A m c) n xs:=f.holds _ (M9 d);obtain⟨b,i|⟨g,cap,cur,a,_,_,j,_⟩⟩:=h
 ·obtain⟨a,rfl⟩:=i;simp only[Value.slice.injEq] at a;exact⟨a.2.1.symm,Nk _,λ h=>absurd h aa,b⟩
 ·simp only[Value.slice.injEq] at a;obtain⟨rfl,rfl,rfl⟩:=a;exact⟨rfl,j,λ _=>⟨g,rfl⟩,b⟩
theorem dI{c:aU}{b off:Nat}{xs:LV_}(h:c.shows b off xs)(k:Nat):c.shows b (off+k) (xs.drop k):=by
 intro w hw i v a;rw[Og] at a;rw[N3];exact h w hw _ v a
theorem gW{c:aU}{b off:Nat}:c.shows b off []:=λ _ _ _ _ a=>by simp at a
theorem bi{g e sz n cap:Nat}{A:OA_}{xs:LV_}(a:xs≠[]->A=some ⟨g,0,none⟩):(aU.own (.slice A n cap) e sz n xs).shows g 0 xs:=by
 by_cases h:xs=[]
 ·subst h;exact gW
 ·rw[a h];exact b8
theorem bO{g e sz n cap:Nat}{A:OA_}{xs:LV_}(a:xs≠[]->A=some ⟨g,0,none⟩):xs=[]\/(aU.own (.slice A n cap) e sz n xs).at_=some g:=by
 by_cases h:xs=[]
 ·exact .inl h
 ·rw[a h];exact .inr rfl
theorem cC{b off:Nat}{vs:LV_}:vs=[]\/(aU.seg b off vs).at_=some b:=by
 by_cases h:vs=[]
 ·exact .inl h
 ·exact .inr (by simp only[aU.at_];rw[if_neg h])
theorem bo{A:OA_}{n sz:Nat}{xs:LV_}(h:0<n->∃ g,A=some ⟨g,0,none⟩)(hl:xs.length=n*sz):∃ g,xs≠[]->A=some ⟨g,0,none⟩:=by
 by_cases a:0<n
 ·obtain⟨g,b⟩:=h a;exact⟨g,λ _=>b⟩
 ·refine⟨0,λ c=>absurd (Nw.1 ?_) c⟩;rw[hl,show n=0 by omega,Nat.zero_mul]
theorem BB{w:World}{b e sz n:Nat}{cs:LV_}(h:(blk b e cs).holds w)(hl:cs.length=n*sz)(a:n<=maxLen):(aU.own (.slice (some ⟨b,0,none⟩) n n) e sz n cs).holds w:=by
 refine⟨hl,.inr ⟨b,n,cs.toArray,rfl,Nk _,h,Np _,a,by simp[hl],?_⟩⟩;simp only[<- hl];exact NH
theorem dL.blkOwn{w0 w:World}{M:LN_}{b e sz n:Nat}{cs:LV_}(a:dL w0 M w (blk b e cs::H))(hl:cs.length=n*sz)(h:n<=maxLen):dL w0 M w (.own (.slice (some ⟨b,0,none⟩) n n) e sz n cs::H):=by
 refine⟨a.os,a.tape,a.output,a.size,a.keep,λ c d=>?_,λ c d g f=>?_,?_⟩
 ·rcases Nl.1 d with rfl|d
  ·exact BB (a.holds _ ai) hl h
  ·exact a.holds c (by simp[d])
 ·rcases Nl.1 d with rfl|d
  ·exact a.own (blk b e cs) ai g f
  ·exact a.own c (by simp[d]) g f
 ·obtain⟨i,j⟩:=Ps.1 a.dis;exact Ps.2 ⟨λ c d=>i c d,j⟩
theorem lH{ops l:List Oper}{b e:Nat}{cs:LV_}(sz n:Nat)(hl:cs.length=n*sz)(c:n<=maxLen)(h:JL X ops l Q E (.own (.slice (some ⟨b,0,none⟩) n n) e sz n cs::H)):JL X ops l Q E (blk b e cs::H):=
 λ a w d f=>h a w d (f.blkOwn hl c)
theorem ze{t ty e sz a n c cx:Nat}{A Ax:OA_}{z:Option Value}{b:TI}(w:World)(d:tab t=some ⟨.slice e,sz,a,z⟩)(he:tab e=some b)(f:n<=c):
 (Builtin.append_ #[t,t] ty #[.slice A n c,.slice Ax 0 cx]).run Tryz.prog w=.ok (.slice A n c) w:=by
 have g:=eW d
 cases A<;>cases Ax<;>simp[Builtin.append_,run_underlying g,dT he,Builtin.lenOf,Builtin.firstCells,loadCells,loadCellsFrom,storeCells,f]
theorem bp{F:OA_->Nat->Env}{ops l:List Oper}{o:Oper}{t e sz j y B n m c0 cx b off:Nat}{s x:Operand}{uk:UK}{N:Value}{f Ax:OA_}{z:Option Value}{xs news:LV_}{c2:aU}(k O:Nat)
 (P:o.op=.call ⟨.builtin .append,#[s,x],#[t,t]⟩) (R:val E s=some (.slice f n c0)) (C:val E x=some (.slice Ax m cx)) (S:tab t=some ⟨.slice e,y,B,z⟩)
 (he:tab e=some ⟨uk,sz,j,some N⟩) (D:N.cells.size=sz) (p:0<sz) (q:H[k]?=some (.own (.slice f n c0) e sz n xs)) (G:H[O]?=some c2) (I:c2.shows b off news) (K:news≠[]->Ax=some ⟨b,off,none⟩)
 (hl:news.length=m*sz) (Y:one news=true)
 (r:(n+m)*j<=140737488355328) (d:n+m<=2147483648) (U:∀ A c,jN X.n ops [] E o (.slice A (n+m) c)=some (F A c))
 (h:∀ A c,JL X ops l Q (F A c) (H.set k (.own (.slice A (n+m) c) e sz (n+m) (xs++news)))):JL X ops (o::l) Q E H:=by
 rcases OW m with L|hm
 ·subst L;have u:news=[]:=List.length_eq_zero_iff.1 (by simpa using hl);subst u;refine fj (aH k q) fun ⟨_,hle,_,_⟩=>ae [] (v:=.slice f (n+0) c0) (fun a w V hH=>?_) (U f c0) ?_
  ·simp[execOp,P,resolve,invoke,builtin,V.val R,V.val C,ze w S he hle]
  ·have:=h f c0;rw[NL] at this
   have Z:H.set k (.own (.slice f (n+0) c0) e sz (n+0) xs)=H:=by
    refine O3 λ i=>?_;rw[List.getElem?_set];split
    ·rename_i hi;subst hi;split
     ·exact q.symm
     ·rename_i h2;rw[NX aa] at q;cases q
    ·rfl
   rw[Z] at this;exact this
 ·have M:news≠[]:=by
   intro L;rw[L,NA] at hl;have:=Nat.mul_pos hm p;omega
  rw[K M] at C;exact Ef k O P R C S he D p q G I hl Y hm r d (λ g c=>U _ c) (λ g c=>h _ c)
def fT(A:OA_)(c l sz:Nat):OA_:=if c=l then A else A.map (·.add (l*sz))
theorem e8{A:OA_}{c l sz n b o:Nat}(a:l<n->A=some ⟨b,o,none⟩)(d:n<=c)(hl:l<n):fT A c l sz=some ⟨b,o+l*sz,none⟩:=by
 unfold fT;rw[if_neg aa,a hl];simp[Addr.add_at]
theorem DL{A:OA_}{c sz:Nat}:fT A c 0 sz=A:=by
 unfold fT;split
 ·rfl
 ·cases A<;>simp[Addr.add]
theorem ux{t e sz a:Nat}{z:Option Value}(b:tab t=some ⟨.slice e,sz,a,z⟩):Tryz.prog.underlying t=some (.slice (Tryz.prog.elem t)):=by
 have h:=eW b;rw[h];simp[Program.elem,h]
theorem sx{t e sz a:Nat}{z:Option Value}(b:tab t=some ⟨.slice e,sz,a,z⟩):Tryz.prog.elem t=e:=by
 have h:=eW b;simp[Program.elem,h]
theorem f0{o:Oper}{t e n c i b d:Nat}{x g:Operand}{A:OA_}{z:Option Value}{h:TI}{k:IntKind}(q:o.op=.slice t x (some g) none none)(r:val E x=some (.slice A n c))(f:val E g=some (.int k (i:Int)))
 (j:tab t=some ⟨.slice e,b,d,z⟩) (he:tab e=some h) (hi:i<=n):i7 X o E H (.slice (fT A c i h.size) (n-i) (c-i)):=by
 intro a w l s;have m:=ux j;have p:=run_slice_l (P:=Tryz.prog) (w:=w) t A n c m k (i:Int) aa aa;rw[sx j] at p;simp[execOp,q,l.val r,l.val f,run_sliceAt_slice w t _ _ _ _ m,p,dT he,sliced,fT]
theorem jO{o:Oper}{t e n c i b d:Nat}{x hi:Operand}{A:OA_}{z:Option Value}{h:TI}{k:IntKind}(q:o.op=.slice t x none (some hi) none)(r:val E x=some (.slice A n c))(f:val E hi=some (.int k (i:Int)))
 (j:tab t=some ⟨.slice e,b,d,z⟩) (he:tab e=some h) (s:i<=c):i7 X o E H (.slice A i c):=by
 intro a w l u;have m:=ux j;have p:=run_slice_h (P:=Tryz.prog) (w:=w) t A n c m k (i:Int) aa aa;rw[sx j] at p;have g:=DL (A:=A) (c:=c) (sz:=h.size);unfold fT at g;simp only[Nat.zero_mul] at g;simp[execOp,q,l.val r,l.val f,run_sliceAt_slice w t _ _ _ _ m,p,dT he,sliced,g]
section
variable {P:Program} {ops:Array Oper} {md:Region.Mode} {S:World->Prop} {F:Exit->Act->World->Prop}
def YS(P:Program)(ops:Array Oper)(S:World->Prop)(o:Oper)(v:Value)(a:Act):Prop:=
 (Region.wanted o (yielded ops a.tmps)=true/\∀ w,S w->(execOp a.eval o).run P w=.ok (.value v) w)\/(Region.wanted o (yielded ops a.tmps)=false/\v=undef)
theorem YS.of_same{o:Oper}{v:Value}{a b:Act}(c:YS P ops S o v a)(he:execOp b.eval o=execOp a.eval o)(hw:Region.wanted o (yielded ops b.tmps)=Region.wanted o (yielded ops a.tmps)):YS P ops S o v b:=by
 unfold YS at*;rw[he,hw];exact c
theorem YS.wpOp{i:Nat}{o:Oper}{v:Value}{a:Act}{w:World}{K:Act->World->Prop}(hi:ops[i]?=some o)(c:YS P ops S o v a)(hw:S w)(h:K (a.put o.dst v) w):wpOp P ops F i K a w:=by
 unfold Go.wpOp;simp only[hi]
 rcases c with ⟨b,d⟩|⟨b,rfl⟩
 ·rw[if_pos b];left;unfold Oper.wp;rw[d w hw];exact h
 ·rw[if_neg (by rw[b];decide)];exact h
def qd:Exit->Act->World->Prop:=λ _ _ _=>False
theorem yK{j:Nat}{c i:Oper}{v:Value}(z:ops[j]?=some i)(m:c.apart ops i=true)(o:∀ cs b,c.op≠.select cs b)(p:∀ cs b,i.op≠.select cs b){K:Act->World->Prop}{a:Act}{w:World}
 (g:YS P ops S c v a) (h:wpOp P ops qd j K (a.put c.dst v) w):wpOp P ops qd j (λ s w'=>YS P ops S c v s/\K (s.put c.dst v) w') a w:=by
 obtain⟨t,l,y⟩:=Oper.apart_spec m;have keep:∀ (a:Act),YS P ops S c v a->∀ u,YS P ops S c v (a.put i.dst u):=λ a g u=>g.of_same (execOp_put c o a i.dst u y) (wanted_put c a i.dst u y);have k:∀ (a:Act) (d:Deferred),YS P ops S c v a->YS P ops S c v { a with defers:=d::a.defers }:=λ a d g=>g;unfold wpOp at*;simp only[z] at*;rw[wanted_put i a c.dst v t] at h;split
 ·rename_i hw;rw[if_pos hw] at h
  rcases h with h|⟨_,_,_,h⟩
  ·left
   unfold Oper.wp at*;rw[execOp_put i p a c.dst v t] at h
   generalize (execOp a.eval i).run P w=r at*
   cases r with
   |ok n w'=>
    cases n<;>simp only[Oper.upon] at h ⊢
    case value u=>exact⟨keep a g u,by rw[<- Act.put_comm a v u l];exact h⟩
    case skip=>exact⟨keep a g _,by rw[<- Act.put_comm a v undef l];exact h⟩
    case defer d=>
     have e:({ a.put c.dst v with defers:=d::(a.put c.dst v).defers }:Act)=({ a with defers:=d::a.defers }:Act).put c.dst v:=by cases c.dst<;>rfl
     exact⟨keep _ (k a d g) _,by rw[<- Act.put_comm _ v undef l,<- e];exact h⟩
    case enter f args=>
     refine h.mono λ e q he=>?_
     cases e with
     |returned u=>exact⟨keep a g u,by rw[<- Act.put_comm a v u l];exact he⟩
     |panicked A=>exact he
     |outgrown=>exact he
    case row r args=>exact h.mono λ u q hu=>⟨keep a g u,by rw[<- Act.put_comm a v u l];exact hu⟩
   |halt x w'=>cases x<;>simp only[Oper.upon] at h ⊢<;>exact h
  ·exact h.elim
 ·rename_i hw;rw[if_neg hw] at h;exact⟨keep a g _,by rw[<- Act.put_comm a v undef l];exact h⟩
def mA(P:Program)(md:Region.Mode)(ops:Array Oper)(S:World->Prop)(n:Nat)(L:Array Bool->Act->World->Prop):Nat->Array Bool->Act->World->Prop
 |0,listed,a,w=>L listed a w
 |f+1,listed,a,w=>Region.ready md ops listed≠[]/\∀ i∈Region.ready md ops listed,i<n/\wpOp P ops qd i (λ a' w'=>S w'/\mA P md ops S n L f (listed.setIfInBounds i true) a' w') a w
theorem mL{i:Nat}{K:Act->World->Prop}{Q1 Q':Exit->Act->World->Prop}{a:Act}{w:World}(b:∀ e a w,e≠.normal->¬ Q1 e a w)(h:wpOp P ops Q1 i K a w):wpOp P ops Q' i K a w:=by
 unfold wpOp at*;split
 ·rename_i c;simp only[c] at h;exact h
 ·rename_i o c;simp only[c] at h;split
  ·rename_i hw;rw[if_pos hw] at h
   rcases h with h|⟨_,g,j,h⟩
   ·left
    unfold Oper.wp at*
    generalize (execOp a.eval o).run P w=r at*
    cases r with
    |ok n w'=>
     cases n<;>simp only[Oper.upon] at h ⊢
     case enter f args=>
      refine h.mono λ e d he=>?_
      cases e with
      |returned u=>exact he
      |panicked k=>exact (b _ _ _ ai he).elim
      |outgrown=>obtain⟨_,_,h⟩:=he;exact (b _ _ _ ai h).elim
     all_goals exact h
    |halt x w'=>cases x<;>simp only[Oper.upon] at h ⊢<;>exact (b _ _ _ ai h).elim
   ·exact (b _ _ _ ai h).elim
  ·rename_i hw;rw[if_neg hw] at h;exact h
theorem kS{n g:Nat}{L:Array Bool->Act->World->Prop}{Q':Exit->Act->World->Prop}(c:∀ b a w,L b a w->wpAny P md ops Q' g b a w):
 ∀ (f:Nat) (b:Array Bool) (a:Act) (w:World),mA P md ops S n L f b a w->wpAny P md ops Q' (f+g) b a w
 |0,b,a,w,h=>by rw[NO];exact c _ _ _ h
 |f+1,b,a,w,h=>by
  rw[show f+1+g=(f+g)+1 by omega];exact⟨λ d=>absurd d h.1,λ i hi=>mL (λ _ _ _ _ h=>h) (wpOp_mono (λ e w' j=>kS c f _ e w' j.2) (h.2 i hi).2)⟩
def rn(md:Region.Mode)(ops:Array Oper)(n:Nat):Bool:=decide (n=ops.size)||(decide (n<ops.size)&&Region.sinkB md ops n&&Region.chainB md ops n)
theorem ld{n:Nat}{a:Array Bool}(b:rn md ops n=true)(inv:HeadInv md ops n a){i:Nat}(c:i<n)(d:a.getD i true=false):∀ j∈Region.ready md ops a,j<n:=by
 intro j e;simp only[rn,Bool.or_eq_true,N2,NW] at b
 rcases b with b|⟨⟨f,g⟩,k⟩
 ·obtain⟨_,o,l,_⟩:=mem_ready.1 e;have:=(OL.1 l).1;omega
 ·rcases PZ j n with h|h
  ·exact h
  ·exact absurd e (tail_waits g k f inv _ i rfl c d j h)
theorem qD{n i:Nat}{z:Oper}{v:Value}{L:Array Bool->Act->World->Prop}(hi:ops[i]?=some z)(q:∀ (j:Nat) (o:Oper) cs b,ops[j]?=some o->o.op≠.select cs b)
 (U:rn md ops n=true) (A:i<n) (t:∀ c a w,L c a w->∀ j∈Region.ready md ops c,n<=j):
 ∀ (f:Nat) (c:Array Bool) (a:Act) (w:World),HeadInv md ops n c->
   (∀ j u,ops[j]?=some u->j≠i->c.getD j true=false->(∀ e∈u.after,Region.binds md e=true->e.on≠i)->z.apart ops u=true)->
   i∈Region.ready md ops c->YS P ops S z v a->S w->
   mA P md ops S n L f (c.setIfInBounds i true) (a.put z.dst v) w->mA P md ops S n L (f+1) c a w:=by
 intro f
 induction f with
 |zero=>
  intro c a w inv _ r I B H;have g:=(mem_ready.1 r).1;refine⟨λ h=>(by rw[h] at r;cases r),λ j x=>?_⟩;have m:=ld U inv A g j x;refine⟨m,?_⟩;by_cases d:j=i
  ·subst d;exact I.wpOp hi B ⟨B,H⟩
  ·have:=t _ _ _ H j (ready_mono x d);omega
 |succ f V=>
  intro c a w inv l r I B H;have g:=(mem_ready.1 r).1;refine⟨λ h=>(by rw[h] at r;cases r),λ j x=>?_⟩;have m:=ld U inv A g j x;refine⟨m,?_⟩;by_cases d:j=i
  ·subst d;exact I.wpOp hi B ⟨B,H⟩
  ·have M:=(H.2 j (ready_mono x d)).2;obtain⟨s,u,y,C⟩:=mem_ready.1 x
   have D:∀ e∈u.after,Region.binds md e=true->e.on≠i:=λ e he Y heq=>by
    have M:=C e he Y;rw[heq,getD_both g] at M
    cases M
   have Z:=yK y (l j u y d s D) (λ cs b=>q i z cs b hi) (λ cs b=>q j u cs b y) I M
   have p:∀ k ok,ops[k]?=some ok->k≠i->(c.setIfInBounds j true).getD k true=false->
    (∀ e∈ok.after,Region.binds md e=true->e.on≠i)->z.apart ops ok=true:=λ k ok hk O g R=>by
    refine l k ok hk O ?_ R;by_cases G:j=k
    ·subst G;exact s
    ·rw[getD_set_ne true G] at g;exact g
   refine wpOp_mono (λ a' w' N=>⟨N.2.1,V (c.setIfInBounds j true) a' w' (inv.set x m) p (ready_mono r (Ne.symm d)) N.1 N.2.1 ?_⟩) Z;rw[Array.setIfInBounds_comm _ _ d];exact N.2.2
def x5(P:Program)(ops:Array Oper)(S:World->Prop)(Q:Act->World->Prop):List (Nat×Bool)->Act->World->Prop
 |[],a,w=>Q a w
 |(k,true)::rest,a,w=>∃ o v,ops[k]?=some o/\YS P ops S o v a/\x5 P ops S Q rest (a.put o.dst v) w
 |(k,false)::rest,a,w=>wpOp P ops qd k (λ a' w'=>S w'/\x5 P ops S Q rest a' w') a w
def nT(md:Region.Mode)(ops:Array Oper)(n g:Nat):List (Nat×Bool)->Array Bool->Bool
 |[],listed=>Region.seqB md ops g n listed
 |(k,st)::rest,listed=>decide (k<n)&&(match st with
    |true=>(Region.ready md ops listed).contains k&&Region.free md ops listed k
    |false=>decide (Region.ready md ops listed=[k]))&&nT md ops n g rest (listed.setIfInBounds k true)
theorem ot{n g:Nat}{u:Act->World->Prop}(d:Region.noSelect ops=true)(q:rn md ops n=true):∀ (l:List (Nat×Bool)) (b:Array Bool) (a:Act) (w:World),HeadInv md ops n b->S w->
 nT md ops n g l b=true->x5 P ops S u l a w->mA P md ops S n (λ c r w'=>Region.seqB md ops g n c=true/\u r w') l.length b a w
 |[],b,a,w,_,_,j,h=>⟨j,h⟩
 |(k,true)::l,b,a,w,inv,s,j,h=>by
  simp only[nT,N2,NW] at j;obtain⟨⟨e,p,y⟩,m⟩:=j;obtain⟨o,v,x,z,A⟩:=h;have f:k∈Region.ready md ops b:=by simpa using p
  exact qD x (Region.noSelect_spec d) q e (λ c r w' B=>seqB_ready B.1) l.length b a w inv (Region.free_spec x y) f z s (ot d q l _ _ w (inv.set f e) s m A)
 |(k,false)::l,b,a,w,inv,s,j,h=>by
  simp only[nT,N2,NW] at j;obtain⟨⟨e,p⟩,m⟩:=j;refine⟨by rw[p];simp,λ i hi=>?_⟩;have f:k∈Region.ready md ops b:=by rw[p];simp
  rw[p] at hi;obtain rfl:i=k:=by simpa using hi
  exact⟨e,wpOp_mono (λ r w' t=>⟨t.1,ot d q l _ _ _ (inv.set f e) t.1 m t.2⟩) h⟩
def dS(l:LN_):List (Nat×Bool):=l.map λ k=>(k,true)
def uJ(ops:Array Oper)(n:Nat)(l:List (Nat×Bool)):Bool:=Region.noSelect ops&&rn .any ops n&&decide (l.length=n)&&decide (n<=ops.size)&&nT .any ops n (ops.size-n) l (Array.replicate ops.size false)
theorem nI{id:Nat}{Q:Exit->Act->World->Prop}{a:Act}{w:World}{l:List Oper}(n:Nat)(order:List (Nat×Bool))(hm:P.follows .mixedOrders=true)(m:uJ l.toArray n order=true)(p:S { w with drawn:=w.drawn+1 })
 (h:x5 P l.toArray S (λ f w'=>wpList P l.toArray Q (l.drop n) f w') order a { w with drawn:=w.drawn+1 }):(Code.region id l.toArray true).wp P Q a w:=by
 simp only[uJ,N2,NW] at m;obtain⟨⟨⟨⟨c,i⟩,hlen⟩,q⟩,k⟩:=m
 have d:HeadInv .any l.toArray n (Array.replicate l.toArray.size false):=
  ⟨ai,λ j r _ hl=>(by rw[getD_replicate_false] at hl;cases hl),λ t _ i=>getD_in (by simpa using i) (getD_replicate_false _ _)⟩
 have e:(l.drop n).length=l.toArray.size-n:=ai;have H:=ot (md:=.any) (g:=l.toArray.size-n) c i order _ a _ d p k h;refine wp_region_any hm ?_
 have:=kS (Q':=Q) (g:=l.toArray.size-n) (λ b f w' o=>by
  have:=wpAny_of_seq (md:=.any) (Q':=Q) (l.drop n) n b f w' (λ j=>by simp[Og]) (by rw[e];exact o.1) o.2
  rwa [e] at this) _ _ _ _ H
 rw[hlen,show n+(l.toArray.size-n)=l.toArray.size by omega] at this;exact this
end
section
variable {X:Cx} {Q:e6} {E E':Env} {H Sf:Heap} {K:Env->Heap->Prop}
def JW(X:Cx)(ops:List Oper)(order:List (Nat×Bool))(Sf:Heap)(K:Env->Heap->Prop)(E:Env)(H:Heap):Prop:=
 ∀ a w,gt X.n a E->dL X.w0 X.M w H->x5 Tryz.prog ops.toArray (λ w=>dL X.w0 X.M w Sf) (λ a' w'=>∃ E' H',gt X.n a' E'/\dL X.w0 X.M w' H'/\K E' H') order a w
theorem bK{id:Nat}{l:List Oper}(n:Nat)(order:List (Nat×Bool))(ix:LN_)(j:uJ l.toArray n order=true)(hi:ix.Nodup)(m:cI H ix=some Sf)(h:JW X l order Sf (λ E' H'=>JL X l (l.drop n) Q E' H') E H):
 J X (.region id l.toArray true) Q E H:=by
 intro a w p f;refine nI (S:=λ w=>dL X.w0 X.M w Sf) n order Do j (f.drew.picks ix hi m) ?_;have:=h a _ p f.drew;refine (?_:∀ (Q1 b:Act->World->Prop),(∀ a w,Q1 a w->b a w)->∀ l a w,x5 Tryz.prog _ _ Q1 l a w->x5 Tryz.prog _ _ b l a w) _ _ ?_ _ a _ this
 ·intro Q1 b c l
  induction l with
  |nil=>exact λ a w h=>c a w h
  |cons o l g=>
   intro a w h;obtain⟨k,st⟩:=o
   cases st with
   |true=>obtain⟨o,v,q,r,s⟩:=h;exact⟨o,v,q,r,g _ _ s⟩
   |false=>exact wpOp_mono (λ t w' i=>⟨i.1,g _ _ i.2⟩) h
 ·rintro a w ⟨E',H',d,e,c⟩;exact c a w d e
theorem cP{ops:List Oper}(h:K E H):JW X ops [] Sf K E H:=λ _ _ a b=>⟨E,H,a,b,h⟩
theorem aF{ops:List Oper}{rest:List (Nat×Bool)}{k:Nat}{o:Oper}{v:Value}(gs:LN_)(d:ops[k]?=some o)(e:i7 X o E Sf v)(f:jN X.n ops gs E o v=some E')(h:JW X ops rest Sf K E' H):JW X ops ((k,true)::rest) Sf K E H:=by
 intro a w b g;obtain⟨i,hp⟩:=eb f;exact⟨o,v,by simpa using d,.inl ⟨fB b i,λ w' c=>e a w' b c⟩,h _ w (b.putE hp) g⟩
theorem eI{ops:List Oper}{rest:List (Nat×Bool)}{k:Nat}{o:Oper}{gs:LN_}(c:ops[k]?=some o)(he:IT X.n ops gs E o=some E')(h:JW X ops rest Sf K E' H):JW X ops ((k,true)::rest) Sf K E H:=by
 unfold IT at he;split at he
 ·rename_i b;split at he
  ·rename_i v e;exact aF gs c (lS e) (by unfold jN;rw[b];exact he) h
  ·cases he
 ·rename_i b;intro a w d f;exact⟨o,undef,by simpa using c,.inr ⟨fB d b,rfl⟩,h _ w (d.putE he) f⟩
 ·cases he
noncomputable def L0(n:t6)(ops:List Oper)(gs:LN_)(E:Env):List (Nat×Bool)->Env×List (Nat×Bool)
 |[]=>(E,[])
 |(k,false)::l=>(E,(k,false)::l)
 |(k,true)::l=>match ops[k]? with
  |some o=>match IT n ops gs E o with
   |some E'=>L0 n ops gs E' l
   |none=>(E,(k,true)::l)
  |none=>(E,(k,true)::l)
theorem mu{ops:List Oper}{a:List (Nat×Bool)}(gs:LN_):∀ {l:List (Nat×Bool)} {E:Env},L0 X.n ops gs E l=(E',a)->JW X ops a Sf K E' H->JW X ops l Sf K E H
 |[],E,h,k=>by
  simp only[L0,N1] at h;obtain⟨rfl,rfl⟩:=h;exact k
 |(_,false)::l,E,h,k=>by
  simp only[L0,N1] at h;obtain⟨rfl,rfl⟩:=h;exact k
 |(i,true)::l,E,h,k=>by
  unfold L0 at h;split at h
  ·rename_i o b;split at h
   ·rename_i d c;exact eI b c (mu gs h k)
   ·simp only[N1] at h;obtain⟨rfl,rfl⟩:=h;exact k
  ·simp only[N1] at h;obtain⟨rfl,rfl⟩:=h;exact k
theorem ib{ops:List Oper}(gs:LN_){l:List (Nat×Bool)}{E:Env}(h:L0 X.n ops gs E l=(E',[]))(k:K E' H):JW X ops l Sf K E H:=mu gs h (cP k)
theorem dG{ops:List Oper}{l:List (Nat×Bool)}(t:Nat){v v':Value}(b:ii E t=some v)(e:v=v')(h:JW X ops l Sf K ((t,v')::E) H):JW X ops l Sf K E H:=λ a w c d=>h a w (c.set b e) d
def G0(X:Cx)(ops:List Oper)(rest:List (Nat×Bool))(Sf:Heap)(K:Env->Heap->Prop):e6:=λ e E' H'=>match e with
 |.normal=>(∃ ix:LN_,ix.Nodup/\cI H' ix=some Sf)/\JW X ops rest Sf K E' H'
 |_=>False
theorem xJ{ops:List Oper}{rest:List (Nat×Bool)}{k:Nat}{o:Oper}(p:ops[k]?=some o)(h:JL X ops [o] (G0 X ops rest Sf K) E H):JW X ops ((k,false)::rest) Sf K E H:=by
 intro a w q r;have d:=h a w q r;show wpOp _ _ _ _ _ _ _;refine mL (Q1:=pR X (G0 X ops rest Sf K)) (λ e a w g i=>?_) ?_
 ·obtain⟨s,H1,_,_,i⟩:=i
  cases e with
  |normal=>exact g rfl
  |_=>exact i
 ·unfold wpOp;have j:ops.toArray[k]?=some o:=by simpa using p
  simp only[j];unfold wpList at d
  have b:∀ c w',wpList Tryz.prog ops.toArray (pR X (G0 X ops rest Sf K)) [] c w'->dL X.w0 X.M w' Sf/\x5 Tryz.prog ops.toArray (λ w=>dL X.w0 X.M w Sf) (λ c w'=>∃ E' H',gt X.n c E'/\dL X.w0 X.M w' H'/\K E' H') rest c w':=by
   rintro c w' ⟨s,H1,l,f,⟨ix,m,hp⟩,t⟩;exact⟨f.picks ix m hp,t c w' l f⟩
  split
  ·rename_i hw;rw[if_pos hw] at d;exact d.imp (Oper.wp_mono b) id
  ·rename_i hw;rw[if_neg hw] at d;exact b _ _ d
end
def DP(E:Env)(H:Heap):List ResultVar->LV_->Prop
 |[],[]=>True
 |.tmp t::rs,v::vs=>ii E t=some v/\DP E H rs vs
 |.cell t e::rs,v::vs=>(∃ (b k e':Nat) (cs:LV_),ii E t=some (.pointer (some ⟨b,0,none⟩))/\H[k]?=some (blk b e' cs)/\fP e cs 0=some v)/\DP E H rs vs
 |_,_=>False
def MI(rs:List ResultVar)(R:Value->Heap->Prop):e6:=λ e E H=>match e with
 |.normal=>∃ vs ix H',DP E H rs vs/\ix.Nodup/\cI H ix=some H'/\R (mZ vs) H'
 |.ret=>∃ vs ix H',DP E H rs vs/\ix.Nodup/\cI H ix=some H'/\R (mZ vs) H'
 |_=>False
theorem tL{w0 w:World}{M:LN_}{H:Heap}{E:Env}{a:Act}{n:t6}(f:gt n a E)(g:dL w0 M w H):∀ (c:List ResultVar) (vs:LV_),DP E H c vs->(c.toArray.toList.mapM (m:=Sem) (pS a.tmps)).run Tryz.prog w=.ok vs w
 |[],[],_=>by simp
 |.tmp t::c,v::vs,h=>by
  have i:=f.get _ _ h.1;have d:=tL f g c vs h.2;simp only[List.mapM_cons] at d ⊢;simp[pS,d,O9,i]
 |.cell t e::c,v::vs,h=>by
  obtain⟨⟨b,k,j,cs,g1,g2,g3⟩,l⟩:=h;have i:=f.get _ _ g1;have d:=tL f g c vs l;have p:=sB (w:=w) (b:=b) (o:=0) (t:=e) (cs:=cs) (v:=v) (aQ b j cs (0,0) w (g.holds _ (M9 g2))) g3;simp only[List.mapM_cons] at d ⊢;simp[pS,d,O9,i,asAddr,p]
 |[],_::_,h=>h.elim
 |.tmp _::_,[],h=>h.elim
 |.cell _ _::_,[],h=>h.elim
theorem qT{w0 w:World}{M:LN_}{H:Heap}{E:Env}{a:Act}{n:t6}(c:gt n a E)(d:dL w0 M w H){fn:Func}{vs:LV_}(h:DP E H fn.results.toList vs):(results fn a.tmps).run Tryz.prog w=.ok (mZ vs) w:=by
 have e:results fn a.tmps=(do let vs <- fn.results.mapM (pS a.tmps);pure (if h:vs.size=1 then vs[0] else .tuple vs)):=rfl;have b:=tL c d _ _ h;rw[List.toList_toArray] at b;rw[e,PS];simp only[map_eq_pure_bind,bind_assoc,pure_bind,Sem.run_bind,b];show Result.ok (if h:vs.toArray.size=1 then vs.toArray[0] else Value.tuple vs.toArray) w=_
 congr 1
 match vs with
 |[]=>rfl
 |[v]=>rfl
 |u::v::l=>
  have:¬ (u::v::l).toArray.size=1:=ai;rw[dif_neg this];rfl
theorem ie{f:FuncId}{fn:Func}{c:Code}{args:LV_}{M:LN_}{H:Heap}{R:Value->Heap->Prop}(n:Tryz.prog.funcs[f]?=some fn)(o:fn.body=some c)(p:Nat.ble args.length fn.ntmps=true)
 (h:∀ w0,J ⟨w0,M,⟨fn.ntmps,[]⟩⟩ c (MI fn.results.toList R) (pE 0 args) H):Fn f args M H R:=by
 intro w q;refine calls_of_wp n o ?_;have r:=nC (args:=args) p;refine wp_mono (h w _ w r q) ?_;rintro e a w' ⟨E',H',b,d,g⟩
 cases e with
 |normal=>
  obtain⟨vs,ix,i,j,k,l,m⟩:=g;exact⟨b.defers,mZ vs,qT b d j,mZ vs,i,rfl,d.picks ix k l,m⟩
 |ret=>
  obtain⟨vs,ix,i,j,k,l,m⟩:=g;exact⟨b.defers,mZ vs,qT b d j,mZ vs,i,rfl,d.picks ix k l,m⟩
 |_=>exact g.elim
variable {X:Cx} {Q:e6} {E E':Env} {H:Heap}
def gK(i:Nat):List (Int×Value)->List MapEntry
 |[]=>[]
 |(k,v)::l=>⟨.int .i64 k,v,i⟩::gK (i+1) l
def jR(l:List (Int×Value)):Obj:=.map (gK 0 l).toArray l.length
def na:List (Int×Value)->Int->Option Value
 |[],_=>none
 |(k,v)::l,n=>if k=n then some v else na l n
theorem BL{l:List (Int×Value)}{n:Int}(h:∀ p∈l,p.1≠n):na l n=none:=by
 induction l with
 |nil=>rfl
 |cons p l a=>obtain⟨k,v⟩:=p;unfold na;rw[if_neg (h (k,v) ai)];exact a λ q b=>h q (by simp[b])
theorem qM{u:IntKind}(n:Int):∀ (l:List (Int×Value)) (i j:Nat),∃ r,Instr.findNow (.int u) (.int .i64 n) (gK i l) j=some r/\(r.map (·.2))=na l n
 |[],i,j=>⟨none,rfl,rfl⟩
 |(k,v)::l,i,j=>by
  by_cases h:n=k
  ·subst h;exact⟨some (j,v),by simp[gK,Instr.findNow,Instr.sameNow],by simp[na]⟩
  ·obtain⟨r,a,b⟩:=qM (u:=u) n l (i+1) (j+1);have c:(n==k)=false:=by simpa using h
   exact⟨r,by simp[gK,Instr.findNow,Instr.sameNow,c,a],by unfold na;rw[if_neg (λ e=>h e.symm)];exact b⟩
theorem q4{w:World}{a:TypeId}{u:IntKind}(b:Tryz.prog.underlying a=some (.int u))(n:Int)(l:List (Int×Value))(i:Nat):∃ r,(Instr.findKey a (.int .i64 n) (gK i l)).run Tryz.prog w=.ok r w/\(r.map (·.2))=na l n:=by
 obtain⟨r,c,d⟩:=qM (u:=u) n l i 0;exact⟨r,by simp[Instr.findKey,run_underlying b,c],d⟩
theorem mR{w:World}{a:TypeId}{u:IntKind}(b:Tryz.prog.underlying a=some (.int u))(e:Bool)(n:Int):(Instr.checkKey e 10000 a (.int .i64 n)).run Tryz.prog w=.ok () w:=by
 show (Instr.checkKey e (9999+1) a (.int .i64 n)).run Tryz.prog w=.ok () w;unfold Instr.checkKey;simp[run_underlying b]
theorem qt{F:Nat->Env}{ops l:List Oper}{o:Oper}{t:TypeId}(c:o.op=.makeMap t none)(d:∀ b,jN X.n ops [] E o (.map (some b))=some (F b))(h:∀ b,JL X ops l Q (F b) (.obj b (jR [])::H)):JL X ops (o::l) Q E H:=
 xb (f:=λ b=>.map (some b)) [] (λ a w e _=>by simp[execOp,c,Instr.makeMap,newObj,Sem.run,jR,gK,World.alloc_eq]) d h
theorem fZ{o:Oper}{t q s b sz e:Nat}{x ix:Operand}{n:Int}{u:IntKind}{uk:UK}{z:Value}{l:List (Int×Value)}(k:Nat)(y:Tryz.prog.underlying t=some (.map q s))(f:Tryz.prog.underlying q=some (.int u))(D:o.op=.lookup t x ix false)
 (F:val E x=some (.map (some b))) (hi:val E ix=some (.int .i64 n)) (G:H[k]?=some (.obj b (jR l))) (I:tab s=some ⟨uk,sz,e,some z⟩):i7 X o E H ((na l n).getD z):=by
 intro a w A c;have B:w.heap[b]?=some (jR l):=c.holds _ (M9 G);obtain⟨d,j,_,g,_,_,_,h⟩:=eR I;obtain⟨r,C,K⟩:=q4 (w:=w) f n l 0;have m:(getObj b).run Tryz.prog w=.ok (jR l) w:=by unfold jR at B ⊢;simp[getObj,Sem.run,B]
 unfold jR at m
 have L:(Instr.lookup t (.map (some b)) (.int .i64 n) false).run Tryz.prog w=.ok ((na l n).getD z) w:=by
  rw[<- K]
  cases r with
  |none=>simp[Instr.lookup,run_underlying y,m,mR f,C,zeroValue,typeInfo,g,h z rfl]
  |some p=>obtain⟨i,v⟩:=p;simp[Instr.lookup,run_underlying y,m,mR f,C]
 simp[execOp,D,A.val F,A.val hi,L]
theorem wv(n:Int)(v:Value):∀ (l:List (Int×Value)) (i:Nat),gK i l++[⟨.int .i64 n,v,i+l.length⟩]=gK i (l++[(n,v)])
 |[],i=>by simp[gK]
 |(k,u)::l,i=>by
  have:=wv n v l (i+1);simp only[gK,Ob,Nf];rw[<- this,show i+(l.length+1)=i+1+l.length by omega]
theorem pP{ops l:List Oper}{o:Oper}{t B I b:Nat}{x ix y:Operand}{n:Int}{v:Value}{u:IntKind}{es:List (Int×Value)}(k:Nat)(K:Tryz.prog.underlying t=some (.map B I))(C:Tryz.prog.underlying B=some (.int u))(L:o.op=.mapUpdate t x ix y)
 (M:val E x=some (.map (some b))) (hi:val E ix=some (.int .i64 n)) (N:val E y=some v) (D:H[k]?=some (.obj b (jR es))) (f:∀ p∈es,p.1≠n) (gs:LN_) (O:jN X.n ops gs E o undef=some E')
 (h:JL X ops l Q E' (H.set k (.obj b (jR (es++[(n,v)]))))):JL X ops (o::l) Q E H:=by
 intro a w hA d;obtain⟨hg,hp⟩:=eb O;refine nd ?_
 left
 have c:w.heap[b]?=some (jR es):=d.holds _ (M9 D);have i:b<w.heap.size:=(OL.1 c).1;obtain⟨r,P,F⟩:=q4 (w:=w) C n es 0;rw[BL f] at F
 have j:r=none:=by cases r with
  |none=>rfl
  |some p=>simp at F
 subst j;have g:(getObj b).run Tryz.prog w=.ok (jR es) w:=by unfold jR at c ⊢;simp[getObj,Sem.run,c]
 unfold jR at g
 have m:(setObj b (jR (es++[(n,v)]))).run Tryz.prog w=.ok () { w with heap:=w.heap.setIfInBounds b (jR (es++[(n,v)])) }:=by
  unfold jR at c;simp[setObj,Sem.run,c]
 have R:(Instr.mapUpdate t (.map (some b)) (.int .i64 n) v).run Tryz.prog w=.ok () { w with heap:=w.heap.setIfInBounds b (jR (es++[(n,v)])) }:=by
  rw[<- m];simp[Instr.mapUpdate,run_underlying K,g,mR C,P,jR,<- wv]
 refine nc ?_
 have s:(execOp a.eval o).run Tryz.prog w=.ok .skip { w with heap:=w.heap.setIfInBounds b (jR (es++[(n,v)])) }:=by
  simp[execOp,L,hA.val M,hA.val hi,hA.val N,R]
 rw[s];refine h _ _ (hA.putE hp) (d.step k D rfl rfl rfl ai (λ q S z=>?_) ?_ (λ U A=>.inl A))
 ·have:b≠q:=λ e=>z (by rw[<- e];rfl);simp[Array.getElem?_setIfInBounds_ne this]
 ·show (w.heap.setIfInBounds b _)[b]?=_;simp[i]
variable {X:Cx} {Q:e6} {E E':Env} {H H' K:Heap}
def aw(X:Cx)(H K:Heap):Prop:=∀ w,dL X.w0 X.M w H->dL X.w0 X.M w K
theorem aw.refl:aw X H H:=λ _ h=>h
theorem aw.trans(a:aw X H H')(b:aw X H' K):aw X H K:=λ w h=>b w (a w h)
theorem aw.picks(ix:LN_)(hi:ix.Nodup)(h:Proofs.YtmcnpaelaieniaaGreatDoor.cI H ix=some K):aw X H K:=λ _ hw=>hw.picks ix hi h
theorem dL.perm{w0 w:World}{M:LN_}(h:dL w0 M w H)(hp:H.Perm K):dL w0 M w K:=
 ⟨h.os,h.tape,h.output,h.size,h.keep,λ c a=>h.holds c (hp.mem_iff.2 a),λ c a=>h.own c (hp.mem_iff.2 a),h.dis.perm hp λ h=>qj h⟩
theorem aw.perm(h:H.Perm K):aw X H K:=λ _ hw=>hw.perm h
theorem dL.sub{w0 w:World}{M:LN_}(h:dL w0 M w H)(hp:K.Sublist H):dL w0 M w K:=
 ⟨h.os,h.tape,h.output,h.size,h.keep,λ c a=>h.holds c (hp.mem a),λ c a=>h.own c (hp.mem a),h.dis.sublist hp⟩
theorem aw.sub(h:K.Sublist H):aw X H K:=λ _ hw=>hw.sub h
theorem cK{ops l:List Oper}(b:aw X H K)(h:JL X ops l Q E K):JL X ops l Q E H:=λ a w c d=>h a w c (b w d)
theorem bQ{c:Code}(b:aw X H K)(h:J X c Q E K):J X c Q E H:=λ a w d e=>h a w d (b w e)
theorem cN{σ:Type}{c:Code}(F:σ->Env)(K:σ->Heap)(I:σ->Prop)(μ:σ->Nat)(s:σ)(l:nP E (F s))(m:aw X H (K s))(g:I s)
 (round:∀ s,I s->J X c (yk (λ E' H'=>∃ b,nP E' (F b)/\aw X H' (K b)/\I b/\μ b<μ s) Q) (F s) (K s)):J X (.loop c) Q E H:=by
 intro a w h i;refine wp_loop_ghost (λ k a w=>∃ s,k=μ s/\I s/\gt X.n a (F s)/\dL X.w0 X.M w (K s)) (μ s) ⟨s,rfl,g,h.ents _ l,m w i⟩ ?_;rintro k a w ⟨s,rfl,g,h,i⟩;refine wp_mono (round s g a w h i) ?_;rintro e t w' ⟨E',H',d,f,j⟩
 cases e with
 |normal=>
  obtain⟨b,o,p,q,r⟩:=j;exact⟨μ b,r,b,rfl,q,d.ents _ o,p w' f⟩
 |_=>exact⟨E',H',d,f,j⟩
theorem tX{A R:Heap}{c:aU}{i:Nat}(h:R[i]?=some c):(A++R).Perm (c::(A++R.eraseIdx i)):=by
 obtain⟨hi,rfl⟩:=Nb.1 h
 have a:R.Perm (R[i]::R.eraseIdx i):=by
  rw[Pq];have e:R=R.take i++R[i]::R.drop (i+1):=by rw[<- N7 hi,Oh]
  exact (List.Perm.of_eq e).trans PK
 exact (Pe A a).trans PK
theorem Fi{A R:Heap}{c:aU}{i:Nat}(h:i<R.length):(c::(A++R.eraseIdx i)).Perm (A++R.set i c):=by
 have a:(R.set i c)[i]?=some c:=by simp[h]
 have b:(R.set i c).eraseIdx i=R.eraseIdx i:=by
  rw[Pq,Pq,List.take_set_of_le (Np _),List.drop_set_of_lt aa]
 have:=(tX (A:=A) a).symm
 rwa [b] at this
def I3(Q:e6):e6
 |.goto _,_,_=>False
 |e,E,H=>Q e E H
theorem CK{c:Code}(h:J X c (I3 Q) E H):J X (.scope c) Q E H:=by
 intro a w g i;refine wp_scope_straight (wp_mono (h a w g i) ?_);rintro e j w' ⟨E',H',b,d,f⟩
 cases e with
 |goto l=>exact f.elim
 |_=>exact⟨E',H',b,d,f⟩
theorem CD{l:Nat}(h:Q .normal E H):J X (.label l) Q E H:=λ _ _ a b=>wp_label ⟨E,H,a,b,h⟩
theorem vm{w:World}{e sz n m c:Nat}{A:OA_}{xs:LV_}(h:w.ownsRow 0 e sz (.slice A n c) n xs)(hm:m<=n):w.ownsRow 0 e sz (.slice A m c) m (xs.take (m*sz)):=by
 obtain⟨b,d|⟨g,cap,cur,a,f,i,o,j,k,l⟩⟩:=h
 ·obtain⟨a,rfl⟩:=d;obtain rfl:m=0:=aa;simp only[Value.slice.injEq] at a;obtain⟨rfl,_,rfl⟩:=a;exact⟨ai,.inl ⟨rfl,rfl⟩⟩
 ·simp only[Value.slice.injEq] at a;obtain⟨rfl,_,rfl⟩:=a;have hle:m*sz<=n*sz:=Ou sz hm;refine⟨by rw[ND,b];omega,.inr ⟨g,c,cur,rfl,f,i,aa,j,k,?_⟩⟩;rw[<- l,List.take_take,OX hle]
theorem dL.chunk{w0 w:World}{M:LN_}{c d:aU}(k:Nat)(f:dL w0 M w H)(o:H[k]?=some c)(t:d.holds w)(hm:∀ b,d.mine=some b->c.mine=some b)(s:∀ b,d.at_=some b->c.at_=some b ):dL w0 M w (H.set k d):=by
 have p:k<H.length:=(Nb.1 o).1
 have g:∀ e∈H.set k d,e=d\/e∈H:=λ e he=>by
  rcases List.mem_or_eq_of_mem_set he with h|h
  ·exact .inr h
  ·exact .inl h
 refine⟨f.os,f.tape,f.output,f.size,f.keep,λ e he=>?_,λ e he b a=>?_,?_⟩
 ·rcases g e he with rfl|h
  ·exact t
  ·exact f.holds e h
 ·rcases g e he with rfl|h
  ·exact f.own c (M9 o) b (hm b a)
  ·exact f.own e h b a
 ·rw[List.pairwise_iff_getElem];intro i j hi l u;simp only[List.length_set] at hi l;have hp:∀ i j (hi:i<H.length) (l:j<H.length),i≠j→apart H[i] H[j]:=fun i j hi l q=>fU f.dis (List.getElem?_eq_getElem hi) (List.getElem?_eq_getElem l) q;have n:c=H[k]:=by rw[List.getElem?_eq_getElem p] at o;exact (Option.some.inj o).symm
  simp only[List.getElem_set];split
  ·rename_i r;subst r;rw[if_neg aa];have:=hp k j hi l aa;rw[<- n] at this;exact⟨λ b a=>this.1 b (hm b a),λ b a m=>this.2 b a (s b m)⟩
  ·split
   ·rename_i r;subst r;have:=hp i k hi l aa;rw[<- n] at this;exact⟨λ b a m=>this.1 b a (s b m),λ b a=>this.2 b (hm b a)⟩
   ·exact hp i j hi l aa
theorem Eg{ops l:List Oper}{e sz n m c:Nat}{A:OA_}{xs:LV_}(k:Nat)(b:H[k]?=some (.own (.slice A n c) e sz n xs))(hm:m<=n)(h:JL X ops l Q E (H.set k (.own (.slice A m c) e sz m (xs.take (m*sz))))):JL X ops l Q E H:=
 λ a w f d=>h a w f (d.chunk k b (vm (d.holds _ (M9 b)) hm) (λ _ h=>by cases A<;>exact h) (λ _ h=>by cases A<;>exact h))
theorem aw.shrink{e sz n m c:Nat}{A:OA_}{xs:LV_}(k:Nat)(a:H[k]?=some (.own (.slice A n c) e sz n xs))(hm:m<=n):aw X H (H.set k (.own (.slice A m c) e sz m (xs.take (m*sz)))):=
 λ _ b=>b.chunk k a (vm (b.holds _ (M9 a)) hm) (λ _ h=>by cases A<;>exact h) (λ _ h=>by cases A<;>exact h)
structure ff where
 A:OA_
 c:Nat
 l:LI_
def cT(r:ff):Value:=.slice r.A r.l.length r.c
def bg(e:Nat)(r:ff):aU:=.own (cT r) e 1 r.l.length (aj r.l)
def ek:ff:=⟨none,0,[]⟩
theorem dL.nils{w0 w:World}{M:LN_}(e:Nat)(h:dL w0 M w H):∀ n:Nat,dL w0 M w (H++List.replicate n (bg e ek))
 |0=>by simpa using h
 |n+1=>by
  have a:=(h.nils e n).addnil e 1;refine a.perm ?_;rw[Ol];exact List.perm_middle.symm
theorem aw.nils(e n:Nat):aw X H (H++(List.replicate n ek).map (bg e)):=λ w h=>by rw[OH];exact h.nils e n
theorem fz{t a i:Nat}{uk:UK}{z:Option Value}{cs:LV_}{v:Value}(b:tab t=some ⟨uk,1,a,z⟩)(c:v.cells.toList=[v])(d:v.oneCell'=true)(hi:i<cs.length):rp t cs i v.cells.toList=some (cs.set i v):=by
 unfold rp;rw[b,c];have e:Nat.ble (i+1) cs.length=true:=Nat.ble_eq_true_of_le aa;simp only[Nf,NA,NO,Nat.beq_refl,e,one,d,wr]
theorem aw.front{A R:Heap}{c:aU}{i:Nat}(h:R[i]?=some c):aw X (A++R) (c::(A++R.eraseIdx i)):=aw.perm (tX h)
theorem aw.back{A R:Heap}{c:aU}{i:Nat}(h:i<R.length):aw X (c::(A++R.eraseIdx i)) (A++R.set i c):=aw.perm (Fi h)
variable {X:Cx} {Q:e6} {E E':Env} {H H' K:Heap}
def ay(C:Heap):LN_:=C.filterMap aU.mine
theorem wq{C:Heap}{b:Nat}:b∈ay C↔∃ c∈C,c.mine=some b:=List.mem_filterMap
theorem qQ(H:Heap):∀ (K:Heap) (i:Nat),(∀ j,j<K.length->H[i+j]?=K[j]?)->cI H (List.range' i K.length)=some K
 |[],_,_=>rfl
 |c::K,i,hi=>by
  have a:H[i]?=some c:=by simpa using hi 0 ai
  rw[Nf,List.range'_succ];unfold cI;rw[a,qQ H K (i+1) (λ j b=>by have:=hi (j+1) eS;simpa [N3,PY 1] using this)]
theorem kN{i:Nat}{l:LN_}{A1:Heap}:cI H (i::l)=some A1↔∃ c K,H[i]?=some c/\cI H l=some K/\A1=c::K:=by
 constructor
 ·intro h;unfold cI at h;split at h
  ·rename_i c a;split at h
   ·rename_i K b;simp only[Na] at h;exact⟨c,K,a,b,h.symm⟩
   ·cases h
  ·cases h
 ·rintro⟨c,K,d,e,rfl⟩;unfold cI;rw[d,e]
theorem oA{B:Heap}{a:LN_}(b:cI H a=some B):∀ {l:LN_} {A:Heap},cI H l=some A->cI H (l++a)=some (A++B)
 |[],A,h=>by
  simp only[cI,Na] at h;subst h;exact b
 |i::l,A,h=>by
  obtain⟨c,K,d,e,rfl⟩:=kN.1 h;exact kN.2 ⟨c,K++B,d,oA b e,rfl⟩
theorem lN{A R:Heap}:∀ {l:LN_} {A1:Heap},cI A l=some A1->cI (A++R) l=some A1/\∀ i∈l,i<A.length
 |[],A1,h=>⟨h,λ _ h=>by cases h⟩
 |i::l,A1,h=>by
  obtain⟨c,K,d,e,rfl⟩:=kN.1 h;have a:=(Nb.1 d).1;obtain⟨k1,f⟩:=lN (R:=R) e;refine⟨kN.2 ⟨c,K,by rw[NY a];exact d,k1,rfl⟩,λ j b=>?_⟩
  rcases Nl.1 b with rfl|b
  ·exact a
  ·exact f j b
theorem aw.mid{A A1 f R:Heap}(ix e:LN_)(g:Proofs.YtmcnpaelaieniaaGreatDoor.cI A ix=some A1)(h:Proofs.YtmcnpaelaieniaaGreatDoor.cI A e=some f)(i:(ix++e).Nodup):aw X (A++R) ((A1++R)++f):=by
 obtain⟨k1,k⟩:=lN (R:=R) g;obtain⟨l,m⟩:=lN (R:=R) h;have n:Proofs.YtmcnpaelaieniaaGreatDoor.cI (A++R) (List.range' A.length R.length)=some R:=qQ _ R A.length λ j _=>by rw[Nu aa,NV]
 refine aw.picks ((ix++List.range' A.length R.length)++e) ?_ (oA l (oA n k1));obtain⟨o,p,q⟩:=Ny.1 i;rw[Ny,Ny];refine⟨⟨o,PC,λ a c b d=>?_⟩,p,λ a c b d=>?_⟩
 ·have:=k a c;have:=(List.mem_range'_1.1 d).1;omega
 ·rcases Nm.1 c with c|c
  ·exact q a c b d
  ·have:=m b d;have:=(List.mem_range'_1.1 c).1;omega
theorem aw.re{A A1 R:Heap}(ix:LN_)(a:Proofs.YtmcnpaelaieniaaGreatDoor.cI A ix=some A1)(b:ix.Nodup):aw X (A++R) (A1++R):=by
 have:=aw.mid (X:=X) (R:=R) ix [] a rfl (by simpa using b)
 simpa using this
theorem aw.swap{A R B:Heap}:aw X ((A++R)++B) ((A++B)++R):=aw.perm (by rw[NI,NI];exact Pe A OO)
theorem jj.tail{C:Heap}:∀ {S:Heap},jj K [] S->jj (C++K) (List.range C.length) S
 |[],_=>trivial
 |.seg b off vs::S,⟨⟨k,c,_,a,e,f⟩,d⟩=>⟨⟨C.length+k,c,by rw[N4];omega,by rw[Nu aa,NV];exact a,e,f⟩,jj.tail d⟩
 |.tab b o::S,⟨⟨k,_,a⟩,d⟩=>⟨⟨C.length+k,by rw[N4];omega,by rw[Nu aa,NV];exact a⟩,jj.tail d⟩
 |.obj ..::_,h=>h.elim
 |.own ..::_,h=>h.elim
theorem dc:∀ {A B:Heap},f5 A=true->f5 B=true->f5 (A++B)=true
 |[],_,_,h=>h
 |.seg ..::_,_,h,_=>by simp[f5] at h
 |.tab ..::_,_,h,_=>by simp[f5] at h
 |.obj ..::A,B,h,a=>dc (A:=A) h a
 |.own ..::A,B,h,a=>dc (A:=A) h a
theorem dd(e:Nat):∀ rows:List ff,f5 (rows.map (bg e))=true
 |[]=>rfl
 |_::rows=>dd e rows
theorem wR{o:Oper}{t d n c e sz b:Nat}{x y:Operand}{A:OA_}{z:Option Value}(ho:o.op=.binOp .eql t x y d)(hx:val E x=some (.slice A n c))(hy:val E y=some (.slice none 0 0))(f:tab t=some ⟨.slice e,sz,b,z⟩):
 i7 X o E H (.bool A.isNone):=by
 intro a w hA i;have g:=eW f
 have he:(Op.equal t (.slice A n c) (.slice none 0 0)).run Tryz.prog w=.ok A.isNone w:=by
  show (Op.equalIn (9999+1) t (.slice A n c) (.slice none 0 0)).run Tryz.prog w=.ok A.isNone w;rw[Op.equalIn];simp only[Sem.run_bind,run_underlying g,Result.andThen_ok]
  cases A<;>rfl
 have hg:(eqGuard .eql t x y (.slice A n c) (.slice none 0 0)).run Tryz.prog w=.ok () w:=by simp[eqGuard]
 have hb:(binOp .eql t (.slice A n c) (.slice none 0 0)).run Tryz.prog w=.ok (.bool A.isNone) w:=by
  unfold binOp;simp only[Sem.run_bind,he,Result.andThen_ok];rfl
 refine GL ?_;rfl
theorem bJ{F:Value->Env}{ops l:List Oper}{o:Oper}{f:Operand}{args:Array Operand}{ts:Array TypeId}{g:FuncId}{fst cap vs a:LV_}{R:Value->Heap->Prop}{S C:Heap}(gs:LN_)
 (T:Fn g a (ay C) (S++C) R) (m:o.op=.call ⟨.value f,args,ts⟩) (p:val E f=some (.func (.func g) fst.toArray cap.toArray)) (q:vals E args.toList=some vs) (has:fst++vs++cap=a) (k:eg g=true)
 (d:aw X H (C++K)) (r:jj K [] S) (e:∀ v,jN X.n ops gs E o v=some (F v)) (h:∀ v H',R v H'->f5 H'=true/\JL X ops l Q (F v) (H'++K)):JL X ops (o::l) Q E H:=by
 refine cK d ?_
 have hC:cI (C++K) (List.range C.length)=some C:=by
  rw[List.range_eq_range'];exact qQ _ C 0 λ j s=>by rw[NO,NY s]
 have t:cI (C++K) (List.range' C.length K.length)=some K:=qQ _ K C.length λ j _=>by rw[Nu aa,NV]
 exact CH (List.range C.length) (List.range' C.length K.length) gs T m p q has k r.tail OS hC (λ c k b e=>wq.2 ⟨c,k,e⟩) (λ b e=>wq.1 e) t PC
  (λ i hi=>by rw[N4];have:=(List.mem_range'_1.1 hi).1;omega) e h
noncomputable def xV(t:Nat)(name:String):Option FuncId:=match Tryz.prog.info? t with
 |some i=>match i.methods.find? (·.name==name) with
  |some m=>match m.path.isEmpty,m.func with
   |true,some (f,false)=>some f
   |_,_=>none
  |none=>none
 |none=>none
theorem Am{t s a:Nat}{fs:List (Nat×Nat×Nat)}{z:Option Value}{name:String}{g:FuncId}(h:xV t name=some g)(c:tab t=some ⟨.struct fs,s,a,z⟩)(v:Value)(w:World):
 (method (Tryz.prog.types.size+Made.depth) t v name).run Tryz.prog w=.ok (g,v) w:=by
 obtain⟨F,d,_⟩:=mt c;have e:0<Made.depth:=ab;have j:∃ k,Tryz.prog.types.size+Made.depth=k+1:=⟨Tryz.prog.types.size+Made.depth-1,aa⟩;obtain⟨k,l⟩:=j;rw[l];unfold xV at h;split at h
 ·rename_i i hi;split at h
  ·rename_i m hm;split at h
   ·rename_i f hp n;simp only[Option.some.injEq] at h;subst h;have b:m.path.toList=[]:=by simpa using hp
    unfold method;simp[typeInfo,hi,hm,b,follow,n,receiverAt,run_underlying d,Place.get]
   ·cases h
  ·cases h
 ·cases h
theorem wG{F:Value->Env}{ops l:List Oper}{o:Oper}{x:Operand}{name:String}{args:Array Operand}{ts:Array TypeId}{g t s j:Nat}{u:Value}{vs d:LV_}{fs:List (Nat×Nat×Nat)}{z:Option Value}{R:Value->Heap->Prop}{S:Heap}(gs:LN_)
 (T:Fn g d [] S R) (q:o.op=.call ⟨.invoke x name,args,ts⟩) (r:val E x=some (.iface t u)) (y:vals E args.toList=some vs) (has:u::vs=d) (hm:xV t name=some g) (A:tab t=some ⟨.struct fs,s,j,z⟩) (k:eg g=true)
 (B:jj H [] S) (i:∀ v,jN X.n ops gs E o v=some (F v)) (h:∀ v H',R v H'->f5 H'=true/\JL X ops l Q (F v) (H'++H)):JL X ops (o::l) Q E H:=by
 intro a w hA p;have hg:=(eb (i undef)).1;refine nd ?_
 left
 refine nc ?_;have D:args.map a.eval=vs.toArray:=by rw[<- hA.vals _ _ y];exact Array.ext' ai
 have I:(execOp a.eval o).run Tryz.prog w=.ok (.enter g (u::vs).toArray) w:=by
  have m:=Am hm A u w;simp only[execOp,q,resolve,D,hA.val r,Sem.run_bind,Sem.run_pure,Result.andThen_ok,invoke];have L:(#[Value.iface t u]++vs.toArray)[0]?=some (.iface t u):=ai;have M:(#[Value.iface t u]++vs.toArray).extract 1 (#[Value.iface t u]++vs.toArray).size=vs.toArray:=ai;simp only[L,M,callMethod,Sem.run_bind,run_program,Result.andThen_ok,m,iR k];simp
 rw[I,has];have f:dL w [] w (S++[]):=p.hand (ix:=[]) (C:=[]) B PG rfl (λ c k=>by cases k);rw[NL] at f;refine (T w f).mono ?_;rintro e w' ⟨v,H',rfl,m,N⟩;obtain⟨O,P⟩:=h v H' N;exact P _ _ (hA.putE (eb (i v)).2) (p.back (ix:=[]) (C:=[]) (K:=H) (Mc:=[]) rfl (λ b i=>by cases i) (sO H) OS (λ _ _ h=>by cases h) m O)
theorem qG{P:Program}{ops:Array Oper}{o:Oper}{j:Nat}{Q1 l:Exit->Act->World->Prop}{K:Act->World->Prop}{a:Act}{w:World}(m:ops.toList[j]?=some o)(h:wpList P ops Q1 [o] a w)
 (p:∀ a w,Q1 .normal a w->K a w) (he:∀ e a w,e≠.normal->Q1 e a w->l e a w):wpOp P ops l j K a w:=by
 have i:ops[j]?=some o:=by simpa using m
 unfold wpOp;simp only[i];unfold wpList at h;have b:∀ g w',wpList P ops Q1 [] g w'->K g w':=λ g w' q=>p g w' q;split
 ·rename_i hw;rw[if_pos hw] at h
  rcases h with h|h
  ·left
   unfold Oper.wp at*
   generalize (execOp a.eval o).run P w=r at*
   cases r with
   |ok n w'=>
    cases n<;>simp only[Oper.upon] at h ⊢
    case value u=>exact b _ _ h
    case skip=>exact b _ _ h
    case defer d=>exact b _ _ h
    case enter f args=>
     refine h.mono λ e k c=>?_
     cases e with
     |returned u=>exact b _ _ c
     |panicked t=>exact he _ _ _ ai c
     |outgrown=>obtain⟨x,y,c⟩:=c;exact⟨x,y,he _ _ _ ai c⟩
    case row r args=>exact h.mono λ u k hu=>b _ _ hu
   |halt x w'=>cases x<;>simp only[Oper.upon] at h ⊢<;>exact he _ _ _ ai h
  ·obtain⟨s,x,y,c⟩:=h;exact .inr ⟨s,x,y,he _ _ _ ai c⟩
 ·rename_i hw;rw[if_neg hw] at h;exact b _ _ h
def Mg(X:Cx)(ops:List Oper)(Q:e6)(fuel:Nat)(listed:Array Bool):e6:=λ e E H=>match e with
 |.normal=>∀ a w,gt X.n a E->dL X.w0 X.M w H->wpAny Tryz.prog .any ops.toArray (pR X Q) fuel listed a w
 |e=>Q e E H
def JO(X:Cx)(ops:List Oper)(Q:e6)(fuel:Nat)(listed:Array Bool)(E:Env)(H:Heap):Prop:=Mg X ops Q fuel listed .normal E H
def MJ(X:Cx)(ops:List Oper)(Q:e6)(fuel:Nat)(listed:Array Bool)(E:Env)(H:Heap):LN_->Prop
 |[]=>True
 |i::is=>(∃ o,ops[i]?=some o/\JL X ops [o] (Mg X ops Q fuel (listed.setIfInBounds i true)) E H)/\MJ X ops Q fuel listed E H is
theorem Mv{id:Nat}{l:List Oper}(h:JO X l Q l.length (Array.replicate l.length false) E H):J X (.region id l.toArray true) Q E H:=by
 intro a w b c;refine wp_region_any Do ?_;have:=h a _ b c.drew
 simpa using this
theorem Kc{ops:List Oper}{a:Array Bool}(b:Region.ready .any ops.toArray a=[])(h:Q .normal E H):JO X ops Q 0 a E H:=λ _ _ c d=>⟨b,E,H,c,d,h⟩
theorem kY{ops:List Oper}{b:Array Bool}{fuel:Nat}(i:Nat)(is:LN_)(n:Region.ready .any ops.toArray b=i::is)(h:MJ X ops Q fuel b E H (i::is)):JO X ops Q (fuel+1) b E H:=by
 intro a w r s;refine⟨λ p=>(by rw[n] at p;cases p),?_⟩;rw[n]
 have key:∀ l:LN_,MJ X ops Q fuel b E H l->∀ j∈l,wpOp Tryz.prog ops.toArray (pR X Q) j (wpAny Tryz.prog .any ops.toArray (pR X Q) fuel (b.setIfInBounds j true)) a w:=by
  intro l
  induction l with
  |nil=>intro _ j f;cases f
  |cons k l t=>
   rintro⟨⟨o,u,v⟩,hl⟩ j f
   rcases Nl.1 f with rfl|f
   ·have x:=v a w r s;refine qG u x ?_ ?_
    ·rintro q w' ⟨E',H',c,d,g⟩;exact g q w' c d
    ·rintro e q w' m ⟨E',H',c,d,g⟩
     cases e with
     |normal=>exact absurd rfl m
     |_=>exact⟨E',H',c,d,g⟩
   ·exact t hl j f
 exact key _ h
def C3(Q:Exit->Act->World->Prop)(ops:Array Oper)(listed:Array Bool)(a:Act)(w:World):Prop:=Region.ready .any ops listed=[]/\Q .normal a w
def rW(ops:Array Oper):LN_->Array Bool->Bool
 |[],_=>true
 |k::l,listed=>decide (k<ops.size)&&(Region.ready .any ops listed).contains k&&Region.free .any ops listed k&&rW ops l (listed.setIfInBounds k true)
def xg:LN_->Array Bool->Array Bool
 |[],listed=>listed
 |k::l,listed=>xg l (listed.setIfInBounds k true)
theorem uD{P:Program}{ops:Array Oper}{S:World->Prop}{Q:Exit->Act->World->Prop}(c:Region.noSelect ops=true){f:Nat}:∀ (l:LN_) (b:Array Bool) (a:Act) (w:World),HeadInv .any ops ops.size b->S w->rW ops l b=true->
 x5 P ops S (λ m w'=>mA P .any ops S ops.size (C3 Q ops) f (xg l b) m w') (l.map λ k=>(k,true)) a w->mA P .any ops S ops.size (C3 Q ops) (f+l.length) b a w
 |[],_,_,_,_,_,_,h=>h
 |k::l,b,a,w,inv,n,p,h=>by
  simp only[rW,N2,NW] at p;obtain⟨⟨⟨d,r⟩,s⟩,i⟩:=p;obtain⟨o,v,q,t,u⟩:=h;have e:k∈Region.ready .any ops b:=by simpa using r
  have x:=uD c l (b.setIfInBounds k true) (a.put o.dst v) w (inv.set e d) n i u;exact qD q (Region.noSelect_spec c) (by simp[rn]) d (λ g m w' y=>by rw[y.1];exact λ j z=>by cases z) (f+l.length) b a w inv (Region.free_spec q s) e t n x
def JA(X:Cx)(ops:List Oper)(Q:e6)(Sf:Heap)(fuel:Nat)(listed:Array Bool)(E:Env)(H:Heap):Prop:=∀ a w,HeadInv .any ops.toArray ops.toArray.size listed->gt X.n a E->dL X.w0 X.M w H->
 mA Tryz.prog .any ops.toArray (λ w=>dL X.w0 X.M w Sf) ops.toArray.size (C3 (pR X Q) ops.toArray) fuel listed a w
def M3(X:Cx)(ops:List Oper)(Q:e6)(Sf:Heap)(fuel:Nat)(listed:Array Bool):e6:=λ e E H=>match e with
 |.normal=>(∃ ix:LN_,ix.Nodup/\cI H ix=some Sf)/\JA X ops Q Sf fuel listed E H
 |_=>False
def MQ(X:Cx)(ops:List Oper)(Q:e6)(Sf:Heap)(fuel:Nat)(listed:Array Bool)(E:Env)(H:Heap):LN_->Prop
 |[]=>True
 |i::is=>(∃ o,ops[i]?=some o/\JL X ops [o] (M3 X ops Q Sf fuel (listed.setIfInBounds i true)) E H)/\MQ X ops Q Sf fuel listed E H is
theorem lz{id:Nat}{l:List Oper}{Sf:Heap}(h:JA X l Q Sf l.length (Array.replicate l.length false) E H):J X (.region id l.toArray true) Q E H:=by
 intro a w e f;refine wp_region_any Do ?_
 have b:HeadInv .any l.toArray l.toArray.size (Array.replicate l.length false):=
  ⟨ai,λ j m _ hl=>(by rw[getD_replicate_false] at hl;cases hl),λ t _ i=>getD_in (by simpa using i) (getD_replicate_false _ _)⟩
 have k:=h a _ b e f.drew;have:=kS (Q':=pR X Q) (g:=0) (λ c a w d=>⟨d.1,d.2⟩) _ _ _ _ k
 simpa using this
theorem fb{ops:List Oper}{Sf:Heap}{a:Array Bool}(b:Region.ready .any ops.toArray a=[])(h:Q .normal E H):JA X ops Q Sf 0 a E H:=λ _ _ _ c d=>⟨b,E,H,c,d,h⟩
theorem av{ops:List Oper}{Sf:Heap}{b:Array Bool}{fuel:Nat}(i:Nat)(is:LN_)(u:Region.ready .any ops.toArray b=i::is)(p:(i::is).all (λ k=>decide (k<ops.length))=true)(h:MQ X ops Q Sf fuel b E H (i::is)):JA X ops Q Sf (fuel+1) b E H:=by
 intro a w inv x y;refine⟨λ v=>(by rw[u] at v;cases v),?_⟩
 have key:∀ l:LN_,(∀ j∈l,j∈Region.ready .any ops.toArray b/\j<ops.toArray.size)->MQ X ops Q Sf fuel b E H l->∀ j∈l,j<ops.toArray.size/\wpOp Tryz.prog ops.toArray qd j (λ n w'=>dL X.w0 X.M w' Sf/\mA Tryz.prog .any ops.toArray (λ w=>dL X.w0 X.M w Sf) ops.toArray.size (C3 (pR X Q) ops.toArray) fuel (b.setIfInBounds j true) n w') a w:=by
  intro l
  induction l with
  |nil=>intro _ _ j c;cases c
  |cons k l z=>
   rintro hl ⟨⟨o,A,B⟩,d⟩ j c
   rcases Nl.1 c with rfl|c
   ·obtain⟨q,g⟩:=hl j ai;refine⟨g,?_⟩;have C:=B a w x y;refine qG A C ?_ ?_
    ·rintro n w' ⟨E',H',m,f,⟨ix,r,hp⟩,s⟩;exact⟨f.picks ix r hp,s n w' (inv.set q g) m f⟩
    ·rintro e n w' t ⟨E',H',m,f,s⟩
     cases e with
     |normal=>exact absurd rfl t
     |_=>exact s
   ·exact z (λ i hi=>hl i (by simp[hi])) d j c
 rw[u] at key ⊢;refine key (i::is) (λ j c=>⟨c,?_⟩) h;have:=(PL.1 p) j c
 simpa using this
theorem jY{ops:List Oper}{Sf:Heap}{b:Array Bool}{fuel:Nat}(order:LN_)(c:(Region.noSelect ops.toArray&&rW ops.toArray order b)=true)(ix:LN_)(hi:ix.Nodup)(r:cI H ix=some Sf)
 (h:JW X ops (order.map λ k=>(k,true)) Sf (λ E' H'=>JA X ops Q Sf fuel (xg order b) E' H') E H):JA X ops Q Sf (fuel+order.length) b E H:=by
 intro a w inv s p;simp only[N2] at c;refine uD c.1 order b a w inv (p.picks ix hi r) c.2 ?_;have t:=h a w s p
 have hinv:∀ (l:LN_) (b:Array Bool),HeadInv .any ops.toArray ops.toArray.size b->rW ops.toArray l b=true->HeadInv .any ops.toArray ops.toArray.size (xg l b):=by
  intro l
  induction l with
  |nil=>exact λ _ h _=>h
  |cons k l d=>
   intro b e q;simp only[rW,N2,NW] at q;obtain⟨⟨⟨f,u⟩,_⟩,g⟩:=q;exact d _ (e.set (by simpa using u) f) g
 have e:=hinv order b inv c.2
 have mono:∀ (Q1 i:Act->World->Prop),(∀ a w,Q1 a w->i a w)->∀ (l:LN_) a w,x5 Tryz.prog ops.toArray (λ w=>dL X.w0 X.M w Sf) Q1 (l.map λ k=>(k,true)) a w->x5 Tryz.prog ops.toArray (λ w=>dL X.w0 X.M w Sf) i (l.map λ k=>(k,true)) a w:=by
  intro Q1 i j l
  induction l with
  |nil=>exact λ a w h=>j a w h
  |cons k l d=>rintro a w ⟨o,v,g1,g2,g3⟩;exact⟨o,v,g1,g2,d _ _ g3⟩
 refine mono _ _ ?_ order a w t;rintro x w' ⟨E',H',m,n,j⟩;exact j x w' e m n
theorem mw{ops:List Oper}{Sf:Heap}{b:Array Bool}{fuel:Nat}(t:Nat){v v':Value}(c:ii E t=some v)(e:v=v')(h:JA X ops Q Sf fuel b ((t,v')::E) H):JA X ops Q Sf fuel b E H:=λ a w inv d f=>h a w inv (d.set c e) f
theorem iB{σ:Type}{x y:Code}(F:σ->Env)(K:σ->Heap)(c:J X x (yk (λ E' H'=>∃ s,nP E' (F s)/\aw X H' (K s)) Q) E H)(d:∀ s,J X y Q (F s) (K s)):J X (.seq x y) Q E H:=by
 refine am (Bs c ?_);intro e E' H' b
 cases e with
 |normal=>obtain⟨s,f,g⟩:=b;exact λ a w h i=>d s a w (h.ents _ f) (g w i)
 |_=>exact b
open Go.Lib
def sZ(b:UInt8):Bool:=b.toNat==32||b.toNat==9||b.toNat==13
def jT(r:Nat):Bool:=r==32||r==9||r==13
def cZ(cur:LU_):LU_->List (LU_)
 |[]=>if cur=[] then [] else [cur]
 |b::l=>if sZ b then (if cur=[] then cZ [] l else cur::cZ [] l) else cZ (cur++[b]) l
def bI(l:LU_):List (LU_):=cZ [] l
theorem mB:∀ (t cur r:LU_),(∀ b∈t,sZ b=false)->cZ cur (t++r)=cZ (cur++t) r
 |[],cur,r,_=>by simp
 |b::t,cur,r,h=>by
  rw[Ob,cZ,if_neg (by rw[h b ai];decide),mB t (cur++[b]) r (λ x a=>h x (by simp[a])),NI];rfl
theorem Cf(n a b d f:Nat)(i:1<=n):1<=(decodeN n a b d f).2/\(decodeN n a b d f).2<=n/\(jT (decodeN n a b d f).1=true->(decodeN n a b d f).2=1/\jT a=true)/\
 (jT (decodeN n a b d f).1=false->jT a=false/\(2<=(decodeN n a b d f).2->128<=b)/\(3<=(decodeN n a b d f).2->128<=d)/\(4<=(decodeN n a b d f).2->128<=f))/\(decodeN n a b d f).2<=4:=by
 have hle:=decodeN_le_n' n a b d f i;obtain⟨c2,c3,c4,c5⟩:=decodeN_conts n a b d f;have key:∀ r:Nat,jT r=true↔(r=32\/r=9\/r=13):=λ r=>by simp[jT,or_assoc]
 have g:∀ r:Nat,jT r=false↔¬ (r=32\/r=9\/r=13):=λ r=>by rw[<- key];simp
 have j:1<=(decodeN n a b d f).2:=by
  rcases decodeN_cases n a b d f with ⟨c,e⟩|⟨_,_,_,_,e⟩|⟨_,_,_,_,_,e⟩|⟨_,e⟩|e<;>rw[e]<;>simp
 refine⟨j,hle,λ h=>?_,λ h=>⟨?_,λ k=>?_,λ k=>?_,λ k=>?_⟩,c5⟩
 ·rw[key] at h ⊢
  rcases decodeN_cases n a b d f with ⟨c,e⟩|⟨_,_,_,_,e⟩|⟨_,_,_,_,_,e⟩|⟨c,e⟩|e
  ·rw[e] at h ⊢;exact⟨rfl,h⟩
  ·rw[e] at h;dsimp only at h;omega
  ·rw[e] at h;dsimp only at h;omega
  ·omega
  ·rw[e] at h;dsimp only at h;omega
 ·rw[g] at h ⊢
  rcases decodeN_cases n a b d f with ⟨c,e⟩|⟨c,_,_,_,e⟩|⟨c,_,_,_,_,e⟩|⟨c,e⟩|e
  ·rw[e] at h;exact h
  ·omega
  ·omega
  ·intro l;have:decodeN n a b d f=(a,1):=by unfold decodeN;rw[if_pos aa]
   rw[this] at e;simp at e
  ·intro l;have:decodeN n a b d f=(a,1):=by unfold decodeN;rw[if_pos aa]
   rw[this] at e;simp only[N1] at e;omega
 ·have:=(c2 k).1;omega
 ·have:=(c3 k).1;omega
 ·have:=(c4 k).1;omega
theorem vP(s:ByteArray)(i:Nat)(h:i<s.size):s.data.toList[i]?=some (s.get! i):=by
 obtain⟨⟨l⟩⟩:=s;have a:i<l.length:=h;show l[i]?=_;rw[an a];simp only[ByteArray.get!,Na];show l[i]=l.toArray[i]!;rw[getElem!_pos l.toArray i (by simpa using a)];simp
theorem yU(b:UInt8):sZ b=jT b.toNat:=rfl
theorem Dr(s:ByteArray)(i:Nat)(h:i<s.size):1<=(Utf8.decode s i).2/\i+(Utf8.decode s i).2<=s.size/\
 (jT (Utf8.decode s i).1=true->(Utf8.decode s i).2=1/\∃ b,s.data.toList[i]?=some b/\sZ b=true)/\
 (jT (Utf8.decode s i).1=false->∀ b∈(s.data.toList.drop i).take (Utf8.decode s i).2,sZ b=false):=by
 rw[decode_at];obtain⟨k,p,f,l,q⟩:=Cf (s.size-i) (s.get! i).toNat (s.get! (i+1)).toNat (s.get! (i+2)).toNat (s.get! (i+3)).toNat aa;refine⟨k,aa,λ d=>⟨(f d).1,_,vP s i h,by rw[yU];exact (f d).2⟩,λ d b m=>?_⟩;obtain⟨g0,g1,g2,g3⟩:=l d;obtain⟨j,c,e⟩:=Pp m;rw[ND,N5] at c;rw[PD,List.getElem_drop] at e;have n:s.data.toList.length=s.size:=(size_eq s).symm;have g:s.data.toList[i+j]?=some b:=by rw[an aa,e]
 have o:=vP s (i+j) aa;rw[o] at g;obtain rfl:=NM g;have a:∀ r:Nat,128<=r->jT r=false:=λ r t=>by simp[jT];omega
 rw[yU]
 match j,c with
 |0,_=>exact g0
 |1,c=>exact a _ (g1 aa)
 |2,c=>exact a _ (g2 aa)
 |3,c=>exact a _ (g3 aa)
 |j+4,c=>omega
def nz(s:ByteArray)(x:Nat×Nat):LU_:=(s.extract x.1 x.2).data.toList
theorem En(s:ByteArray):∀ (f pos:Nat) (st:Option Nat) (acc:List (Nat×Nat)),s.size<=pos+f->pos<=s.size->(∀ a,st=some a->a<pos)->
 (closeSpans s (spansFromP jT s f pos st acc)).map (nz s)=acc.map (nz s)++cZ (openPiece s.data.toList st pos) (s.data.toList.drop pos):=by
 have t:s.data.toList.length=s.size:=(size_eq s).symm
 have fin:∀ (f pos:Nat) (st:Option Nat) (acc:List (Nat×Nat)),pos=s.size->(∀ a,st=some a->a<pos)->
  (closeSpans s (spansFromP jT s f pos st acc)).map (nz s)=acc.map (nz s)++cZ (openPiece s.data.toList st pos) (s.data.toList.drop pos):=by
  intro f pos st acc hp p;rw[spansFromP_end jT s f pos st acc aa,List.drop_eq_nil_of_le aa]
  cases st with
  |none=>simp[closeSpans,cZ,openPiece]
  |some a=>
   have c:=p a rfl;have g:pieceU s.data.toList a pos≠[]:=pieceU_ne _ _ _ c aa;have i:nz s (a,s.size)=pieceU s.data.toList a pos:=by unfold nz pieceU;rw[extract_eq,hp]
   simp only[closeSpans,cZ,openPiece,g,↓reduceIte,NJ,Ns,Oi,i]
 intro f
 induction f with
 |zero=>exact λ pos st acc u v k=>fin 0 pos st acc aa k
 |succ f o=>
  intro pos st acc u v k;by_cases c:pos<s.size
  ·obtain⟨d1,d2,d3,d4⟩:=Dr s pos c
   have d:s.data.toList.drop pos=(s.data.toList.drop pos).take (Utf8.decode s pos).2++s.data.toList.drop (pos+(Utf8.decode s pos).2):=by
    rw[<- List.drop_drop,Oh]
   unfold spansFromP;rw[if_pos c]
   cases q:jT (Utf8.decode s pos).1 with
   |true=>
    obtain⟨r,b,w,l⟩:=d3 q
    have j:s.data.toList.drop pos=b::s.data.toList.drop (pos+1):=by
     obtain⟨hl,e⟩:=Nb.1 w;rw[N7 hl,e]
    rw[if_pos rfl,j]
    cases st with
    |none=>
     simp only;rw[o _ none acc aa aa (λ a h=>by cases h),r];simp[openPiece,cZ,l]
    |some a=>
     have m:=k a rfl;have g:pieceU s.data.toList a pos≠[]:=pieceU_ne _ _ _ m aa;simp only;rw[o _ none _ aa aa (λ a h=>by cases h),r];have i:nz s (a,pos)=pieceU s.data.toList a pos:=by unfold nz pieceU;rw[extract_eq]
     simp only[openPiece,cZ,l,↓reduceIte,g,NJ,Ns,Oi,NI,List.singleton_append,i]
   |false=>
    have n:=d4 q;rw[if_neg ab]
    have hw:∀ cur,cZ cur (s.data.toList.drop pos)=cZ (cur++(s.data.toList.drop pos).take (Utf8.decode s pos).2) (s.data.toList.drop (pos+(Utf8.decode s pos).2)):=by
     intro cur
     conv=>lhs;rw[d]
     exact mB _ _ _ n
    cases st with
    |none=>
     simp only;rw[o _ (some pos) acc aa aa (λ a h=>by obtain rfl:=NM h;omega),hw]
     congr 2
     show pieceU _ _ _=[]++_;unfold pieceU;rw[Oj,NV]
    |some a=>
     have m:=k a rfl;simp only;rw[o _ (some a) acc aa aa (λ x h=>by obtain rfl:=NM h;omega),hw]
     congr 2
     exact (pieceU_grow _ _ _ _ aa).symm
  ·exact fin (f+1) pos st acc aa k
theorem vE(s:ByteArray):(goFieldsP jT s).map (·.data.toList)=bI s.data.toList:=by
 unfold goFieldsP spansOfP bI;rw[OD];have:=En s s.size 0 none [] aa aa (λ a h=>by cases h);rw[Oi,Oj,List.drop_zero] at this;exact this
def cM(c:UInt8)(cur:LU_):LU_->List (LU_)
 |[]=>[cur]
 |b::l=>if b=c then cur::cM c [] l else cM c (cur++[b]) l
def aK(l:LU_):List (LU_):=if l=[] then [] else cM 10 [] (trimSuffix l [10])
theorem kh(c:UInt8):∀ (l cur:LU_),(∀ b∈l,b≠c)->cM c cur l=[cur++l]
 |[],cur,_=>by simp[cM]
 |b::l,cur,h=>by rw[cM,if_neg (h b ai),kh c l _ (λ x a=>h x (by simp[a])),NI];rfl
theorem ri(c:UInt8):∀ (l cur r:LU_),(∀ b∈l,b≠c)->cM c cur (l++c::r)=(cur++l)::cM c [] r
 |[],cur,r,_=>by simp[cM]
 |b::l,cur,r,h=>by rw[Ob,cM,if_neg (h b ai),ri c l _ r (λ x a=>h x (by simp[a])),NI];rfl
theorem wu(c:UInt8):∀ (k:Nat) (s:ByteArray),countB s ⟨#[c]⟩=k->(splitB ⟨#[c]⟩ 0 k s).map (·.data.toList)=cM c [] s.data.toList
 |k,s,t=>by
  rcases indexB_cases s ⟨#[c]⟩ with h|⟨i,h,hi⟩
  ·have g:indexByte s.data.toList c=-1:=by rw[← index_one];exact h
   rw[splitB_miss _ _ _ _ h,kh c _ _ (λ b l e=>by
    obtain⟨j,m,f⟩:=Pp l;exact indexByte_none g j (by rw[an m,f,e]))]
   simp
  ·have g:indexByte s.data.toList c=i:=by rw[← index_one];exact h
   obtain⟨p,q⟩:=indexByte_some g;have n:=countB_hit s ⟨#[c]⟩ i (Np 1) h;have a:(⟨#[c]⟩:ByteArray).size=1:=rfl;rw[a] at n;obtain⟨o,rfl⟩:∃ o,k=o+1:=⟨countB (s.extract (i+1) s.size) ⟨#[c]⟩,aa⟩;have r:=wu c o (s.extract (i+1) s.size) aa;have hl:i<s.data.toList.length:=(Nb.1 p).1
   have d:s.data.toList=s.data.toList.take i++c::s.data.toList.drop (i+1):=by
    have e:s.data.toList.drop i=c::s.data.toList.drop (i+1):=by
     rw[N7 hl,(Nb.1 p).2]
    rw[<- e,Oh]
   rw[splitB_hit _ _ _ _ i h,a,Ns,r,extract_to_end]
   conv=>rhs;rw[d]
   rw[ri c _ _ _ (λ b l e=>by
    obtain⟨j,m,f⟩:=Pp l;rw[ND] at m;rw[PD] at f;exact q j aa (by rw[an aa,f,e]))]
   rw[Oj,extract_eq];simp
def sf(b:UInt8):Bool:=decide (48<=b.toNat/\b.toNat<=57)
def j3(acc:Nat)(l:LU_):Nat:=l.foldl (λ n b=>n*10+(b.toNat-48)) acc
def et(l:LU_):Int×Int:=
 let neg:=l.head?=some 45
 let d:=if neg then l.drop 1 else l
 if d=[]\/¬ d.all sf then (0,2) else
 if neg then (if j3 0 d<=9223372036854775808 then (-(j3 0 d:Int),0) else (0,3))
 else (if j3 0 d<=9223372036854775807 then ((j3 0 d:Int),0) else (0,3))
theorem Cr:∀ (l:LU_) (acc:Nat),acc<=j3 acc l
 |[],_=>Np _
 |b::l,acc=>by
  have:=Cr l (acc*10+(b.toNat-48));show acc<=j3 (acc*10+(b.toNat-48)) l;omega
theorem vM:∀ (l:LU_) (acc:Nat),acc<=18446744073709551615->l.all sf=true->parseUintM 18446744073709551615 acc l=if j3 acc l<=18446744073709551615 then .ok (j3 acc l) else .range
 |[],acc,h,_=>by rw[if_pos (by exact h)];rfl
 |b::l,acc,h,a=>by
  rw[Pi,N2] at a;have e:48<=b.toNat/\b.toNat<=57:=by simpa [sf] using a.1
  have f:=Cr l (acc*10+(b.toNat-48));have g:j3 acc (b::l)=j3 (acc*10+(b.toNat-48)) l:=rfl;unfold parseUintM;rw[if_pos e,g];by_cases c:1844674407370955162<=acc
  ·rw[if_pos c,if_neg aa]
  ·rw[if_neg c];by_cases d:18446744073709551615<acc*10+(b.toNat-48)
   ·rw[if_pos d,if_neg aa]
   ·rw[if_neg d];exact vM l _ aa a.2
theorem EA(cs:LU_):∀ l:LU_,trimS l cs=[]↔∀ b∈l,cs.contains b=true:=by
 have d:∀ l:LU_,l.dropWhile (cs.contains ·)=[]↔∀ b∈l,cs.contains b=true:=by
  intro l
  induction l with
  |nil=>simp
  |cons b l f=>
   rw[PP]
   cases a:cs.contains b with
   |true=>rw[if_pos rfl,f];simp only[Nl,forall_eq_or_imp,a,true_and]
   |false=>
    rw[if_neg ab];exact⟨λ h=>by simp at h,λ h=>by rw[h b ai] at a;cases a⟩
 intro l;unfold trimS trimLeftS trimRightS;rw[d]
 constructor
 ·intro h
  have:l.reverse.dropWhile (cs.contains ·)=[]:=by
   cases e:l.reverse.dropWhile (cs.contains ·) with
   |nil=>rfl
   |cons x r=>
    have g:=h x (by rw[e];simp);have c:=List.head?_dropWhile_not (cs.contains ·) l.reverse;rw[e] at c;simp only[PT] at c;rw[g] at c;simp at c
  intro b a;exact (d l.reverse).1 this b (by simpa using a)
 ·intro h b a
  exact h b (by
   have:=List.mem_reverse.1 a
   simpa using (List.dropWhile_sublist (cs.contains ·)).subset this)
theorem vd(b:UInt8):([48,49,50,51,52,53,54,55,56,57]:LU_).contains b=sf b:=by
 have key:∀ i:Fin 256,([48,49,50,51,52,53,54,55,56,57]:LU_).contains (UInt8.ofNat i.val)=sf (UInt8.ofNat i.val):=by decide+kernel
 have:=key ⟨b.toNat,b.toNat_lt⟩
 simpa using this
theorem Lq(l:LU_)(d:LU_)(q:d=trimPrefix l [45]):
 (d=[]\/trimS d [48,49,50,51,52,53,54,55,56,57]≠[]->et l=(0,2))/\
 (¬ (d=[]\/trimS d [48,49,50,51,52,53,54,55,56,57]≠[])->(∃ v,parseIntB 64 l=.ok v/\et l=(v,0))\/(parseIntB 64 l=.range/\et l=(0,3))):=by
 have a:d=if l.head?=some 45 then l.drop 1 else l:=by
  rw[q];unfold trimPrefix hasPrefix
  cases l with
  |nil=>simp
  |cons b l=>
   by_cases f:b=45
   ·subst f;simp[List.isPrefixOf]
   ·have:¬ (45:UInt8)=b:=λ e=>f e.symm;simp[List.isPrefixOf,f,this]
 have n:trimS d [48,49,50,51,52,53,54,55,56,57]≠[]↔¬ d.all sf=true:=by
  rw[ne_eq,EA];simp only[vd,PL]
 rw[n]
 constructor
 ·intro h;unfold et;simp only;rw[<- a,if_pos h]
 ·intro h;obtain⟨o,g⟩:=not_or.1 h;have g:=Nn.1 g
  have m:et l=if l.head?=some 45 then (if j3 0 d<=9223372036854775808 then (-(j3 0 d:Int),0) else (0,3)) else (if j3 0 d<=9223372036854775807 then ((j3 0 d:Int),0) else (0,3)):=by
   unfold et;simp only;rw[<- a,if_neg h]
  have p:parseUintB 64 d=if j3 0 d<=18446744073709551615 then .ok (j3 0 d) else .range:=by
   unfold parseUintB;rw[if_neg o];exact vM d 0 aa g
  cases l with
  |nil=>rw[a] at o;simp at o
  |cons b r=>
   by_cases f:b=45
   ·subst f;have c:d=r:=by rw[a];rfl
    rw[if_pos (show (45::r).head?=some 45 from rfl)] at m
    have hP:parseIntB 64 (45::r)=match parseUintB 64 r with
     |NumEnd.syntax=>NumEnd.syntax
     |.range=>.range
     |.ok u=>if 2^63<u then .range else .ok (-(u:Int)):=by
     unfold parseIntB;simp;rfl
    rw[m,hP,<- c,p];by_cases i:j3 0 d<=18446744073709551615
    ·rw[if_pos i];simp only;by_cases j:j3 0 d<=9223372036854775808
     ·rw[if_neg aa,if_pos j];exact .inl ⟨_,rfl,rfl⟩
     ·rw[if_pos aa,if_neg j];exact .inr ⟨rfl,rfl⟩
    ·rw[if_neg i,if_neg aa];exact .inr ⟨rfl,rfl⟩
   ·have c:d=b::r:=by rw[a,if_neg (by simp[f])]
    rw[if_neg (by simp[f])] at m;have k:sf b=true:=by rw[c] at g;simp at g;exact g.1
    have s:48<=b.toNat/\b.toNat<=57:=by simpa [sf] using k
    have hP:parseIntB 64 (b::r)=match parseUintB 64 (b::r) with
     |NumEnd.syntax=>NumEnd.syntax
     |.range=>.range
     |.ok u=>if 2^63<=u then .range else .ok (u:Int):=by
     have t:¬ b.toNat=45:=aa;have w:¬ b.toNat=43:=aa;unfold parseIntB;simp[t,w];rfl
    rw[m,hP,<- c,p];by_cases i:j3 0 d<=18446744073709551615
    ·rw[if_pos i];simp only;by_cases j:j3 0 d<=9223372036854775807
     ·rw[if_neg aa,if_pos j];exact .inl ⟨_,rfl,rfl⟩
     ·rw[if_pos aa,if_neg j];exact .inr ⟨rfl,rfl⟩
    ·rw[if_neg i,if_neg aa];exact .inr ⟨rfl,rfl⟩
def du(l:LU_):Value:=.string ⟨l.toArray⟩
theorem da(l:LU_):(⟨l.toArray⟩:ByteArray).size=l.length:=by show l.toArray.size=_;simp
theorem qH(l:LU_):(⟨l.toArray⟩:ByteArray).toList=l:=by rw[ByteArray.toList_eq]
theorem kR(l m:LU_):((⟨l.toArray⟩:ByteArray).toList==(⟨m.toArray⟩:ByteArray).toList)=dU (l=m):=by
 rw[qH,qH];by_cases h:l=m
 ·rw[aV h,h];simp
 ·rw[aZ h];simpa using h
section
variable {X:Cx} {E:Env} {H:Heap}
theorem iv{o:Oper}{t d:Nat}{x y:Operand}{l m:LU_}(f:o.op=.binOp .add t x y d)(g:val E x=some (du l))(i:val E y=some (du m))(h:l.length+m.length<=9223372036854775807):i7 X o E H (du (l++m)):=by
 intro a w b j;have c:=run_string_add_sum (P:=Tryz.prog) (w:=w) ⟨l.toArray⟩ ⟨m.toArray⟩ (by rw[da,da];exact h)
 have e:(⟨l.toArray⟩:ByteArray)++⟨m.toArray⟩=⟨(l++m).toArray⟩:=by
  apply ByteArray.ext
  rw[ByteArray.data_append];simp
 rw[e] at c;unfold du at*;simp[execOp,f,b.val g,b.val i,sQ,c,binOp]
theorem Cw{o:Oper}{t a:Nat}{x y:Operand}{l m:LU_}(b:o.op=.binOp .eql t x y a)(c:val E x=some (du l))(d:val E y=some (du m)):i7 X o E H (.bool (dU (l=m))):=by
 have h:i7 X o E H (.bool ((⟨l.toArray⟩:ByteArray).toList==(⟨m.toArray⟩:ByteArray).toList)):=lS (by rw[b];simp only[s6,c,d,du];rfl);rw[kR] at h;exact h
theorem Dd{o:Oper}{t a:Nat}{x y:Operand}{l m:LU_}(b:o.op=.binOp .neq t x y a)(c:val E x=some (du l))(d:val E y=some (du m)):i7 X o E H (.bool (dU (l≠m))):=by
 have h:i7 X o E H (.bool (!((⟨l.toArray⟩:ByteArray).toList==(⟨m.toArray⟩:ByteArray).toList))):=lS (by rw[b];simp only[s6,c,d,du];rfl);rw[kR] at h
 have e:(!(dU (l=m)))=dU (l≠m):=by
  by_cases h:l=m
  ·rw[aV h,aZ (λ k=>k h)];rfl
  ·rw[aZ h,aV h];rfl
 rw[e] at h;exact h
theorem xe{o:Oper}{t s1 s2 i:Nat}{x ix:Operand}{l:LU_}{b:UInt8}{k:IntKind}{z:Option Value}(h:o.op=.index t x ix)(e:val E x=some (du l))(hi:val E ix=some (.int k (i:Int)))
 (j:tab t=some ⟨.string,s1,s2,z⟩) (f:l[i]?=some b):i7 X o E H (.int .u8 (b.toNat:Int)):=by
 intro a w g n;have c:=(Nb.1 f).1;have d:=da l
 have m:(⟨l.toArray⟩:ByteArray)[i]?=some b:=by
  rw[getElem?_pos _ _ (by rw[d];exact c)];show some (l.toArray[i])=_;rw[<- f,an c];simp
 unfold du at e;simp[execOp,h,g.val e,g.val hi,Instr.index,asIntOf,run_underlying (kE j),m]
theorem Hb{o:Oper}{t s1 s2 i:Nat}{x c:Operand}{l:LU_}{k:IntKind}{z:Option Value}(g:o.op=.slice t x (some c) none none)(d:val E x=some (du l))(b:val E c=some (.int k (i:Int)))
 (h:tab t=some ⟨.string,s1,s2,z⟩) (hi:i<=l.length):i7 X o E H (du (l.drop i)):=by
 intro a w e m;have f:=kE h;have j:=run_slice_string_l (P:=Tryz.prog) (w:=w) (t:=t) (s:=⟨l.toArray⟩) f k (i:Int) aa (by rw[da];omega);unfold du at d;simp[execOp,g,e.val d,e.val b,run_sliceAt_string w t _ _ _ _ f,j,du];rw[Go.Lib.extract_eq,Of (by rw[N5];simp[da])]
end
theorem Fn.of_same{f:FuncId}{args:LV_}{H:Heap}{v:Value}{R:Value->Heap->Prop}(h:∀ w,Calls Tryz.prog f args.toArray w λ e w'=>e=.returned v/\w'=w)(b:R v []):Fn f args [] H R:=λ w hw=>
 (h w).mono λ e w' ⟨he,a⟩=>⟨v,[],he,(by subst a;exact hw.mono (λ c d=>by cases d) List.Pairwise.nil),b⟩
theorem oS{w w':World}{H:Heap}(hw:dL w [] w H)(a:Below w.heap.size w w'):dL w [] w' []:=
 ⟨a.os,a.tape,a.output,a.size,λ k d _=>a.block k d,λ c b=>absurd b Nr,λ c b=>absurd b Nr,List.Pairwise.nil⟩
theorem Fn.of_below{f:FuncId}{args:LV_}{H:Heap}{R:Value->Heap->Prop}(h:∀ w,dL w [] w H->Calls Tryz.prog f args.toArray w λ e w'=>∃ v,e=.returned v/\Below w.heap.size w w'/\R v []):Fn f args [] H R:=λ w hw=>
 (h w hw).mono λ e w' ⟨v,he,a,b⟩=>⟨v,[],he,oS hw a,b⟩
variable {X:Cx} {Q:e6} {E E':Env} {H H' K Sf:Heap}
abbrev af(x:Int):Value:=.int .i64 x
abbrev aJ(b o:Nat):OA_:=some ⟨b,o,none⟩
abbrev ap(b o:Nat):Value:=.pointer (some ⟨b,o,none⟩)
abbrev ax(b o n c:Nat):Value:=.slice (some ⟨b,o,none⟩) n c
theorem bx{b off:Nat}{vs:LV_}(k:Nat)(h:H[k]?=some (.seg b off vs)):∃ k c,k∉([]:LN_)/\H[k]?=some c/\c.shows b off vs/\(vs=[]\/c.at_=some b):=⟨k,_,by simp,h,bn _ _ _,cC⟩
theorem en{b e:Nat}{vs:LV_}(k:Nat)(h:H[k]?=some (blk b e vs)):∃ k c,k∉([]:LN_)/\H[k]?=some c/\c.shows b 0 vs/\(vs=[]\/c.at_=some b):=⟨k,_,by simp,h,aQ _ _ _ (0,0),.inr rfl⟩
theorem gy{g e sz n cap:Nat}{A:OA_}{xs:LV_}(k:Nat)(h:H[k]?=some (.own (.slice A n cap) e sz n xs))(hA:xs≠[]->A=some ⟨g,0,none⟩):∃ k c,k∉([]:LN_)/\H[k]?=some c/\c.shows g 0 xs/\(xs=[]\/c.at_=some g):=⟨k,_,by simp,h,bi hA,bO hA⟩
theorem gC{c:aU}{b off:Nat}{vs:LV_}(k:Nat)(h:H[k]?=some c)(h1:c.shows b off vs)(h2:vs=[]\/c.at_=some b):∃ k c,k∉([]:LN_)/\H[k]?=some c/\c.shows b off vs/\(vs=[]\/c.at_=some b):=⟨k,c,by simp,h,h1,h2⟩
theorem bZ{ops:List Oper}{ops0:List Oper}{rest:List (Nat×Bool)}{P:Env->Heap->Prop}(ix:LN_)(h:JW X ops0 rest Sf P E H)(h1:ix.Nodup:=by decide)(h2:cI H ix=some Sf:=by exact rfl):JL X ops [] (G0 X ops0 rest Sf P) E H:=ah ⟨⟨ix,h1,h2⟩,h⟩
theorem bh{ops l:List Oper}{o:Oper}{t b i e:Nat}{x:Operand}{cs:LV_}{v:Value}(k:Nat)(h:JL X ops l Q E' H)(h1:(o.op,val E x,H[k]?,fP t cs i)=(.load t x,some (.pointer (some ⟨b,i,none⟩)),some (blk b e cs),some v):=by exact rfl)(hb:jN X.n ops [] E o v=some E':=by exact rfl):JL X ops (o::l) Q E H:=by
 simp only[N1] at h1;exact ae [] (bz k h1.1 h1.2.1 h1.2.2.1 h1.2.2.2) hb h
theorem aG{ops l:List Oper}{o:Oper}{v:Value}(hv:i7 X o E H v)(h:JL X ops l Q E' H)(hb:jN X.n ops [] E o v=some E':=by exact rfl):JL X ops (o::l) Q E H:=ae [] hv hb h
theorem bc{ops:List Oper}{rest:List (Nat×Bool)}{k:Nat}{o:Oper}{v:Value}{K:Env->Heap->Prop}(ho:ops[k]?=some o)(hv:i7 X o E Sf v)(h:JW X ops rest Sf K E' H)(hb:jN X.n ops [] E o v=some E':=by exact rfl):JW X ops ((k,true)::rest) Sf K E H:=aF [] ho hv hb h
section
variable {F:Value->Env} {ops l:List Oper} {o:Oper} {f:Operand} {args:Array Operand} {ts:Array TypeId} {g:FuncId} {fst cap vs args':LV_} {R:Value->Heap->Prop} {S C G:Heap} {V:Value}
theorem dB(T:Fn g args' [] S R)(h1:(o.op,val E f,vals E args.toList,fst++vs++cap)=(.call ⟨.value f,args,ts⟩,some (.func (.func g) fst.toArray cap.toArray),some vs,args'))
 (hS:jj H [] S) (h:∀ v H',R v H'->f5 H'=true/\JL X ops l Q (F v) (H'++H)) (hc:eg g=true:=by kernel_rfl) (hb:∀ v,jN X.n ops [] E o v=some (F v):=by exact λ _=>rfl):JL X ops (o::l) Q E H:=by
 simp only[N1] at h1;exact bj [] T h1.1 h1.2.1 h1.2.2.1 h1.2.2.2 hc hS hb h
theorem fh(T:Fn g args' [] S R)(h1:(o.op,val E f,vals E args.toList,fst++vs++cap)=(.call ⟨.value f,args,ts⟩,some (.func (.func g) fst.toArray cap.toArray),some vs,args'))
 (hS:jj H [] S) (h:∀ v H',R v H'->JL X ops l Q (F v) (H'++H)) (hc:eg g=true:=by kernel_rfl) (hb:∀ v,jN X.n ops [] E o v=some (F v):=by exact λ _=>rfl)
 (hn:∀ v H',R v H'->f5 H'=true:=by rintro _ _ _h;repeat (first|exact (by subst _h;rfl)|obtain⟨_,_h⟩:=_h)):JL X ops (o::l) Q E H:=dB T h1 hS (λ v H' k=>⟨hn v H' k,h v H' k⟩) hc hb
theorem cH(T:Fn g args' [] S λ v H'=>v=V/\H'=G)(h1:(o.op,val E f,vals E args.toList,fst++vs++cap)=(.call ⟨.value f,args,ts⟩,some (.func (.func g) fst.toArray cap.toArray),some vs,args'))
 (hS:jj H [] S) (h:JL X ops l Q (F V) (G++H)) (hc:eg g=true:=by kernel_rfl) (hb:∀ v,jN X.n ops [] E o v=some (F v):=by exact λ _=>rfl) (hn:f5 G=true:=by exact rfl):JL X ops (o::l) Q E H:=
 dB T h1 hS (λ v H' k=>by obtain⟨rfl,rfl⟩:=k;exact⟨hn,h⟩) hc hb
theorem dC(T:Fn g args' (ay C) (S++C) R)(h1:(o.op,val E f,vals E args.toList,fst++vs++cap)=(.call ⟨.value f,args,ts⟩,some (.func (.func g) fst.toArray cap.toArray),some vs,args'))
 (hfit:aw X H (C++K)) (hS:jj K [] S) (h:∀ v H',R v H'->f5 H'=true/\JL X ops l Q (F v) (H'++K)) (hc:eg g=true:=by kernel_rfl) (hb:∀ v,jN X.n ops [] E o v=some (F v):=by exact λ _=>rfl):JL X ops (o::l) Q E H:=by
 simp only[N1] at h1;exact bJ [] T h1.1 h1.2.1 h1.2.2.1 h1.2.2.2 hc hfit hS hb h
theorem sk(T:Fn g args' (ay C) (S++C) R)(h1:(o.op,val E f,vals E args.toList,fst++vs++cap)=(.call ⟨.value f,args,ts⟩,some (.func (.func g) fst.toArray cap.toArray),some vs,args'))
 (hfit:aw X H (C++K)) (hS:jj K [] S) (h:∀ v H',R v H'->JL X ops l Q (F v) (H'++K)) (hc:eg g=true:=by kernel_rfl) (hb:∀ v,jN X.n ops [] E o v=some (F v):=by exact λ _=>rfl)
 (hn:∀ v H',R v H'->f5 H'=true:=by rintro _ _ _h;repeat (first|exact (by subst _h;rfl)|obtain⟨_,_h⟩:=_h)):JL X ops (o::l) Q E H:=dC T h1 hfit hS (λ v H' k=>⟨hn v H' k,h v H' k⟩) hc hb
theorem iy(T:Fn g args' (ay C) (S++C) λ v H'=>v=V/\H'=G)(h1:(o.op,val E f,vals E args.toList,fst++vs++cap)=(.call ⟨.value f,args,ts⟩,some (.func (.func g) fst.toArray cap.toArray),some vs,args'))
 (hfit:aw X H (C++K)) (hS:jj K [] S) (h:JL X ops l Q (F V) (G++K)) (hc:eg g=true:=by kernel_rfl) (hb:∀ v,jN X.n ops [] E o v=some (F v):=by exact λ _=>rfl) (hn:f5 G=true:=by exact rfl):JL X ops (o::l) Q E H:=
 dC T h1 hfit hS (λ v H' k=>by obtain⟨rfl,rfl⟩:=k;exact⟨hn,h⟩) hc hb
end
theorem dz{ops l:List Oper}{o:Oper}{t b i e:Nat}{x y:Operand}{v:Value}{cs cs':LV_}(k:Nat)(h:JL X ops l Q E' (H.set k (blk b e cs')))(h1:(o.op,val E x,val E y,H[k]?,rp t cs i v.cells.toList)=(.store t x y,some (.pointer (some ⟨b,i,none⟩)),some v,some (blk b e cs),some cs'):=by exact rfl)(hb:jN X.n ops [] E o undef=some E':=by exact rfl):JL X ops (o::l) Q E H:=by
 simp only[N1] at h1;exact uh k h1.1 h1.2.1 h1.2.2.1 h1.2.2.2.1 h1.2.2.2.2 [] hb h
theorem cX{ops:List Oper}(gs:LN_){l:List Oper}(k:Q .normal E' H)(h:IS X.n ops gs E l=(E',[]):=by exact rfl):JL X ops l Q E H:=c8 gs h k
theorem bX{ops l l':List Oper}(gs:LN_)(k:JL X ops l' Q E' H)(h:IS X.n ops gs E l=(E',l'):=by exact rfl):JL X ops l Q E H:=fS gs h k
theorem d7{ops l:List Oper}(t:Nat){p:Prop}(hv:ii E t=some (.bool (dU p)))(hp:p)(h:JL X ops l Q ((t,.bool true)::E) H):JL X ops l Q E H:=aB t hv (M8 Value.bool (aV hp)) h
theorem dD{ops l:List Oper}(t:Nat){p:Prop}(hv:ii E t=some (.bool (dU p)))(hp:¬ p)(h:JL X ops l Q ((t,.bool false)::E) H):JL X ops l Q E H:=aB t hv (M8 Value.bool (aZ hp)) h
theorem pj{c:Code}(t:Nat){p:Prop}(hv:ii E t=some (.bool (dU p)))(hp:p)(h:J X c Q ((t,.bool true)::E) H):J X c Q E H:=bB t hv (M8 Value.bool (aV hp)) h
theorem nj{c:Code}(t:Nat){p:Prop}(hv:ii E t=some (.bool (dU p)))(hp:¬ p)(h:J X c Q ((t,.bool false)::E) H):J X c Q E H:=bB t hv (M8 Value.bool (aZ hp)) h
theorem lF{c:Code}(t:Nat){l:LU_}(m:LU_)(h:J X c Q ((t,.bool false)::E) H)(hv:ii E t=some (.bool ((⟨l.toArray⟩:ByteArray).toList==(⟨m.toArray⟩:ByteArray).toList)):=by exact rfl)(hp:¬ l=m:=by first|assumption|decide):J X c Q E H:=bB t hv (M8 Value.bool ((kR _ m).trans (aZ hp))) h
theorem sY{c:Code}(t:Nat)(m:LU_)(h:J X c Q ((t,.bool true)::E) H)(hv:ii E t=some (.bool ((⟨m.toArray⟩:ByteArray).toList==(⟨m.toArray⟩:ByteArray).toList)):=by exact rfl):J X c Q E H:=bB t hv (M8 Value.bool ((kR _ m).trans (aV rfl))) h
theorem dM {F:Nat→Env} {ops l:List Oper} {o:Oper} {e sz by_:Nat} {uk:UK} {v:Value} {cs:List Value} (h:∀ b,JL X ops l Q (F b) (blk b e cs::H)) (ho:o.op=.alloc e:=by exact rfl) (ht:tab e=some ⟨uk,sz,by_,some v⟩:=by exact rfl) (hc:v.cells=cs.toArray:=by exact rfl)
 (hb:∀ b,jN X.n ops [] E o (.pointer (some ⟨b,0,none⟩))=some (F b):=by exact λ _=>rfl):JL X ops (o::l) Q E H:=nq ho ht hc hb h
theorem dh {F:Nat→Env} {ops l:List Oper} {o:Oper} {e:Nat} {x:Operand} {v:Value} {cs:List Value} (h:∀ b,JL X ops l Q (F b) (blk b e cs::H)) (ho:o.op=.box e x:=by exact rfl) (hx:val E x=some v:=by exact rfl) (hc:v.cells=cs.toArray:=by exact rfl)
 (hb:∀ b,jN X.n ops [] E o (.pointer (some ⟨b,0,none⟩))=some (F b):=by exact λ _=>rfl):JL X ops (o::l) Q E H:=A8 ho hx hc hb h
theorem dp {F:Nat→Env} {ops l:List Oper} {o:Oper} {t e n sz by_ sz' by':Nat} {ps:Array (Nat×Operand)} {vs:List (Nat×Value)} {uk:UK} {zv:Value} {z:Option Value} {cs:List Value} (h:∀ b,JL X ops l Q (F b) (blk b e cs::H)) (ho:o.op=.buildSlice t n ps:=by exact rfl)
 (hp:rA E ps.toList=some vs:=by exact rfl) (ht:tab t=some ⟨.slice e,sz',by',z⟩:=by exact rfl) (he:tab e=some ⟨uk,sz,by_,some zv⟩:=by exact rfl) (hd:vp vs 0 sz=some cs:=by exact rfl) (hn:vs.length=n:=by exact rfl) (hz:Nat.ble (n*sz) 65536=true:=by exact rfl)
 (hb:∀ b,jN X.n ops [] E o (.slice (some ⟨b,0,none⟩) n n)=some (F b):=by exact λ _=>rfl):JL X ops (o::l) Q E H:=b5 ho hp ht he hd hn hz hb h
theorem aL(l:LN_)(h:Q .ret E K)(hl:l.Nodup:=by decide)(hK:cI H l=some K:=by exact rfl):J X .ret Q E H:=hZ l hl hK (bM h)
theorem aT{f:FuncId}{fn:Func}{c:Code}{args:LV_}{M:LN_}{R:Value->Heap->Prop}(hf:Tryz.prog.funcs[f]?=some fn)
 (h:∀ w0,J ⟨w0,M,⟨fn.ntmps,[]⟩⟩ c (L5 fn.results.toList R) (pE 0 args) H) (hb:fn.body=some c:=by exact rfl) (hn:Nat.ble args.length fn.ntmps=true:=by exact rfl):Fn f args M H R:=KV hf hb hn h
end Go.Proofs.YtmcnpaelaieniaaGreatDoor
