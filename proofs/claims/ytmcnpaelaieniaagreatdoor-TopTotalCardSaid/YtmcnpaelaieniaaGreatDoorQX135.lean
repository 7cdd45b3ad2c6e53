import Derived.Test.YtmcnpaelaieniaaGreatDoorQX127
import Derived.Test.YtmcnpaelaieniaaGreatDoorQX134
/- A part of the proof. -/
set_option linter.unusedVariables false
set_option linter.unusedSimpArgs false
set_option maxHeartbeats 8000000
namespace Go.Proofs.YtmcnpaelaieniaaGreatDoor
open Go.RowKit
def dB(nr k:Nat):Int:=if k<nr then 2^(nr-1-k) else 0
theorem oV{nr k:Nat}(h:k<nr):1<=dB nr k:=by
 unfold dB;rw[if_pos h];have:(0:Int)<2^(nr-1-k):=Int.pow_pos ab;omega
theorem oG{nr k:Nat}(h:nr<=k):dB nr k=0:=by unfold dB;rw[if_neg aa]
theorem vg{k:Nat}:dB (k+1) k=1:=by unfold dB;rw[if_pos aa];simp
theorem sY{nr k:Nat}(h:k+1<nr):dB nr k=2*dB nr (k+1):=by
 unfold dB;rw[if_pos aa,if_pos h,show nr-1-k=(nr-1-(k+1))+1 by omega,Int.pow_succ];omega
theorem BH(nr k:Nat):dB nr (k+1)=dB nr k/2:=by
 by_cases h:k+1<nr
 ·rw[sY h];omega
 ·rw[oG (k:=k+1) aa];by_cases a:k<nr
  ·obtain rfl:nr=k+1:=by omega
   rw[vg];rfl
  ·rw[oG aa];rfl
theorem F1{nr k:Nat}(h:nr<=63):dB nr k<=4611686018427387904:=by
 unfold dB;split
 ·have:(2:Nat)^(nr-1-k)≤2^62:=Nat.pow_le_pow_right ab aa;have e:((2^(nr-1-k):Nat):Int)=2^(nr-1-k):=by rw[Int.natCast_pow];rfl
  rw[<- e];omega
 ·omega
structure pn where
 least:Int
 p:Nat
 w:Nat
 v:Int
inductive Sc (N:aV) (nr:Nat):Nat->LI_->List pn->Prop
 |nil:Sc N nr 0 (List.replicate N.arcs.length 0) []
 |step {k:Nat} {f f':LI_} {ts:List pn} {p w:Nat}:Sc N nr k f ts->k<nr->Dn N (dB nr k) f p w f'->Sc N nr (k+1) f' (ts++[⟨dB nr k,p,w,dH (N.arcs.zip f') N.snk⟩])
def y8(ts:List pn)(i:Nat):Int:=if i=0 then 0 else match ts[i-1]? with
 |some t=>t.v
 |none=>0
theorem Kg{N:aV}:dH (N.arcs.zip (List.replicate N.arcs.length 0)) N.snk=0:=nq N.arcs N.snk
def GS(lv:LI_)(n:Nat):LI_:=((List.range (n+1)).filter λ (v:Nat)=>decide (0<v/\0<=dL lv v)).map λ (v:Nat)=>(v:Int)
theorem nQ{lv:LI_}{n:Nat}{x:Int}:x∈GS lv n↔1<=x/\x<=n/\0<=dL lv x.toNat:=by
 unfold GS;refine w6 ?_
 constructor
 ·rintro⟨v,⟨b,c,a⟩,rfl⟩;exact⟨aa,aa,by rwa [NA]⟩
 ·rintro⟨b,c,a⟩;exact⟨x.toNat,⟨aa,aa,a⟩,aa⟩
theorem J4{N:aV}(b:N.Right){rm lv:LI_}{least:Int}(h:fw N rm least lv)(e:dL lv N.snk.toNat<0):fm N (GS lv N.nodes.toNat):=by
 have c:=b.nodes;have d:=b.src;refine⟨?_,λ x a=>?_,nQ.2 ⟨d.1,aa,by rw[h.src];exact Ox _⟩,λ a=>?_⟩
 ·unfold GS;rw[List.pairwise_map];exact List.Pairwise.filter _ (List.pairwise_lt_range.imp λ h=>by omega)
 ·have:=nQ.1 a;exact⟨this.1,aa⟩
 ·have:=(nQ.1 a).2.2;omega
theorem u0(b:Int):∀ (l:LI_),(∀ x∈l,x<=b)->l.sum<=b*l.length
 |[],_=>by simp
 |x::l,h=>by
  have c:=u0 b l λ y a=>h y (by simp[a]);have:=h x ai;rw[ND,Nh,Pu,Int.mul_add];omega
theorem gap{N:aV}(d:N.Right){f g lv:LI_}{least:Int}(hle:1<=least)(j:aD N f)(q:aD N g)(b:fw N (bc (N.arcs.zip f)) least lv)(r:dL lv N.snk.toNat<0):
 dH (N.arcs.zip g) N.snk-dH (N.arcs.zip f) N.snk<=(least-1)*N.arcs.length:=by
 have m:=J4 d b r;have t:=d.nodes;obtain⟨s,c⟩:∃ s,s=GS lv N.nodes.toNat:=⟨_,rfl⟩;rw[<- c] at m;have B:=yd d q m;have C:=oT d j m;have u:=oF s (N.arcs.zip f);rw[show (N.arcs.zip f).map (·.1)=N.arcs from List.map_fst_zip (by have:=j.len;omega)] at u;have v:=u0 (least-1) (nT s (N.arcs.zip f)) λ x w=>?_
 ·rw[show (nT s (N.arcs.zip f)).length=N.arcs.length by unfold nT;rw[Nm,O0,j.len,Pn]] at v;omega
 ·obtain⟨p,hp,rfl⟩:=List.mem_map.1 w;obtain⟨i,hi,n⟩:=List.mem_iff_getElem.1 hp;have o:(N.arcs.zip f)[i]?=some p:=by rw[List.getElem?_eq_getElem hi,n]
  have k:=(N0.1 o).1;have y:=(Ng.1 k).1;have e:=d.arc p.1 (Nb k);obtain⟨g1,g2⟩:=eh o;have D:=j.all p hp
  have z:df N (2*i)=(p.1.fr,p.1.to):=by
   unfold df;rw[show 2*i/2=i by omega,k];show ed p.1 (2*i)=_;unfold ed;rw[if_neg aa]
  have A:df N (2*i+1)=(p.1.to,p.1.fr):=by
   unfold df;rw[show (2*i+1)/2=i by omega,k];show ed p.1 (2*i+1)=_;unfold ed;rw[if_pos aa]
  have k1:=b.step (2*i) aa;have l:=b.step (2*i+1) aa;unfold eN gR at k1 l;rw[z,Nf,g1,NL] at k1;rw[A,Nf,g2,NL] at l;simp only at k1 l;have m1:p.1.fr∈s↔0<=dL lv p.1.fr.toNat:=by rw[c,nQ];exact⟨λ h=>h.2.2,λ h=>⟨e.1.1,aa,h⟩⟩
  have m2:p.1.to∈s↔0<=dL lv p.1.to.toNat:=by rw[c,nQ];exact⟨λ h=>h.2.2,λ h=>⟨e.2.1.1,aa,h⟩⟩
  by_cases a:p.1.fr∈s<;>by_cases c2:p.1.to∈s
  ·rw[if_neg (λ h=>h.2 c2),if_neg (λ h=>h.1 a)];omega
  ·rw[if_pos ⟨a,c2⟩,if_neg (λ h=>h.1 a)];have:¬ least<=p.1.cap-p.2:=λ h=>c2 (m2.2 (k1 h (m1.1 a)).1);omega
  ·rw[if_neg (λ h=>a h.1),if_pos ⟨a,c2⟩];have:¬ least<=p.2:=λ h=>a (m1.2 (l h (m2.1 c2)).1);omega
  ·rw[if_neg (λ h=>a h.1),if_neg (λ h=>c2 h.2)];omega
structure LQ (N:aV) (nr i:Nat) (was:Int) (t:pn):Prop where
 least:t.least=dB nr i
 pos:1<=t.least
 rise:t.least*t.w<=t.v-was
 same:t.w=0↔t.v=was
 walks:t.p<=t.w
 few:(t.p:Int)+1<=N.nodes
 gap:∀ g,aD N g->dH (N.arcs.zip g) N.snk-t.v<=(t.least-1)*N.arcs.length
 up:0<i->t.v-was<=(2*t.least-1)*N.arcs.length
 bound:0<=t.v/\t.v<=4611686018427387903
theorem Dn.zero{N:aV}{least:Int}{f f':LI_}{p k:Nat}(h:Dn N least f p k f')(a:N.Right)(hle:1<=least)(b:aD N f):k=0->f'=f:=by
 cases h with
 |stop _ _=>exact λ _=>rfl
 |@step _ f1 _ lv ws p k c d e g=>
  intro i;have:=(e.keeps a hle b c).2.2 d;have:=NM.2 this;omega
theorem Sc.all{N:aV}(c:N.Right){nr k:Nat}{f:LI_}{ts:List pn}(h:Sc N nr k f ts):k<=nr/\aD N f/\ts.length=k/\dH (N.arcs.zip f) N.snk=y8 ts k/\0<=y8 ts k/\(∀ i t,ts[i]?=some t->LQ N nr i (y8 ts i) t)/\
 (0<k->∃ lv,fw N (bc (N.arcs.zip f)) (dB nr (k-1)) lv/\dL lv N.snk.toNat<0):=by
 induction h with
 |nil=>
  refine⟨Nl _,iV N c,rfl,?_,?_,λ i t h=>(by simp at h),λ h=>absurd h aa⟩
  ·rw[Kg];rfl
  ·exact Ox _
 |@step k f f' ts p w H v q z=>
  obtain⟨_,o,hl,A,B,j,d⟩:=z;have hle:=oV v;obtain⟨k1,I,C,r,x,y⟩:=q.keeps c hle o
  have hw:y8 (ts++[⟨dB nr k,p,w,dH (N.arcs.zip f') N.snk⟩]) (k+1)=dH (N.arcs.zip f') N.snk:=by
   unfold y8;rw[if_neg aa,show k+1-1=ts.length by omega,List.getElem?_concat_length]
  have m:∀ i,i<=k->y8 (ts++[⟨dB nr k,p,w,dH (N.arcs.zip f') N.snk⟩]) i=y8 ts i:=by
   intro i hi;unfold y8;by_cases b:i=0
   ·rw[if_pos b,if_pos b]
   ·rw[if_neg b,if_neg b,NZ aa]
  have D:0<=dB nr k*(w:Int):=Int.mul_nonneg aa aa;refine⟨v,k1,by rw[Nj,hl];rfl,hw.symm,by rw[hw];omega,λ i t n=>?_,λ _=>⟨r,x,y⟩⟩;by_cases hi:i<k
  ·rw[NZ aa] at n;rw[m i aa];exact j i t n
  ·obtain rfl:i=k:=by
    have:=(Ng.1 n).1;rw[Nj,hl] at this;simp at this;omega
   have s:∀ X:pn,(ts++[X])[i]?=some X:=λ X=>by have:=List.getElem?_concat_length (l:=ts) (a:=X);rwa [hl] at this
   rw[s] at n;obtain rfl:=NK n;rw[m i (Nr _),<- A];have E:=dm c k1.toRanged N.snk;refine⟨rfl,hle,by show dB nr i*(w:Int)<=dH (N.arcs.zip f') N.snk-dH (N.arcs.zip f) N.snk;omega,⟨λ b=>?_,λ b=>?_⟩,C,q.few c hle o,λ g F=>?_,λ u=>?_,by show 0<=dH (N.arcs.zip f') N.snk;omega,E.2⟩
   ·have b:w=0:=b;show dH (N.arcs.zip f') N.snk=dH (N.arcs.zip f) N.snk;rw[q.zero c hle o b]
   ·have b:dH (N.arcs.zip f') N.snk=dH (N.arcs.zip f) N.snk:=b;show w=0
    rcases Pa w with h|h
    ·exact h
    ·have:1*1<=dB nr i*(w:Int):=Int.mul_le_mul hle aa aa aa;omega
   ·exact gap c hle k1 F x y
   ·obtain⟨G,g1,g2⟩:=d u;have e:=sY (nr:=nr) (k:=i-1) aa;rw[show i-1+1=i by omega] at e;have:=gap c (oV (show i-1<nr by omega)) o k1 g1 g2;rw[e] at this;exact this
def mh(l:List ej):Int:=l.foldl (λ m a=>if a.cap>m then a.cap else m) 0
theorem u4(l:List ej):∀ (x:Int),(∀ a∈l,0<=a.cap)->x<=l.foldl (λ m a=>if a.cap>m then a.cap else m) x/\(∀ a∈l,a.cap<=l.foldl (λ m a=>if a.cap>m then a.cap else m) x)/\(l.foldl (λ m a=>if a.cap>m then a.cap else m) x=x\/∃ a∈l,l.foldl (λ m a=>if a.cap>m then a.cap else m) x=a.cap):=by
 induction l with
 |nil=>exact λ x _=>⟨Ox _,λ a h=>(by simp at h),.inl rfl⟩
 |cons b l g=>
  intro x h;simp only[OH];obtain⟨f,i2,i3⟩:=g (if b.cap>x then b.cap else x) λ a c=>h a (by simp[c]);refine⟨?_,λ a c=>?_,?_⟩
  ·split at f<;>rename_i d<;>simp only[d,O7,PJ]<;>omega
  ·rcases Nn.1 c with rfl|c
   ·split at f<;>rename_i d<;>simp only[d,O7,PJ]<;>omega
   ·exact i2 a c
  ·rcases i3 with e|⟨a,c,e⟩
   ·by_cases d:b.cap>x
    ·right;rw[if_pos d] at e ⊢;exact⟨b,ai,e⟩
    ·left;rw[if_neg d] at e ⊢;exact e
   ·exact .inr ⟨a,by simp[c],e⟩
theorem EK(n:Int):Fn 44 [.int .i64 n] [] [] λ v H'=>∃ p,v=.func (.func 86) #[] #[.pointer (some ⟨p,0,none⟩)]/\H'=[blk p 2 [.int .i64 n]]:=by
 refine aT Tryz.func44 λ w0=>?_;refine bu ?_;refine cY λ b=>?_;refine cR ?_;exact bN ⟨_,rfl,b,rfl,rfl⟩
section
variable {G:Nat->World->Prop} {n:Nat} {E:Env} {k nr l:Nat} {x:Nat->LV_} {ops:List Oper} {R:Exit->Act->World->Prop}
theorem EG{d:List Oper}{o:Oper}{f:Operand}{args:Array Operand}{ts:Array TypeId}{g:Env}(gs:LN_)(j:∀ k W,k<nr->G k W->YieldAt Fence.wide 0 Tryz.prog l (x k).toArray W λ e i=>e=.returned (.bool true)/\G (k+1) i)(m:k<nr)
 (p:o.op=.call ⟨.value f,args,ts⟩) (q:val E f=some (.func (.yield l) #[] #[])) (r:vals E args.toList=some (x k)) (s:jD ⟨n,[]⟩ ops gs E o (.bool true)=some g) (h:JY G n ops d R g (k+1)):JY G n ops (o::d) R E k:=by
 intro a w b t;obtain⟨u,hp⟩:=d7 s;obtain⟨fn,tmps,assign,body,v,y⟩:=j k w m t;unfold wpListIn;rw[if_pos (fB b u)];refine⟨λ _ _=>trivial,?_⟩
 have z:args.map a.eval=(x k).toArray:=by
  rw[<- b.vals _ _ r];exact Array.ext' ai
 have A:o.semAt Fence.wide.round a.eval=execOp a.eval o:=Oper.semAt_none a.eval o
 have he:(execOp a.eval o).run Tryz.prog w=.ok (.round l fn tmps assign body) w:=by
  simp[execOp,p,resolve,invoke,Deferred.ofValue,b.val q,z,v]
 rw[A,he,Oper.uponIn_round];refine⟨λ B=>(by simp[Fence.wide] at B),y.mono ?_⟩;rintro e i ⟨rfl,c⟩;exact h _ _ (b.putE hp) c
end
def IC(nr:Nat)(k:Nat):LV_:=[.int .i64 (dB nr k)]
theorem xI(p nr:Nat)(h1:nr<=63):FY 86 [.pointer (some ⟨p,0,none⟩)] p 2 (dB nr 0) nr (IC nr):=by
 intro l J w r B hY h0;refine calls_of_wp Tryz.func86 rfl ?_;have K:=np (n:=12) (args:=[.func (.yield l) #[] #[],ap p 0]) rfl;refine wp_block (wp_loop_ghost (λ m a w=>∃ k,m=nr-k/\k<=nr/\gz ⟨12,[]⟩ a [(1,ap p 0),(0,.func (.yield l) #[] #[])]/\J k (dB nr k) w) nr ⟨0,rfl,Nl _,K.ents _ a7,h0⟩ ?_);rintro m a w ⟨k,rfl,U,s,o⟩;obtain⟨G,d⟩:∃ G:Nat->World->Prop,G=λ j W=>J j (dB nr k) W:=⟨_,rfl⟩
 have t:∀ j W,G j W->∀ c∈[aY.seg p 0 [af (dB nr k)]],c.holds W:=by
  rintro j W q c I;rw[d] at q;rw[Ni.1 I];exact λ i v hv=>aS p 2 _ (0,0) W (r j _ W q) i v hv
 have u:∀ j W A,G j W->dN W [] A []->G j A:=by
  intro j W A q h;rw[d] at q ⊢;have I:=r j _ W q
  exact B j _ _ W A q ⟨h.os,h.tape,h.output,h.size,λ k U _=>h.keep k U ai,λ c y=>by
   rw[Ni.1 y];exact aY.holds_of I λ b C=>h.keep b (aY.at_lt I C) ai,λ c y b C=>.inr (by rw[Ni.1 y] at C;simp[aY.mine] at C;simp[C]),OT _ _⟩
 have L:∀ j W,j<nr->G j W->YieldAt Fence.wide 0 Tryz.prog l (IC nr j).toArray W λ e A=>e=.returned (.bool true)/\G (j+1) A:=by
  intro j W q o;rw[d] at o ⊢;exact hY j _ W q o
 have D:G k w:=by rw[d];exact o
 suffices f:WG G 12 _ _ [(1,ap p 0),(0,.func (.yield l) #[] #[])] k from f _ _ s D
 clear s o D
 by_cases z:k<nr
 ·have V:=oV z;refine mO<|mO (ww ?_);refine wM (S:=[.seg p 0 [af (dB nr k)]]) (F:=[(5,.bool true),(6,.func (.yield l) #[] #[]),(7,af (dB nr k)),(1,ap p 0),(0,.func (.yield l) #[] #[])]) 5 rfl t u rfl (λ w=>?_) ?_
  ·show JL _ _ [_,_,_,_,_] _ _ _;refine sf ?_;refine az ?_;refine dt 5 rfl aa<|eq ?_;exact ae [2] (aZ (i:=0) 0 rfl rfl rfl) rfl<|ah a7
  ·refine EG [2] L z rfl rfl rfl rfl<|wM (S:=[.seg p 0 [af (dB nr k)]]) (F:=[(9,.bool true),(1,ap p 0),(0,.func (.yield l) #[] #[])]) 1 rfl t u rfl (λ w=>?_) (Ha λ a w s o=>?_)
   ·exact db [] rfl a7
   ·refine wp_cond_true (s.val (x:=.tmp 9) rfl) (wp_skip ?_)
    suffices f:WG G 12 _ _ [(9,.bool true),(1,ap p 0),(0,.func (.yield l) #[] #[])] (k+1) from f _ _ s o
    refine mO λ a w s o=>wp_block (wp_skip ?_)
    suffices f:WG G 12 _ _ [(9,.bool true),(1,ap p 0),(0,.func (.yield l) #[] #[])] (k+1) from f _ _ s o
    refine DN (M:=[p]) (S:=[blk p 2 [af (dB nr k)]]) (Q:=IN λ E' H'=>nn E' [(1,ap p 0),(0,.func (.yield l) #[] #[])]/\H'=[blk p 2 [af (dB nr (k+1))]]) (λ W X=>?_) (λ w=>?_) ?_
    ·rw[d] at X;exact G4 (r _ _ W X)
    ·refine aI ?_;refine bj (v:=af (dB nr k)) 0 ?_;refine aF (I2 (b:=1) rfl rfl rfl) ?_
     refine aA 11 (v':=af (dB nr (k+1))) rfl (Na (Value.int .i64) (by
      rw[BH];show Int.fdiv (dB nr k) (2^1)=_;rw[PQ _ ab];rfl)) ?_
     refine dE 0 ?_;exact ah ⟨a7,rfl⟩
    ·rintro e E2 a2 w2 N ⟨Y,H',g,O,Z⟩
     cases e with
     |normal=>
      obtain⟨P,rfl⟩:=Z;rw[d] at g;exact⟨nr-(k+1),aa,k+1,rfl,z,N.ents _ P,B (k+1) _ _ Y w2 g O⟩
     |_=>exact Z.elim
 ·obtain rfl:k=nr:=by omega
  refine mO (nk (Q:=λ e _ _=>e=.exit 0) (S:=[.seg p 0 [af (dB k k)]]) rfl t u (λ w=>?_) ?_)
  ·refine bu ?_;refine sf ?_;refine az ?_;refine dc 5 rfl (by rw[oG (Nr _)];decide)<|cW [2] ?_;exact bo rfl (aO rfl)
  ·rintro e E1 a1 Y H g ⟨_,_,_,rfl⟩;simp only[Exit.then,Exit.inBlock,O7];rw[d] at g;exact⟨H.defers,_,jH (E:=[]) (H.ents [] an) rfl _,⟨_,rfl⟩,_,g⟩
variable {X:Cx} {Q:fb} {E E':Env} {H:Heap}
def dh(n:Nat):Nat:=if n=0 then 0 else n.log2+1
theorem r8(n:Nat):n<2^dh n:=by
 unfold dh;split
 ·omega
 ·exact Nat.lt_log2_self
theorem kh{n:Nat}(h:0<n):2^(dh n-1)<=n:=by
 unfold dh;rw[if_neg aa,Nat.add_sub_cancel];exact Nat.log2_self_le aa
theorem kA{n:Nat}(h:0<n):0<dh n:=by unfold dh;rw[if_neg aa];omega
theorem yz{n k:Nat}(a:2^k<=n)(c:n<2^(k+1)):dh n=k+1:=by
 have b:0<n:=O9 (Nat.two_pow_pos k) a;have d:=r8 n;have e:=kh b;have f:=kA b;have g:k<dh n:=(O2 (by decide:1<2)).1 (Pw a d);have h:dh n-1<k+1:=(O2 (by decide:1<2)).1 (Pw e c);omega
theorem mQ{n c:Nat}(h:2^c<=n):dh n=c+dh (n/2^c):=by
 have a:=Nat.two_pow_pos c;have hp:0<n/2^c:=Nat.div_pos h a;have b:=r8 (n/2^c);have d:=kh hp;have f:=kA hp
 have e:dh n=(c+(dh (n/2^c)-1))+1:=by
  apply yz
  ·rw[Nat.pow_add,Nat.mul_comm];exact Ov (Ow _ d) (Nat.div_mul_le_self n _)
  ·rw[show c+(dh (n/2^c)-1)+1=dh (n/2^c)+c by omega,Nat.pow_add];exact (Nat.div_lt_iff_lt_mul a).1 b
 omega
def mZ:ByteArray:=⟨((List.range 256).map λ i=>UInt8.ofNat (dh i)).toArray⟩
theorem EQ{m:Nat}(h:m<256):mZ[m]?=some (UInt8.ofNat (dh m)):=by
 have:mZ.size=256:=by simp[mZ,ByteArray.size]
 have b:mZ.data[m]?=some (UInt8.ofNat (dh m)):=by simp[mZ,h]
 have hm:m<mZ.size:=aa;rw[getElem?_pos mZ m hm];have a:m<mZ.data.size:=hm;rw[Array.getElem?_eq_getElem a] at b;exact b
theorem rx{m:Nat}(h:m<256):dh m<=8:=by
 rcases Pa m with rfl|hp
 ·decide
 ·have:=kh hp;have a:dh m-1<8:=(O2 (by decide:1<2)).1 (Pw this h);omega
theorem Hc{o:Oper}{t s1 s2 m:Nat}{x ix:Operand}{s:ByteArray}{k:IntKind}{z:Option Value}(c:o.op=.index t x ix)(d:val E x=some (.string s))(e:s=mZ)(hi:val E ix=some (.int k (m:Int)))
 (f:tab t=some ⟨.string,s1,s2,z⟩) (hm:m<256):i8 X o E H (.int .u8 (dh m:Nat)):=by
 intro a w b h;have g:=EQ hm;have i:=rx hm;subst e;have j:(0:Int)<=(m:Int):=aa;simp[execOp,c,b.val d,b.val hi,Instr.index,asIntOf,run_underlying (ku f),g];omega
theorem Mb{n:Int}(h:0<=n/\n<18446744073709551616):IntKind.u64.wrap n=n:=by
 simp only[IntKind.wrap,IntKind.bits,IntKind.signed];simp;omega
theorem M7{n:Int}(h:0<=n/\n<256):IntKind.u8.wrap n=n:=by
 simp only[IntKind.wrap,IntKind.bits,IntKind.signed];simp;omega
theorem uJ(n k:Nat):Int.fdiv (n:Int) (2^k)=((n/2^k:Nat):Int):=by
 rw[PQ _ (by exact_mod_cast Nl _)]
 norm_cast
theorem zp(n:Nat)(t:n<18446744073709551616):Fn 78 [.int .u64 n] [] [] λ v H'=>v=.int .i64 (dh n:Nat)/\H'=[]:=by
 have j:∃ x a:Nat,(4294967296<=n->x=n/2^32/\a=32)/\(¬ 4294967296<=n->x=n/\a=0):=by
  by_cases h:4294967296<=n
  ·exact⟨_,_,λ _=>ji,λ h'=>absurd h h'⟩
  ·exact⟨_,_,λ h'=>absurd h' h,λ _=>ji⟩
 obtain⟨e,g,m,o⟩:=j
 have k:∃ x a:Nat,(65536<=e->x=e/2^16/\a=g+16)/\(¬ 65536<=e->x=e/\a=g):=by
  by_cases h:65536<=e
  ·exact⟨_,_,λ _=>ji,λ h'=>absurd h h'⟩
  ·exact⟨_,_,λ h'=>absurd h' h,λ _=>ji⟩
 obtain⟨f,a2,p,q⟩:=k
 have l:∃ x a:Nat,(256<=f->x=f/2^8/\a=a2+8)/\(¬ 256<=f->x=f/\a=a2):=by
  by_cases h:256<=f
  ·exact⟨_,_,λ _=>ji,λ h'=>absurd h h'⟩
  ·exact⟨_,_,λ h'=>absurd h' h,λ _=>ji⟩
 obtain⟨i,a3,r,s⟩:=l
 have f1:e<4294967296/\g<=32/\dh n=g+dh e:=by
  by_cases h:4294967296<=n
  ·obtain⟨rfl,rfl⟩:=m h;exact⟨aa,aa,mQ (c:=32) h⟩
  ·obtain⟨rfl,rfl⟩:=o h;exact⟨aa,aa,aa⟩
 have f2:f<65536/\a2<=48/\dh n=a2+dh f:=by
  by_cases h:65536<=e
  ·obtain⟨rfl,rfl⟩:=p h;exact⟨aa,aa,by rw[f1.2.2,mQ (c:=16) h];omega⟩
  ·obtain⟨rfl,rfl⟩:=q h;exact⟨aa,aa,f1.2.2⟩
 have f3:i<256/\a3<=56/\dh n=a3+dh i:=by
  by_cases h:256<=f
  ·obtain⟨rfl,rfl⟩:=r h;exact⟨aa,aa,by rw[f2.2.2,mQ (c:=8) h];omega⟩
  ·obtain⟨rfl,rfl⟩:=s h;exact⟨aa,aa,f2.2.2⟩
 refine aT Tryz.func78 λ w0=>?_;refine ao ?_;refine fN [(0,.int .u64 e),(2,af g)] [] ?_ ?_
 ·refine ao ?_;refine ak rfl (λ h=>?_) (λ h=>ag ?_)
  ·obtain⟨b,d⟩:=m aa;refine ao ?_;refine aE (db [] rfl ?_);exact⟨[],⟨by rw[b,<- uJ];rfl,by rw[d];rfl,an⟩,ab,rfl⟩
  ·obtain⟨b,d⟩:=o aa;exact⟨[],⟨by rw[b];rfl,by rw[d];rfl,an⟩,ab,rfl⟩
 refine fN [(0,.int .u64 f),(2,af a2)] [] ?_ ?_
 ·refine ao ?_;refine ak rfl (λ h=>?_) (λ h=>ag ?_)
  ·obtain⟨b,d⟩:=p aa;refine ao ?_;refine aE (db [] rfl ?_);exact⟨[],⟨by rw[b,<- uJ];rfl,by rw[d,Pu,<- cp (n:=(g:Int)+((16:Nat):Int)) aa];rfl,an⟩,ab,rfl⟩
  ·obtain⟨b,d⟩:=q aa;exact⟨[],⟨by rw[b];rfl,by rw[d];rfl,an⟩,ab,rfl⟩
 refine fN [(0,.int .u64 i),(2,af a3)] [] ?_ ?_
 ·refine ao ?_;refine ak rfl (λ h=>?_) (λ h=>ag ?_)
  ·obtain⟨b,d⟩:=r aa;refine ao ?_;refine aE (db [] rfl ?_);exact⟨[],⟨by rw[b,<- uJ];rfl,by rw[d,Pu,<- cp (n:=(a2:Int)+((8:Nat):Int)) aa];rfl,an⟩,ab,rfl⟩
  ·obtain⟨b,d⟩:=s aa;exact⟨[],⟨by rw[b];rfl,by rw[d];rfl,an⟩,ab,rfl⟩
 refine aI ?_;refine aA 21 (v':=.int .u8 i) rfl (Na (Value.int .u8) (M7 aa))<|aF (Hc rfl rfl aX rfl rfl f3.1) ?_;refine aN ?_;refine bN ⟨_,rfl,Na (Value.int .i64) ?_,rfl⟩;have:=rx f3.1;rw[cp (n:=((dh i:Nat):Int)) aa,cp aa];omega
def l3(n:Int):Nat:=if n<2 then 0 else dh (n-1).toNat
theorem Hq{n:Int}(h:1<=n)(b:n<=9223372036854775807):n<=((2^l3 n:Nat):Int)/\(l3 n=0\/((2^(l3 n-1):Nat):Int)<n)/\l3 n<=63:=by
 unfold l3;by_cases a:n<2
 ·rw[if_pos a];simp;omega
 ·rw[if_neg a];have hp:0<(n-1).toNat:=aa;have c:=kh hp;have d:=kA hp;have e:=r8 (n-1).toNat;refine⟨aa,Or.inr aa,?_⟩;refine Nat.le_of_not_lt λ f=>?_;have:2^63<=2^(dh (n-1).toNat-1):=Nat.pow_le_pow_right ab aa;omega
theorem LN(n:Int)(a:b7 n):Fn 41 [.int .i64 n] [] [] λ v H'=>v=.int .i64 (l3 n:Nat)/\H'=[]:=by
 unfold b7 at a;refine aT Tryz.func41 λ w0=>?_;refine iL ?_;refine ao ?_;refine ak rfl (λ h=>?_) (λ h=>?_)
 ·refine ao ?_;exact bN ⟨_,rfl,by unfold l3;rw[if_pos h];rfl,rfl⟩
 ·refine aI ?_;refine aA 7 (v':=.int .u64 ((n-1).toNat:Nat)) rfl (Na (Value.int .u64) ?_) ?_
  ·rw[cp aa,Mb aa];omega
  refine cj (zp (n-1).toNat aa) rfl an ?_;refine aN ?_;exact bN ⟨_,rfl,by unfold l3;rw[if_neg h];rfl,rfl⟩
def j8(n:Int):Int:=if n<1 then 0 else 2^(dh n.toNat-1)
theorem F5(n:Int)(hn:b7 n):Fn 87 [.int .i64 n] [] [] λ v H'=>v=.int .i64 (j8 n)/\H'=[]:=by
 unfold b7 at hn;refine aT Tryz.func87 λ w0=>?_;refine iL ?_;refine ao ?_;refine ak rfl (λ h=>?_) (λ h=>?_)
 ·refine ao ?_;exact bN ⟨_,rfl,by unfold j8;rw[if_pos h];rfl,rfl⟩
 ·have hp:0<n.toNat:=by omega
  have h1:=kh hp;have h2:=kA hp;have h3:dh n.toNat-1<63:=(O2 (by decide:1<2)).1 (Pw h1 aa);refine aI ?_;refine aA 6 (v':=.int .u64 (n.toNat:Nat)) rfl (Na (Value.int .u64) ?_) ?_
  ·rw[Mb aa];omega
  refine cj (zp n.toNat aa) rfl an ?_;refine az ?_;refine aA 8 (v':=af ((dh n.toNat-1:Nat):Int)) rfl (Na (Value.int .i64) ?_) ?_
  ·rw[cp aa];omega
  refine aF (IQ rfl rfl rfl) ?_;refine aN ?_;refine bN ⟨_,rfl,Na (Value.int .i64) ?_,rfl⟩;unfold j8;rw[if_neg h,Int.one_mul,OX (by simp[IntKind.bits];omega)];have h4:((2^(dh n.toNat-1):Nat):Int)<=n:=aa;rw[Int.natCast_pow] at h4;have h5:(0:Int)<=2^(dh n.toNat-1):=by exact_mod_cast Nl _
  exact cp ⟨aa,by exact PY h4 hn.2⟩
theorem t8:∀ {l:List ej},(∀ a∈l,0<=a.cap)->∀ {a:ej},a∈l->a.cap<=(l.map (·.cap)).sum
 |[],_,_,h=>by simp at h
 |b::l,hp,a,h=>by
  have f:=hp b ai
  have g:0<=(l.map (·.cap)).sum:=jk _ λ x e=>by
   obtain⟨d,c,rfl⟩:=NF.1 e;exact hp d (by simp[c])
  refine tM ?_
  rcases Nn.1 h with rfl|h
  ·omega
  ·have:=t8 (λ d c=>hp d (by simp[c])) h;omega
theorem zg{N:aV}(b:N.Right)(k:Nat):0<=mh (N.arcs.take k)/\mh (N.arcs.take k)<=4611686018427387903:=by
 obtain⟨e,i,f⟩:=u4 (N.arcs.take k) 0 λ a c=>(b.arc a (Oi c)).2.2;refine⟨e,?_⟩;unfold mh
 rcases f with h|⟨a,c,h⟩
 ·rw[h];decide
 ·rw[h];have j:=b.sum;have:=t8 (λ d g=>(b.arc d g).2.2) (Oi c);omega
theorem DP(N:aV)(e:N.Right)(A:OA_)(c b o:Nat)(g:N.arcs≠[]->A=some ⟨b,o,none⟩):Fn 45 [bZ N A c] [] [.seg b o (arcs N.arcs)] λ v H'=>v=.int .i64 (j8 (mh N.arcs))/\H'=[]:=by
 have i:=e.len;refine aT Tryz.func45 λ w0=>?_;refine bu ?_;refine cY (cs:=bU N A c) λ s=>?_;refine cR ?_;refine aI ?_;refine bj (v:=.slice A N.arcs.length c) 0 ?_;refine im ?_
 refine cA (σ:=Nat) (λ t=>[(9,af (t:Int)),(3,af (mh (N.arcs.take t))),(8,af (N.arcs.length:Int)),(7,.slice A N.arcs.length c)])
  (λ _=>[.seg b o (arcs N.arcs)]) (λ t=>t<=N.arcs.length) (λ t=>N.arcs.length-t) 0 a7 (ay.picks [1] ab rfl) (Nl _) ?_
 intro k u;refine ao ?_;refine am (ak rfl (λ j=>ag ?_) (λ l=>aO ?_))
 ·have d:k<N.arcs.length:=by omega
  obtain⟨a,f⟩:∃ a,N.arcs[k]?=some a:=⟨N.arcs[k],be d⟩;obtain rfl:=g (by intro m;rw[m] at d;simp at d);refine am (aq ?_);refine aI ?_;refine aF (jc rfl d) ?_;refine aF (aZ 0 rfl rfl (gU f)) ?_;refine dD λ q=>?_;refine iA ?_;refine aI ?_;refine bj (v:=af a.cap) 0 ?_;refine cE (gs:=[]) rfl ?_;refine aA 16 (v':=af (mh (N.arcs.take (k+1)))) rfl (by rw[Nu,f];unfold mh;rw[O3];rfl)<|cR ?_;refine⟨k+1,⟨?_,rfl,rfl,rfl,an⟩,ay.picks [1] ab rfl,d,by show N.arcs.length-(k+1)<N.arcs.length-k;omega⟩;exact Na some (Na (Value.int .i64) (cp (n:=(k:Int)+1) aa))
 ·obtain rfl:k=N.arcs.length:=by omega
  rw[Oh (Nr _)];have r:=zg e N.arcs.length;rw[Oh (Nr _)] at r;refine aI ?_;refine cj (F5 (mh N.arcs) (by unfold b7;omega)) rfl an ?_;exact lG
def Mv(t:pn):LV_:=[.int .i64 t.least,.int .i64 t.p,.int .i64 t.w,.int .i64 t.v]
def oc(ts:List pn):LV_:=ts.flatMap Mv
theorem Dv(l r:List pn):oc (l++r)=oc l++oc r:=by simp[oc]
structure SM where
 f:LI_
 Af:OA_
 cf:Nat
 ts:List pn
 At:OA_
 ct:Nat
theorem Bc{x:Int}(b:0<=x)(c:x<=4611686018427387903):∃ nr,nr<=62/\j8 x=dB nr 0/\(nr=0↔x=0):=by
 unfold j8;by_cases h:x<1
 ·rw[if_pos h];exact⟨0,ab,by rw[oG (Nr _)],by simp;omega⟩
 ·rw[if_neg h];have hp:0<x.toNat:=aa;have d:=kA hp;have a:=kh hp;refine⟨dh x.toNat,?_,?_,?_⟩
  ·have:dh x.toNat-1<62:=(O2 (by decide:1<2)).1 (Pw a aa);omega
  ·unfold dB;rw[if_pos aa,Nat.sub_zero]
  ·omega
theorem Kl(sg:Int)(B:sg=112\/sg=116)(N:aV)(O:N.Fits)(i:N.Right)(A:OA_)(c b o:Nat)(j:N.arcs≠[]->A=some ⟨b,o,none⟩)(nr:Nat)(h2:nr<=62)(P:j8 (mh N.arcs)=dB nr 0):
 Fn 23 [bZ N A c,.int .u8 sg] [] [.seg b o (arcs N.arcs)] λ v H'=>∃ (f:LI_) (ts:List pn) (Af:OA_) (cf:Nat) (At:OA_) (ct:Nat),Sc N nr nr f ts/\v=.tuple #[.slice Af f.length cf,.slice At ts.length ct,.int .i64 0]/\
  H'=[.own (.slice Af f.length cf) 2 1 f.length (aj f),.own (.slice At ts.length ct) 103 4 ts.length (oc ts)]:=by
 have hx:=i.len;refine In Tryz.func23 rfl rfl λ w0=>pI (aE ?_);refine cY (cs:=bU N A c) λ q=>?_;refine cY λ t=>?_;refine aN ?_;refine pI ?_
 ·refine bu ?_;refine bj (v:=bZ N A c) 1 ?_;refine cj (ox N O A c b o j) rfl ⟨bz 2 rfl,an⟩ ?_;rw[i.check];refine cR ?_;refine cq ?_;refine ak rfl (λ h=>absurd rfl h) (λ _=>ag ?_);refine pI (BL (Q:=λ e E H=>e=.normal/\nn E [(3,ap t 0),(2,ap q 0)]/\H=[blk t 5 [.int .u8 sg],blk q 33 (bU N A c),.seg b o (arcs N.arcs)]) ?_ ?_)
  ·refine aI ?_;refine bj (v:=.int .u8 sg) 0 ?_
   rcases B with rfl|rfl
   ·refine az ?_;refine dc 22 rfl ab<|cW [2] ?_;refine bo rfl (ag ⟨rfl,a7,rfl⟩)
   ·refine az ?_;refine dt 22 rfl ab<|ae [2] (v:=.int .u8 116) (ad 0 rfl) rfl<|cW [2] ?_;refine lQ 25 rfl ab<|bo rfl (ag ⟨rfl,a7,rfl⟩)
  rintro e E H ⟨rfl,hE,rfl⟩;show W _ _ _ E _
  suffices hW:W ⟨w0,[],⟨62,[]⟩⟩ _ _ [(3,ap t 0),(2,ap q 0)] [blk t 5 [.int .u8 sg],blk q 33 (bU N A c),.seg b o (arcs N.arcs)] from λ a w j F=>hW a w (j.ents _ hE) F
  clear hE E
  refine pI (aE ?_);refine az ?_;refine bj (v:=.slice A N.arcs.length c) 1 ?_;refine az ?_;refine cX (n:=N.arcs.length) (c:=N.arcs.length) rfl rfl rfl rfl rfl rfl aa aa aa aK λ gf=>?_;rw[show made [af 0] (N.arcs.length*1)=aj (List.replicate N.arcs.length 0) by rw[c8,NT];simp[aj]];refine dD λ I=>?_;refine iA ?_;refine pI (aE ?_);refine dD λ L=>?_;refine ah<|Ic<|pI (aE ?_);refine bj (v:=bZ N A c) 4 ?_;refine cj (DP N i A c b o j) rfl ⟨bz 5 rfl,an⟩ ?_;rw[P];refine eW (EK (dB nr 0)) rfl an ?_;rintro v H' ⟨pc,rfl,rfl⟩;refine kp 103 4 ?_
  refine cD (K:=blk pc 2 [af (dB nr 0)]::[blk I 45 [ax gf 0 (List.replicate N.arcs.length (0:Int)).length N.arcs.length],.own (ax gf 0 (List.replicate N.arcs.length (0:Int)).length N.arcs.length) 2 1 (List.replicate N.arcs.length (0:Int)).length (aj (List.replicate N.arcs.length 0)),
   blk L 60 [.slice none ([]:List pn).length 0],.own (.slice none ([]:List pn).length 0) 103 4 ([]:List pn).length (oc []),blk q 33 (bU N A c),blk t 5 [.int .u8 sg],.seg b o (arcs N.arcs)]) (by
    rw[NP];exact ay.picks [1,3,4,2,0,6,5,7] ab rfl) ?_
  refine ah<|Ca<|?_
  refine IB (p:=pc) (ty:=2) (n0:=dB nr 0) (nr:=nr) (x:=IC nr) (gf:=86) (lb:=[ap pc 0]) (σ:=SM)
   (λ s=>[blk I 45 [.slice s.Af s.f.length s.cf],.own (.slice s.Af s.f.length s.cf) 2 1 s.f.length (aj s.f),blk L 60 [.slice s.At s.ts.length s.ct],.own (.slice s.At s.ts.length s.ct) 103 4 s.ts.length (oc s.ts),blk q 33 (bU N A c),blk t 5 [.int .u8 sg],.seg b o (arcs N.arcs)])
   (λ k s=>Sc N nr k s.f s.ts) ⟨_,aL gf 0,N.arcs.length,[],none,0⟩ rfl aX (xI pc nr aa) (λ _ _=>rfl) rfl .nil ?_ ?_
  ·rintro r D k ⟨f,Af,cf,ts,At,ct⟩ y h3 hy Z z;simp only at z ⊢;refine jq rfl<|db [] rfl ⟨rfl,?_⟩;obtain⟨_,R,hv,_⟩:=z.all i;have hr:=R.len;have l:=oV Z;have hle:=F1 (nr:=nr) (k:=k) aa;refine yI (By (jq rfl ?_));refine eF (aH 4 rfl) fun ⟨_,_,d,S⟩=>?_;obtain⟨U,d⟩:=bg d S;refine bj (v:=bZ N A c) 7 ?_;refine bj (v:=.slice Af f.length cf) 3 ?_;refine az ?_;refine bj (v:=.int .u8 sg) 8 ?_;refine dG (zn N O i A c b o j f R Af cf U 0 (fun h=>d (by simpa [aj] using h)) (dB nr k) l (by unfold b7;omega) sg B) rfl ⟨bz 9 rfl,ff 4 rfl d,trivial⟩ ?_;rintro v H' ⟨f1,V,X,st,A1,M,C,_,_,_,_,_,rfl,rfl⟩;obtain⟨u,_,_,_⟩:=C.keeps i l R;have h1:=u.len;refine rM ?_;refine dD fun p11=>?_;refine nZ ?_;refine By (jq rfl ?_);refine eF (aH 1 rfl) fun ⟨_,_,g,Y⟩=>?_;obtain⟨g1,g⟩:=bg g Y;refine az ?_;refine bj (v:=.slice A1 f1.length M) 0 ?_;refine dE 5 ?_;refine ah<|By (jq rfl ?_);refine bj (v:=bZ N A c) 9 ?_;refine bj (v:=.slice A1 f1.length M) 5 ?_;refine dG (f9 N O i A c b o j f1 A1 M g1 0 (fun h=>g (by simpa [aj] using h)) (aD.inB i u.toRanged) aa) rfl ⟨bz 11 rfl,ff 1 rfl g,trivial⟩ ?_;rintro v H' ⟨⟨rfl,_⟩|⟨_,h⟩,rfl⟩
   case inr=>exact absurd u h
   refine ec ?_;refine jq rfl<|bj (v:=.slice At ts.length ct) 7 ?_;refine az ?_;refine bj (v:=af V) 0 ?_;refine az ?_;refine bj (v:=af X) 0 ?_;refine az ?_;refine fv ?_;refine dp λ g5=>?_;refine bx (n:=ts.length) (m:=1) (off:=0) (news:=oc [⟨dB nr k,V,X,dH (N.arcs.zip f1) N.snk⟩]) 9 0 rfl rfl rfl rfl rfl rfl ab rfl rfl (aS g5 _ _ (0,0)) aK rfl rfl aa aa (λ _ _=>rfl) λ A2 c2=>dE 8 ?_;refine ah ⟨⟨f1,A1,M,ts++[⟨dB nr k,V,X,dH (N.arcs.zip f1) N.snk⟩],A2,c2⟩,.step z Z C,?_⟩;simp only[Dv,Nj,Nh,NC];exact ay.picks [3,4,5,6,2,8,9,10,11,12] ab rfl
  ·rintro D a w ⟨f,Af,cf,ts,At,ct⟩ y z j F;simp only at z F;show Code.wp Tryz.prog _ _ a w;refine KC (fn:=Tryz.f23) (E:=[(9,ap L 0),(8,ap I 0)]) (H:=[.obj D ua,blk pc 2 [af y],blk I 45 [.slice Af f.length cf],.own (.slice Af f.length cf) 2 1 f.length (aj f),blk L 60 [.slice At ts.length ct],.own (.slice At ts.length ct) 103 4 ts.length (oc ts),blk q 33 (bU N A c),blk t 5 [.int .u8 sg],.seg b o (arcs N.arcs)]) (D:=D) ?_ (j.ents _ a7) F;refine am<|bM 5 (dT [0,1,2,3,4]) [2,4] aX ab rfl<|bh rfl (ad (v:=.slice Af f.length cf) 0 rfl) ?_;refine bh rfl (ad (v:=.slice At ts.length ct) 1 rfl) ?_;refine lo ?_;refine bN<|⟨.inr rfl,[.own (.slice Af f.length cf) 2 1 f.length (aj f),.own (.slice At ts.length ct) 103 4 ts.length (oc ts)],[0,3,5],ab,rfl,_,rfl,f,ts,Af,cf,At,ct,z,rfl,rfl⟩
theorem uK:∀ (L:LI_) (b:Nat),(∀ j x,L[j]?=some x->j≠b->x=0)->L.sum=L.getD b 0
 |[],_,_=>by simp
 |x::L,0,h=>by
  have:L.sum=0:=by
   have:∀ y∈L,y=0:=λ y a=>by
    obtain⟨j,c,rfl⟩:=NV.1 a;exact h (j+1) _ (by rw[Oj,be c]) aa
   clear h
   induction L with
   |nil=>rfl
   |cons z L d=>rw[ND,this z ai,d λ y a=>this y (by simp[a])];rfl
  rw[ND,this];simp
 |x::L,b+1,h=>by
  have e:=h 0 x rfl aa;rw[ND,e,uK L b λ j y a i=>h (j+1) y (by rw[Oj];exact a) aa];simp
theorem xk:∀ (L:LI_) (i j:Nat) (x y:Int),(∀ z∈L,0<=z)->i<j->L[i]?=some x->L[j]?=some y->x+y<=L.sum
 |[],i,_,_,_,_,_,h,_=>by simp at h
 |z::L,0,j+1,x,y,b,_,hi,a=>by
  simp only[Ok,Nc] at hi;subst hi;rw[Oj] at a;have:=mD (λ x c=>b x (by simp[c])) (Nb a);rw[ND];omega
 |z::L,i+1,j+1,x,y,b,d,hi,a=>by
  rw[Oj] at hi a;have:=xk L i j x y (λ x c=>b x (by simp[c])) aa hi a;have:=b z ai;rw[ND];omega
theorem nz:∀ (L:LI_),(∀ x∈L,x=0)->L.sum=0
 |[],_=>rfl
 |z::L,h=>by rw[ND,h z ai,nz L λ y a=>h y (by simp[a])];rfl
theorem CC{N:aV}(c:N.Right){f:LI_}(d:jy N f):∃ s,fm N s/\qx N f s:=by
 have e:=c.nodes;obtain⟨n,i⟩:∃ n:Nat,N.nodes=n:=⟨N.nodes.toNat,aa⟩
 have b:∀ v:Nat,((List.range (n+1)).map λ (v:Nat)=>dR (tf N (bc (N.arcs.zip f)) 1 v))[v]?=some true↔v<=n/\tf N (bc (N.arcs.zip f)) 1 v:=by
  intro v;rw[Nk];by_cases j:v<n+1
  ·rw[PT j];show some (dR _)=some true↔_;by_cases a:tf N (bc (N.arcs.zip f)) 1 v
   ·rw[aQ a];exact⟨λ _=>⟨aa,a⟩,λ _=>rfl⟩
   ·rw[aU a];exact⟨λ h=>(by cases h),λ h=>absurd h.2 a⟩
  ·rw[N4 eK];simp;omega
 exact⟨_,wf c d.1 i d.2 b⟩
theorem DD{N:aV}(a:N.Right){f f':LI_}(c:jy N f)(b:aD N f'):dH (N.arcs.zip f') N.snk<=dH (N.arcs.zip f) N.snk:=by
 obtain⟨s,d,e⟩:=CC a c;rw[<- (uH a c.1 d).2 e];exact yd a b d
section
variable {g:Gr} {nl nr:Nat}
theorem oA(hl:g.left=nl){i:Nat}(h:i<nl):(dP g).arcs[i]?=some ⟨1,3+i,1⟩:=by
 unfold dP;simp only;rw[NQ,NZ eK,Nk,PT aa];rfl
theorem mb(hl:g.left=nl){k:Nat}{e:ni}(h:g.edges[k]?=some e):(dP g).arcs[nl+k]?=some ⟨2+e.l,2+g.left+e.r,1⟩:=by
 have b:=(Ng.1 h).1;have a:g.left.toNat=nl:=aa;unfold dP;simp only;rw[NQ,NB eK,Nm,Ot,a,NY,NZ eK,Nk,h];rfl
theorem o5(hl:g.left=nl)(b:g.right=nr){i:Nat}(h:i<nr):(dP g).arcs[nl+g.edges.length+i]?=some ⟨3+g.left+i,2,1⟩:=by
 have a:g.left.toNat=nl:=aa;unfold dP;simp only;rw[NB eK,Nj,Nm,Ot,Nm,a,NY,Nk,PT aa];rfl
theorem lV(hl:g.left=nl)(c:g.right=nr){j:Nat}{a:ej}(h:(dP g).arcs[j]?=some a):
 (j<nl/\a=⟨1,3+j,1⟩)\/(∃ k e,j=nl+k/\g.edges[k]?=some e/\a=⟨2+e.l,2+g.left+e.r,1⟩)\/(∃ i,i<nr/\j=nl+g.edges.length+i/\a=⟨3+g.left+i,2,1⟩):=by
 have d:=(Ng.1 h).1;rw[qX] at d;by_cases b:j<nl
 ·rw[oA hl b] at h;simp only[Nc] at h;exact .inl ⟨b,h.symm⟩
 ·by_cases m:j<nl+g.edges.length
  ·obtain⟨k,rfl⟩:∃ k,j=nl+k:=⟨j-nl,aa⟩;have he:g.edges[k]?=some g.edges[k]:=be aa;rw[mb hl he] at h;simp only[Nc] at h;exact .inr (.inl ⟨k,_,rfl,he,h.symm⟩)
  ·obtain⟨i,rfl⟩:∃ i,j=nl+g.edges.length+i:=⟨j-(nl+g.edges.length),aa⟩;have hi:i<nr:=aa;rw[o5 hl c hi] at h;simp only[Nc] at h;exact .inr (.inr ⟨i,hi,rfl,h.symm⟩)
end
section
variable {g:Gr} {nl nr:Nat}
end
def zV(v:Int)(ps:List (ej×Int)):LI_:=ps.map λ p=>if p.1.to=v then p.2 else 0
def pm(v:Int)(ps:List (ej×Int)):LI_:=ps.map λ p=>if p.1.fr=v then p.2 else 0
theorem mg(v:Int):∀ ps:List (ej×Int),dH ps v=(zV v ps).sum-(pm v ps).sum
 |[]=>by simp[dH,zV,pm]
 |p::ps=>by
  have a:=mg v ps;simp only[dH,zV,pm,Nv,ND] at a ⊢;rw[a];omega
theorem gQ{f:LI_}{nl k:Nat}{x:Int}:x∈dV f nl k↔∃ i:Nat,i<k/\0<f.getD (nl+i) 0/\x=i:=by
 unfold dV;refine w6 ?_
 constructor
 ·rintro⟨i,⟨a,b⟩,rfl⟩;exact⟨i,a,b,rfl⟩
 ·rintro⟨i,a,b,rfl⟩;exact⟨i,⟨a,b⟩,rfl⟩
theorem kT(f:LI_)(nl:Nat):∀ k,(dV f nl k).Pairwise (·<·)
 |0=>by simp[dV]
 |k+1=>by
  rw[sZ];split
  ·refine rA (kT f nl k) λ x a=>?_;obtain⟨i,b,_,rfl⟩:=gQ.1 a;omega
  ·rw[NN];exact kT f nl k
section
variable {g:Gr} {nl nr:Nat} {f:LI_}
theorem km(b:aD (dP g) f){j:Nat}{a:ej}(h:(dP g).arcs[j]?=some a):((dP g).arcs.zip f)[j]?=some (a,f.getD j 0)/\0<=f.getD j 0/\f.getD j 0<=1:=by
 have i:=(Ng.1 h).1;have hl:=b.len;have e:f[j]?=some (f.getD j 0):=by rw[Nf,be aa];rfl
 have c:((dP g).arcs.zip f)[j]?=some (a,f.getD j 0):=N0.2 ⟨h,e⟩;have d:=b.all _ (Nb c);have k:=If a (Nb h);simp only at d;exact⟨c,d.1,aa⟩
theorem lS{j:Nat}{p:ej×Int}(h:((dP g).arcs.zip f)[j]?=some p):(dP g).arcs[j]?=some p.1/\f.getD j 0=p.2:=by
 obtain⟨a,b⟩:=N0.1 h;exact⟨a,by rw[Nf,b];rfl⟩
theorem zz(s:g.Right)(o:aD (dP g) f)(hl:g.left=nl)(w:g.right=nr){i k:Nat}{a b:ni}(I:i<k)(E:g.edges[i]?=some a)(F:g.edges[k]?=some b)(R:0<f.getD (nl+i) 0)(S:0<f.getD (nl+k) 0):a.l≠b.l/\a.r≠b.r:=by
 have K:=s.edge a (Nb E);have L:=s.edge b (Nb F);have M:=s.left;have N:=s.right;obtain⟨H,U,_⟩:=km o (mb hl E);obtain⟨z2,V,_⟩:=km o (mb hl F);have t:∀ p∈(dP g).arcs.zip f,0<=p.2:=λ p hp=>(o.all p hp).1
 constructor
 ·intro e;have y:=o.kept (2+a.l) (by show 1≤2+a.l∧2+a.l≤2+g.left+g.right;omega) (by show 2+a.l≠1;omega) (by show 2+a.l≠2;omega);rw[mg] at y
  have A:(zV (2+a.l) ((dP g).arcs.zip f)).sum<=1:=by
   obtain⟨z3,O,B⟩:=km o (oA (g:=g) hl (i:=a.l.toNat-1) aa);rw[uK _ (a.l.toNat-1)]
   ·unfold zV;refine xN ?_;show (if _ then _ else _:Int)<=1;split
    ·exact B
    ·decide
   ·intro j x c C;unfold zV at c;rw[Nk] at c
    cases m:((dP g).arcs.zip f)[j]? with
    |none=>rw[m] at c;simp at c
    |some p=>
     rw[m] at c;simp only[Pe,Nc] at c;rw[<- c];refine if_neg λ d=>?_
     rcases lV hl w (lS m).1 with ⟨u,n⟩|⟨P,D,u,n,q⟩|⟨Q,u,n,q⟩
     ·rw[n] at d;simp only at d;omega
     ·rw[q] at d;simp only at d;have:=s.edge D (Nb n);omega
     ·rw[q] at d;simp only at d;omega
  have v:=xk (pm (2+a.l) ((dP g).arcs.zip f)) (nl+i) (nl+k) (f.getD (nl+i) 0) (f.getD (nl+k) 0) (λ z m=>by
   obtain⟨p,hp,rfl⟩:=NF.1 m;have:=t p hp;split<;>omega) aa (by unfold pm;rw[Nk,H];exact Na some (if_pos rfl))
   (by unfold pm;rw[Nk,z2];exact Na some (if_pos (by show 2+b.l=2+a.l;omega)))
  omega
 ·intro e;have y:=o.kept (2+g.left+a.r) (by show 1≤2+g.left+a.r∧2+g.left+a.r≤2+g.left+g.right;omega) (by show 2+g.left+a.r≠1;omega) (by show 2+g.left+a.r≠2;omega);rw[mg] at y
  have v:(pm (2+g.left+a.r) ((dP g).arcs.zip f)).sum<=1:=by
   obtain⟨z3,O,B⟩:=km o (o5 (g:=g) hl w (i:=a.r.toNat-1) aa);rw[uK _ (nl+g.edges.length+(a.r.toNat-1))]
   ·unfold pm;refine xN ?_;show (if _ then _ else _:Int)<=1;split
    ·exact B
    ·decide
   ·intro j x c C;unfold pm at c;rw[Nk] at c
    cases m:((dP g).arcs.zip f)[j]? with
    |none=>rw[m] at c;simp at c
    |some p=>
     rw[m] at c;simp only[Pe,Nc] at c;rw[<- c];refine if_neg λ d=>?_
     rcases lV hl w (lS m).1 with ⟨u,n⟩|⟨P,D,u,n,q⟩|⟨Q,u,n,q⟩
     ·rw[n] at d;simp only at d;omega
     ·rw[q] at d;simp only at d;have:=s.edge D (Nb n);omega
     ·rw[q] at d;simp only at d;omega
  have A:=xk (zV (2+g.left+a.r) ((dP g).arcs.zip f)) (nl+i) (nl+k) (f.getD (nl+i) 0) (f.getD (nl+k) 0) (λ z m=>by
   obtain⟨p,hp,rfl⟩:=NF.1 m;have:=t p hp;split<;>omega) aa (by unfold zV;rw[Nk,H];exact Na some (if_pos rfl))
   (by unfold zV;rw[Nk,z2];exact Na some (if_pos (by show 2+g.left+b.r=2+g.left+a.r;omega)))
  omega
theorem vd(h:g.Right)(j:aD (dP g) f)(hl:g.left=nl)(l:g.right=nr):d9 g (dV f nl g.edges.length):=by
 refine⟨kT _ _ _,λ x c=>?_,?_⟩
 ·obtain⟨i,m,_,rfl⟩:=gQ.1 c;omega
 ·refine (kT f nl g.edges.length).imp_of_mem ?_;intro x y c n o a b d e;obtain⟨i,m,p,rfl⟩:=gQ.1 c;obtain⟨k,r,q,rfl⟩:=gQ.1 n;rw[NA] at d e;exact zz h j hl l aa d e p q
end
def ue(N:aV)(sg:Int)(f:LI_):Prop:=
 ((sg=112\/sg=116)/\∃ p k:Nat,Dn N 1 (List.replicate N.arcs.length 0) p k f)\/
 (sg=115/\∃ (nr:Nat) (ts:List pn),nr<=62/\j8 (mh N.arcs)=dB nr 0/\(nr=0->∀ a∈N.arcs,a.cap=0)/\Sc N nr nr f ts)
theorem EX{N:aV}{f:LI_}(h:∀ r,r<(bc (N.arcs.zip f)).length->(bc (N.arcs.zip f)).getD r 0<1){x:Int}(a:tf N (bc (N.arcs.zip f)) 1 x):x=N.src:=by
 induction a with
 |src=>rfl
 |step r q c b d e g=>
  have:=h q b;omega
theorem Sc.max{N:aV}(l:N.Right){nr:Nat}{f:LI_}{ts:List pn}(h:Sc N nr nr f ts)(c:nr=0->∀ a∈N.arcs,a.cap=0):jy N f:=by
 obtain⟨_,d,_,_,_,_,b⟩:=h.all l;refine⟨d,?_⟩
 rcases Pa nr with g|g
 ·intro i;refine l.diff (EX (fun r i=>?_) i).symm;rw[d8,List.length_zip,d.len,Nat.min_self] at i;obtain⟨a,m⟩:∃ a,N.arcs[r/2]?=some a:=⟨N.arcs[r/2],List.getElem?_eq_getElem aa⟩;obtain⟨x,o⟩:∃ x,f[r/2]?=some x:=⟨f[r/2]'(by rw[d.len];omega),List.getElem?_eq_getElem _⟩;have n:=f8 m o;obtain⟨g1,g2⟩:=eh n;have k:=d.all _ (List.mem_of_getElem? n);have q:=c g a (List.mem_of_getElem? m);simp only at g1 g2 k
  rcases Pj r with e|e
  ·rw[show 2*(r/2)=r by omega] at g1;rw[Nf,g1,NL];omega
  ·rw[show 2*(r/2)+1=r by omega] at g2;rw[Nf,g2,NL];omega
 ·obtain⟨p,g1,g2⟩:=b g;obtain⟨j,rfl⟩:∃ j,nr=j+1:=⟨nr-1,aa⟩;rw[show j+1-1=j by omega,vg] at g1;exact uA d.toRanged g1 g2
theorem ue.max{N:aV}(a:N.Right){sg:Int}{f:LI_}(h:ue N sg f):jy N f:=by
 rcases h with ⟨_,p,k,e⟩|⟨_,nr,ts,_,_,g,i⟩
 ·obtain⟨d,_,_,lv,b,c⟩:=e.keeps a ab (iV _ a);exact⟨d,uA d.toRanged b c⟩
 ·exact i.max a g
theorem rooms{N:aV}(c:N.Right):∃ nr,nr<=62/\j8 (mh N.arcs)=dB nr 0/\(nr=0->∀ a∈N.arcs,a.cap=0):=by
 have d:=zg c N.arcs.length;rw[Oh (Nr _)] at d;obtain⟨g,f,i⟩:=u4 N.arcs 0 λ a b=>(c.arc a b).2.2;change 0<=mh N.arcs at g;change ∀ a∈N.arcs,a.cap<=mh N.arcs at f;obtain⟨nr,g1,g2,g3⟩:=Bc d.1 aa;refine⟨nr,g1,g2,λ h a b=>?_⟩;have e:=g3.1 h;have:=f a b;have:=(c.arc a b).2.2;omega
def sx(N:aV)(f s:LI_):Prop:=∃ (l:LB_) (n:Nat),N.nodes=n/\l.length=n+1/\(∀ v:Nat,l[v]?=some true↔v<=n/\tf N (bc (N.arcs.zip f)) 1 v)/\s=b9 l true (n+1)
theorem sx.cut{N:aV}(a:N.Right){f s:LI_}(hm:jy N f)(h:sx N f s):fm N s/\qx N f s/\s.length<=501:=by
 obtain⟨l,n,c,e,d,rfl⟩:=h;have b:=wf a hm.1 c hm.2 d;have hl:=lA l true (n+1);have:=a.nodes;exact⟨b.1,b.2,aa⟩
theorem e7{l:List ej}{A B:OA_}(h:arcs l≠[]->A=B)(hl:l≠[]):A=B:=h λ a=>hl (Ny.1 (by have:=nA l;rw[a] at this;simp at this;omega))
theorem dx{l:LI_}{A B:OA_}(h:aj l≠[]->A=B)(hl:l≠[]):A=B:=h λ a=>hl (by simpa [aj] using a)
def dq(p:Nat)(m:cO):Heap:=[blk p 97 m.cells,.own (.slice m.An m.N.arcs.length m.cn) 37 3 m.N.arcs.length (arcs m.N.arcs),.own (.slice m.Af m.f.length m.cf) 2 1 m.f.length (aj m.f),.own (.slice m.As m.s.length m.cs) 3 1 m.s.length (aj m.s)]
def cO.flow(m:cO)(f:LI_)(A:OA_)(c:Nat):cO:={ m with f:=f,Af:=A,cf:=c }
def cO.both(m:cO)(f s:LI_)(Af:OA_)(cf:Nat)(As:OA_)(cs:Nat):cO:={ m with f:=f,Af:=Af,cf:=cf,s:=s,As:=As,cs:=cs,b:=true,d:=true }
theorem uO{m:cO}(h:m.a=true):m.lack []=0:=by unfold cO.lack;rw[h];simp
theorem Jx{m:cO}(h:m.a=false)(l:LB_):m.lack l=9:=by unfold cO.lack;rw[if_pos h]
def LZ(p:Nat)(m:cO)(sg:Int)(v:Value)(H':Heap):Prop:=∃ (f s:LI_) (Af:OA_) (cf:Nat) (As:OA_) (cs:Nat),ue m.N sg f/\sx m.N f s/\v=tg (dH (m.N.arcs.zip f) m.N.snk,0)/\H'=dq p (m.both f s Af cf As cs)
theorem Fj(p:Nat)(m:cO)(z:m.a=true)(e:m.N.Right)(sg:Int)(A:sg=112\/sg=116\/sg=115):Fn 22 [.pointer (some ⟨p,0,none⟩),.int .u8 sg] (aC (dq p m)) ([]++dq p m) (LZ p m sg):=by
 generalize hM:aC _=M
 have o:=e.fits';refine aT Tryz.func22 λ w0=>?_;refine c9 ?_;refine cj (fst:=[]) (cap:=[]) (kt m p ([]) ab none 0 0 0 0 (λ h=>absurd rfl h) rfl) rfl ⟨ew 0 rfl,fX 0 rfl fE (.inl rfl),an⟩ ?_;rw[uO z];refine cR ?_;refine cq ?_;refine ak rfl (λ h=>absurd rfl h) (λ _=>ag ?_);refine iv (σ:={ t:LI_×OA_×Nat//ue m.N sg t.1 }) (λ t=>[(0,ap p 0)]) (λ t=>dq p (m.flow t.1.1 t.1.2.1 t.1.2.2)) ?_ ?_
 ·refine jn ?_;by_cases i:sg=112\/sg=116
  ·refine fN [(15,.bool true),(0,ap p 0),(1,.int .u8 sg)] (dq p m) ?_ ?_
   ·rcases i with rfl|rfl
    ·refine ao ?_;refine nd 15 rfl rfl<|bF rfl (ag ?_);exact⟨[0,1,2,3],a7,ab,rfl⟩
    ·refine ao ?_;refine lQ 15 rfl ab<|fL ?_;exact⟨[0,1,2,3],⟨Na some (Na Value.bool (aQ rfl)),rfl,rfl,an⟩,ab,rfl⟩
   refine nJ ?_;refine eF (aH 1 rfl) λ ⟨_,_,b,g⟩=>?_;obtain⟨g1,b⟩:=bg b g;refine bj (v:=bZ m.N m.An m.cn) 0 ?_;refine az ?_;refine eW (xF m.N o e m.An m.cn g1 0 (e7 b) sg i) rfl ⟨ff 1 rfl b,an⟩ ?_;rintro v H' ⟨f',B,k,C,q,r,D,_,_,_,_,_,rfl,rfl⟩;refine az ?_;refine dD λ p7=>?_;refine dE 0 ?_;refine dQ ?_;refine bj (v:=.slice q f'.length r) 0 ?_;refine lI ?_;refine ah<|⟨⟨(f',q,r),.inl ⟨i,B,k,D⟩⟩,⟨rfl,an⟩,?_⟩;exact ay.picks [2,3,1,5] ab rfl
  ·obtain rfl:sg=115:=by omega
   refine fN [(15,.bool false),(0,ap p 0),(1,.int .u8 115),(14,.int .u8 115)] (dq p m) ?_ ?_
   ·refine ao ?_;refine lQ 15 rfl ab<|fL ?_;exact⟨[0,1,2,3],⟨Na some (Na Value.bool (aU ab)),rfl,rfl,rfl,an⟩,ab,rfl⟩
   refine fL ?_;refine nd 32 rfl rfl<|dr ?_;obtain⟨nr,w,x,E⟩:=rooms e;refine aI ?_;refine eF (aH 1 rfl) λ ⟨_,_,b,g⟩=>?_;obtain⟨g1,b⟩:=bg b g;refine bj (v:=bZ m.N m.An m.cn) 0 ?_;refine az ?_;refine eW (Kl 112 (.inl rfl) m.N o e m.An m.cn g1 0 (e7 b) nr w x) rfl ⟨ff 1 rfl b,an⟩ ?_;rintro v H' ⟨f',ts,q,r,At,ct,F,rfl,rfl⟩;refine lI ?_;refine ah<|⟨⟨(f',q,r),.inr ⟨rfl,nr,ts,w,x,E,F⟩⟩,⟨rfl,an⟩,?_⟩;exact ay.picks [2,3,0,5] ab rfl
 rintro⟨⟨f,Af,cf⟩,s⟩;simp only at s ⊢;have d:=s.max e;have H:=d.1.len;have I:=e.len;obtain⟨n,y⟩:∃ n:Nat,m.N.nodes=n:=⟨m.N.nodes.toNat,by have:=e.nodes;omega⟩;refine aR (aH 1 rfl) λ ⟨_,_,b,g⟩=>?_;obtain⟨g1,b⟩:=bg b g;refine aR (aH 2 rfl) λ ⟨_,_,c,j⟩=>?_;obtain⟨g2,c⟩:=bg c j;refine cq ?_;refine fZ 16 [0,1,2,3,4,5,6,7,8] 9 (dT [10,11,12,13,14]++[(15,false)]) aX ?_
 (repeat' (first|refine js (gs:=[999]) rfl rfl ?_|refine cV [999] (v:=bZ m.N m.An m.cn) rfl rfl (ad 0 rfl) rfl ?_|refine cV [999] (v:=.slice Af f.length cf) rfl rfl (ad 0 rfl) rfl ?_))
 refine il rfl<|dG (FL m.N o e m.An m.cn g1 0 (e7 b) f Af cf g2 0 (dx c) (aD.inB e d.1.toRanged) aa n y) rfl ⟨⟨1,_,by simp[cO.flow,dq],rfl,bC b,bW b⟩,⟨2,_,by simp[cO.flow,dq],rfl,bC c,bW c⟩,an⟩ ?_;rintro v H' (⟨_,_,l,As,cs,hl,u,rfl,rfl⟩|⟨k1,_⟩|⟨_,k1,_⟩)
 case inr.inl=>exact absurd d.1 k1
 case inr.inr=>exact absurd k1 d.2
 refine dw ?_;refine b6 []<|jI ?_;refine dE 1 ?_;refine b6 []<|gA ?_;refine aI ?_;refine dE 1 ?_;refine az ?_;refine dE 1 ?_;refine ah<|bS (K:=dq p (m.both f (b9 l true (n+1)) Af cf As cs)) (ay.picks [1,2,3,0] ab rfl)<|cq ?_;refine bM 13 (dT [0,1,2,3,4,5,6,7]++[(8,false)]++dT [9,10,11,12]) [0,1,2] aX ab rfl<|a9 ?_;refine bh (v:=bZ m.N m.An m.cn) rfl (ad 0 rfl) ?_;refine a9 ?_;refine bh (v:=.slice Af f.length cf) rfl (ad 0 rfl) ?_;refine cz ?_;refine dG (f9 m.N o e m.An m.cn g1 0 (e7 b) f Af cf g2 0 (dx c) (aD.inB e d.1.toRanged) aa) rfl ⟨⟨1,_,by simp[cO.both,dq],rfl,bC b,bW b⟩,⟨2,_,by simp[cO.both,dq],rfl,bC c,bW c⟩,an⟩ ?_;rintro v H' ⟨⟨rfl,_⟩|⟨_,k1⟩,rfl⟩
 case inr=>exact absurd d.1 k1
 refine dw ?_;refine b6 [0,1,2]<|ir ?_;refine bN ⟨_,rfl,f,_,Af,cf,As,cs,s,⟨l,n,y,hl,u,rfl⟩,rfl,rfl⟩
end Go.Proofs.YtmcnpaelaieniaaGreatDoor
