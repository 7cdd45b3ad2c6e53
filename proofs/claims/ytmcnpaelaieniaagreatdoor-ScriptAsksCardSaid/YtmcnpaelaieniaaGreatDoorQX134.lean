import Derived.Test.YtmcnpaelaieniaaGreatDoorQX125
import Derived.Test.YtmcnpaelaieniaaGreatDoorQX133
/- A part of the proof. -/
set_option linter.unusedVariables false
set_option linter.unusedSimpArgs false
set_option maxHeartbeats 8000000
namespace Go.Proofs.YtmcnpaelaieniaaGreatDoor
open Go.RowKit
def dm(nr k:Nat):Int:=if k<nr then 2^(nr-1-k) else 0
theorem lQ{nr k:Nat}(h:k<nr):1<=dm nr k:=by
 unfold dm;rw[if_pos h];have:(0:Int)<2^(nr-1-k):=Int.pow_pos ab;omega
theorem oI{nr k:Nat}(h:nr<=k):dm nr k=0:=by unfold dm;rw[if_neg aa]
theorem tO{k:Nat}:dm (k+1) k=1:=by unfold dm;rw[if_pos aa];simp
theorem sD{nr k:Nat}(h:k+1<nr):dm nr k=2*dm nr (k+1):=by
 unfold dm;rw[if_pos aa,if_pos h,show nr-1-k=(nr-1-(k+1))+1 by omega,Int.pow_succ];omega
theorem Bg(nr k:Nat):dm nr (k+1)=dm nr k/2:=by
 by_cases h:k+1<nr
 ·rw[sD h];omega
 ·rw[oI (k:=k+1) aa];by_cases a:k<nr
  ·obtain rfl:nr=k+1:=by omega
   rw[tO];rfl
  ·rw[oI aa];rfl
theorem H6{nr k:Nat}(h:nr<=63):dm nr k<=4611686018427387904:=by
 unfold dm;split
 ·have:(2:Nat)^(nr-1-k)≤2^62:=Nat.pow_le_pow_right ab aa;have e:((2^(nr-1-k):Nat):Int)=2^(nr-1-k):=by rw[Int.natCast_pow];rfl
  rw[<- e];omega
 ·omega
structure nm where
 least:Int
 p:Nat
 w:Nat
 v:Int
inductive Sc (N:aR) (nr:Nat):Nat->LI_->List nm->Prop
 |nil:Sc N nr 0 (List.replicate N.arcs.length 0) []
 |step {k:Nat} {f f':LI_} {ts:List nm} {p w:Nat}:Sc N nr k f ts->k<nr->Dn N (dm nr k) f p w f'->Sc N nr (k+1) f' (ts++[⟨dm nr k,p,w,dJ (N.arcs.zip f') N.snk⟩])
def yf(ts:List nm)(i:Nat):Int:=if i=0 then 0 else match ts[i-1]? with
 |some t=>t.v
 |none=>0
theorem IW{N:aR}:dJ (N.arcs.zip (List.replicate N.arcs.length 0)) N.snk=0:=nR N.arcs N.snk
def II(lv:LI_)(n:Nat):LI_:=((List.range (n+1)).filter λ (v:Nat)=>decide (0<v/\0<=dF lv v)).map λ (v:Nat)=>(v:Int)
theorem og{lv:LI_}{n:Nat}{x:Int}:x∈II lv n↔1<=x/\x<=n/\0<=dF lv x.toNat:=by
 unfold II;refine xY ?_
 constructor
 ·rintro⟨v,⟨b,c,a⟩,rfl⟩;exact⟨aa,aa,by rwa [Nz]⟩
 ·rintro⟨b,c,a⟩;exact⟨x.toNat,⟨aa,aa,a⟩,aa⟩
theorem I5{N:aR}(b:N.Right){rm lv:LI_}{least:Int}(h:fu N rm least lv)(e:dF lv N.snk.toNat<0):fQ N (II lv N.nodes.toNat):=by
 have c:=b.nodes;have d:=b.src;refine⟨?_,λ x a=>?_,og.2 ⟨d.1,aa,by rw[h.src];exact Ov _⟩,λ a=>?_⟩
 ·unfold II;rw[List.pairwise_map];exact List.Pairwise.filter _ (List.pairwise_lt_range.imp λ h=>by omega)
 ·have:=og.1 a;exact⟨this.1,aa⟩
 ·have:=(og.1 a).2.2;omega
theorem uE(b:Int):∀ (l:LI_),(∀ x∈l,x<=b)->l.sum<=b*l.length
 |[],_=>by simp
 |x::l,h=>by
  have c:=uE b l λ y a=>h y (by simp[a]);have:=h x ai;rw[NC,Nf,Pu,Int.mul_add];omega
theorem gap{N:aR}(d:N.Right){f g lv:LI_}{least:Int}(hle:1<=least)(j:aD N f)(q:aD N g)(b:fu N (a9 (N.arcs.zip f)) least lv)(r:dF lv N.snk.toNat<0):
 dJ (N.arcs.zip g) N.snk-dJ (N.arcs.zip f) N.snk<=(least-1)*N.arcs.length:=by
 have m:=I5 d b r;have t:=d.nodes;obtain⟨s,c⟩:∃ s,s=II lv N.nodes.toNat:=⟨_,rfl⟩;rw[<- c] at m;have B:=zf d q m;have C:=oT d j m;have u:=oD s (N.arcs.zip f);rw[show (N.arcs.zip f).map (·.1)=N.arcs from List.map_fst_zip (by have:=j.len;omega)] at u;have v:=uE (least-1) (nU s (N.arcs.zip f)) λ x w=>?_
 ·rw[show (nU s (N.arcs.zip f)).length=N.arcs.length by unfold nU;rw[Nj,O0,j.len,Pm]] at v;omega
 ·obtain⟨p,hp,rfl⟩:=List.mem_map.1 w;obtain⟨i,hi,n⟩:=List.mem_iff_getElem.1 hp;have o:(N.arcs.zip f)[i]?=some p:=by rw[List.getElem?_eq_getElem hi,n]
  have k:=(NZ.1 o).1;have y:=(Nb.1 k).1;have e:=d.arc p.1 (M9 k);obtain⟨g1,g2⟩:=eh o;have D:=j.all p hp
  have z:dg N (2*i)=(p.1.fr,p.1.to):=by
   unfold dg;rw[show 2*i/2=i by omega,k];show d6 p.1 (2*i)=_;unfold d6;rw[if_neg aa]
  have A:dg N (2*i+1)=(p.1.to,p.1.fr):=by
   unfold dg;rw[show (2*i+1)/2=i by omega,k];show d6 p.1 (2*i+1)=_;unfold d6;rw[if_pos aa]
  have k1:=b.step (2*i) aa;have l:=b.step (2*i+1) aa;unfold eL gQ at k1 l;rw[z,Nc,g1,NK] at k1;rw[A,Nc,g2,NK] at l;simp only at k1 l;have m1:p.1.fr∈s↔0<=dF lv p.1.fr.toNat:=by rw[c,og];exact⟨λ h=>h.2.2,λ h=>⟨e.1.1,aa,h⟩⟩
  have m2:p.1.to∈s↔0<=dF lv p.1.to.toNat:=by rw[c,og];exact⟨λ h=>h.2.2,λ h=>⟨e.2.1.1,aa,h⟩⟩
  by_cases a:p.1.fr∈s<;>by_cases c2:p.1.to∈s
  ·rw[if_neg (λ h=>h.2 c2),if_neg (λ h=>h.1 a)];omega
  ·rw[if_pos ⟨a,c2⟩,if_neg (λ h=>h.1 a)];have:¬ least<=p.1.cap-p.2:=λ h=>c2 (m2.2 (k1 h (m1.1 a)).1);omega
  ·rw[if_neg (λ h=>a h.1),if_pos ⟨a,c2⟩];have:¬ least<=p.2:=λ h=>a (m1.2 (l h (m2.1 c2)).1);omega
  ·rw[if_neg (λ h=>a h.1),if_neg (λ h=>c2 h.2)];omega
structure LX (N:aR) (nr i:Nat) (was:Int) (t:nm):Prop where
 least:t.least=dm nr i
 pos:1<=t.least
 rise:t.least*t.w<=t.v-was
 same:t.w=0↔t.v=was
 walks:t.p<=t.w
 few:(t.p:Int)+1<=N.nodes
 gap:∀ g,aD N g->dJ (N.arcs.zip g) N.snk-t.v<=(t.least-1)*N.arcs.length
 up:0<i->t.v-was<=(2*t.least-1)*N.arcs.length
 bound:0<=t.v/\t.v<=4611686018427387903
theorem Dn.zero{N:aR}{least:Int}{f f':LI_}{p k:Nat}(h:Dn N least f p k f')(a:N.Right)(hle:1<=least)(b:aD N f):k=0->f'=f:=by
 cases h with
 |stop _ _=>exact λ _=>rfl
 |@step _ f1 _ lv ws p k c d e g=>
  intro i;have:=(e.keeps a hle b c).2.2 d;have:=NP.2 this;omega
theorem Sc.all{N:aR}(c:N.Right){nr k:Nat}{f:LI_}{ts:List nm}(h:Sc N nr k f ts):k<=nr/\aD N f/\ts.length=k/\dJ (N.arcs.zip f) N.snk=yf ts k/\0<=yf ts k/\(∀ i t,ts[i]?=some t->LX N nr i (yf ts i) t)/\
 (0<k->∃ lv,fu N (a9 (N.arcs.zip f)) (dm nr (k-1)) lv/\dF lv N.snk.toNat<0):=by
 induction h with
 |nil=>
  refine⟨Nk _,iS N c,rfl,?_,?_,λ i t h=>(by simp at h),λ h=>absurd h aa⟩
  ·rw[IW];rfl
  ·exact Ov _
 |@step k f f' ts p w H v q z=>
  obtain⟨_,o,hl,A,B,j,d⟩:=z;have hle:=lQ v;obtain⟨k1,I,C,r,x,y⟩:=q.keeps c hle o
  have hw:yf (ts++[⟨dm nr k,p,w,dJ (N.arcs.zip f') N.snk⟩]) (k+1)=dJ (N.arcs.zip f') N.snk:=by
   unfold yf;rw[if_neg aa,show k+1-1=ts.length by omega,List.getElem?_concat_length]
  have m:∀ i,i<=k->yf (ts++[⟨dm nr k,p,w,dJ (N.arcs.zip f') N.snk⟩]) i=yf ts i:=by
   intro i hi;unfold yf;by_cases b:i=0
   ·rw[if_pos b,if_pos b]
   ·rw[if_neg b,if_neg b,NY aa]
  have D:0<=dm nr k*(w:Int):=Int.mul_nonneg aa aa;refine⟨v,k1,by rw[Ng,hl];rfl,hw.symm,by rw[hw];omega,λ i t n=>?_,λ _=>⟨r,x,y⟩⟩;by_cases hi:i<k
  ·rw[NY aa] at n;rw[m i aa];exact j i t n
  ·obtain rfl:i=k:=by
    have:=(Nb.1 n).1;rw[Ng,hl] at this;simp at this;omega
   have s:∀ X:nm,(ts++[X])[i]?=some X:=λ X=>by have:=List.getElem?_concat_length (l:=ts) (a:=X);rwa [hl] at this
   rw[s] at n;obtain rfl:=NM n;rw[m i (Np _),<- A];have E:=dl c k1.toRanged N.snk;refine⟨rfl,hle,by show dm nr i*(w:Int)<=dJ (N.arcs.zip f') N.snk-dJ (N.arcs.zip f) N.snk;omega,⟨λ b=>?_,λ b=>?_⟩,C,q.few c hle o,λ g F=>?_,λ u=>?_,by show 0<=dJ (N.arcs.zip f') N.snk;omega,E.2⟩
   ·have b:w=0:=b;show dJ (N.arcs.zip f') N.snk=dJ (N.arcs.zip f) N.snk;rw[q.zero c hle o b]
   ·have b:dJ (N.arcs.zip f') N.snk=dJ (N.arcs.zip f) N.snk:=b;show w=0
    rcases OW w with h|h
    ·exact h
    ·have:1*1<=dm nr i*(w:Int):=Int.mul_le_mul hle aa aa aa;omega
   ·exact gap c hle k1 F x y
   ·obtain⟨G,g1,g2⟩:=d u;have e:=sD (nr:=nr) (k:=i-1) aa;rw[show i-1+1=i by omega] at e;have:=gap c (lQ (show i-1<nr by omega)) o k1 g1 g2;rw[e] at this;exact this
theorem Sc.uniq{N:aR}(c:N.Right){nr k:Nat}{f:LI_}{ts:List nm}(h:Sc N nr k f ts):∀ {f2:LI_} {a:List nm},Sc N nr k f2 a->f=f2/\ts=a:=by
 induction h with
 |nil=>intro f2 a b;cases b;exact⟨rfl,rfl⟩
 |@step k f f' ts p w i b d e=>
  intro f2 a g
  cases g with
  |step g1 g2 g3=>
   obtain⟨rfl,rfl⟩:=e g1;obtain⟨rfl,rfl,rfl⟩:=d.uniq c (lQ b) g3;exact gY
def lM(l:List eq):Int:=l.foldl (λ m a=>if a.cap>m then a.cap else m) 0
theorem uF(l:List eq):∀ (x:Int),(∀ a∈l,0<=a.cap)->x<=l.foldl (λ m a=>if a.cap>m then a.cap else m) x/\(∀ a∈l,a.cap<=l.foldl (λ m a=>if a.cap>m then a.cap else m) x)/\(l.foldl (λ m a=>if a.cap>m then a.cap else m) x=x\/∃ a∈l,l.foldl (λ m a=>if a.cap>m then a.cap else m) x=a.cap):=by
 induction l with
 |nil=>exact λ x _=>⟨Ov _,λ a h=>(by simp at h),.inl rfl⟩
 |cons b l g=>
  intro x h;simp only[OF];obtain⟨f,i2,i3⟩:=g (if b.cap>x then b.cap else x) λ a c=>h a (by simp[c]);refine⟨?_,λ a c=>?_,?_⟩
  ·split at f<;>rename_i d<;>simp only[d,O8,PH]<;>omega
  ·rcases Nl.1 c with rfl|c
   ·split at f<;>rename_i d<;>simp only[d,O8,PH]<;>omega
   ·exact i2 a c
  ·rcases i3 with e|⟨a,c,e⟩
   ·by_cases d:b.cap>x
    ·right;rw[if_pos d] at e ⊢;exact⟨b,ai,e⟩
    ·left;rw[if_neg d] at e ⊢;exact e
   ·exact .inr ⟨a,by simp[c],e⟩
theorem Dp(n:Int):Fn 44 [.int .i64 n] [] [] λ v H'=>∃ p,v=.func (.func 86) #[] #[.pointer (some ⟨p,0,none⟩)]/\H'=[blk p 2 [.int .i64 n]]:=by
 refine aT Tryz.func44 λ w0=>?_;refine bA ?_;refine dh λ b=>?_;refine cS ?_;exact bM ⟨_,rfl,b,rfl,rfl⟩
section
variable {G:Nat->World->Prop} {n:Nat} {E:Env} {k nr l:Nat} {x:Nat->LV_} {ops:List Oper} {R:Exit->Act->World->Prop}
theorem D7{d:List Oper}{o:Oper}{f:Operand}{args:Array Operand}{ts:Array TypeId}{g:Env}(gs:LN_)(j:∀ k W,k<nr->G k W->YieldAt Fence.wide 0 Tryz.prog l (x k).toArray W λ e i=>e=.returned (.bool true)/\G (k+1) i)(m:k<nr)
 (p:o.op=.call ⟨.value f,args,ts⟩) (q:val E f=some (.func (.yield l) #[] #[])) (r:vals E args.toList=some (x k)) (s:jN ⟨n,[]⟩ ops gs E o (.bool true)=some g) (h:JY G n ops d R g (k+1)):JY G n ops (o::d) R E k:=by
 intro a w b t;obtain⟨u,hp⟩:=eb s;obtain⟨fn,tmps,assign,body,v,y⟩:=j k w m t;unfold wpListIn;rw[if_pos (fB b u)];refine⟨λ _ _=>trivial,?_⟩
 have z:args.map a.eval=(x k).toArray:=by
  rw[<- b.vals _ _ r];exact Array.ext' ai
 have A:o.semAt Fence.wide.round a.eval=execOp a.eval o:=Oper.semAt_none a.eval o
 have he:(execOp a.eval o).run Tryz.prog w=.ok (.round l fn tmps assign body) w:=by
  simp[execOp,p,resolve,invoke,Deferred.ofValue,b.val q,z,v]
 rw[A,he,Oper.uponIn_round];refine⟨λ B=>(by simp[Fence.wide] at B),y.mono ?_⟩;rintro e i ⟨rfl,c⟩;exact h _ _ (b.putE hp) c
end
def IJ(nr:Nat)(k:Nat):LV_:=[.int .i64 (dm nr k)]
theorem xR(p nr:Nat)(h1:nr<=63):HC 86 [.pointer (some ⟨p,0,none⟩)] p 2 (dm nr 0) nr (IJ nr):=by
 intro l J w r B hY h0;refine calls_of_wp Tryz.func86 rfl ?_;have K:=nC (n:=12) (args:=[.func (.yield l) #[] #[],ap p 0]) rfl;refine wp_block (wp_loop_ghost (λ m a w=>∃ k,m=nr-k/\k<=nr/\gt ⟨12,[]⟩ a [(1,ap p 0),(0,.func (.yield l) #[] #[])]/\J k (dm nr k) w) nr ⟨0,rfl,Nk _,K.ents _ a8,h0⟩ ?_);rintro m a w ⟨k,rfl,U,s,o⟩;obtain⟨G,d⟩:∃ G:Nat->World->Prop,G=λ j W=>J j (dm nr k) W:=⟨_,rfl⟩
 have t:∀ j W,G j W->∀ c∈[aU.seg p 0 [af (dm nr k)]],c.holds W:=by
  rintro j W q c I;rw[d] at q;rw[Nh.1 I];exact λ i v hv=>aQ p 2 _ (0,0) W (r j _ W q) i v hv
 have u:∀ j W A,G j W->dL W [] A []->G j A:=by
  intro j W A q h;rw[d] at q ⊢;have I:=r j _ W q
  exact B j _ _ W A q ⟨h.os,h.tape,h.output,h.size,λ k U _=>h.keep k U ai,λ c y=>by
   rw[Nh.1 y];exact aU.holds_of I λ b C=>h.keep b (aU.at_lt I C) ai,λ c y b C=>.inr (by rw[Nh.1 y] at C;simp[aU.mine] at C;simp[C]),OQ _ _⟩
 have L:∀ j W,j<nr->G j W->YieldAt Fence.wide 0 Tryz.prog l (IJ nr j).toArray W λ e A=>e=.returned (.bool true)/\G (j+1) A:=by
  intro j W q o;rw[d] at o ⊢;exact hY j _ W q o
 have D:G k w:=by rw[d];exact o
 suffices f:WG G 12 _ _ [(1,ap p 0),(0,.func (.yield l) #[] #[])] k from f _ _ s D
 clear s o D
 by_cases z:k<nr
 ·have V:=lQ z;refine mx<|mx (wy ?_);refine wV (S:=[.seg p 0 [af (dm nr k)]]) (F:=[(5,.bool true),(6,.func (.yield l) #[] #[]),(7,af (dm nr k)),(1,ap p 0),(0,.func (.yield l) #[] #[])]) 5 rfl t u rfl (λ w=>?_) ?_
  ·show JL _ _ [_,_,_,_,_] _ _ _;refine rT ?_;refine az ?_;refine d7 5 rfl aa<|ic ?_;exact ae [2] (a7 (i:=0) 0 rfl rfl rfl) rfl<|ah a8
  ·refine D7 [2] L z rfl rfl rfl rfl<|wV (S:=[.seg p 0 [af (dm nr k)]]) (F:=[(9,.bool true),(1,ap p 0),(0,.func (.yield l) #[] #[])]) 1 rfl t u rfl (λ w=>?_) (Ip λ a w s o=>?_)
   ·exact c8 [] rfl a8
   ·refine wp_cond_true (s.val (x:=.tmp 9) rfl) (wp_skip ?_)
    suffices f:WG G 12 _ _ [(9,.bool true),(1,ap p 0),(0,.func (.yield l) #[] #[])] (k+1) from f _ _ s o
    refine mx λ a w s o=>wp_block (wp_skip ?_)
    suffices f:WG G 12 _ _ [(9,.bool true),(1,ap p 0),(0,.func (.yield l) #[] #[])] (k+1) from f _ _ s o
    refine D3 (M:=[p]) (S:=[blk p 2 [af (dm nr k)]]) (Q:=IV λ E' H'=>nP E' [(1,ap p 0),(0,.func (.yield l) #[] #[])]/\H'=[blk p 2 [af (dm nr (k+1))]]) (λ W X=>?_) (λ w=>?_) ?_
    ·rw[d] at X;exact Iq (r _ _ W X)
    ·refine aI ?_;refine bh (v:=af (dm nr k)) 0 ?_;refine aG (I9 (b:=1) rfl rfl rfl) ?_
     refine aB 11 (v':=af (dm nr (k+1))) rfl (M8 (Value.int .i64) (by
      rw[Bg];show Int.fdiv (dm nr k) (2^1)=_;rw[PO _ ab];rfl)) ?_
     refine dz 0 ?_;exact ah ⟨a8,rfl⟩
    ·rintro e E2 a2 w2 N ⟨Y,H',g,O,Z⟩
     cases e with
     |normal=>
      obtain⟨P,rfl⟩:=Z;rw[d] at g;exact⟨nr-(k+1),aa,k+1,rfl,z,N.ents _ P,B (k+1) _ _ Y w2 g O⟩
     |_=>exact Z.elim
 ·obtain rfl:k=nr:=by omega
  refine mx (nD (Q:=λ e _ _=>e=.exit 0) (S:=[.seg p 0 [af (dm k k)]]) rfl t u (λ w=>?_) ?_)
  ·refine bA ?_;refine rT ?_;refine az ?_;refine dD 5 rfl (by rw[oI (Np _)];decide)<|cX [2] ?_;exact bu rfl (aO rfl)
  ·rintro e E1 a1 Y H g ⟨_,_,_,rfl⟩;simp only[Exit.then,Exit.inBlock,O8];rw[d] at g;exact⟨H.defers,_,jJ (E:=[]) (H.ents [] be) rfl _,⟨_,rfl⟩,_,g⟩
variable {X:Cx} {Q:e6} {E E':Env} {H:Heap}
def di(n:Nat):Nat:=if n=0 then 0 else n.log2+1
theorem rZ(n:Nat):n<2^di n:=by
 unfold di;split
 ·omega
 ·exact Nat.lt_log2_self
theorem kw{n:Nat}(h:0<n):2^(di n-1)<=n:=by
 unfold di;rw[if_neg aa,Nat.add_sub_cancel];exact Nat.log2_self_le aa
theorem kz{n:Nat}(h:0<n):0<di n:=by unfold di;rw[if_neg aa];omega
theorem zy{n k:Nat}(a:2^k<=n)(c:n<2^(k+1)):di n=k+1:=by
 have b:0<n:=Pa (Nat.two_pow_pos k) a;have d:=rZ n;have e:=kw b;have f:=kz b;have g:k<di n:=(O2 (by decide:1<2)).1 (Px a d);have h:di n-1<k+1:=(O2 (by decide:1<2)).1 (Px e c);omega
theorem mQ{n c:Nat}(h:2^c<=n):di n=c+di (n/2^c):=by
 have a:=Nat.two_pow_pos c;have hp:0<n/2^c:=Nat.div_pos h a;have b:=rZ (n/2^c);have d:=kw hp;have f:=kz hp
 have e:di n=(c+(di (n/2^c)-1))+1:=by
  apply zy
  ·rw[Nat.pow_add,Nat.mul_comm];exact Ot (Ou _ d) (Nat.div_mul_le_self n _)
  ·rw[show c+(di (n/2^c)-1)+1=di (n/2^c)+c by omega,Nat.pow_add];exact (Nat.div_lt_iff_lt_mul a).1 b
 omega
def m7:ByteArray:=⟨((List.range 256).map λ i=>UInt8.ofNat (di i)).toArray⟩
theorem Dq{m:Nat}(h:m<256):m7[m]?=some (UInt8.ofNat (di m)):=by
 have:m7.size=256:=by simp[m7,ByteArray.size]
 have b:m7.data[m]?=some (UInt8.ofNat (di m)):=by simp[m7,h]
 have hm:m<m7.size:=aa;rw[getElem?_pos m7 m hm];have a:m<m7.data.size:=hm;rw[Array.getElem?_eq_getElem a] at b;exact b
theorem qO{m:Nat}(h:m<256):di m<=8:=by
 rcases OW m with rfl|hp
 ·decide
 ·have:=kw hp;have a:di m-1<8:=(O2 (by decide:1<2)).1 (Px this h);omega
theorem Is{o:Oper}{t s1 s2 m:Nat}{x ix:Operand}{s:ByteArray}{k:IntKind}{z:Option Value}(c:o.op=.index t x ix)(d:val E x=some (.string s))(e:s=m7)(hi:val E ix=some (.int k (m:Int)))
 (f:tab t=some ⟨.string,s1,s2,z⟩) (hm:m<256):i7 X o E H (.int .u8 (di m:Nat)):=by
 intro a w b h;have g:=Dq hm;have i:=qO hm;subst e;have j:(0:Int)<=(m:Int):=aa;simp[execOp,c,b.val d,b.val hi,Instr.index,asIntOf,run_underlying (kE f),g];omega
theorem Mk{n:Int}(h:0<=n/\n<18446744073709551616):IntKind.u64.wrap n=n:=by
 simp only[IntKind.wrap,IntKind.bits,IntKind.signed];simp;omega
theorem M5{n:Int}(h:0<=n/\n<256):IntKind.u8.wrap n=n:=by
 simp only[IntKind.wrap,IntKind.bits,IntKind.signed];simp;omega
theorem uU(n k:Nat):Int.fdiv (n:Int) (2^k)=((n/2^k:Nat):Int):=by
 rw[PO _ (by exact_mod_cast Nk _)]
 norm_cast
theorem zj(n:Nat)(t:n<18446744073709551616):Fn 78 [.int .u64 n] [] [] λ v H'=>v=.int .i64 (di n:Nat)/\H'=[]:=by
 have j:∃ x a:Nat,(4294967296<=n->x=n/2^32/\a=32)/\(¬ 4294967296<=n->x=n/\a=0):=by
  by_cases h:4294967296<=n
  ·exact⟨_,_,λ _=>gY,λ h'=>absurd h h'⟩
  ·exact⟨_,_,λ h'=>absurd h' h,λ _=>gY⟩
 obtain⟨e,g,m,o⟩:=j
 have k:∃ x a:Nat,(65536<=e->x=e/2^16/\a=g+16)/\(¬ 65536<=e->x=e/\a=g):=by
  by_cases h:65536<=e
  ·exact⟨_,_,λ _=>gY,λ h'=>absurd h h'⟩
  ·exact⟨_,_,λ h'=>absurd h' h,λ _=>gY⟩
 obtain⟨f,a2,p,q⟩:=k
 have l:∃ x a:Nat,(256<=f->x=f/2^8/\a=a2+8)/\(¬ 256<=f->x=f/\a=a2):=by
  by_cases h:256<=f
  ·exact⟨_,_,λ _=>gY,λ h'=>absurd h h'⟩
  ·exact⟨_,_,λ h'=>absurd h' h,λ _=>gY⟩
 obtain⟨i,a3,r,s⟩:=l
 have f1:e<4294967296/\g<=32/\di n=g+di e:=by
  by_cases h:4294967296<=n
  ·obtain⟨rfl,rfl⟩:=m h;exact⟨aa,aa,mQ (c:=32) h⟩
  ·obtain⟨rfl,rfl⟩:=o h;exact⟨aa,aa,aa⟩
 have f2:f<65536/\a2<=48/\di n=a2+di f:=by
  by_cases h:65536<=e
  ·obtain⟨rfl,rfl⟩:=p h;exact⟨aa,aa,by rw[f1.2.2,mQ (c:=16) h];omega⟩
  ·obtain⟨rfl,rfl⟩:=q h;exact⟨aa,aa,f1.2.2⟩
 have f3:i<256/\a3<=56/\di n=a3+di i:=by
  by_cases h:256<=f
  ·obtain⟨rfl,rfl⟩:=r h;exact⟨aa,aa,by rw[f2.2.2,mQ (c:=8) h];omega⟩
  ·obtain⟨rfl,rfl⟩:=s h;exact⟨aa,aa,f2.2.2⟩
 refine aT Tryz.func78 λ w0=>?_;refine ao ?_;refine gj [(0,.int .u64 e),(2,af g)] [] ?_ ?_
 ·refine ao ?_;refine ak rfl (λ h=>?_) (λ h=>ag ?_)
  ·obtain⟨b,d⟩:=m aa;refine ao ?_;refine aC (c8 [] rfl ?_);exact⟨[],⟨by rw[b,<- uU];rfl,by rw[d];rfl,be⟩,ab,rfl⟩
  ·obtain⟨b,d⟩:=o aa;exact⟨[],⟨by rw[b];rfl,by rw[d];rfl,be⟩,ab,rfl⟩
 refine gj [(0,.int .u64 f),(2,af a2)] [] ?_ ?_
 ·refine ao ?_;refine ak rfl (λ h=>?_) (λ h=>ag ?_)
  ·obtain⟨b,d⟩:=p aa;refine ao ?_;refine aC (c8 [] rfl ?_);exact⟨[],⟨by rw[b,<- uU];rfl,by rw[d,Pu,<- cv (n:=(g:Int)+((16:Nat):Int)) aa];rfl,be⟩,ab,rfl⟩
  ·obtain⟨b,d⟩:=q aa;exact⟨[],⟨by rw[b];rfl,by rw[d];rfl,be⟩,ab,rfl⟩
 refine gj [(0,.int .u64 i),(2,af a3)] [] ?_ ?_
 ·refine ao ?_;refine ak rfl (λ h=>?_) (λ h=>ag ?_)
  ·obtain⟨b,d⟩:=r aa;refine ao ?_;refine aC (c8 [] rfl ?_);exact⟨[],⟨by rw[b,<- uU];rfl,by rw[d,Pu,<- cv (n:=(a2:Int)+((8:Nat):Int)) aa];rfl,be⟩,ab,rfl⟩
  ·obtain⟨b,d⟩:=s aa;exact⟨[],⟨by rw[b];rfl,by rw[d];rfl,be⟩,ab,rfl⟩
 refine aI ?_;refine aB 21 (v':=.int .u8 i) rfl (M8 (Value.int .u8) (M5 aa))<|aG (Is rfl rfl aW rfl rfl f3.1) ?_;refine aN ?_;refine bM ⟨_,rfl,M8 (Value.int .i64) ?_,rfl⟩;have:=qO f3.1;rw[cv (n:=((di i:Nat):Int)) aa,cv aa];omega
def lT(n:Int):Nat:=if n<2 then 0 else di (n-1).toNat
theorem HO{n:Int}(h:1<=n)(b:n<=9223372036854775807):n<=((2^lT n:Nat):Int)/\(lT n=0\/((2^(lT n-1):Nat):Int)<n)/\lT n<=63:=by
 unfold lT;by_cases a:n<2
 ·rw[if_pos a];simp;omega
 ·rw[if_neg a];have hp:0<(n-1).toNat:=aa;have c:=kw hp;have d:=kz hp;have e:=rZ (n-1).toNat;refine⟨aa,Or.inr aa,?_⟩;refine Nat.le_of_not_lt λ f=>?_;have:2^63<=2^(di (n-1).toNat-1):=Nat.pow_le_pow_right ab aa;omega
theorem Lm(n:Int)(a:b9 n):Fn 41 [.int .i64 n] [] [] λ v H'=>v=.int .i64 (lT n:Nat)/\H'=[]:=by
 unfold b9 at a;refine aT Tryz.func41 λ w0=>?_;refine iN ?_;refine ao ?_;refine ak rfl (λ h=>?_) (λ h=>?_)
 ·refine ao ?_;exact bM ⟨_,rfl,by unfold lT;rw[if_pos h];rfl,rfl⟩
 ·refine aI ?_;refine aB 7 (v':=.int .u64 ((n-1).toNat:Nat)) rfl (M8 (Value.int .u64) ?_) ?_
  ·rw[cv aa,Mk aa];omega
  refine cH (zj (n-1).toNat aa) rfl be ?_;refine aN ?_;exact bM ⟨_,rfl,by unfold lT;rw[if_neg h];rfl,rfl⟩
def kg(n:Int):Int:=if n<1 then 0 else 2^(di n.toNat-1)
theorem HG(n:Int)(hn:b9 n):Fn 87 [.int .i64 n] [] [] λ v H'=>v=.int .i64 (kg n)/\H'=[]:=by
 unfold b9 at hn;refine aT Tryz.func87 λ w0=>?_;refine iN ?_;refine ao ?_;refine ak rfl (λ h=>?_) (λ h=>?_)
 ·refine ao ?_;exact bM ⟨_,rfl,by unfold kg;rw[if_pos h];rfl,rfl⟩
 ·have hp:0<n.toNat:=by omega
  have h1:=kw hp;have h2:=kz hp;have h3:di n.toNat-1<63:=(O2 (by decide:1<2)).1 (Px h1 aa);refine aI ?_;refine aB 6 (v':=.int .u64 (n.toNat:Nat)) rfl (M8 (Value.int .u64) ?_) ?_
  ·rw[Mk aa];omega
  refine cH (zj n.toNat aa) rfl be ?_;refine az ?_;refine aB 8 (v':=af ((di n.toNat-1:Nat):Int)) rfl (M8 (Value.int .i64) ?_) ?_
  ·rw[cv aa];omega
  refine aG (JC rfl rfl rfl) ?_;refine aN ?_;refine bM ⟨_,rfl,M8 (Value.int .i64) ?_,rfl⟩;unfold kg;rw[if_neg h,Int.one_mul,OX (by simp[IntKind.bits];omega)];have h4:((2^(di n.toNat-1):Nat):Int)<=n:=aa;rw[Int.natCast_pow] at h4;have h5:(0:Int)<=2^(di n.toNat-1):=by exact_mod_cast Nk _
  exact cv ⟨aa,by exact PW h4 hn.2⟩
theorem uM:∀ {l:List eq},(∀ a∈l,0<=a.cap)->∀ {a:eq},a∈l->a.cap<=(l.map (·.cap)).sum
 |[],_,_,h=>by simp at h
 |b::l,hp,a,h=>by
  have f:=hp b ai
  have g:0<=(l.map (·.cap)).sum:=ju _ λ x e=>by
   obtain⟨d,c,rfl⟩:=NB.1 e;exact hp d (by simp[c])
  refine tU ?_
  rcases Nl.1 h with rfl|h
  ·omega
  ·have:=uM (λ d c=>hp d (by simp[c])) h;omega
theorem y5{N:aR}(b:N.Right)(k:Nat):0<=lM (N.arcs.take k)/\lM (N.arcs.take k)<=4611686018427387903:=by
 obtain⟨e,i,f⟩:=uF (N.arcs.take k) 0 λ a c=>(b.arc a (Od c)).2.2;refine⟨e,?_⟩;unfold lM
 rcases f with h|⟨a,c,h⟩
 ·rw[h];decide
 ·rw[h];have j:=b.sum;have:=uM (λ d g=>(b.arc d g).2.2) (Od c);omega
theorem Fq(N:aR)(e:N.Right)(A:OA_)(c b o:Nat)(g:N.arcs≠[]->A=some ⟨b,o,none⟩):Fn 45 [cd N A c] [] [.seg b o (arcs N.arcs)] λ v H'=>v=.int .i64 (kg (lM N.arcs))/\H'=[]:=by
 have i:=e.len;refine aT Tryz.func45 λ w0=>?_;refine bA ?_;refine dh (cs:=bY N A c) λ s=>?_;refine cS ?_;refine aI ?_;refine bh (v:=.slice A N.arcs.length c) 0 ?_;refine ik ?_
 refine cN (σ:=Nat) (λ t=>[(9,af (t:Int)),(3,af (lM (N.arcs.take t))),(8,af (N.arcs.length:Int)),(7,.slice A N.arcs.length c)])
  (λ _=>[.seg b o (arcs N.arcs)]) (λ t=>t<=N.arcs.length) (λ t=>N.arcs.length-t) 0 a8 (aw.picks [1] ab rfl) (Nk _) ?_
 intro k u;refine ao ?_;refine am (ak rfl (λ j=>ag ?_) (λ l=>aO ?_))
 ·have d:k<N.arcs.length:=by omega
  obtain⟨a,f⟩:∃ a,N.arcs[k]?=some a:=⟨N.arcs[k],an d⟩;obtain rfl:=g (by intro m;rw[m] at d;simp at d);refine am (au ?_);refine aI ?_;refine aG (j9 rfl d) ?_;refine aG (a7 0 rfl rfl (jm f)) ?_;refine dM λ q=>?_;refine iG ?_;refine aI ?_;refine bh (v:=af a.cap) 0 ?_;refine cD (gs:=[]) rfl ?_;refine aB 16 (v':=af (lM (N.arcs.take (k+1)))) rfl (by rw[Nv,f];unfold lM;rw[O4];rfl)<|cS ?_;refine⟨k+1,⟨?_,rfl,rfl,rfl,be⟩,aw.picks [1] ab rfl,d,by show N.arcs.length-(k+1)<N.arcs.length-k;omega⟩;exact M8 some (M8 (Value.int .i64) (cv (n:=(k:Int)+1) aa))
 ·obtain rfl:k=N.arcs.length:=by omega
  rw[Of (Np _)];have r:=y5 e N.arcs.length;rw[Of (Np _)] at r;refine aI ?_;refine cH (HG (lM N.arcs) (by unfold b9;omega)) rfl be ?_;exact mG
def Mo(t:nm):LV_:=[.int .i64 t.least,.int .i64 t.p,.int .i64 t.w,.int .i64 t.v]
def nt(ts:List nm):LV_:=ts.flatMap Mo
theorem EX(l r:List nm):nt (l++r)=nt l++nt r:=by simp[nt]
structure SM where
 f:LI_
 Af:OA_
 cf:Nat
 ts:List nm
 At:OA_
 ct:Nat
theorem Bp{x:Int}(b:0<=x)(c:x<=4611686018427387903):∃ nr,nr<=62/\kg x=dm nr 0/\(nr=0↔x=0):=by
 unfold kg;by_cases h:x<1
 ·rw[if_pos h];exact⟨0,ab,by rw[oI (Np _)],by simp;omega⟩
 ·rw[if_neg h];have hp:0<x.toNat:=aa;have d:=kz hp;have a:=kw hp;refine⟨di x.toNat,?_,?_,?_⟩
  ·have:di x.toNat-1<62:=(O2 (by decide:1<2)).1 (Px a aa);omega
  ·unfold dm;rw[if_pos aa,Nat.sub_zero]
  ·omega
theorem JU(sg:Int)(B:sg=112\/sg=116)(N:aR)(O:N.Fits)(i:N.Right)(A:OA_)(c b o:Nat)(j:N.arcs≠[]->A=some ⟨b,o,none⟩)(nr:Nat)(h2:nr<=62)(P:kg (lM N.arcs)=dm nr 0):
 Fn 23 [cd N A c,.int .u8 sg] [] [.seg b o (arcs N.arcs)] λ v H'=>∃ (f:LI_) (ts:List nm) (Af:OA_) (cf:Nat) (At:OA_) (ct:Nat),Sc N nr nr f ts/\v=.tuple #[.slice Af f.length cf,.slice At ts.length ct,.int .i64 0]/\
  H'=[.own (.slice Af f.length cf) 2 1 f.length (aj f),.own (.slice At ts.length ct) 103 4 ts.length (nt ts)]:=by
 have hx:=i.len;refine FK Tryz.func23 rfl rfl λ w0=>pn (aC ?_);refine dh (cs:=bY N A c) λ q=>?_;refine dh λ t=>?_;refine aN ?_;refine pn ?_
 ·refine bA ?_;refine bh (v:=cd N A c) 1 ?_;refine cH (nX N O A c b o j) rfl ⟨bx 2 rfl,be⟩ ?_;rw[i.check];refine cS ?_;refine cA ?_;refine ak rfl (λ h=>absurd rfl h) (λ _=>ag ?_);refine pn (Bs (Q:=λ e E H=>e=.normal/\nP E [(3,ap t 0),(2,ap q 0)]/\H=[blk t 5 [.int .u8 sg],blk q 33 (bY N A c),.seg b o (arcs N.arcs)]) ?_ ?_)
  ·refine aI ?_;refine bh (v:=.int .u8 sg) 0 ?_
   rcases B with rfl|rfl
   ·refine az ?_;refine dD 22 rfl ab<|cX [2] ?_;refine bu rfl (ag ⟨rfl,a8,rfl⟩)
   ·refine az ?_;refine d7 22 rfl ab<|ae [2] (v:=.int .u8 116) (ad 0 rfl) rfl<|cX [2] ?_;refine nj 25 rfl ab<|bu rfl (ag ⟨rfl,a8,rfl⟩)
  rintro e E H ⟨rfl,hE,rfl⟩;show W _ _ _ E _
  suffices hW:W ⟨w0,[],⟨62,[]⟩⟩ _ _ [(3,ap t 0),(2,ap q 0)] [blk t 5 [.int .u8 sg],blk q 33 (bY N A c),.seg b o (arcs N.arcs)] from λ a w j F=>hW a w (j.ents _ hE) F
  clear hE E
  refine pn (aC ?_);refine az ?_;refine bh (v:=.slice A N.arcs.length c) 1 ?_;refine az ?_;refine cY (n:=N.arcs.length) (c:=N.arcs.length) rfl rfl rfl rfl rfl rfl aa aa aa aE λ gf=>?_;rw[show made [af 0] (N.arcs.length*1)=aj (List.replicate N.arcs.length 0) by rw[db,NR];simp[aj]];refine dM λ I=>?_;refine iG ?_;refine pn (aC ?_);refine dM λ L=>?_;refine ah<|Gi<|pn (aC ?_);refine bh (v:=cd N A c) 4 ?_;refine cH (Fq N i A c b o j) rfl ⟨bx 5 rfl,be⟩ ?_;rw[P];refine fh (Dp (dm nr 0)) rfl be ?_;rintro v H' ⟨pc,rfl,rfl⟩;refine l5 103 4 ?_
  refine cK (K:=blk pc 2 [af (dm nr 0)]::[blk I 45 [ax gf 0 (List.replicate N.arcs.length (0:Int)).length N.arcs.length],.own (ax gf 0 (List.replicate N.arcs.length (0:Int)).length N.arcs.length) 2 1 (List.replicate N.arcs.length (0:Int)).length (aj (List.replicate N.arcs.length 0)),
   blk L 60 [.slice none ([]:List nm).length 0],.own (.slice none ([]:List nm).length 0) 103 4 ([]:List nm).length (nt []),blk q 33 (bY N A c),blk t 5 [.int .u8 sg],.seg b o (arcs N.arcs)]) (by
    rw[NN];exact aw.picks [1,3,4,2,0,6,5,7] ab rfl) ?_
  refine ah<|CL<|?_
  refine IF (p:=pc) (ty:=2) (n0:=dm nr 0) (nr:=nr) (x:=IJ nr) (gf:=86) (lb:=[ap pc 0]) (σ:=SM)
   (λ s=>[blk I 45 [.slice s.Af s.f.length s.cf],.own (.slice s.Af s.f.length s.cf) 2 1 s.f.length (aj s.f),blk L 60 [.slice s.At s.ts.length s.ct],.own (.slice s.At s.ts.length s.ct) 103 4 s.ts.length (nt s.ts),blk q 33 (bY N A c),blk t 5 [.int .u8 sg],.seg b o (arcs N.arcs)])
   (λ k s=>Sc N nr k s.f s.ts) ⟨_,aJ gf 0,N.arcs.length,[],none,0⟩ rfl aW (xR pc nr aa) (λ _ _=>rfl) rfl .nil ?_ ?_
  ·rintro r D k ⟨f,Af,cf,ts,At,ct⟩ y h3 hy Z z;simp only at z ⊢;refine jo rfl<|c8 [] rfl ⟨rfl,?_⟩;obtain⟨_,R,hv,_⟩:=z.all i;have hr:=R.len;have l:=lQ Z;have hle:=H6 (nr:=nr) (k:=k) aa;refine zY (AP (jo rfl ?_));refine fj (aH 4 rfl) fun ⟨_,_,d,S⟩=>?_;obtain⟨U,d⟩:=bo d S;refine bh (v:=cd N A c) 7 ?_;refine bh (v:=.slice Af f.length cf) 3 ?_;refine az ?_;refine bh (v:=.int .u8 sg) 8 ?_;refine dB (yr N O i A c b o j f R Af cf U 0 (fun h=>d (by simpa [aj] using h)) (dm nr k) l (by unfold b9;omega) sg B) rfl ⟨bx 9 rfl,gy 4 rfl d,trivial⟩ ?_;rintro v H' ⟨f1,V,X,st,A1,M,C,_,_,_,_,_,rfl,rfl⟩;obtain⟨u,_,_,_⟩:=C.keeps i l R;have h1:=u.len;refine rN ?_;refine dM fun p11=>?_;refine tT ?_;refine AP (jo rfl ?_);refine fj (aH 1 rfl) fun ⟨_,_,g,Y⟩=>?_;obtain⟨g1,g⟩:=bo g Y;refine az ?_;refine bh (v:=.slice A1 f1.length M) 0 ?_;refine dz 5 ?_;refine ah<|AP (jo rfl ?_);refine bh (v:=cd N A c) 9 ?_;refine bh (v:=.slice A1 f1.length M) 5 ?_;refine dB (f8 N O i A c b o j f1 A1 M g1 0 (fun h=>g (by simpa [aj] using h)) (aD.inB i u.toRanged) aa) rfl ⟨bx 11 rfl,gy 1 rfl g,trivial⟩ ?_;rintro v H' ⟨⟨rfl,_⟩|⟨_,h⟩,rfl⟩
   case inr=>exact absurd u h
   refine ef ?_;refine jo rfl<|bh (v:=.slice At ts.length ct) 7 ?_;refine az ?_;refine bh (v:=af V) 0 ?_;refine az ?_;refine bh (v:=af X) 0 ?_;refine az ?_;refine fv ?_;refine dp λ g5=>?_;refine bp (n:=ts.length) (m:=1) (off:=0) (news:=nt [⟨dm nr k,V,X,dJ (N.arcs.zip f1) N.snk⟩]) 9 0 rfl rfl rfl rfl rfl rfl ab rfl rfl (aQ g5 _ _ (0,0)) aE rfl rfl aa aa (λ _ _=>rfl) λ A2 c2=>dz 8 ?_;refine ah ⟨⟨f1,A1,M,ts++[⟨dm nr k,V,X,dJ (N.arcs.zip f1) N.snk⟩],A2,c2⟩,.step z Z C,?_⟩;simp only[EX,Ng,Nf,NA];exact aw.picks [3,4,5,6,2,8,9,10,11,12] ab rfl
  ·rintro D a w ⟨f,Af,cf,ts,At,ct⟩ y z j F;simp only at z F;show Code.wp Tryz.prog _ _ a w;refine KF (fn:=Tryz.f23) (E:=[(9,ap L 0),(8,ap I 0)]) (H:=[.obj D uA,blk pc 2 [af y],blk I 45 [.slice Af f.length cf],.own (.slice Af f.length cf) 2 1 f.length (aj f),blk L 60 [.slice At ts.length ct],.own (.slice At ts.length ct) 103 4 ts.length (nt ts),blk q 33 (bY N A c),blk t 5 [.int .u8 sg],.seg b o (arcs N.arcs)]) (D:=D) ?_ (j.ents _ a8) F;refine am<|bK 5 (dS [0,1,2,3,4]) [2,4] aW ab rfl<|bc rfl (ad (v:=.slice Af f.length cf) 0 rfl) ?_;refine bc rfl (ad (v:=.slice At ts.length ct) 1 rfl) ?_;refine lh ?_;refine bM<|⟨.inr rfl,[.own (.slice Af f.length cf) 2 1 f.length (aj f),.own (.slice At ts.length ct) 103 4 ts.length (nt ts)],[0,3,5],ab,rfl,_,rfl,f,ts,Af,cf,At,ct,z,rfl,rfl⟩
theorem uj:∀ (L:LI_) (b:Nat),(∀ j x,L[j]?=some x->j≠b->x=0)->L.sum=L.getD b 0
 |[],_,_=>by simp
 |x::L,0,h=>by
  have:L.sum=0:=by
   have:∀ y∈L,y=0:=λ y a=>by
    obtain⟨j,c,rfl⟩:=NT.1 a;exact h (j+1) _ (by rw[N8,an c]) aa
   clear h
   induction L with
   |nil=>rfl
   |cons z L d=>rw[NC,this z ai,d λ y a=>this y (by simp[a])];rfl
  rw[NC,this];simp
 |x::L,b+1,h=>by
  have e:=h 0 x rfl aa;rw[NC,e,uj L b λ j y a i=>h (j+1) y (by rw[N8];exact a) aa];simp
theorem xI:∀ (L:LI_) (i j:Nat) (x y:Int),(∀ z∈L,0<=z)->i<j->L[i]?=some x->L[j]?=some y->x+y<=L.sum
 |[],i,_,_,_,_,_,h,_=>by simp at h
 |z::L,0,j+1,x,y,b,_,hi,a=>by
  simp only[Oe,Na] at hi;subst hi;rw[N8] at a;have:=mJ (λ x c=>b x (by simp[c])) (M9 a);rw[NC];omega
 |z::L,i+1,j+1,x,y,b,d,hi,a=>by
  rw[N8] at hi a;have:=xI L i j x y (λ x c=>b x (by simp[c])) aa hi a;have:=b z ai;rw[NC];omega
theorem n8:∀ (L:LI_),(∀ x∈L,x=0)->L.sum=0
 |[],_=>rfl
 |z::L,h=>by rw[NC,h z ai,n8 L λ y a=>h y (by simp[a])];rfl
theorem Dc{N:aR}(c:N.Right){f:LI_}(d:jA N f):∃ s,fQ N s/\pO N f s:=by
 have e:=c.nodes;obtain⟨n,i⟩:∃ n:Nat,N.nodes=n:=⟨N.nodes.toNat,aa⟩
 have b:∀ v:Nat,((List.range (n+1)).map λ (v:Nat)=>dU (tf N (a9 (N.arcs.zip f)) 1 v))[v]?=some true↔v<=n/\tf N (a9 (N.arcs.zip f)) 1 v:=by
  intro v;rw[Ni];by_cases j:v<n+1
  ·rw[PR j];show some (dU _)=some true↔_;by_cases a:tf N (a9 (N.arcs.zip f)) 1 v
   ·rw[aV a];exact⟨λ _=>⟨aa,a⟩,λ _=>rfl⟩
   ·rw[aZ a];exact⟨λ h=>(by cases h),λ h=>absurd h.2 a⟩
  ·rw[NX eS];simp;omega
 exact⟨_,wA c d.1 i d.2 b⟩
theorem Ej{N:aR}(a:N.Right){f f':LI_}(c:jA N f)(b:aD N f'):dJ (N.arcs.zip f') N.snk<=dJ (N.arcs.zip f) N.snk:=by
 obtain⟨s,d,e⟩:=Dc a c;rw[<- (tH a c.1 d).2 e];exact zf a b d
section
variable {g:Gr} {nl nr:Nat}
theorem ox(hl:g.left=nl){i:Nat}(h:i<nl):(dO g).arcs[i]?=some ⟨1,3+i,1⟩:=by
 unfold dO;simp only;rw[NI,NY eS,Ni,PR aa];rfl
theorem mc(hl:g.left=nl){k:Nat}{e:np}(h:g.edges[k]?=some e):(dO g).arcs[nl+k]?=some ⟨2+e.l,2+g.left+e.r,1⟩:=by
 have b:=(Nb.1 h).1;have a:g.left.toNat=nl:=aa;unfold dO;simp only;rw[NI,Nu eS,Nj,Om,a,NV,NY eS,Ni,h];rfl
theorem o7(hl:g.left=nl)(b:g.right=nr){i:Nat}(h:i<nr):(dO g).arcs[nl+g.edges.length+i]?=some ⟨3+g.left+i,2,1⟩:=by
 have a:g.left.toNat=nl:=aa;unfold dO;simp only;rw[Nu eS,Ng,Nj,Om,Nj,a,NV,Ni,PR aa];rfl
theorem mg(hl:g.left=nl)(c:g.right=nr){j:Nat}{a:eq}(h:(dO g).arcs[j]?=some a):
 (j<nl/\a=⟨1,3+j,1⟩)\/(∃ k e,j=nl+k/\g.edges[k]?=some e/\a=⟨2+e.l,2+g.left+e.r,1⟩)\/(∃ i,i<nr/\j=nl+g.edges.length+i/\a=⟨3+g.left+i,2,1⟩):=by
 have d:=(Nb.1 h).1;rw[qK] at d;by_cases b:j<nl
 ·rw[ox hl b] at h;simp only[Na] at h;exact .inl ⟨b,h.symm⟩
 ·by_cases m:j<nl+g.edges.length
  ·obtain⟨k,rfl⟩:∃ k,j=nl+k:=⟨j-nl,aa⟩;have he:g.edges[k]?=some g.edges[k]:=an aa;rw[mc hl he] at h;simp only[Na] at h;exact .inr (.inl ⟨k,_,rfl,he,h.symm⟩)
  ·obtain⟨i,rfl⟩:∃ i,j=nl+g.edges.length+i:=⟨j-(nl+g.edges.length),aa⟩;have hi:i<nr:=aa;rw[o7 hl c hi] at h;simp only[Na] at h;exact .inr (.inr ⟨i,hi,rfl,h.symm⟩)
end
section
variable {g:Gr} {nl nr:Nat}
end
def z5(v:Int)(ps:List (eq×Int)):LI_:=ps.map λ p=>if p.1.to=v then p.2 else 0
def pd(v:Int)(ps:List (eq×Int)):LI_:=ps.map λ p=>if p.1.fr=v then p.2 else 0
theorem mb(v:Int):∀ ps:List (eq×Int),dJ ps v=(z5 v ps).sum-(pd v ps).sum
 |[]=>by simp[dJ,z5,pd]
 |p::ps=>by
  have a:=mb v ps;simp only[dJ,z5,pd,Ns,NC] at a ⊢;rw[a];omega
theorem gN{f:LI_}{nl k:Nat}{x:Int}:x∈dV f nl k↔∃ i:Nat,i<k/\0<f.getD (nl+i) 0/\x=i:=by
 unfold dV;refine xY ?_
 constructor
 ·rintro⟨i,⟨a,b⟩,rfl⟩;exact⟨i,a,b,rfl⟩
 ·rintro⟨i,a,b,rfl⟩;exact⟨i,⟨a,b⟩,rfl⟩
theorem kX(f:LI_)(nl:Nat):∀ k,(dV f nl k).Pairwise (·<·)
 |0=>by simp[dV]
 |k+1=>by
  rw[sF];split
  ·refine rt (kX f nl k) λ x a=>?_;obtain⟨i,b,_,rfl⟩:=gN.1 a;omega
  ·rw[NL];exact kX f nl k
section
variable {g:Gr} {nl nr:Nat} {f:LI_}
theorem ko(b:aD (dO g) f){j:Nat}{a:eq}(h:(dO g).arcs[j]?=some a):((dO g).arcs.zip f)[j]?=some (a,f.getD j 0)/\0<=f.getD j 0/\f.getD j 0<=1:=by
 have i:=(Nb.1 h).1;have hl:=b.len;have e:f[j]?=some (f.getD j 0):=by rw[Nc,an aa];rfl
 have c:((dO g).arcs.zip f)[j]?=some (a,f.getD j 0):=NZ.2 ⟨h,e⟩;have d:=b.all _ (M9 c);have k:=FG a (M9 h);simp only at d;exact⟨c,d.1,aa⟩
theorem mj{j:Nat}{p:eq×Int}(h:((dO g).arcs.zip f)[j]?=some p):(dO g).arcs[j]?=some p.1/\f.getD j 0=p.2:=by
 obtain⟨a,b⟩:=NZ.1 h;exact⟨a,by rw[Nc,b];rfl⟩
theorem zQ(s:g.Right)(o:aD (dO g) f)(hl:g.left=nl)(w:g.right=nr){i k:Nat}{a b:np}(I:i<k)(E:g.edges[i]?=some a)(F:g.edges[k]?=some b)(R:0<f.getD (nl+i) 0)(S:0<f.getD (nl+k) 0):a.l≠b.l/\a.r≠b.r:=by
 have K:=s.edge a (M9 E);have L:=s.edge b (M9 F);have M:=s.left;have N:=s.right;obtain⟨H,U,_⟩:=ko o (mc hl E);obtain⟨z2,V,_⟩:=ko o (mc hl F);have t:∀ p∈(dO g).arcs.zip f,0<=p.2:=λ p hp=>(o.all p hp).1
 constructor
 ·intro e;have y:=o.kept (2+a.l) (by show 1≤2+a.l∧2+a.l≤2+g.left+g.right;omega) (by show 2+a.l≠1;omega) (by show 2+a.l≠2;omega);rw[mb] at y
  have A:(z5 (2+a.l) ((dO g).arcs.zip f)).sum<=1:=by
   obtain⟨z3,O,B⟩:=ko o (ox (g:=g) hl (i:=a.l.toNat-1) aa);rw[uj _ (a.l.toNat-1)]
   ·unfold z5;refine xm ?_;show (if _ then _ else _:Int)<=1;split
    ·exact B
    ·decide
   ·intro j x c C;unfold z5 at c;rw[Ni] at c
    cases m:((dO g).arcs.zip f)[j]? with
    |none=>rw[m] at c;simp at c
    |some p=>
     rw[m] at c;simp only[Pd,Na] at c;rw[<- c];refine if_neg λ d=>?_
     rcases mg hl w (mj m).1 with ⟨u,n⟩|⟨P,D,u,n,q⟩|⟨Q,u,n,q⟩
     ·rw[n] at d;simp only at d;omega
     ·rw[q] at d;simp only at d;have:=s.edge D (M9 n);omega
     ·rw[q] at d;simp only at d;omega
  have v:=xI (pd (2+a.l) ((dO g).arcs.zip f)) (nl+i) (nl+k) (f.getD (nl+i) 0) (f.getD (nl+k) 0) (λ z m=>by
   obtain⟨p,hp,rfl⟩:=NB.1 m;have:=t p hp;split<;>omega) aa (by unfold pd;rw[Ni,H];exact M8 some (if_pos rfl))
   (by unfold pd;rw[Ni,z2];exact M8 some (if_pos (by show 2+b.l=2+a.l;omega)))
  omega
 ·intro e;have y:=o.kept (2+g.left+a.r) (by show 1≤2+g.left+a.r∧2+g.left+a.r≤2+g.left+g.right;omega) (by show 2+g.left+a.r≠1;omega) (by show 2+g.left+a.r≠2;omega);rw[mb] at y
  have v:(pd (2+g.left+a.r) ((dO g).arcs.zip f)).sum<=1:=by
   obtain⟨z3,O,B⟩:=ko o (o7 (g:=g) hl w (i:=a.r.toNat-1) aa);rw[uj _ (nl+g.edges.length+(a.r.toNat-1))]
   ·unfold pd;refine xm ?_;show (if _ then _ else _:Int)<=1;split
    ·exact B
    ·decide
   ·intro j x c C;unfold pd at c;rw[Ni] at c
    cases m:((dO g).arcs.zip f)[j]? with
    |none=>rw[m] at c;simp at c
    |some p=>
     rw[m] at c;simp only[Pd,Na] at c;rw[<- c];refine if_neg λ d=>?_
     rcases mg hl w (mj m).1 with ⟨u,n⟩|⟨P,D,u,n,q⟩|⟨Q,u,n,q⟩
     ·rw[n] at d;simp only at d;omega
     ·rw[q] at d;simp only at d;have:=s.edge D (M9 n);omega
     ·rw[q] at d;simp only at d;omega
  have A:=xI (z5 (2+g.left+a.r) ((dO g).arcs.zip f)) (nl+i) (nl+k) (f.getD (nl+i) 0) (f.getD (nl+k) 0) (λ z m=>by
   obtain⟨p,hp,rfl⟩:=NB.1 m;have:=t p hp;split<;>omega) aa (by unfold z5;rw[Ni,H];exact M8 some (if_pos rfl))
   (by unfold z5;rw[Ni,z2];exact M8 some (if_pos (by show 2+g.left+b.r=2+g.left+a.r;omega)))
  omega
theorem u6(h:g.Right)(j:aD (dO g) f)(hl:g.left=nl)(l:g.right=nr):ed g (dV f nl g.edges.length):=by
 refine⟨kX _ _ _,λ x c=>?_,?_⟩
 ·obtain⟨i,m,_,rfl⟩:=gN.1 c;omega
 ·refine (kX f nl g.edges.length).imp_of_mem ?_;intro x y c n o a b d e;obtain⟨i,m,p,rfl⟩:=gN.1 c;obtain⟨k,r,q,rfl⟩:=gN.1 n;rw[Nz] at d e;exact zQ h j hl l aa d e p q
end
def nG(N:aR)(sg:Int)(f:LI_):Prop:=
 ((sg=112\/sg=116)/\∃ p k:Nat,Dn N 1 (List.replicate N.arcs.length 0) p k f)\/
 (sg=115/\∃ (nr:Nat) (ts:List nm),nr<=62/\kg (lM N.arcs)=dm nr 0/\(nr=0->∀ a∈N.arcs,a.cap=0)/\Sc N nr nr f ts)
theorem Hg{a b:Nat}(h:dm a 0=dm b 0):a=b:=by
 unfold dm at h;have hp:∀ k:Nat,(0:Int)<2^k:=λ k=>Int.pow_pos ab;have d:∀ k:Nat,((2^k:Nat):Int)=2^k:=λ k=>by rw[Int.natCast_pow];rfl
 by_cases f:0<a
 ·rw[if_pos f] at h;by_cases c:0<b
  ·rw[if_pos c,<- d,<- d] at h;have e:(2:Nat)^(a-1-0)=2^(b-1-0):=Int.ofNat.inj h;have:=(Nat.pow_right_inj (Nat.lt_succ_self 1)).1 e;omega
  ·rw[if_neg c] at h;have:=hp (a-1-0);omega
 ·rw[if_neg f] at h;by_cases c:0<b
  ·rw[if_pos c] at h;have:=hp (b-1-0);omega
  ·omega
theorem nG.uniq{N:aR}(b:N.Right){sg:Int}{f f':LI_}(h:nG N sg f)(c:nG N sg f'):f=f':=by
 rcases h with ⟨d,p,k,a⟩|⟨rfl,nr,ts,d,a,_,e⟩<;>rcases c with ⟨g1,j,l,g2⟩|⟨g0,g,i,g1,g2,_,g3⟩
 ·exact (a.uniq b ab g2).1
 ·omega
 ·omega
 ·obtain rfl:=Hg (a.symm.trans g2);exact (e.uniq b g3).1
theorem EF{N:aR}{f:LI_}(h:∀ r,r<(a9 (N.arcs.zip f)).length->(a9 (N.arcs.zip f)).getD r 0<1){x:Int}(a:tf N (a9 (N.arcs.zip f)) 1 x):x=N.src:=by
 induction a with
 |src=>rfl
 |step r q c b d e g=>
  have:=h q b;omega
theorem Sc.max{N:aR}(l:N.Right){nr:Nat}{f:LI_}{ts:List nm}(h:Sc N nr nr f ts)(c:nr=0->∀ a∈N.arcs,a.cap=0):jA N f:=by
 obtain⟨_,d,_,_,_,_,b⟩:=h.all l;refine⟨d,?_⟩
 rcases OW nr with g|g
 ·intro i;refine l.diff (EF (fun r i=>?_) i).symm;rw[ee,List.length_zip,d.len,Nat.min_self] at i;obtain⟨a,m⟩:∃ a,N.arcs[r/2]?=some a:=⟨N.arcs[r/2],List.getElem?_eq_getElem aa⟩;obtain⟨x,o⟩:∃ x,f[r/2]?=some x:=⟨f[r/2]'(by rw[d.len];omega),List.getElem?_eq_getElem _⟩;have n:=f6 m o;obtain⟨g1,g2⟩:=eh n;have k:=d.all _ (List.mem_of_getElem? n);have q:=c g a (List.mem_of_getElem? m);simp only at g1 g2 k
  rcases Pj r with e|e
  ·rw[show 2*(r/2)=r by omega] at g1;rw[Nc,g1,NK];omega
  ·rw[show 2*(r/2)+1=r by omega] at g2;rw[Nc,g2,NK];omega
 ·obtain⟨p,g1,g2⟩:=b g;obtain⟨j,rfl⟩:∃ j,nr=j+1:=⟨nr-1,aa⟩;rw[show j+1-1=j by omega,tO] at g1;exact uQ d.toRanged g1 g2
theorem nG.max{N:aR}(a:N.Right){sg:Int}{f:LI_}(h:nG N sg f):jA N f:=by
 rcases h with ⟨_,p,k,e⟩|⟨_,nr,ts,_,_,g,i⟩
 ·obtain⟨d,_,_,lv,b,c⟩:=e.keeps a ab (iS _ a);exact⟨d,uQ d.toRanged b c⟩
 ·exact i.max a g
theorem rooms{N:aR}(c:N.Right):∃ nr,nr<=62/\kg (lM N.arcs)=dm nr 0/\(nr=0->∀ a∈N.arcs,a.cap=0):=by
 have d:=y5 c N.arcs.length;rw[Of (Np _)] at d;obtain⟨g,f,i⟩:=uF N.arcs 0 λ a b=>(c.arc a b).2.2;change 0<=lM N.arcs at g;change ∀ a∈N.arcs,a.cap<=lM N.arcs at f;obtain⟨nr,g1,g2,g3⟩:=Bp d.1 aa;refine⟨nr,g1,g2,λ h a b=>?_⟩;have e:=g3.1 h;have:=f a b;have:=(c.arc a b).2.2;omega
def mq(N:aR)(f s:LI_):Prop:=∃ (l:LB_) (n:Nat),N.nodes=n/\l.length=n+1/\(∀ v:Nat,l[v]?=some true↔v<=n/\tf N (a9 (N.arcs.zip f)) 1 v)/\s=cp l true (n+1)
theorem GF{l m:LB_}(hl:l.length=m.length)(h:∀ v:Nat,l[v]?=some true↔m[v]?=some true):l=m:=by
 refine Pl hl λ i a b=>?_;have:=h i;rw[an a,an b] at this;simp only[Na] at this
 cases c:l[i]<;>cases d:m[i]<;>simp_all
theorem mq.uniq{N:aR}{f s a:LI_}(h:mq N f s)(b:mq N f a):s=a:=by
 obtain⟨l,n,e,g,c,rfl⟩:=h;obtain⟨m,d,g1,g2,g3,rfl⟩:=b;obtain rfl:n=d:=aa;rw[GF aa λ v=>(c v).trans (g3 v).symm]
theorem mq.cut{N:aR}(a:N.Right){f s:LI_}(hm:jA N f)(h:mq N f s):fQ N s/\pO N f s/\s.length<=501:=by
 obtain⟨l,n,c,e,d,rfl⟩:=h;have b:=wA a hm.1 c hm.2 d;have hl:=lE l true (n+1);have:=a.nodes;exact⟨b.1,b.2,aa⟩
theorem fH{l:List eq}{A B:OA_}(h:arcs l≠[]->A=B)(hl:l≠[]):A=B:=h λ a=>hl (Nw.1 (by have:=n7 l;rw[a] at this;simp at this;omega))
theorem dN{l:LI_}{A B:OA_}(h:aj l≠[]->A=B)(hl:l≠[]):A=B:=h λ a=>hl (by simpa [aj] using a)
def dq(p:Nat)(m:cO):Heap:=[blk p 97 m.cells,.own (.slice m.An m.N.arcs.length m.cn) 37 3 m.N.arcs.length (arcs m.N.arcs),.own (.slice m.Af m.f.length m.cf) 2 1 m.f.length (aj m.f),.own (.slice m.As m.s.length m.cs) 3 1 m.s.length (aj m.s)]
def cO.flow(m:cO)(f:LI_)(A:OA_)(c:Nat):cO:={ m with f:=f,Af:=A,cf:=c }
def cO.both(m:cO)(f s:LI_)(Af:OA_)(cf:Nat)(As:OA_)(cs:Nat):cO:={ m with f:=f,Af:=Af,cf:=cf,s:=s,As:=As,cs:=cs,b:=true,d:=true }
theorem vi{m:cO}(h:m.a=true):m.lack []=0:=by unfold cO.lack;rw[h];simp
theorem Ju{m:cO}(h:m.a=false)(l:LB_):m.lack l=9:=by unfold cO.lack;rw[if_pos h]
def Lz(p:Nat)(m:cO)(sg:Int)(v:Value)(H':Heap):Prop:=∃ (f s:LI_) (Af:OA_) (cf:Nat) (As:OA_) (cs:Nat),nG m.N sg f/\mq m.N f s/\v=td (dJ (m.N.arcs.zip f) m.N.snk,0)/\H'=dq p (m.both f s Af cf As cs)
theorem Hp(p:Nat)(m:cO)(z:m.a=true)(e:m.N.Right)(sg:Int)(A:sg=112\/sg=116\/sg=115):Fn 22 [.pointer (some ⟨p,0,none⟩),.int .u8 sg] (ay (dq p m)) ([]++dq p m) (Lz p m sg):=by
 generalize hM:ay _=M
 have o:=e.fits';refine aT Tryz.func22 λ w0=>?_;refine cW ?_;refine cH (fst:=[]) (cap:=[]) (kC m p ([]) ab none 0 0 0 0 (λ h=>absurd rfl h) rfl) rfl ⟨en 0 rfl,gC 0 rfl gW (.inl rfl),be⟩ ?_;rw[vi z];refine cS ?_;refine cA ?_;refine ak rfl (λ h=>absurd rfl h) (λ _=>ag ?_);refine iB (σ:={ t:LI_×OA_×Nat//nG m.N sg t.1 }) (λ t=>[(0,ap p 0)]) (λ t=>dq p (m.flow t.1.1 t.1.2.1 t.1.2.2)) ?_ ?_
 ·refine jX ?_;by_cases i:sg=112\/sg=116
  ·refine gj [(15,.bool true),(0,ap p 0),(1,.int .u8 sg)] (dq p m) ?_ ?_
   ·rcases i with rfl|rfl
    ·refine ao ?_;refine pj 15 rfl rfl<|bD rfl (ag ?_);exact⟨[0,1,2,3],a8,ab,rfl⟩
    ·refine ao ?_;refine nj 15 rfl ab<|fD ?_;exact⟨[0,1,2,3],⟨M8 some (M8 Value.bool (aV rfl)),rfl,rfl,be⟩,ab,rfl⟩
   refine pZ ?_;refine fj (aH 1 rfl) λ ⟨_,_,b,g⟩=>?_;obtain⟨g1,b⟩:=bo b g;refine bh (v:=cd m.N m.An m.cn) 0 ?_;refine az ?_;refine fh (xW m.N o e m.An m.cn g1 0 (fH b) sg i) rfl ⟨gy 1 rfl b,be⟩ ?_;rintro v H' ⟨f',B,k,C,q,r,D,_,_,_,_,_,rfl,rfl⟩;refine az ?_;refine dM λ p7=>?_;refine dz 0 ?_;refine ew ?_;refine bh (v:=.slice q f'.length r) 0 ?_;refine lJ ?_;refine ah<|⟨⟨(f',q,r),.inl ⟨i,B,k,D⟩⟩,⟨rfl,be⟩,?_⟩;exact aw.picks [2,3,1,5] ab rfl
  ·obtain rfl:sg=115:=by omega
   refine gj [(15,.bool false),(0,ap p 0),(1,.int .u8 115),(14,.int .u8 115)] (dq p m) ?_ ?_
   ·refine ao ?_;refine nj 15 rfl ab<|fD ?_;exact⟨[0,1,2,3],⟨M8 some (M8 Value.bool (aZ ab)),rfl,rfl,rfl,be⟩,ab,rfl⟩
   refine fD ?_;refine pj 32 rfl rfl<|dy ?_;obtain⟨nr,w,x,E⟩:=rooms e;refine aI ?_;refine fj (aH 1 rfl) λ ⟨_,_,b,g⟩=>?_;obtain⟨g1,b⟩:=bo b g;refine bh (v:=cd m.N m.An m.cn) 0 ?_;refine az ?_;refine fh (JU 112 (.inl rfl) m.N o e m.An m.cn g1 0 (fH b) nr w x) rfl ⟨gy 1 rfl b,be⟩ ?_;rintro v H' ⟨f',ts,q,r,At,ct,F,rfl,rfl⟩;refine lJ ?_;refine ah<|⟨⟨(f',q,r),.inr ⟨rfl,nr,ts,w,x,E,F⟩⟩,⟨rfl,be⟩,?_⟩;exact aw.picks [2,3,0,5] ab rfl
 rintro⟨⟨f,Af,cf⟩,s⟩;simp only at s ⊢;have d:=s.max e;have H:=d.1.len;have I:=e.len;obtain⟨n,y⟩:∃ n:Nat,m.N.nodes=n:=⟨m.N.nodes.toNat,by have:=e.nodes;omega⟩;refine aP (aH 1 rfl) λ ⟨_,_,b,g⟩=>?_;obtain⟨g1,b⟩:=bo b g;refine aP (aH 2 rfl) λ ⟨_,_,c,j⟩=>?_;obtain⟨g2,c⟩:=bo c j;refine cA ?_;refine fW 16 [0,1,2,3,4,5,6,7,8] 9 (dS [10,11,12,13,14]++[(15,false)]) aW ?_
 (repeat' (first|refine jr (gs:=[999]) rfl rfl ?_|refine cV [999] (v:=cd m.N m.An m.cn) rfl rfl (ad 0 rfl) rfl ?_|refine cV [999] (v:=.slice Af f.length cf) rfl rfl (ad 0 rfl) rfl ?_))
 refine im rfl<|dB (IG m.N o e m.An m.cn g1 0 (fH b) f Af cf g2 0 (dN c) (aD.inB e d.1.toRanged) aa n y) rfl ⟨⟨1,_,by simp[cO.flow,dq],rfl,bi b,bO b⟩,⟨2,_,by simp[cO.flow,dq],rfl,bi c,bO c⟩,be⟩ ?_;rintro v H' (⟨_,_,l,As,cs,hl,u,rfl,rfl⟩|⟨k1,_⟩|⟨_,k1,_⟩)
 case inr.inl=>exact absurd d.1 k1
 case inr.inr=>exact absurd k1 d.2
 refine dE ?_;refine bZ []<|jM ?_;refine dz 1 ?_;refine bZ []<|gF ?_;refine aI ?_;refine dz 1 ?_;refine az ?_;refine dz 1 ?_;refine ah<|bQ (K:=dq p (m.both f (cp l true (n+1)) Af cf As cs)) (aw.picks [1,2,3,0] ab rfl)<|cA ?_;refine bK 13 (dS [0,1,2,3,4,5,6,7]++[(8,false)]++dS [9,10,11,12]) [0,1,2] aW ab rfl<|a6 ?_;refine bc (v:=cd m.N m.An m.cn) rfl (ad 0 rfl) ?_;refine a6 ?_;refine bc (v:=.slice Af f.length cf) rfl (ad 0 rfl) ?_;refine cz ?_;refine dB (f8 m.N o e m.An m.cn g1 0 (fH b) f Af cf g2 0 (dN c) (aD.inB e d.1.toRanged) aa) rfl ⟨⟨1,_,by simp[cO.both,dq],rfl,bi b,bO b⟩,⟨2,_,by simp[cO.both,dq],rfl,bi c,bO c⟩,be⟩ ?_;rintro v H' ⟨⟨rfl,_⟩|⟨_,k1⟩,rfl⟩
 case inr=>exact absurd d.1 k1
 refine dE ?_;refine bZ [0,1,2]<|iA ?_;refine bM ⟨_,rfl,f,_,Af,cf,As,cs,s,⟨l,n,y,hl,u,rfl⟩,rfl,rfl⟩
end Go.Proofs.YtmcnpaelaieniaaGreatDoor
