import Derived.Test.YtmcnpaelaieniaaGreatDoorQX98
import Derived.Test.YtmcnpaelaieniaaGreatDoorQX87
/- A part of the proof; see NOTES.md. -/
set_option linter.unusedVariables false
set_option linter.unusedSimpArgs false
namespace Go.Proofs.YtmcnpaelaieniaaGreatDoor
open Go.RowKit
theorem Nx.uniq{N:aU}{L:Nat->LN}{least:Int}{rm:LI}(hsn:N.src.toNat≠N.snk.toNat){pos W pos' W':LN}{b:Bool}(h:Nx N L least rm pos W b pos' W'):∀ {V:LN} {b2:Bool} {pos2 W2:LN},V=W->Nx N L least rm pos V b2 pos2 W2->b=b2/\pos'=pos2/\W'=W2:=by
 induction h with
 |hit h1=>
  intro V b2 pos2 W2 hV h
  cases h with
  |hit _=>exact⟨rfl,rfl,hV.symm⟩
  |go k1 _ _ _ _=>rw[hV] at k1;exact absurd h1 k1
  |skip k1 _ _ _ _=>rw[hV] at k1;exact absurd h1 k1
  |back k1 _ _ _ _=>rw[hV] at k1;exact absurd h1 k1
  |stop k1 _ _=>rw[<- hV] at h1;exact absurd h1 k1
 |@go pos W pos' W' r p b h1 h2 h3 h4 _ ih=>
  intro V b2 pos2 W2 hV h
  cases h with
  |hit k1=>rw[hV] at k1;exact absurd k1 h1
  |go k1 k2 k3 k4 k5=>
   subst hV;rw[h2] at k2;simp only[Gs] at k2;subst k2;rw[h3] at k3;simp only[Gs] at k3;subst k3;exact ih rfl k5
  |skip k1 k2 k3 k4 k5=>
   subst hV;rw[h2] at k2;simp only[Gs] at k2;subst k2;rw[h3] at k3;simp only[Gs] at k3;subst k3;omega
  |back k1 k2 k3 k4 k5=>
   subst hV;rw[h2] at k2;simp only[Gs] at k2;subst k2;have:=(Gv.1 h3).1;omega
  |stop k1 k2 k3=>
   subst hV;have h2':pos[N.src.toNat]?=some p:=h2;rw[h2'] at k2;simp only[Gs] at k2;subst k2;have:=(Gv.1 h3).1;have h5:p<(L N.src.toNat).length:=this;omega
 |@skip pos W pos' W' r p b h1 h2 h3 h4 _ ih=>
  intro V b2 pos2 W2 hV h
  cases h with
  |hit k1=>rw[hV] at k1;exact absurd k1 h1
  |go k1 k2 k3 k4 k5=>
   subst hV;rw[h2] at k2;simp only[Gs] at k2;subst k2;rw[h3] at k3;simp only[Gs] at k3;subst k3;omega
  |skip k1 k2 k3 k4 k5=>
   subst hV;rw[h2] at k2;simp only[Gs] at k2;subst k2;exact ih rfl k5
  |back k1 k2 k3 k4 k5=>
   subst hV;rw[h2] at k2;simp only[Gs] at k2;subst k2;have:=(Gv.1 h3).1;omega
  |stop k1 k2 k3=>
   subst hV;have h2':pos[N.src.toNat]?=some p:=h2;rw[h2'] at k2;simp only[Gs] at k2;subst k2;have h5:p<(L N.src.toNat).length:=(Gv.1 h3).1;omega
 |@back pos W pos' W' r p q b h1 h2 h3 h4 _ ih=>
  intro V b2 pos2 W2 hV h
  cases h with
  |hit k1=>rw[hV] at k1;exact absurd k1 h1
  |go k1 k2 k3 k4 k5=>
   subst hV;rw[h2] at k2;simp only[Gs] at k2;subst k2;have:=(Gv.1 k3).1;omega
  |skip k1 k2 k3 k4 k5=>
   subst hV;rw[h2] at k2;simp only[Gs] at k2;subst k2;have:=(Gv.1 k3).1;omega
  |@back _ W2' _ _ r2 p2 q2 _ k1 k2 k3 k4 k5=>
   obtain⟨e1,e2⟩:=List.append_inj' hV rfl;subst e1;simp only[HO,IR] at e2;subst e2;rw[h4] at k4;simp only[Gs] at k4;subst k4;exact ih rfl k5
  |stop k1 k2 k3=>
   exact absurd hV (by simp)
 |stop h1 h2 h3=>
  intro V b2 pos2 W2 hV h
  cases h with
  |hit k1=>rw[hV] at k1;exact absurd k1 h1
  |go k1 k2 k3 k4 k5=>
   subst hV;have h2':=k2;rw[show cR N []=N.src.toNat from rfl,h2] at h2';simp only[Gs] at h2';subst h2';have h5:=(Gv.1 k3).1;rw[show cR N []=N.src.toNat from rfl] at h5;omega
  |skip k1 k2 k3 k4 k5=>
   subst hV;have h2':=k2;rw[show cR N []=N.src.toNat from rfl,h2] at h2';simp only[Gs] at h2';subst h2';have h5:=(Gv.1 k3).1;rw[show cR N []=N.src.toNat from rfl] at h5;omega
  |back k1 k2 k3 k4 k5=>exact absurd hV (by simp)
  |stop _ _ _=>exact⟨rfl,rfl,rfl⟩
theorem Bl.uniq{N:aU}{L:Nat->LN}{least:Int}(hsn:N.src.toNat≠N.snk.toNat){rm rm':LI}{pos W:LN}{ws:List (LN×Int)}(h:Bl N L least rm pos W ws rm'):∀ {ws2:List (LN×Int)} {rm2:LI},Bl N L least rm pos W ws2 rm2->ws=ws2/\rm'=rm2:=by
 induction h with
 |stop h1=>
  intro ws2 rm2 h
  cases h with
  |stop _=>exact⟨rfl,rfl⟩
  |walk k1 _=>have:=(h1.uniq hsn rfl k1).1;cases this
 |walk h1 _ ih=>
  intro ws2 rm2 h
  cases h with
  |stop k1=>have:=(h1.uniq hsn rfl k1).1;cases this
  |walk k1 k2=>
   obtain⟨_,e1,e2⟩:=h1.uniq hsn rfl k1;subst e1;subst e2;obtain⟨e3,e4⟩:=ih k2;exact⟨by rw[e3],e4⟩
theorem kh.uniq{N:aU}(hR:N.Right){least:Int}{f f1 f2:LI}{ws1 ws2:List (LN×Int)}(h1:kh N least f ws1 f1)(h2:kh N least f ws2 f2):ws1=ws2/\f1=f2:=by
 have hsr:=hR.src;have hsk:=hR.snk;have hdf:=hR.diff;obtain⟨lv1,a1,a2,a3⟩:=h1;obtain⟨lv2,b1,b2,b3⟩:=h2
 obtain rfl:lv1=lv2:=by
  have hu:=kO a1 b1;have hl:lv1.length=lv2.length:=by rw[a1.len,b1.len]
  apply Id
  intro i;by_cases hi:i<lv1.length
  ·have:=hu i;unfold cM at this;rw[List.getD_eq_getElem?_getD,List.getD_eq_getElem?_getD,List.getElem?_eq_getElem hi,List.getElem?_eq_getElem (by omega)] at this;rw[List.getElem?_eq_getElem hi,List.getElem?_eq_getElem (by omega)]
   simpa using this
  ·rw[G6 (by omega),G6 (by omega)]
 obtain⟨e1,e2⟩:=a3.uniq (by omega) b3;exact⟨e1,uZ a2.len b2.len e2⟩
theorem Dn.uniq{N:aU}(hR:N.Right){least:Int}(hle:1<=least){f f1:LI}{p1 k1:Nat}(h:Dn N least f p1 k1 f1):∀ {f2:LI} {p2 k2:Nat},Dn N least f p2 k2 f2->f1=f2/\p1=p2/\k1=k2:=by
 induction h with
 |stop h1 h2=>
  intro f2 p2 k2 h
  cases h with
  |stop _ _=>exact⟨rfl,rfl,rfl⟩
  |step j1 j2 _ _=>rw[vZ j1 h1] at j2;omega
 |step h1 h2 h3 _ ih=>
  intro f2 p2 k2 h
  cases h with
  |stop j1 j2=>rw[vZ j1 h1] at j2;omega
  |step j1 j2 j3 j4=>
   obtain⟨rfl,rfl⟩:=h3.uniq hR j3;obtain⟨e1,e2,e3⟩:=ih j4;exact⟨e1,by omega,by omega⟩
def cG(nr k:Nat):Int:=if k<nr then 2^(nr-1-k) else 0
theorem lD{nr k:Nat}(h:k<nr):1<=cG nr k:=by
 unfold cG;rw[if_pos h];have:(0:Int)<2^(nr-1-k):=Int.pow_pos (by decide);omega
theorem lA{nr k:Nat}(h:nr<=k):cG nr k=0:=by unfold cG;rw[if_neg (by omega)]
theorem pV{k:Nat}:cG (k+1) k=1:=by unfold cG;rw[if_pos (by omega)];simp
theorem oD{nr k:Nat}(h:k+1<nr):cG nr k=2*cG nr (k+1):=by
 unfold cG;rw[if_pos (by omega),if_pos h,show nr-1-k=(nr-1-(k+1))+1 by omega,Int.pow_succ];omega
theorem wx(nr k:Nat):cG nr (k+1)=cG nr k/2:=by
 by_cases h:k+1<nr
 ·rw[oD h];omega
 ·rw[lA (k:=k+1) (by omega)];by_cases h2:k<nr
  ·obtain rfl:nr=k+1:=by omega
   rw[pV];rfl
  ·rw[lA (by omega)];rfl
theorem Bj{nr k:Nat}(h:nr<=63):cG nr k<=4611686018427387904:=by
 unfold cG;split
 ·have:(2:Nat)^(nr-1-k)≤2^62:=Nat.pow_le_pow_right (by decide) (by omega);have e:((2^(nr-1-k):Nat):Int)=2^(nr-1-k):=by rw[Int.natCast_pow];rfl
  rw[<- e];omega
 ·omega
structure lH where
 least:Int
 p:Nat
 w:Nat
 v:Int
inductive Sc (N:aU) (nr:Nat):Nat->LI->List lH->Prop
 |nil:Sc N nr 0 (List.replicate N.arcs.length 0) []
 |step {k:Nat} {f f':LI} {ts:List lH} {p w:Nat}:Sc N nr k f ts->k<nr->Dn N (cG nr k) f p w f'->Sc N nr (k+1) f' (ts++[⟨cG nr k,p,w,cS (N.arcs.zip f') N.snk⟩])
def tN(ts:List lH)(i:Nat):Int:=if i=0 then 0 else match ts[i-1]? with
 |some t=>t.v
 |none=>0
theorem Dm{N:aU}:cS (N.arcs.zip (List.replicate N.arcs.length 0)) N.snk=0:=oH N.arcs N.snk
def BI(lv:LI)(n:Nat):LI:=((List.range (n+1)).filter λ (v:Nat)=>decide (0<v/\0<=cM lv v)).map λ (v:Nat)=>(v:Int)
theorem kJ{lv:LI}{n:Nat}{x:Int}:x∈BI lv n↔1<=x/\x<=n/\0<=cM lv x.toNat:=by
 unfold BI;simp only[GR,Ia,Hm,G3]
 constructor
 ·rintro⟨v,⟨h1,h2,h3⟩,rfl⟩;exact⟨by omega,by omega,by rwa [GW]⟩
 ·rintro⟨h1,h2,h3⟩;exact⟨x.toNat,⟨by omega,by omega,h3⟩,by omega⟩
theorem DH{N:aU}(hR:N.Right){rm lv:LI}{least:Int}(h:ec N rm least lv)(hs:cM lv N.snk.toNat<0):e8 N (BI lv N.nodes.toNat):=by
 have hnn:=hR.nodes;have h1:=hR.src;refine⟨?_,λ x hx=>?_,kJ.2 ⟨h1.1,by omega,by rw[h.src];exact HK _⟩,λ hx=>?_⟩
 ·unfold BI;rw[List.pairwise_map];exact List.Pairwise.filter _ (List.pairwise_lt_range.imp λ h=>by omega)
 ·have:=kJ.1 hx;exact⟨this.1,by omega⟩
 ·have:=(kJ.1 hx).2.2;omega
theorem pU(b:Int):∀ (l:LI),(∀ x∈l,x<=b)->l.sum<=b*l.length
 |[],_=>by simp
 |x::l,h=>by
  have ih:=pU b l λ y hy=>h y (by simp[hy]);have:=h x (by simp);rw[GT,Gz,IG,Int.mul_add];omega
theorem gap{N:aU}(hR:N.Right){f g lv:LI}{least:Int}(hle:1<=least)(hf:aK N f)(hg:aK N g)(hlv:ec N (aP (N.arcs.zip f)) least lv)(hs:cM lv N.snk.toNat<0):
 cS (N.arcs.zip g) N.snk-cS (N.arcs.zip f) N.snk<=(least-1)*N.arcs.length:=by
 have hc:=DH hR hlv hs;have hnn:=hR.nodes;obtain⟨s,hse⟩:∃ s,s=BI lv N.nodes.toNat:=⟨_,rfl⟩;rw[<- hse] at hc;have h1:=uM hR hg hc;have h2:=lE hR hf hc;have h3:=lf s (N.arcs.zip f);rw[show (N.arcs.zip f).map (·.1)=N.arcs from List.map_fst_zip (by have:=hf.len;omega)] at h3;have h4:=pU (least-1) (kK s (N.arcs.zip f)) λ x hx=>?_
 ·rw[show (kK s (N.arcs.zip f)).length=N.arcs.length by unfold kK;rw[GA,HS,hf.len,Ib]] at h4;omega
 ·obtain⟨p,hp,rfl⟩:=List.mem_map.1 hx;obtain⟨i,hi,hip⟩:=List.mem_iff_getElem.1 hp;have hz:(N.arcs.zip f)[i]?=some p:=by rw[List.getElem?_eq_getElem hi,hip]
  have ha:=(G7.1 hz).1;have hil:=(Gv.1 ha).1;have har:=hR.arc p.1 (Gu ha);obtain⟨g1,g2⟩:=dA hz;have hr:=hf.all p hp
  have e1:b8 N (2*i)=(p.1.fr,p.1.to):=by
   unfold b8;rw[show 2*i/2=i by omega,ha];show cV p.1 (2*i)=_;unfold cV;rw[if_neg (by omega)]
  have e2:b8 N (2*i+1)=(p.1.to,p.1.fr):=by
   unfold b8;rw[show (2*i+1)/2=i by omega,ha];show cV p.1 (2*i+1)=_;unfold cV;rw[if_pos (by omega)]
  have k1:=hlv.step (2*i) (by omega);have k2:=hlv.step (2*i+1) (by omega);unfold dC eV at k1 k2;rw[e1,Gw,g1,G1] at k1;rw[e2,Gw,g2,G1] at k2;simp only at k1 k2;have m1:p.1.fr∈s↔0<=cM lv p.1.fr.toNat:=by rw[hse,kJ];exact⟨λ h=>h.2.2,λ h=>⟨har.1.1,by omega,h⟩⟩
  have m2:p.1.to∈s↔0<=cM lv p.1.to.toNat:=by rw[hse,kJ];exact⟨λ h=>h.2.2,λ h=>⟨har.2.1.1,by omega,h⟩⟩
  by_cases c1:p.1.fr∈s<;>by_cases c2:p.1.to∈s
  ·rw[if_neg (λ h=>h.2 c2),if_neg (λ h=>h.1 c1)];omega
  ·rw[if_pos ⟨c1,c2⟩,if_neg (λ h=>h.1 c1)];have:¬ least<=p.1.cap-p.2:=λ h=>c2 (m2.2 (k1 h (m1.1 c1)).1);omega
  ·rw[if_neg (λ h=>c1 h.1),if_pos ⟨c1,c2⟩];have:¬ least<=p.2:=λ h=>c1 (m1.2 (k2 h (m2.1 c2)).1);omega
  ·rw[if_neg (λ h=>c1 h.1),if_neg (λ h=>c2 h.2)];omega
structure Et (N:aU) (nr i:Nat) (was:Int) (t:lH):Prop where
 least:t.least=cG nr i
 pos:1<=t.least
 rise:t.least*t.w<=t.v-was
 same:t.w=0↔t.v=was
 walks:t.p<=t.w
 few:(t.p:Int)+1<=N.nodes
 gap:∀ g,aK N g->cS (N.arcs.zip g) N.snk-t.v<=(t.least-1)*N.arcs.length
 up:0<i->t.v-was<=(2*t.least-1)*N.arcs.length
 bound:0<=t.v/\t.v<=4611686018427387903
theorem Dn.zero{N:aU}{least:Int}{f f':LI}{p k:Nat}(h:Dn N least f p k f')(hR:N.Right)(hle:1<=least)(hf:aK N f):k=0->f'=f:=by
 cases h with
 |stop _ _=>exact λ _=>rfl
 |@step _ f1 _ lv ws p k h1 h2 h3 h4=>
  intro h0;have:=(h3.keeps hR hle hf h1).2.2 h2;have:=Hc.2 this;omega
theorem Sc.all{N:aU}(hR:N.Right){nr k:Nat}{f:LI}{ts:List lH}(h:Sc N nr k f ts):k<=nr/\aK N f/\ts.length=k/\cS (N.arcs.zip f) N.snk=tN ts k/\0<=tN ts k/\(∀ i t,ts[i]?=some t->Et N nr i (tN ts i) t)/\
 (0<k->∃ lv,ec N (aP (N.arcs.zip f)) (cG nr (k-1)) lv/\cM lv N.snk.toNat<0):=by
 induction h with
 |nil=>
  refine⟨GB _,km N hR,rfl,?_,?_,λ i t h=>(by simp at h),λ h=>absurd h (by omega)⟩
  ·rw[Dm];rfl
  ·exact HK _
 |@step k f f' ts p w h1 h2 h3 ih=>
  obtain⟨_,hf,hl,hv,hv0,hall,hlast⟩:=ih;have hle:=lD h2;obtain⟨k1,k2,k3,lv',k4,k5⟩:=h3.keeps hR hle hf
  have hw:tN (ts++[⟨cG nr k,p,w,cS (N.arcs.zip f') N.snk⟩]) (k+1)=cS (N.arcs.zip f') N.snk:=by
   unfold tN;rw[if_neg (by omega),show k+1-1=ts.length by omega,List.getElem?_concat_length]
  have hwk:∀ i,i<=k->tN (ts++[⟨cG nr k,p,w,cS (N.arcs.zip f') N.snk⟩]) i=tN ts i:=by
   intro i hi;unfold tN;by_cases h0:i=0
   ·rw[if_pos h0,if_pos h0]
   ·rw[if_neg h0,if_neg h0,Hi (by omega)]
  have hm0:0<=cG nr k*(w:Int):=Int.mul_nonneg (by omega) (by omega);refine⟨h2,k1,by rw[Gx,hl];rfl,hw.symm,by rw[hw];omega,λ i t ht=>?_,λ _=>⟨lv',k4,k5⟩⟩;by_cases hi:i<k
  ·rw[Hi (by omega)] at ht;rw[hwk i (by omega)];exact hall i t ht
  ·obtain rfl:i=k:=by
    have:=(Gv.1 ht).1;rw[Gx,hl] at this;simp at this;omega
   have hcl:∀ X:lH,(ts++[X])[i]?=some X:=λ X=>by have:=List.getElem?_concat_length (l:=ts) (a:=X);rwa [hl] at this
   rw[hcl] at ht;obtain rfl:=G0 ht;rw[hwk i (GF _),<- hv];have hb:=dX hR k1.toRanged N.snk;refine⟨rfl,hle,by show cG nr i*(w:Int)<=cS (N.arcs.zip f') N.snk-cS (N.arcs.zip f) N.snk;omega,⟨λ h0=>?_,λ h0=>?_⟩,k3,h3.few hR hle hf,λ g hg=>?_,λ hi0=>?_,by show 0<=cS (N.arcs.zip f') N.snk;omega,hb.2⟩
   ·have h0:w=0:=h0;show cS (N.arcs.zip f') N.snk=cS (N.arcs.zip f) N.snk;rw[h3.zero hR hle hf h0]
   ·have h0:cS (N.arcs.zip f') N.snk=cS (N.arcs.zip f) N.snk:=h0;show w=0
    rcases IF w with h|h
    ·exact h
    ·have:1*1<=cG nr i*(w:Int):=Int.mul_le_mul hle (by omega) (by omega) (by omega);omega
   ·exact gap hR hle k1 hg k4 k5
   ·obtain⟨lv0,g1,g2⟩:=hlast hi0;have e:=oD (nr:=nr) (k:=i-1) (by omega);rw[show i-1+1=i by omega] at e;have:=gap hR (lD (show i-1<nr by omega)) hf k1 g1 g2;rw[e] at this;exact this
def jC(l:List dI):Int:=l.foldl (λ m a=>if a.cap>m then a.cap else m) 0
theorem qz(l:List dI):∀ (x:Int),(∀ a∈l,0<=a.cap)->x<=l.foldl (λ m a=>if a.cap>m then a.cap else m) x/\(∀ a∈l,a.cap<=l.foldl (λ m a=>if a.cap>m then a.cap else m) x)/\(l.foldl (λ m a=>if a.cap>m then a.cap else m) x=x\/∃ a∈l,l.foldl (λ m a=>if a.cap>m then a.cap else m) x=a.cap):=by
 induction l with
 |nil=>exact λ x _=>⟨HK _,λ a h=>(by simp at h),.inl rfl⟩
 |cons b l ih=>
  intro x h;simp only[IE];obtain⟨i1,i2,i3⟩:=ih (if b.cap>x then b.cap else x) λ a ha=>h a (by simp[ha]);refine⟨?_,λ a ha=>?_,?_⟩
  ·split at i1<;>rename_i hc<;>simp only[hc,Ij,IQ]<;>omega
  ·rcases GD.1 ha with rfl|ha
   ·split at i1<;>rename_i hc<;>simp only[hc,Ij,IQ]<;>omega
   ·exact i2 a ha
  ·rcases i3 with h1|⟨a,ha,h1⟩
   ·by_cases hc:b.cap>x
    ·right;rw[if_pos hc] at h1 ⊢;exact⟨b,by simp,h1⟩
    ·left;rw[if_neg hc] at h1 ⊢;exact h1
   ·exact .inr ⟨a,by simp[ha],h1⟩
end Go.Proofs.YtmcnpaelaieniaaGreatDoor
