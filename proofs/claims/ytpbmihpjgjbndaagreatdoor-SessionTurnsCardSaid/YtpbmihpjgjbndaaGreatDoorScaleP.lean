/- The greatest value by halves, in plain terms. -/
import Derived.Test.YtpbmihpjgjbndaaGreatDoorQX18
import Derived.Test.YtpbmihpjgjbndaaGreatDoorQX30
set_option linter.unusedVariables false
set_option linter.unusedSimpArgs false
namespace Go.Proofs.YtpbmihpjgjbndaaGreatDoor
open Go.RowKit
def bW (nr k:Nat):Int:=if k<nr then 2^(nr-1-k) else 0
theorem jl {nr k:Nat} (h:k<nr):1≤bW nr k:=by
 unfold bW
 rw[if_pos h]
 have:(0:Int)<2^(nr-1-k):=Int.pow_pos (by decide)
 omega
theorem jt {nr k:Nat} (h:nr≤k):bW nr k=0:=by unfold bW;rw[if_neg (by omega)]
theorem mq {k:Nat}:bW (k+1) k=1:=by unfold bW;rw[if_pos (by omega)];simp
theorem lO {nr k:Nat} (h:k+1<nr):bW nr k=2*bW nr (k+1):=by
 unfold bW
 rw[if_pos (by omega),if_pos h,show nr-1-k=(nr-1-(k+1))+1 by omega,Int.pow_succ]
 omega
theorem rZ (nr k:Nat):bW nr (k+1)=bW nr k/2:=by
 by_cases h:k+1<nr
 ·rw[lO h];omega
 ·rw[jt (k:=k+1) (by omega)]
  by_cases h2:k<nr
  ·obtain rfl:nr=k+1:=by omega
   rw[mq];rfl
  ·rw[jt (by omega)];rfl
theorem wd {nr k:Nat} (h:nr≤63):bW nr k≤4611686018427387904:=by
 unfold bW
 split
 ·have:(2:Nat)^(nr-1-k)≤2^62:=Nat.pow_le_pow_right (by decide) (by omega)
  have e:((2^(nr-1-k):Nat):Int)=2^(nr-1-k):=by rw[Int.natCast_pow];rfl
  rw[← e]
  omega
 ·omega
structure jD where
 least:Int
 p:Nat
 w:Nat
 v:Int
inductive Sc (N:bc) (nr:Nat):Nat→List Int→List jD→Prop
 |nil:Sc N nr 0 (List.replicate N.arcs.length 0) []
 |step {k:Nat} {f f':List Int} {ts:List jD} {p w:Nat}:Sc N nr k f ts→k<nr→Dn N (bW nr k) f p w f'→Sc N nr (k+1) f' (ts++[⟨bW nr k,p,w,dg (N.arcs.zip f') N.snk⟩])
def qM (ts:List jD) (i:Nat):Int:=if i=0 then 0 else match ts[i-1]? with
 |some t=>t.v
 |none=>0
theorem sJ {N:bc}:dg (N.arcs.zip (List.replicate N.arcs.length 0)) N.snk=0:=lT N.arcs N.snk
def u3 (lv:List Int) (n:Nat):List Int:=((List.range (n+1)).filter fun (v:Nat)=>decide (0<v∧0≤b8 lv v)).map fun (v:Nat)=>(v:Int)
theorem i5 {lv:List Int} {n:Nat} {x:Int}:x∈u3 lv n↔1≤x∧x≤n∧0≤b8 lv x.toNat:=by
 unfold u3
 simp only[List.mem_map,List.mem_filter,List.mem_range,decide_eq_true_eq]
 constructor
 ·rintro⟨v,⟨h1,h2,h3⟩,rfl⟩
  exact⟨by omega,by omega,by rwa [Int.toNat_natCast]⟩
 ·rintro⟨h1,h2,h3⟩
  exact⟨x.toNat,⟨by omega,by omega,h3⟩,by omega⟩
theorem w7 {N:bc} (hR:N.Right) {rm lv:List Int} {least:Int} (h:dw N rm least lv) (hs:b8 lv N.snk.toNat<0):eP N (u3 lv N.nodes.toNat):=by
 have hnn:=hR.nodes
 have h1:=hR.src
 refine⟨?_,fun x hx=>?_,i5.2 ⟨h1.1,by omega,by rw[h.src];exact Int.le_refl _⟩,fun hx=>?_⟩
 ·unfold u3
  rw[List.pairwise_map]
  exact List.Pairwise.filter _ (List.pairwise_lt_range.imp fun h=>by omega)
 ·have:=i5.1 hx
  exact⟨this.1,by omega⟩
 ·have:=(i5.1 hx).2.2
  omega
theorem mN (b:Int):∀ (l:List Int),(∀ x∈l,x≤b)→l.sum≤b*l.length
 |[],_=>by simp
 |x::l,h=>by
  have ih:=mN b l fun y hy=>h y (by simp[hy])
  have:=h x (by simp)
  rw[List.sum_cons,List.length_cons,Int.natCast_add,Int.mul_add]
  omega
theorem gap {N:bc} (hR:N.Right) {f g lv:List Int} {least:Int} (hle:1≤least) (hf:aN N f) (hg:aN N g) (hlv:dw N (aP (N.arcs.zip f)) least lv) (hs:b8 lv N.snk.toNat<0):
 dg (N.arcs.zip g) N.snk-dg (N.arcs.zip f) N.snk≤(least-1)*N.arcs.length:=by
 have hc:=w7 hR hlv hs
 have hnn:=hR.nodes
 obtain⟨s,hse⟩:∃ s,s=u3 lv N.nodes.toNat:=⟨_,rfl⟩
 rw[← hse] at hc
 have h1:=qU hR hg hc
 have h2:=lG hR hf hc
 have h3:=jp s (N.arcs.zip f)
 rw[show (N.arcs.zip f).map (·.1)=N.arcs from List.map_fst_zip (by have:=hf.len;omega)] at h3
 have h4:=mN (least-1) (iY s (N.arcs.zip f)) fun x hx=>?_
 ·rw[show (iY s (N.arcs.zip f)).length=N.arcs.length by unfold iY;rw[List.length_map,List.length_zip,hf.len,Nat.min_self]] at h4
  omega
 ·obtain⟨p,hp,rfl⟩:=List.mem_map.1 hx
  obtain⟨i,hi,hip⟩:=List.mem_iff_getElem.1 hp
  have hz:(N.arcs.zip f)[i]?=some p:=by rw[List.getElem?_eq_getElem hi,hip]
  have ha:=(List.getElem?_zip_eq_some.1 hz).1
  have hil:=(List.getElem?_eq_some_iff.1 ha).1
  have har:=hR.arc p.1 (List.mem_of_getElem? ha)
  obtain⟨g1,g2⟩:=cQ hz
  have hr:=hf.all p hp
  have e1:bT N (2*i)=(p.1.fr,p.1.to):=by
   unfold bT;rw[show 2*i/2=i by omega,ha];show cJ p.1 (2*i)=_;unfold cJ;rw[if_neg (by omega)]
  have e2:bT N (2*i+1)=(p.1.to,p.1.fr):=by
   unfold bT;rw[show (2*i+1)/2=i by omega,ha];show cJ p.1 (2*i+1)=_;unfold cJ;rw[if_pos (by omega)]
  have k1:=hlv.step (2*i) (by omega)
  have k2:=hlv.step (2*i+1) (by omega)
  unfold cV d7 at k1 k2
  rw[e1,List.getD_eq_getElem?_getD,g1,Option.getD_some] at k1
  rw[e2,List.getD_eq_getElem?_getD,g2,Option.getD_some] at k2
  simp only at k1 k2
  have m1:p.1.fr∈s↔0≤b8 lv p.1.fr.toNat:=by rw[hse,i5];exact⟨fun h=>h.2.2,fun h=>⟨har.1.1,by omega,h⟩⟩
  have m2:p.1.to∈s↔0≤b8 lv p.1.to.toNat:=by rw[hse,i5];exact⟨fun h=>h.2.2,fun h=>⟨har.2.1.1,by omega,h⟩⟩
  by_cases c1:p.1.fr∈s<;>by_cases c2:p.1.to∈s
  ·rw[if_neg (fun h=>h.2 c2),if_neg (fun h=>h.1 c1)];omega
  ·rw[if_pos ⟨c1,c2⟩,if_neg (fun h=>h.1 c1)]
   have:¬ least≤p.1.cap-p.2:=fun h=>c2 (m2.2 (k1 h (m1.1 c1)).1)
   omega
  ·rw[if_neg (fun h=>c1 h.1),if_pos ⟨c1,c2⟩]
   have:¬ least≤p.2:=fun h=>c1 (m1.2 (k2 h (m2.1 c2)).1)
   omega
  ·rw[if_neg (fun h=>c1 h.1),if_neg (fun h=>c2 h.2)];omega
structure yy (N:bc) (nr i:Nat) (was:Int) (t:jD):Prop where
 least:t.least=bW nr i
 pos:1≤t.least
 rise:t.least*t.w≤t.v-was
 same:t.w=0↔t.v=was
 walks:t.p≤t.w
 few:(t.p:Int)+1≤N.nodes
 gap:∀ g,aN N g→dg (N.arcs.zip g) N.snk-t.v≤(t.least-1)*N.arcs.length
 up:0<i→t.v-was≤(2*t.least-1)*N.arcs.length
 bound:0≤t.v∧t.v≤4611686018427387903
theorem Dn.zero {N:bc} {least:Int} {f f':List Int} {p k:Nat} (h:Dn N least f p k f') (hR:N.Right) (hle:1≤least) (hf:aN N f):k=0→f'=f:=by
 cases h with
 |stop _ _=>exact fun _=>rfl
 |@step _ f1 _ lv ws p k h1 h2 h3 h4=>
  intro h0
  have:=(h3.keeps hR hle hf h1).2.2 h2
  have:=List.length_pos_iff.2 this
  omega
theorem Sc.all {N:bc} (hR:N.Right) {nr k:Nat} {f:List Int} {ts:List jD} (h:Sc N nr k f ts):k≤nr∧aN N f∧ts.length=k∧dg (N.arcs.zip f) N.snk=qM ts k∧0≤qM ts k∧(∀ i t,ts[i]?=some t→yy N nr i (qM ts i) t)∧
 (0<k→∃ lv,dw N (aP (N.arcs.zip f)) (bW nr (k-1)) lv∧b8 lv N.snk.toNat<0):=by
 induction h with
 |nil=>
  refine⟨Nat.zero_le _,gR N hR,rfl,?_,?_,fun i t h=>(by simp at h),fun h=>absurd h (by omega)⟩
  ·rw[sJ];rfl
  ·exact Int.le_refl _
 |@step k f f' ts p w h1 h2 h3 ih=>
  obtain⟨_,hf,hl,hv,hv0,hall,hlast⟩:=ih
  have hle:=jl h2
  obtain⟨k1,k2,k3,lv',k4,k5⟩:=h3.keeps hR hle hf
  have hw:qM (ts++[⟨bW nr k,p,w,dg (N.arcs.zip f') N.snk⟩]) (k+1)=dg (N.arcs.zip f') N.snk:=by
   unfold qM
   rw[if_neg (by omega),show k+1-1=ts.length by omega,List.getElem?_concat_length]
  have hwk:∀ i,i≤k→qM (ts++[⟨bW nr k,p,w,dg (N.arcs.zip f') N.snk⟩]) i=qM ts i:=by
   intro i hi
   unfold qM
   by_cases h0:i=0
   ·rw[if_pos h0,if_pos h0]
   ·rw[if_neg h0,if_neg h0,List.getElem?_append_left (by omega)]
  have hm0:0≤bW nr k*(w:Int):=Int.mul_nonneg (by omega) (by omega)
  refine⟨h2,k1,by rw[List.length_append,hl];rfl,hw.symm,by rw[hw];omega,fun i t ht=>?_,fun _=>⟨lv',k4,k5⟩⟩
  by_cases hi:i<k
  ·rw[List.getElem?_append_left (by omega)] at ht
   rw[hwk i (by omega)]
   exact hall i t ht
  ·obtain rfl:i=k:=by
    have:=(List.getElem?_eq_some_iff.1 ht).1
    rw[List.length_append,hl] at this
    simp at this
    omega
   have hcl:∀ X:jD,(ts++[X])[i]?=some X:=fun X=>by have:=List.getElem?_concat_length (l:=ts) (a:=X);rwa [hl] at this
   rw[hcl] at ht
   obtain rfl:=Option.some.inj ht
   rw[hwk i (Nat.le_refl _),← hv]
   have hb:=dF hR k1.toRanged N.snk
   refine⟨rfl,hle,by show bW nr i*(w:Int)≤dg (N.arcs.zip f') N.snk-dg (N.arcs.zip f) N.snk;omega,⟨fun h0=>?_,fun h0=>?_⟩,k3,h3.few hR hle hf,fun g hg=>?_,fun hi0=>?_,by show 0≤dg (N.arcs.zip f') N.snk;omega,hb.2⟩
   ·have h0:w=0:=h0
    show dg (N.arcs.zip f') N.snk=dg (N.arcs.zip f) N.snk
    rw[h3.zero hR hle hf h0]
   ·have h0:dg (N.arcs.zip f') N.snk=dg (N.arcs.zip f) N.snk:=h0
    show w=0
    rcases Nat.eq_zero_or_pos w with h|h
    ·exact h
    ·have:1*1≤bW nr i*(w:Int):=Int.mul_le_mul hle (by omega) (by omega) (by omega)
     omega
   ·exact gap hR hle k1 hg k4 k5
   ·obtain⟨lv0,g1,g2⟩:=hlast hi0
    have e:=lO (nr:=nr) (k:=i-1) (by omega)
    rw[show i-1+1=i by omega] at e
    have:=gap hR (jl (show i-1<nr by omega)) hf k1 g1 g2
    rw[e] at this
    exact this
def gS (l:List dG):Int:=l.foldl (fun m a=>if a.cap>m then a.cap else m) 0
theorem mZ (l:List dG):∀ (x:Int),(∀ a∈l,0≤a.cap)→x≤l.foldl (fun m a=>if a.cap>m then a.cap else m) x∧(∀ a∈l,a.cap≤l.foldl (fun m a=>if a.cap>m then a.cap else m) x)∧(l.foldl (fun m a=>if a.cap>m then a.cap else m) x=x∨∃ a∈l,l.foldl (fun m a=>if a.cap>m then a.cap else m) x=a.cap):=by
 induction l with
 |nil=>exact fun x _=>⟨Int.le_refl _,fun a h=>(by simp at h),.inl rfl⟩
 |cons b l ih=>
  intro x h
  simp only[List.foldl_cons]
  obtain⟨i1,i2,i3⟩:=ih (if b.cap>x then b.cap else x) fun a ha=>h a (by simp[ha])
  refine⟨?_,fun a ha=>?_,?_⟩
  ·split at i1<;>rename_i hc<;>simp only[hc,if_true,if_false]<;>omega
  ·rcases List.mem_cons.1 ha with rfl|ha
   ·split at i1<;>rename_i hc<;>simp only[hc,if_true,if_false]<;>omega
   ·exact i2 a ha
  ·rcases i3 with h1|⟨a,ha,h1⟩
   ·by_cases hc:b.cap>x
    ·right;rw[if_pos hc] at h1 ⊢;exact⟨b,by simp,h1⟩
    ·left;rw[if_neg hc] at h1 ⊢;exact h1
   ·exact .inr ⟨a,by simp[ha],h1⟩
end Go.Proofs.YtpbmihpjgjbndaaGreatDoor
