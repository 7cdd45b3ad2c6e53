/- The engine and the words that all chapters share: several texts in one. -/
import Derived.Test.YtpbmihpjgjbndaaGreatDoorQX17
import Derived.Test.YtpbmihpjgjbndaaGreatDoorQX28
import Derived.Test.YtpbmihpjgjbndaaGreatDoorEngS
import Derived.Test.YtpbmihpjgjbndaaGreatDoorQA
import Derived.Test.YtpbmihpjgjbndaaGreatDoorQB
/- The greatest value by halves, in plain terms. -/
set_option linter.unusedVariables false
set_option linter.unusedSimpArgs false
namespace Go.Proofs.YtpbmihpjgjbndaaGreatDoor
open Go.RowKit
def eg (nr k:Nat):Int:=if k<nr then 2^(nr-1-k) else 0
theorem ou {nr k:Nat} (h:k<nr):1≤eg nr k:=by
 unfold eg
 rw[if_pos h]
 have:(0:Int)<2^(nr-1-k):=Int.pow_pos (by decide)
 omega
theorem ur {nr k:Nat} (h:nr≤k):eg nr k=0:=by unfold eg;rw[if_neg (by omega)]
theorem rq {k:Nat}:eg (k+1) k=1:=by unfold eg;rw[if_pos (by omega)];simp
theorem qG {nr k:Nat} (h:k+1<nr):eg nr k=2*eg nr (k+1):=by
 unfold eg
 rw[if_pos (by omega),if_pos h,show nr-1-k=(nr-1-(k+1))+1 by omega,Int.pow_succ]
 omega
structure nA where
 least:Int
 p:Nat
 w:Nat
 v:Int
inductive Sc (N:a8) (nr:Nat):Nat→List Int→List nA→Prop
 |nil:Sc N nr 0 (List.replicate N.arcs.length 0) []
 |step {k:Nat} {f f':List Int} {ts:List nA} {p w:Nat}:Sc N nr k f ts→k<nr→Dn N (eg nr k) f p w f'→Sc N nr (k+1) f' (ts++[⟨eg nr k,p,w,cY (N.arcs.zip f') N.snk⟩])
def qn (ts:List nA) (i:Nat):Int:=if i=0 then 0 else match ts[i-1]? with
 |some t=>t.v
 |none=>0
theorem xA {N:a8}:cY (N.arcs.zip (List.replicate N.arcs.length 0)) N.snk=0:=lS N.arcs N.snk
def vd (lv:List Int) (n:Nat):List Int:=((List.range (n+1)).filter fun (v:Nat)=>decide (0<v∧0≤bZ lv v)).map fun (v:Nat)=>(v:Int)
theorem iL {lv:List Int} {n:Nat} {x:Int}:x∈vd lv n↔1≤x∧x≤n∧0≤bZ lv x.toNat:=by
 unfold vd
 simp only[List.mem_map,List.mem_filter,List.mem_range,decide_eq_true_eq]
 constructor
 ·rintro⟨v,⟨h1,h2,h3⟩,rfl⟩
  exact⟨by omega,by omega,by rwa [Int.toNat_natCast]⟩
 ·rintro⟨h1,h2,h3⟩
  exact⟨x.toNat,⟨by omega,by omega,h3⟩,by omega⟩
theorem xQ {N:a8} (hR:N.Right) {rm lv:List Int} {least:Int} (h:dr N rm least lv) (hs:bZ lv N.snk.toNat<0):eq N (vd lv N.nodes.toNat):=by
 have hnn:=hR.nodes
 have h1:=hR.src
 refine⟨?_,fun x hx=>?_,iL.2 ⟨h1.1,by omega,by rw[h.src];exact Int.le_refl _⟩,fun hx=>?_⟩
 ·unfold vd
  rw[List.pairwise_map]
  exact List.Pairwise.filter _ (List.pairwise_lt_range.imp fun h=>by omega)
 ·have:=iL.1 hx
  exact⟨this.1,by omega⟩
 ·have:=(iL.1 hx).2.2
  omega
theorem mY (b:Int):∀ (l:List Int),(∀ x∈l,x≤b)→l.sum≤b*l.length
 |[],_=>by simp
 |x::l,h=>by
  have ih:=mY b l fun y hy=>h y (by simp[hy])
  have:=h x (by simp)
  rw[List.sum_cons,List.length_cons,Int.natCast_add,Int.mul_add]
  omega
theorem gap {N:a8} (hR:N.Right) {f g lv:List Int} {least:Int} (hle:1≤least) (hf:aH N f) (hg:aH N g) (hlv:dr N (aM (N.arcs.zip f)) least lv) (hs:bZ lv N.snk.toNat<0):
 cY (N.arcs.zip g) N.snk-cY (N.arcs.zip f) N.snk≤(least-1)*N.arcs.length:=by
 have hc:=xQ hR hlv hs
 have hnn:=hR.nodes
 obtain⟨s,hse⟩:∃ s,s=vd lv N.nodes.toNat:=⟨_,rfl⟩
 rw[← hse] at hc
 have h1:=wa hR hg hc
 have h2:=lj hR hf hc
 have h3:=jj s (N.arcs.zip f)
 rw[show (N.arcs.zip f).map (·.1)=N.arcs from List.map_fst_zip (by have:=hf.len;omega)] at h3
 have h4:=mY (least-1) (jb s (N.arcs.zip f)) fun x hx=>?_
 ·rw[show (jb s (N.arcs.zip f)).length=N.arcs.length by unfold jb;rw[List.length_map,List.length_zip,hf.len,Nat.min_self]] at h4
  omega
 ·obtain⟨p,hp,rfl⟩:=List.mem_map.1 hx
  obtain⟨i,hi,hip⟩:=List.mem_iff_getElem.1 hp
  have hz:(N.arcs.zip f)[i]?=some p:=by rw[List.getElem?_eq_getElem hi,hip]
  have ha:=(List.getElem?_zip_eq_some.1 hz).1
  have hil:=(List.getElem?_eq_some_iff.1 ha).1
  have har:=hR.arc p.1 (List.mem_of_getElem? ha)
  obtain⟨g1,g2⟩:=cT hz
  have hr:=hf.all p hp
  have e1:bP N (2*i)=(p.1.fr,p.1.to):=by
   unfold bP;rw[show 2*i/2=i by omega,ha];show cL p.1 (2*i)=_;unfold cL;rw[if_neg (by omega)]
  have e2:bP N (2*i+1)=(p.1.to,p.1.fr):=by
   unfold bP;rw[show (2*i+1)/2=i by omega,ha];show cL p.1 (2*i+1)=_;unfold cL;rw[if_pos (by omega)]
  have k1:=hlv.step (2*i) (by omega)
  have k2:=hlv.step (2*i+1) (by omega)
  unfold cU d9 at k1 k2
  rw[e1,List.getD_eq_getElem?_getD,g1,Option.getD_some] at k1
  rw[e2,List.getD_eq_getElem?_getD,g2,Option.getD_some] at k2
  simp only at k1 k2
  have m1:p.1.fr∈s↔0≤bZ lv p.1.fr.toNat:=by rw[hse,iL];exact⟨fun h=>h.2.2,fun h=>⟨har.1.1,by omega,h⟩⟩
  have m2:p.1.to∈s↔0≤bZ lv p.1.to.toNat:=by rw[hse,iL];exact⟨fun h=>h.2.2,fun h=>⟨har.2.1.1,by omega,h⟩⟩
  by_cases c1:p.1.fr∈s<;>by_cases c2:p.1.to∈s
  ·rw[if_neg (fun h=>h.2 c2),if_neg (fun h=>h.1 c1)];omega
  ·rw[if_pos ⟨c1,c2⟩,if_neg (fun h=>h.1 c1)]
   have:¬ least≤p.1.cap-p.2:=fun h=>c2 (m2.2 (k1 h (m1.1 c1)).1)
   omega
  ·rw[if_neg (fun h=>c1 h.1),if_pos ⟨c1,c2⟩]
   have:¬ least≤p.2:=fun h=>c1 (m1.2 (k2 h (m2.1 c2)).1)
   omega
  ·rw[if_neg (fun h=>c1 h.1),if_neg (fun h=>c2 h.2)];omega
structure yA (N:a8) (nr i:Nat) (was:Int) (t:nA):Prop where
 least:t.least=eg nr i
 pos:1≤t.least
 rise:t.least*t.w≤t.v-was
 same:t.w=0↔t.v=was
 walks:t.p≤t.w
 few:(t.p:Int)+1≤N.nodes
 gap:∀ g,aH N g→cY (N.arcs.zip g) N.snk-t.v≤(t.least-1)*N.arcs.length
 up:0<i→t.v-was≤(2*t.least-1)*N.arcs.length
 bound:0≤t.v∧t.v≤4611686018427387903
theorem Dn.zero {N:a8} {least:Int} {f f':List Int} {p k:Nat} (h:Dn N least f p k f') (hR:N.Right) (hle:1≤least) (hf:aH N f):k=0→f'=f:=by
 cases h with
 |stop _ _=>exact fun _=>rfl
 |@step _ f1 _ lv ws p k h1 h2 h3 h4=>
  intro h0
  have:=(h3.keeps hR hle hf h1).2.2 h2
  have:=List.length_pos_iff.2 this
  omega
theorem Sc.all {N:a8} (hR:N.Right) {nr k:Nat} {f:List Int} {ts:List nA} (h:Sc N nr k f ts):k≤nr∧aH N f∧ts.length=k∧cY (N.arcs.zip f) N.snk=qn ts k∧0≤qn ts k∧(∀ i t,ts[i]?=some t→yA N nr i (qn ts i) t)∧
 (0<k→∃ lv,dr N (aM (N.arcs.zip f)) (eg nr (k-1)) lv∧bZ lv N.snk.toNat<0):=by
 induction h with
 |nil=>
  refine⟨Nat.zero_le _,g9 N hR,rfl,?_,?_,fun i t h=>(by simp at h),fun h=>absurd h (by omega)⟩
  ·rw[xA];rfl
  ·exact Int.le_refl _
 |@step k f f' ts p w h1 h2 h3 ih=>
  obtain⟨_,hf,hl,hv,hv0,hall,hlast⟩:=ih
  have hle:=ou h2
  obtain⟨k1,k2,k3,lv',k4,k5⟩:=h3.keeps hR hle hf
  have hw:qn (ts++[⟨eg nr k,p,w,cY (N.arcs.zip f') N.snk⟩]) (k+1)=cY (N.arcs.zip f') N.snk:=by
   unfold qn
   rw[if_neg (by omega),show k+1-1=ts.length by omega,List.getElem?_concat_length]
  have hwk:∀ i,i≤k→qn (ts++[⟨eg nr k,p,w,cY (N.arcs.zip f') N.snk⟩]) i=qn ts i:=by
   intro i hi
   unfold qn
   by_cases h0:i=0
   ·rw[if_pos h0,if_pos h0]
   ·rw[if_neg h0,if_neg h0,List.getElem?_append_left (by omega)]
  have hm0:0≤eg nr k*(w:Int):=Int.mul_nonneg (by omega) (by omega)
  refine⟨h2,k1,by rw[List.length_append,hl];rfl,hw.symm,by rw[hw];omega,fun i t ht=>?_,fun _=>⟨lv',k4,k5⟩⟩
  by_cases hi:i<k
  ·rw[List.getElem?_append_left (by omega)] at ht
   rw[hwk i (by omega)]
   exact hall i t ht
  ·obtain rfl:i=k:=by
    have:=(List.getElem?_eq_some_iff.1 ht).1
    rw[List.length_append,hl] at this
    simp at this
    omega
   have hcl:∀ X:nA,(ts++[X])[i]?=some X:=fun X=>by have:=List.getElem?_concat_length (l:=ts) (a:=X);rwa [hl] at this
   rw[hcl] at ht
   obtain rfl:=Option.some.inj ht
   rw[hwk i (Nat.le_refl _),← hv]
   have hb:=dm hR k1.toRanged N.snk
   refine⟨rfl,hle,by show eg nr i*(w:Int)≤cY (N.arcs.zip f') N.snk-cY (N.arcs.zip f) N.snk;omega,⟨fun h0=>?_,fun h0=>?_⟩,k3,h3.few hR hle hf,fun g hg=>?_,fun hi0=>?_,by show 0≤cY (N.arcs.zip f') N.snk;omega,hb.2⟩
   ·have h0:w=0:=h0
    show cY (N.arcs.zip f') N.snk=cY (N.arcs.zip f) N.snk
    rw[h3.zero hR hle hf h0]
   ·have h0:cY (N.arcs.zip f') N.snk=cY (N.arcs.zip f) N.snk:=h0
    show w=0
    rcases Nat.eq_zero_or_pos w with h|h
    ·exact h
    ·have:1*1≤eg nr i*(w:Int):=Int.mul_le_mul hle (by omega) (by omega) (by omega)
     omega
   ·exact gap hR hle k1 hg k4 k5
   ·obtain⟨lv0,g1,g2⟩:=hlast hi0
    have e:=qG (nr:=nr) (k:=i-1) (by omega)
    rw[show i-1+1=i by omega] at e
    have:=gap hR (ou (show i-1<nr by omega)) hf k1 g1 g2
    rw[e] at this
    exact this
def mQ (l:List dK):Int:=l.foldl (fun m a=>if a.cap>m then a.cap else m) 0
theorem mp (l:List dK):∀ (x:Int),(∀ a∈l,0≤a.cap)→x≤l.foldl (fun m a=>if a.cap>m then a.cap else m) x∧(∀ a∈l,a.cap≤l.foldl (fun m a=>if a.cap>m then a.cap else m) x)∧(l.foldl (fun m a=>if a.cap>m then a.cap else m) x=x∨∃ a∈l,l.foldl (fun m a=>if a.cap>m then a.cap else m) x=a.cap):=by
 induction l with
 |nil=>exact fun x _=>⟨Int.le_refl _,fun a h=>(by simp at h),.inl rfl⟩
 |cons b l ih=>
  intro x h
  simp only[List.foldl_cons]
  obtain⟨i1,i2,i3⟩:=ih (if b.cap>x then b.cap else x) fun a ha=>h a (by simp[ha])
  refine⟨?_,fun a ha=>?_,?_⟩
  ·split at i1<;>rename_i hc<;>simp only[hc,if_true,if_false]<;>omega
  ·rcases List.mem_cons.1 ha with rfl|ha
   ·split at i1<;>rename_i hc<;>simp only[hc,if_true,if_false]<;>omega
   ·exact i2 a ha
  ·rcases i3 with h1|⟨a,ha,h1⟩
   ·by_cases hc:b.cap>x
    ·right;rw[if_pos hc] at h1 ⊢;exact⟨b,by simp,h1⟩
    ·left;rw[if_neg hc] at h1 ⊢;exact h1
   ·exact .inr ⟨a,by simp[ha],h1⟩
end Go.Proofs.YtpbmihpjgjbndaaGreatDoor
/- The halves of a number, one by one. -/
set_option linter.unusedVariables false
set_option linter.unusedSimpArgs false
namespace Go.Proofs.YtpbmihpjgjbndaaGreatDoor
open Go.RowKit
section
variable {G:Nat→World→Prop} {n:Nat} {E:Env} {k nr l:Nat} {x:Nat→List Value} {ops:List Oper} {R:Exit→Act→World→Prop}
end
end Go.Proofs.YtpbmihpjgjbndaaGreatDoor
/- Layer 1: what Log and Floor answer, and math/bits.Len64 below them: for every number. -/
set_option linter.unusedVariables false
set_option linter.unusedSimpArgs false
namespace Go.Proofs.YtpbmihpjgjbndaaGreatDoor
open Go.RowKit
variable {X:Cx} {Q:dl} {E E':Env} {H:Heap}
def jQ (n:Nat):Nat:=if n=0 then 0 else n.log2+1
theorem uF {n:Nat} (h:0<n):2^(jQ n-1)≤n:=by
 unfold jQ
 rw[if_neg (by omega),Nat.add_sub_cancel]
 exact Nat.log2_self_le (by omega)
theorem rI {n:Nat} (h:0<n):0<jQ n:=by unfold jQ;rw[if_neg (by omega)];omega
def mf (n:Int):Int:=if n<1 then 0 else 2^(jQ n.toNat-1)
end Go.Proofs.YtpbmihpjgjbndaaGreatDoor
