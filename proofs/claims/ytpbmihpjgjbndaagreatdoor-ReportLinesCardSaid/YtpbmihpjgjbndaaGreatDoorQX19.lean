/- The engine and the words that all chapters share: several texts in one. -/
import Derived.Test.YtpbmihpjgjbndaaGreatDoorQX44
import Derived.Test.YtpbmihpjgjbndaaGreatDoorQX37
/- The engine by trees: what a dead node is linked by is cut off, step by step. -/
set_option linter.unusedVariables false
set_option linter.unusedSimpArgs false
namespace Go.Proofs.YtpbmihpjgjbndaaGreatDoor
open Go.RowKit
def fD (par:OV) (n:Nat):Nat:=((List.range (n+1)).map fun v=>if (par v).isSome then 1 else 0).sum
theorem o8 {par:OV} {n v w:Nat} (hv:v≤n) (hw:par v=some w):fD (aT par v none) n+1=fD par n:=by
 unfold fD
 refine gt (v:=v) List.nodup_range (List.mem_range.2 (by omega)) (fun u _ hu=>by simp[aT,hu]) ?_
 simp[aT,hw]
theorem vA {par:OV} {n v w:Nat} (hv:v≤n) (hn:par v=none):fD (aT par v (some w)) n=fD par n+1:=by
 unfold fD
 refine (gt (v:=v) (f:=fun v=>if (par v).isSome then 1 else 0) (g:=fun u=>if (aT par v (some w) u).isSome then 1 else 0) List.nodup_range (List.mem_range.2 (by omega)) (fun u _ hu=>by simp[aT,hu]) ?_).symm
 simp[aT,hn]
theorem m7 (par:OV) (n:Nat):fD par n≤n+1:=by
 unfold fD
 have:∀ l:List Nat,(l.map fun v=>if (par v).isSome then 1 else 0).sum≤l.length:=by
  intro l
  induction l with
  |nil=>simp
  |cons a l ih=>
   simp only[List.map_cons,List.sum_cons,List.length_cons]
   split<;>omega
 have h:=this (List.range (n+1))
 rwa [List.length_range] at h
def Sub (par par':OV) (val val':Nat→Int):Prop:=∀ u w,par' u=some w→par u=some w∧val' u=val u
theorem Sub.refl {par:OV} {val:Nat→Int}:Sub par par val val:=fun _ _ h=>⟨h,rfl⟩
theorem Sub.cut {par par':OV} {val val':Nat→Int} (h:Sub par par' val val') {v:Nat} {d:Int}:Sub par (aT par' v none) val (eE val' v d):=by
 intro u w hu
 by_cases e:u=v
 ·subst e;simp[aT] at hu
 ·have h1:=h u w (by simpa [aT,e] using hu)
  exact⟨h1.1,by rw[← h1.2];simp[eE,e]⟩
section
variable {P:EP} {L:Nat→List Nat} {lv:Nat→Int} {gv:Nat→Nat} {rm0 tr:List Int} {pos:List Nat} {par:OV} {val:Nat→Int}
def jD (P:EP) (s:ES) (c:aO):Heap:=(P.fo s.fs++[P.sg,P.pc s.k s.w,P.rc s.rm,P.lc s.vals,P.uc s.un,c])++P.rows s.un
theorem pV {X:Cx} {s:ES} {c:aO}:aK X (c::kJ P s) (jD P s c):=
 aK.re (A:=c::(P.fo s.fs++[P.sg,P.pc s.k s.w,P.rc s.rm,P.lc s.vals,P.uc s.un])) (R:=P.rows s.un) [1,2,3,4,5,6,7,8,9,0] rfl (by decide)
theorem mJ {X:Cx} {s:ES} {c:aO}:aK X (jD P s c) (eb P s++[P.sg,c]):=
 aK.mid (A:=P.fo s.fs++[P.sg,P.pc s.k s.w,P.rc s.rm,P.lc s.vals,P.uc s.un,c]) (R:=P.rows s.un) [0,1,2,3,5,6,7,8] [4,9] rfl rfl (by decide)
theorem mj {X:Cx} {s:ES} {c:aO}:aK X (eb P s++[P.sg,c]) (jD P s c):=by
 refine aK.trans (aK.swap (A:=P.fo s.fs++[P.pc s.k s.w,P.rc s.rm,P.lc s.vals,P.uc s.un]) (R:=P.rows s.un) (B:=[P.sg,c])) ?_
 exact aK.re (A:=(P.fo s.fs++[P.pc s.k s.w,P.rc s.rm,P.lc s.vals,P.uc s.un])++[P.sg,c]) (R:=P.rows s.un) [0,1,2,3,8,4,5,6,7,9] rfl (by decide)
theorem nI {X:Cx} {s:ES} {c:aO}:aK X (jD P s c) (eb P s):=
 aK.re (A:=P.fo s.fs++[P.sg,P.pc s.k s.w,P.rc s.rm,P.lc s.vals,P.uc s.un,c]) (R:=P.rows s.un) [0,1,2,3,5,6,7,8] rfl (by decide)
structure vQ (P:EP) (L:Nat→List Nat) (gv:Nat→Nat) (rm0 tr:List Int) (pos:List Nat) (par:OV) (val:Nat→Int) (s:ES) (u:Nat) (pos':List Nat) (par':OV) (val':Nat→Int) (s':ES):Prop where
 ti:gO P L gv rm0 tr pos' par' val' s'
 pi:PI P.N L P.least tr pos' []
 sub:Sub par par' val val'
 rem:bT L P.n pos'+u=bT L P.n pos
 lk:fD par' P.n+u=fD par P.n
 w:s'.w=s.w
theorem xx (hP:iB P L lv gv) (s:ES) (hI:gO P L gv rm0 tr pos par val s) (hPI:PI P.N L P.least tr pos []) {v:Nat} (hv:v≤P.n) (hd:ke L pos v) (hvs:v≠P.N.snk.toNat) {v0:Nat} (hv0:v0≤P.n) (hpv:par v0=some v):
 Fn 256 [.pointer (some ⟨P.pe,0,none⟩),.int .i64 (v:Int)] (aR (eb P s)) ([P.sg]++eb P s)
  fun _ H'=>∃ u pos' par' val' s',H'=eb P s'∧1≤u∧vQ P L gv rm0 tr pos par val s u pos' par' val' s'∧s'.cost≤s.cost+u*(2*cG (P.n+1)+12*(P.n+1)+1):=by
 have hN:=hP.small
 have hvN:v<P.n+1:=by omega
 obtain⟨A,c,W,hun,hWd,hWm,hWl⟩:=hI.tb.get hv
 have hul:=hI.tb.len
 have hrl0:=hP.rl
 generalize hM:aR _=M
 refine aS Tryz.func256 rfl rfl fun w0=>?_
 refine bA ju ?_
 refine bO (bh (9+(P.rowsL.length+v)) (tm hun)) fun ⟨_,_,hA,hlA⟩=>?_
 obtain⟨g,hA⟩:=cB hA hlA
 refine ad (aa ?_)
 (repeat' (first
  |refine ak (gs:=[999]) rfl ?_
  |refine ab [999] (af 5 rfl rfl rfl rfl) rfl ?_))
 refine ab [999] (aJ rfl rfl rfl rfl rfl hvN) rfl ?_
 refine ab [999] (aD (v:=.slice A (gb W).length c) 8 rfl rfl rfl (show (s.un.map cH)[v]?=_ by rw[List.getElem?_map,hun];rfl)) rfl ?_
 refine ax [] (oo A c g 0 (gb W) (fun h=>hA (by intro h0;apply h;exact List.length_eq_zero_iff.1 (by rw[← bB,h0];rfl))) (by rw[da];omega)) rfl rfl rfl rfl (by kernel_rfl) ⟨⟨9+(P.rowsL.length+v),_,by simp,tm hun,aY hA,a7 hA⟩,trivial⟩ (fun _=>rfl) ?_
 rintro _ H' ⟨Ac,cc,rfl,rfl⟩
 refine⟨rfl,?_⟩
 rw[da]
 (repeat' (first
  |refine ak (gs:=[999]) rfl ?_
  |refine ab [999] (af 5 rfl rfl rfl rfl) rfl ?_))
 refine ai ?_
 refine bA pV ?_
 refine bO (bh 9 rfl) fun ⟨_,_,hAc,hlAc⟩=>?_
 obtain⟨gc,hAc⟩:=cB hAc hlAc
 have hAcW:W≠[]→Ac=some ⟨gc,0,none⟩:=fun h=>hAc (i6 h)
 refine au ?_
 refine cN (σ:=Nat×List Nat×OV×(Nat→Int)×ES) (fun t=>[(15,.int .i64 (t.1:Int)),(14,.int .i64 (W.length:Int)),(13,.slice Ac W.length cc),(0,.pointer (some ⟨P.pe,0,none⟩))]) (fun t=>jD P t.2.2.2.2 (.own (.slice Ac W.length cc) 3 1 W.length (bL W)))
  (fun t=>t.1≤W.length∧vQ P L gv rm0 tr pos par val s t.1 t.2.1 t.2.2.1 t.2.2.2.1 t.2.2.2.2∧t.2.2.2.2.cost≤s.cost+t.1*(2*cG (P.n+1)+12*(P.n+1)+1)∧ke L t.2.1 v∧∀ j u,t.1≤j→W[j]?=some u→t.2.2.1 u=some v) (fun t=>W.length-t.1) (0,pos,par,val,s) ⟨rfl,rfl,rfl,rfl,trivial⟩ aK.refl
  ⟨Nat.zero_le _,⟨hI,hPI,Sub.refl,rfl,rfl,rfl⟩,by simp,hd,fun j u _ hu=>((hWm u).1 (List.mem_of_getElem? hu)).2⟩ ?_
 rintro⟨i,pos1,par1,val1,s1⟩ ⟨hi,hC,h3,hd1,hin⟩
 simp only at hi hC h3 hd1 hin ⊢
 refine ad (aa (ae [] rfl ?_))
 refine ad ?_
 refine aC rfl (fun hlt=>av ?_) (fun hge=>?_)
 ·have hiW:i<W.length:=by omega
  obtain⟨u,hu⟩:∃ u,W[i]?=some u:=⟨W[i],List.getElem?_eq_getElem hiW⟩
  have hu2:=(hWm u).1 (List.mem_of_getElem? hu)
  have hpu:=hin i u (Nat.le_refl _) hu
  obtain⟨q,r,hq,hr,hto,hval⟩:=hC.ti.ta.link u v hu2.1 hpu
  obtain rfl:=hAcW (by intro h;rw[h] at hiW;simp at hiW)
  refine ad (au ?_)
  refine ad (aa ?_)
  refine ab [] (aJ rfl rfl rfl rfl rfl hiW) rfl ?_
  refine ab [] (aD 9 rfl rfl rfl (dh hu)) rfl ?_
  refine ae [] rfl ?_
  refine aa ?_
  (repeat' (first
   |refine ak (gs:=[999]) rfl ?_
   |refine ab [999] (af 5 rfl rfl rfl rfl) rfl ?_))
  refine ao [] (nW hP s1 hC.ti hu2.1 hpu hq hr hto hval) rfl rfl rfl rfl (by kernel_rfl) mJ ⟨⟨0,_,by simp,rfl,aq _ _ _,ay⟩,trivial⟩ (fun _=>rfl) ?_
  rintro _ H' ⟨s2,rfl,hI2,hw2,hk2⟩
  refine⟨cR rfl (cJ _ _),?_⟩
  refine bY mj ?_
  refine ai ?_
  refine aa (ae [] rfl ?_)
  have hrem:=eY (L:=L) hq hu2.1 (List.getElem?_eq_some_iff.1 hr).1
  have hlk:=o8 hu2.1 hpu
  have h1:=hC.rem
  have h2:=hC.lk
  refine⟨(i+1,pos1.set u (q+1),aT par1 u none,eE val1 u (4611686018427387904-val1 u),s2),⟨?_,rfl,rfl,rfl,trivial⟩,aK.refl,⟨hiW,⟨hI2,hC.pi.bump (fun _ h=>by cases h) hq hr (.inr ⟨by rw[hto];exact hvs,by rw[hto];exact hd1⟩),hC.sub.cut,by show bT L P.n (pos1.set u (q+1))+(i+1)=_;omega,by show fD (aT par1 u none) P.n+(i+1)=_;omega,by rw[hw2];exact hC.w⟩,?_,hd1.more hq,fun j z hj hz=>?_⟩,?_⟩
  ·show some (Value.int .i64 (IntKind.i64.wrap ((i:Int)+1)))=_
   rw[bU (by omega)];rfl
  ·show s2.cost≤s.cost+(i+1)*_
   rw[Nat.add_mul,Nat.one_mul];omega
  ·have hne:z≠u:=by
    rintro rfl
    have e1:=(List.getElem?_eq_some_iff.1 hz)
    have e2:=(List.getElem?_eq_some_iff.1 hu)
    have:=(List.getElem_inj hWd).1 (e1.2.trans e2.2.symm)
    simp only at hj
    omega
   have:=hin j z (by simp only at hj;omega) hz
   simpa [aT,hne] using this
  ·simp only;omega
 ·obtain rfl:i=W.length:=by omega
  have hpos:0<W.length:=List.length_pos_of_mem ((hWm v0).2 ⟨hv0,hpv⟩)
  refine bA nI (aV ?_)
  exact⟨_,rfl,W.length,pos1,par1,val1,s1,rfl,hpos,hC,h3⟩
end
end Go.Proofs.YtpbmihpjgjbndaaGreatDoor
/- The engine by trees, in plain terms: what is led along a path. -/
set_option linter.unusedVariables false
set_option linter.unusedSimpArgs false
namespace Go.Proofs.YtpbmihpjgjbndaaGreatDoor
open Go.RowKit
theorem fi.le {p:List Nat} {val:Nat→Int} {y:Nat} (h:fi (cd p.reverse val) y (val y)):∀ z∈p,val y≤val z:=by
 obtain⟨A,B,hAB,hA,hB⟩:=h
 intro z hz
 have hm:(z,val z)∈cd p.reverse val:=dc.2 ⟨by simpa using hz,rfl⟩
 rw[hAB,List.mem_append,List.mem_cons] at hm
 rcases hm with hm|hm|hm
 ·exact Int.le_of_lt (hA _ hm)
 ·rw[Prod.mk.injEq] at hm;rw[hm.2];exact Int.le_refl _
 ·exact hB _ hm
theorem aI.halves {par:OV} {v w x:Nat} {px:List Nat} (hv:par v=some w) (h:aI par x px) (hin:v∈px):∃ A B,px=A++v::w::B∧aI (aT par v none) x (A++[v])∧aI (aT par v none) w (w::B):=by
 obtain⟨A,B,rfl⟩:=List.append_of_mem hin
 have hnd:=h.nodup
 obtain⟨d1,d2,d3⟩:=List.nodup_append.1 hnd
 have ht:=h.tail
 cases B with
 |nil=>rw[ht.2] at hv;cases hv
 |cons z B=>
  have hz:=ht.2.1
  rw[hv] at hz
  simp only[Option.some.injEq] at hz
  subst hz
  refine⟨A,B,rfl,aI.cut (by simp[aT]) h (fun y hy=>?_),ht.2.2.congr fun y hy=>?_⟩
  ·have:y≠v:=fun e=>d3 y hy v (by simp) e
   simp[aT,this]
  ·have:y≠v:=fun e=>(List.nodup_cons.1 d2).1 (e▸hy)
   simp[aT,this]
def yh (n:Nat) (least:Int) (par:OV) (val:Nat→Int) (wait:List Nat):Prop:=∀ u w,u≤n→par u=some w→val u<least→∃ x∈wait,∃ px,aI par x px∧u∈px
theorem yh.pop {n:Nat} {least:Int} {par:OV} {val:Nat→Int} {wait:List Nat} {x:Nat} (h:yh n least par val (wait++[x])) {px:List Nat} (hp:aI par x px) (hm:∀ z∈px,least≤val z):yh n least par val wait:=by
 intro u w hu hw hl
 obtain⟨y,hy,py,h1,h2⟩:=h u w hu hw hl
 rcases List.mem_append.1 hy with hy|hy
 ·exact⟨y,hy,py,h1,h2⟩
 ·rw[List.mem_singleton.1 hy] at h1
  rw[aI.uniq h1 hp] at h2
  have:=hm u h2
  omega
theorem yh.cut {n:Nat} {least:Int} {par:OV} {val:Nat→Int} {wait:List Nat} (h:yh n least par val wait) {v w:Nat} (hv:par v=some w) {d:Int}:yh n least (aT par v none) (eE val v d) (wait++[w]):=by
 intro u z hu hz hl
 have hne:u≠v:=fun e=>by subst e;simp[aT] at hz
 obtain⟨y,hy,py,h1,h2⟩:=h u z hu (by simpa [aT,hne] using hz) (by simpa [eE,hne] using hl)
 by_cases hin:v∈py
 ·obtain⟨A,B,rfl,h3,h4⟩:=h1.halves hv hin
  rcases List.mem_append.1 h2 with h2|h2
  ·exact⟨y,by simp[hy],_,h3,by simp[h2]⟩
  ·rcases List.mem_cons.1 h2 with h2|h2
   ·exact absurd h2 hne
   ·exact⟨w,by simp,_,h4,h2⟩
 ·exact⟨y,by simp[hy],py,h1.congr fun z hz=>by have:z≠v:=fun e=>hin (e▸hz);simp[aT,this],h2⟩
section
variable {P:EP} {L:Nat→List Nat} {lv:Nat→Int} {gv:Nat→Nat} {rm0 tr:List Int} {pos:List Nat} {par:OV} {val:Nat→Int} {rm:List Int}
structure lm (P:EP) (L:Nat→List Nat) (tr:List Int) (pos:List Nat) (par:OV) (val:Nat→Int) (v:Nat) (p:List Nat) (y:Nat) (W:List Nat):Prop where
 on:Tr P.N v W y
 at_:∀ r∈W,cU P.N r∈p∧(∃ q,pos[cU P.N r]?=some q∧(L (cU P.N r))[q]?=some r)∧par (cU P.N r)=some (d9 P.N r)∧val (cU P.N r)=tr.getD r 0
 all:∀ z∈p,z=y∨∃ r∈W,cU P.N r=z
theorem TA.walk_of (h:TA P L rm0 tr pos par val rm) (hP:iB P L lv gv):∀ {p:List Nat} {v y:Nat},aI par v p→v≤P.n→p.getLast?=some y→∃ W,lm P L tr pos par val v p y W
 |[],_,_,hp,_,_=>hp.elim
 |[z],v,y,⟨h1,_⟩,_,hy=>by
  simp only[List.getLast?_singleton,Option.some.injEq] at hy
  refine⟨[],?_,fun r hr=>(by cases hr),fun x hx=>.inl ?_⟩
  ·show v=y;omega
  ·rw[List.mem_singleton.1 hx];omega
 |z::z'::l,v,y,⟨h1,h2,h3⟩,hv,hy=>by
  obtain⟨q,r,k1,k2,k3,k4⟩:=h.link v z' hv h2
  obtain⟨g1,g2,g3⟩:=ez hP (List.mem_of_getElem? k2)
  have hz:z'≤P.n:=by
   have:=(fu hP.right g1).2.2
   have:=hP.nodes
   omega
  obtain⟨W,hW⟩:=TA.walk_of h hP h3 hz (by simpa using hy)
  refine⟨r::W,⟨g2,by rw[k3];exact hW.on⟩,fun e he=>?_,fun x hx=>?_⟩
  ·rcases List.mem_cons.1 he with rfl|he
   ·refine⟨by rw[g2,h1];simp,⟨q,by rw[g2];exact k1,by rw[g2];exact k2⟩,by rw[g2,k3];exact h2,by rw[g2];exact k4⟩
   ·obtain⟨e1,e2,e3,e4⟩:=hW.at_ e he
    exact⟨List.mem_cons_of_mem _ e1,e2,e3,e4⟩
  ·rcases List.mem_cons.1 hx with rfl|hx
   ·exact .inr ⟨r,by simp,by rw[g2];exact h1⟩
   ·rcases hW.all x hx with h'|⟨e,he,h'⟩
    ·exact .inl h'
    ·exact .inr ⟨e,by simp[he],h'⟩
abbrev i4 (p:List Nat) (a:Int) (k:Nat) (val:Nat→Int):Nat→Int:=fun z=>if z∈[k] then (if z∈p then val z+-a else val z)+a else (if z∈p then val z+-a else val z)
theorem TA.push (h:TA P L rm0 tr pos par val rm) {p W:List Nat} {v y:Nat} (hp:aI par v p) (hy:p.getLast?=some y) (hW:lm P L tr pos par val v p y W) {a:Int} {tr':List Int} (hget:∀ u r,r∈L u→tr'.getD r 0=tr.getD r 0-if r∈W then a else 0)
 (hfr:∀ u r,r∈L u→cU P.N r=u) (htb:∀ r,0≤tr'.getD r 0∧tr'.getD r 0≤4611686018427387903):TA P L rm0 tr' pos par (i4 p a y val) rm:=by
 have hyn:par y=none:=hp.root_last hy
 have hyp:y∈p:=List.mem_of_getLast? hy
 refine⟨h.posl,fun u w hu hw=>?_,fun u hu hn=>?_,h.rml,fun u r hr hne=>?_,h.rest,htb⟩
 ·obtain⟨q,r,k1,k2,k3,k4⟩:=h.link u w hu hw
  have hrm:=List.mem_of_getElem? k2
  have hne:u≠y:=fun e=>by rw[e,hyn] at hw;cases hw
  refine⟨q,r,k1,k2,k3,?_⟩
  rw[hget u r hrm]
  simp only[i4,List.mem_singleton,if_neg hne]
  by_cases hup:u∈p
  ·rw[if_pos hup]
   rcases hW.all u hup with e|⟨e,he,e2⟩
   ·exact absurd e hne
   ·obtain⟨_,⟨q',j1,j2⟩,_⟩:=hW.at_ e he
    rw[e2] at j1 j2
    rw[k1] at j1
    simp only[Option.some.injEq] at j1
    subst j1
    rw[k2] at j2
    simp only[Option.some.injEq] at j2
    subst j2
    rw[if_pos he,k4];omega
  ·rw[if_neg hup,if_neg (fun he=>hup (by have:=(hW.at_ r he).1;rwa [hfr u r hrm] at this)),k4];omega
 ·simp only[i4,List.mem_singleton]
  by_cases e:u=y
  ·subst e
   rw[if_pos rfl,if_pos hyp,h.free u hu hn];omega
  ·rw[if_neg e,if_neg,h.free u hu hn]
   intro hup
   rcases hW.all u hup with e'|⟨r,hr,e2⟩
   ·exact e e'
   ·have:=(hW.at_ r hr).2.2.1
    rw[e2,hn] at this;cases this
 ·rw[hget u r hr,if_neg,Int.sub_zero]
  ·exact h.lead u r hr hne
  ·intro hrW
   obtain⟨_,⟨q,j1,j2⟩,j3,_⟩:=hW.at_ r hrW
   rw[hfr u r hr] at j1 j2 j3
   exact hne q (by rw[j3];simp) j1 j2
theorem lm.pi {v y:Nat} {p W:List Nat} (hW:lm P L tr pos par val v p y W) (hv:v=P.N.src.toNat) (hPI:PI P.N L P.least tr pos []) (hfr:∀ u r,r∈L u→cU P.N r≤P.n) (hroom:∀ u w,u≤P.n→par u=some w→P.least≤val u):PI P.N L P.least tr pos W∧cq P.N W=y:=by
 subst hv
 refine⟨⟨hPI.pl,⟨y,hW.on⟩,fun r hr=>?_,hPI.pass⟩,(rZ hW.on).symm⟩
 obtain⟨_,⟨q,j1,j2⟩,j3,j4⟩:=hW.at_ r hr
 exact⟨q,j1,j2,by rw[← j4];exact hroom _ _ (hfr _ r (List.mem_of_getElem? j2)) j3⟩
theorem lm.most {v y m:Nat} {p W:List Nat} (hW:lm P L tr pos par val v p y W) (hne:W≠[]) (hm:m∈p) (hmin:∀ z∈p,val m≤val z) (hy:∀ r,tr.getD r 0<val y):val m=bS tr W:=by
 obtain⟨r,hr,he⟩:=iU (rm:=tr) hne
 have h1:val m≤bS tr W:=by
  obtain⟨g1,_,_,g4⟩:=hW.at_ r hr
  rw[he,← g4];exact hmin _ g1
 rcases hW.all m hm with e|⟨e,he2,e2⟩
 ·rw[e] at h1
  have:=hy r
  rw[← he] at this
  omega
 ·have h2:=kO (rm:=tr) e he2
  obtain⟨_,_,_,g4⟩:=hW.at_ e he2
  rw[e2] at g4
  omega
end
end Go.Proofs.YtpbmihpjgjbndaaGreatDoor
