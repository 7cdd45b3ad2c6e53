/- The engine and the words that all chapters share: several texts in one. -/
import Derived.Test.YtpbmihpjgjbndaaGreatDoorQX44
import Derived.Test.YtpbmihpjgjbndaaGreatDoorQX36
/- The engine by trees: what a dead node is linked by is cut off, step by step. -/
set_option linter.unusedVariables false
set_option linter.unusedSimpArgs false
namespace Go.Proofs.YtpbmihpjgjbndaaGreatDoor
open Go.RowKit
def fx (par:OV) (n:Nat):Nat:=((List.range (n+1)).map fun v=>if (par v).isSome then 1 else 0).sum
theorem oK {par:OV} {n v w:Nat} (hv:v≤n) (hw:par v=some w):fx (aV par v none) n+1=fx par n:=by
 unfold fx
 refine f8 (v:=v) List.nodup_range (List.mem_range.2 (by omega)) (fun u _ hu=>by simp[aV,hu]) ?_
 simp[aV,hw]
theorem wj {par:OV} {n v w:Nat} (hv:v≤n) (hn:par v=none):fx (aV par v (some w)) n=fx par n+1:=by
 unfold fx
 refine (f8 (v:=v) (f:=fun v=>if (par v).isSome then 1 else 0) (g:=fun u=>if (aV par v (some w) u).isSome then 1 else 0) List.nodup_range (List.mem_range.2 (by omega)) (fun u _ hu=>by simp[aV,hu]) ?_).symm
 simp[aV,hn]
theorem mP (par:OV) (n:Nat):fx par n≤n+1:=by
 unfold fx
 have:∀ l:List Nat,(l.map fun v=>if (par v).isSome then 1 else 0).sum≤l.length:=by
  intro l
  induction l with
  |nil=>simp
  |cons a l ih=>
   simp only[List.map_cons,List.sum_cons,List.length_cons]
   split<;>omega
 have h:=this (List.range (n+1))
 rwa [List.length_range] at h
def Sub (par par':OV) (val val':Nat→Int):Prop:=∀ u w,par' u=some w→par u=some w∧val' u=val u
theorem Sub.refl {par:OV} {val:Nat→Int}:Sub par par val val:=fun _ _ h=>⟨h,rfl⟩
theorem Sub.cut {par par':OV} {val val':Nat→Int} (h:Sub par par' val val') {v:Nat} {d:Int}:Sub par (aV par' v none) val (eH val' v d):=by
 intro u w hu
 by_cases e:u=v
 ·subst e;simp[aV] at hu
 ·have h1:=h u w (by simpa [aV,e] using hu)
  exact⟨h1.1,by rw[← h1.2];simp[eH,e]⟩
section
variable {P:EP} {L:Nat→List Nat} {lv:Nat→Int} {gv:Nat→Nat} {rm0 tr:List Int} {pos:List Nat} {par:OV} {val:Nat→Int}
def jA (P:EP) (s:ES) (c:aO):Heap:=(P.fo s.fs++[P.sg,P.pc s.k s.w,P.rc s.rm,P.lc s.vals,P.uc s.un,c])++P.rows s.un
theorem qz {X:Cx} {s:ES} {c:aO}:aK X (c::jY P s) (jA P s c):=
 aK.re (A:=c::(P.fo s.fs++[P.sg,P.pc s.k s.w,P.rc s.rm,P.lc s.vals,P.uc s.un])) (R:=P.rows s.un) [1,2,3,4,5,6,7,8,9,0] rfl (by decide)
theorem me {X:Cx} {s:ES} {c:aO}:aK X (jA P s c) (d6 P s++[P.sg,c]):=
 aK.mid (A:=P.fo s.fs++[P.sg,P.pc s.k s.w,P.rc s.rm,P.lc s.vals,P.uc s.un,c]) (R:=P.rows s.un) [0,1,2,3,5,6,7,8] [4,9] rfl rfl (by decide)
theorem mE {X:Cx} {s:ES} {c:aO}:aK X (d6 P s++[P.sg,c]) (jA P s c):=by
 refine aK.trans (aK.swap (A:=P.fo s.fs++[P.pc s.k s.w,P.rc s.rm,P.lc s.vals,P.uc s.un]) (R:=P.rows s.un) (B:=[P.sg,c])) ?_
 exact aK.re (A:=(P.fo s.fs++[P.pc s.k s.w,P.rc s.rm,P.lc s.vals,P.uc s.un])++[P.sg,c]) (R:=P.rows s.un) [0,1,2,3,8,4,5,6,7,9] rfl (by decide)
theorem og {X:Cx} {s:ES} {c:aO}:aK X (jA P s c) (d6 P s):=
 aK.re (A:=P.fo s.fs++[P.sg,P.pc s.k s.w,P.rc s.rm,P.lc s.vals,P.uc s.un,c]) (R:=P.rows s.un) [0,1,2,3,5,6,7,8] rfl (by decide)
structure vC (P:EP) (L:Nat→List Nat) (gv:Nat→Nat) (rm0 tr:List Int) (pos:List Nat) (par:OV) (val:Nat→Int) (s:ES) (u:Nat) (pos':List Nat) (par':OV) (val':Nat→Int) (s':ES):Prop where
 ti:gI P L gv rm0 tr pos' par' val' s'
 pi:PI P.N L P.least tr pos' []
 sub:Sub par par' val val'
 rem:bR L P.n pos'+u=bR L P.n pos
 lk:fx par' P.n+u=fx par P.n
 w:s'.w=s.w
theorem xW (hP:iw P L lv gv) (s:ES) (hI:gI P L gv rm0 tr pos par val s) (hPI:PI P.N L P.least tr pos []) {v:Nat} (hv:v≤P.n) (hd:kJ L pos v) (hvs:v≠P.N.snk.toNat) {v0:Nat} (hv0:v0≤P.n) (hpv:par v0=some v):
 Fn 256 [.pointer (some ⟨P.pe,0,none⟩),.int .i64 (v:Int)] (aR (d6 P s)) ([P.sg]++d6 P s)
  fun _ H'=>∃ u pos' par' val' s',H'=d6 P s'∧1≤u∧vC P L gv rm0 tr pos par val s u pos' par' val' s'∧s'.cost≤s.cost+u*(2*cI (P.n+1)+12*(P.n+1)+1):=by
 have hN:=hP.small
 have hvN:v<P.n+1:=by omega
 obtain⟨A,c,W,hun,hWd,hWm,hWl⟩:=hI.tb.get hv
 have hul:=hI.tb.len
 have hrl0:=hP.rl
 generalize hM:aR _=M
 refine aS Tryz.func256 rfl rfl fun w0=>?_
 refine bx jh ?_
 refine bL (be (9+(P.rowsL.length+v)) (sG hun)) fun ⟨_,_,hA,hlA⟩=>?_
 obtain⟨g,hA⟩:=ci hA hlA
 refine ad (aa ?_)
 (repeat' (first
  |refine ak (gs:=[999]) rfl ?_
  |refine ab [999] (af 5 rfl rfl rfl rfl) rfl ?_))
 refine ab [999] (aJ rfl rfl rfl rfl rfl hvN) rfl ?_
 refine ab [999] (aF (v:=.slice A (f6 W).length c) 8 rfl rfl rfl (show (s.un.map cH)[v]?=_ by rw[List.getElem?_map,hun];rfl)) rfl ?_
 refine av [] (nA A c g 0 (f6 W) (fun h=>hA (by intro h0;apply h;exact List.length_eq_zero_iff.1 (by rw[← bz,h0];rfl))) (by rw[db];omega)) rfl rfl rfl rfl (by kernel_rfl) ⟨⟨9+(P.rowsL.length+v),_,by simp,sG hun,aT hA,aU hA⟩,trivial⟩ (fun _=>rfl) ?_
 rintro _ H' ⟨Ac,cc,rfl,rfl⟩
 refine⟨rfl,?_⟩
 rw[db]
 (repeat' (first
  |refine ak (gs:=[999]) rfl ?_
  |refine ab [999] (af 5 rfl rfl rfl rfl) rfl ?_))
 refine ai ?_
 refine bx qz ?_
 refine bL (be 9 rfl) fun ⟨_,_,hAc,hlAc⟩=>?_
 obtain⟨gc,hAc⟩:=ci hAc hlAc
 have hAcW:W≠[]→Ac=some ⟨gc,0,none⟩:=fun h=>hAc (iK h)
 refine au ?_
 refine cO (σ:=Nat×List Nat×OV×(Nat→Int)×ES) (fun t=>[(15,.int .i64 (t.1:Int)),(14,.int .i64 (W.length:Int)),(13,.slice Ac W.length cc),(0,.pointer (some ⟨P.pe,0,none⟩))]) (fun t=>jA P t.2.2.2.2 (.own (.slice Ac W.length cc) 3 1 W.length (bJ W)))
  (fun t=>t.1≤W.length∧vC P L gv rm0 tr pos par val s t.1 t.2.1 t.2.2.1 t.2.2.2.1 t.2.2.2.2∧t.2.2.2.2.cost≤s.cost+t.1*(2*cI (P.n+1)+12*(P.n+1)+1)∧kJ L t.2.1 v∧∀ j u,t.1≤j→W[j]?=some u→t.2.2.1 u=some v) (fun t=>W.length-t.1) (0,pos,par,val,s) ⟨rfl,rfl,rfl,rfl,trivial⟩ aK.refl
  ⟨Nat.zero_le _,⟨hI,hPI,Sub.refl,rfl,rfl,rfl⟩,by simp,hd,fun j u _ hu=>((hWm u).1 (List.mem_of_getElem? hu)).2⟩ ?_
 rintro⟨i,pos1,par1,val1,s1⟩ ⟨hi,hC,h3,hd1,hin⟩
 simp only at hi hC h3 hd1 hin ⊢
 refine ad (aa (ae [] rfl ?_))
 refine ad ?_
 refine aD rfl (fun hlt=>aw ?_) (fun hge=>?_)
 ·have hiW:i<W.length:=by omega
  obtain⟨u,hu⟩:∃ u,W[i]?=some u:=⟨W[i],List.getElem?_eq_getElem hiW⟩
  have hu2:=(hWm u).1 (List.mem_of_getElem? hu)
  have hpu:=hin i u (Nat.le_refl _) hu
  obtain⟨q,r,hq,hr,hto,hval⟩:=hC.ti.ta.link u v hu2.1 hpu
  obtain rfl:=hAcW (by intro h;rw[h] at hiW;simp at hiW)
  refine ad (au ?_)
  refine ad (aa ?_)
  refine ab [] (aJ rfl rfl rfl rfl rfl hiW) rfl ?_
  refine ab [] (aF 9 rfl rfl rfl (di hu)) rfl ?_
  refine ae [] rfl ?_
  refine aa ?_
  (repeat' (first
   |refine ak (gs:=[999]) rfl ?_
   |refine ab [999] (af 5 rfl rfl rfl rfl) rfl ?_))
  refine ap [] (nz hP s1 hC.ti hu2.1 hpu hq hr hto hval) rfl rfl rfl rfl (by kernel_rfl) me ⟨⟨0,_,by simp,rfl,aq _ _ _,ay⟩,trivial⟩ (fun _=>rfl) ?_
  rintro _ H' ⟨s2,rfl,hI2,hw2,hk2⟩
  refine⟨cU rfl (cL _ _),?_⟩
  refine bZ mE ?_
  refine ai ?_
  refine aa (ae [] rfl ?_)
  have hrem:=eS (L:=L) hq hu2.1 (List.getElem?_eq_some_iff.1 hr).1
  have hlk:=oK hu2.1 hpu
  have h1:=hC.rem
  have h2:=hC.lk
  refine⟨(i+1,pos1.set u (q+1),aV par1 u none,eH val1 u (4611686018427387904-val1 u),s2),⟨?_,rfl,rfl,rfl,trivial⟩,aK.refl,⟨hiW,⟨hI2,hC.pi.bump (fun _ h=>by cases h) hq hr (.inr ⟨by rw[hto];exact hvs,by rw[hto];exact hd1⟩),hC.sub.cut,by show bR L P.n (pos1.set u (q+1))+(i+1)=_;omega,by show fx (aV par1 u none) P.n+(i+1)=_;omega,by rw[hw2];exact hC.w⟩,?_,hd1.more hq,fun j z hj hz=>?_⟩,?_⟩
  ·show some (Value.int .i64 (IntKind.i64.wrap ((i:Int)+1)))=_
   rw[b8 (by omega)];rfl
  ·show s2.cost≤s.cost+(i+1)*_
   rw[Nat.add_mul,Nat.one_mul];omega
  ·have hne:z≠u:=by
    rintro rfl
    have e1:=(List.getElem?_eq_some_iff.1 hz)
    have e2:=(List.getElem?_eq_some_iff.1 hu)
    have:=(List.getElem_inj hWd).1 (e1.2.trans e2.2.symm)
    simp only at hj
    omega
   have:=hin j z (by simp only at hj;omega) hz
   simpa [aV,hne] using this
  ·simp only;omega
 ·obtain rfl:i=W.length:=by omega
  have hpos:0<W.length:=List.length_pos_of_mem ((hWm v0).2 ⟨hv0,hpv⟩)
  refine bx og (aX ?_)
  exact⟨_,rfl,W.length,pos1,par1,val1,s1,rfl,hpos,hC,h3⟩
end
end Go.Proofs.YtpbmihpjgjbndaaGreatDoor
/- The engine by trees, in plain terms: what is led along a path. -/
set_option linter.unusedVariables false
set_option linter.unusedSimpArgs false
namespace Go.Proofs.YtpbmihpjgjbndaaGreatDoor
open Go.RowKit
theorem ff.le {p:List Nat} {val:Nat→Int} {y:Nat} (h:ff (ce p.reverse val) y (val y)):∀ z∈p,val y≤val z:=by
 obtain⟨A,B,hAB,hA,hB⟩:=h
 intro z hz
 have hm:(z,val z)∈ce p.reverse val:=dd.2 ⟨by simpa using hz,rfl⟩
 rw[hAB,List.mem_append,List.mem_cons] at hm
 rcases hm with hm|hm|hm
 ·exact Int.le_of_lt (hA _ hm)
 ·rw[Prod.mk.injEq] at hm;rw[hm.2];exact Int.le_refl _
 ·exact hB _ hm
theorem aH.halves {par:OV} {v w x:Nat} {px:List Nat} (hv:par v=some w) (h:aH par x px) (hin:v∈px):∃ A B,px=A++v::w::B∧aH (aV par v none) x (A++[v])∧aH (aV par v none) w (w::B):=by
 obtain⟨A,B,rfl⟩:=List.append_of_mem hin
 have hnd:=h.nodup
 obtain⟨d1,d2,d3⟩:=List.nodup_append.1 hnd
 have ht:=h.tail
 cases B with
 |nil=>rw[ht.2] at hv;cases hv
 |cons z B=>
  have hz:=ht.2.1
  rw[hv] at hz
  simp only[Option.some.injEq] at hz
  subst hz
  refine⟨A,B,rfl,aH.cut (by simp[aV]) h (fun y hy=>?_),ht.2.2.congr fun y hy=>?_⟩
  ·have:y≠v:=fun e=>d3 y hy v (by simp) e
   simp[aV,this]
  ·have:y≠v:=fun e=>(List.nodup_cons.1 d2).1 (e▸hy)
   simp[aV,this]
def x0 (n:Nat) (least:Int) (par:OV) (val:Nat→Int) (wait:List Nat):Prop:=∀ u w,u≤n→par u=some w→val u<least→∃ x∈wait,∃ px,aH par x px∧u∈px
theorem x0.pop {n:Nat} {least:Int} {par:OV} {val:Nat→Int} {wait:List Nat} {x:Nat} (h:x0 n least par val (wait++[x])) {px:List Nat} (hp:aH par x px) (hm:∀ z∈px,least≤val z):x0 n least par val wait:=by
 intro u w hu hw hl
 obtain⟨y,hy,py,h1,h2⟩:=h u w hu hw hl
 rcases List.mem_append.1 hy with hy|hy
 ·exact⟨y,hy,py,h1,h2⟩
 ·rw[List.mem_singleton.1 hy] at h1
  rw[aH.uniq h1 hp] at h2
  have:=hm u h2
  omega
theorem x0.cut {n:Nat} {least:Int} {par:OV} {val:Nat→Int} {wait:List Nat} (h:x0 n least par val wait) {v w:Nat} (hv:par v=some w) {d:Int}:x0 n least (aV par v none) (eH val v d) (wait++[w]):=by
 intro u z hu hz hl
 have hne:u≠v:=fun e=>by subst e;simp[aV] at hz
 obtain⟨y,hy,py,h1,h2⟩:=h u z hu (by simpa [aV,hne] using hz) (by simpa [eH,hne] using hl)
 by_cases hin:v∈py
 ·obtain⟨A,B,rfl,h3,h4⟩:=h1.halves hv hin
  rcases List.mem_append.1 h2 with h2|h2
  ·exact⟨y,by simp[hy],_,h3,by simp[h2]⟩
  ·rcases List.mem_cons.1 h2 with h2|h2
   ·exact absurd h2 hne
   ·exact⟨w,by simp,_,h4,h2⟩
 ·exact⟨y,by simp[hy],py,h1.congr fun z hz=>by have:z≠v:=fun e=>hin (e▸hz);simp[aV,this],h2⟩
section
variable {P:EP} {L:Nat→List Nat} {lv:Nat→Int} {gv:Nat→Nat} {rm0 tr:List Int} {pos:List Nat} {par:OV} {val:Nat→Int} {rm:List Int}
structure kY (P:EP) (L:Nat→List Nat) (tr:List Int) (pos:List Nat) (par:OV) (val:Nat→Int) (v:Nat) (p:List Nat) (y:Nat) (W:List Nat):Prop where
 on:Tr P.N v W y
 at_:∀ r∈W,cW P.N r∈p∧(∃ q,pos[cW P.N r]?=some q∧(L (cW P.N r))[q]?=some r)∧par (cW P.N r)=some (dZ P.N r)∧val (cW P.N r)=tr.getD r 0
 all:∀ z∈p,z=y∨∃ r∈W,cW P.N r=z
theorem TA.walk_of (h:TA P L rm0 tr pos par val rm) (hP:iw P L lv gv):∀ {p:List Nat} {v y:Nat},aH par v p→v≤P.n→p.getLast?=some y→∃ W,kY P L tr pos par val v p y W
 |[],_,_,hp,_,_=>hp.elim
 |[z],v,y,⟨h1,_⟩,_,hy=>by
  simp only[List.getLast?_singleton,Option.some.injEq] at hy
  refine⟨[],?_,fun r hr=>(by cases hr),fun x hx=>.inl ?_⟩
  ·show v=y;omega
  ·rw[List.mem_singleton.1 hx];omega
 |z::z'::l,v,y,⟨h1,h2,h3⟩,hv,hy=>by
  obtain⟨q,r,k1,k2,k3,k4⟩:=h.link v z' hv h2
  obtain⟨g1,g2,g3⟩:=eG hP (List.mem_of_getElem? k2)
  have hz:z'≤P.n:=by
   have:=(fk hP.right g1).2.2
   have:=hP.nodes
   omega
  obtain⟨W,hW⟩:=TA.walk_of h hP h3 hz (by simpa using hy)
  refine⟨r::W,⟨g2,by rw[k3];exact hW.on⟩,fun e he=>?_,fun x hx=>?_⟩
  ·rcases List.mem_cons.1 he with rfl|he
   ·refine⟨by rw[g2,h1];simp,⟨q,by rw[g2];exact k1,by rw[g2];exact k2⟩,by rw[g2,k3];exact h2,by rw[g2];exact k4⟩
   ·obtain⟨e1,e2,e3,e4⟩:=hW.at_ e he
    exact⟨List.mem_cons_of_mem _ e1,e2,e3,e4⟩
  ·rcases List.mem_cons.1 hx with rfl|hx
   ·exact .inr ⟨r,by simp,by rw[g2];exact h1⟩
   ·rcases hW.all x hx with h'|⟨e,he,h'⟩
    ·exact .inl h'
    ·exact .inr ⟨e,by simp[he],h'⟩
abbrev iL (p:List Nat) (a:Int) (k:Nat) (val:Nat→Int):Nat→Int:=fun z=>if z∈[k] then (if z∈p then val z+-a else val z)+a else (if z∈p then val z+-a else val z)
theorem TA.push (h:TA P L rm0 tr pos par val rm) {p W:List Nat} {v y:Nat} (hp:aH par v p) (hy:p.getLast?=some y) (hW:kY P L tr pos par val v p y W) {a:Int} {tr':List Int} (hget:∀ u r,r∈L u→tr'.getD r 0=tr.getD r 0-if r∈W then a else 0)
 (hfr:∀ u r,r∈L u→cW P.N r=u) (htb:∀ r,0≤tr'.getD r 0∧tr'.getD r 0≤4611686018427387903):TA P L rm0 tr' pos par (iL p a y val) rm:=by
 have hyn:par y=none:=hp.root_last hy
 have hyp:y∈p:=List.mem_of_getLast? hy
 refine⟨h.posl,fun u w hu hw=>?_,fun u hu hn=>?_,h.rml,fun u r hr hne=>?_,h.rest,htb⟩
 ·obtain⟨q,r,k1,k2,k3,k4⟩:=h.link u w hu hw
  have hrm:=List.mem_of_getElem? k2
  have hne:u≠y:=fun e=>by rw[e,hyn] at hw;cases hw
  refine⟨q,r,k1,k2,k3,?_⟩
  rw[hget u r hrm]
  simp only[iL,List.mem_singleton,if_neg hne]
  by_cases hup:u∈p
  ·rw[if_pos hup]
   rcases hW.all u hup with e|⟨e,he,e2⟩
   ·exact absurd e hne
   ·obtain⟨_,⟨q',j1,j2⟩,_⟩:=hW.at_ e he
    rw[e2] at j1 j2
    rw[k1] at j1
    simp only[Option.some.injEq] at j1
    subst j1
    rw[k2] at j2
    simp only[Option.some.injEq] at j2
    subst j2
    rw[if_pos he,k4];omega
  ·rw[if_neg hup,if_neg (fun he=>hup (by have:=(hW.at_ r he).1;rwa [hfr u r hrm] at this)),k4];omega
 ·simp only[iL,List.mem_singleton]
  by_cases e:u=y
  ·subst e
   rw[if_pos rfl,if_pos hyp,h.free u hu hn];omega
  ·rw[if_neg e,if_neg,h.free u hu hn]
   intro hup
   rcases hW.all u hup with e'|⟨r,hr,e2⟩
   ·exact e e'
   ·have:=(hW.at_ r hr).2.2.1
    rw[e2,hn] at this;cases this
 ·rw[hget u r hr,if_neg,Int.sub_zero]
  ·exact h.lead u r hr hne
  ·intro hrW
   obtain⟨_,⟨q,j1,j2⟩,j3,_⟩:=hW.at_ r hrW
   rw[hfr u r hr] at j1 j2 j3
   exact hne q (by rw[j3];simp) j1 j2
theorem kY.pi {v y:Nat} {p W:List Nat} (hW:kY P L tr pos par val v p y W) (hv:v=P.N.src.toNat) (hPI:PI P.N L P.least tr pos []) (hfr:∀ u r,r∈L u→cW P.N r≤P.n) (hroom:∀ u w,u≤P.n→par u=some w→P.least≤val u):PI P.N L P.least tr pos W∧cA P.N W=y:=by
 subst hv
 refine⟨⟨hPI.pl,⟨y,hW.on⟩,fun r hr=>?_,hPI.pass⟩,(rS hW.on).symm⟩
 obtain⟨_,⟨q,j1,j2⟩,j3,j4⟩:=hW.at_ r hr
 exact⟨q,j1,j2,by rw[← j4];exact hroom _ _ (hfr _ r (List.mem_of_getElem? j2)) j3⟩
theorem kY.most {v y m:Nat} {p W:List Nat} (hW:kY P L tr pos par val v p y W) (hne:W≠[]) (hm:m∈p) (hmin:∀ z∈p,val m≤val z) (hy:∀ r,tr.getD r 0<val y):val m=bS tr W:=by
 obtain⟨r,hr,he⟩:=i4 (rm:=tr) hne
 have h1:val m≤bS tr W:=by
  obtain⟨g1,_,_,g4⟩:=hW.at_ r hr
  rw[he,← g4];exact hmin _ g1
 rcases hW.all m hm with e|⟨e,he2,e2⟩
 ·rw[e] at h1
  have:=hy r
  rw[← he] at this
  omega
 ·have h2:=ke (rm:=tr) e he2
  obtain⟨_,_,_,g4⟩:=hW.at_ e he2
  rw[e2] at g4
  omega
end
end Go.Proofs.YtpbmihpjgjbndaaGreatDoor
