/- Matchings and covers: no matching has more edges than a cover has nodes, and where they are as many. -/
import Derived.Test.YtpbmihpjgjbndaaGreatOfR
set_option linter.unusedVariables false
set_option linter.unusedSimpArgs false
namespace Go.Proofs.YtpbmihpjgjbndaaGreat
theorem fL:∀ (l m:List Int),l.Nodup→(∀ x∈l,x∈m)→l.length≤m.length
 |[],_,_,_=>Nat.zero_le _
 |x::l,m,hn,hs=>by
  have h1:=List.nodup_cons.1 hn
  have hx:=hs x (by simp)
  have ih:=fL l (m.erase x) h1.2 fun y hy=>by
   have hne:y≠x:=fun e=>h1.1 (by rw[← e];exact hy)
   rw[List.mem_erase_of_ne hne]
   exact hs y (by simp[hy])
  rw[List.length_erase_of_mem hx] at ih
  have:0<m.length:=List.length_pos_of_mem hx
  rw[List.length_cons];omega
theorem jW (p:Int→Bool):∀ l:List Int,(l.filter p).length+(l.filter fun x=>!p x).length=l.length
 |[]=>rfl
 |x::l=>by
  have ih:=jW p l
  simp only[List.filter_cons,List.length_cons]
  cases p x<;>simp<;>omega
def eL (g:Gr) (x:Int):Int:=match g.edges[x.toNat]? with|some e=>e.l|none=>0
def eR (g:Gr) (x:Int):Int:=match g.edges[x.toNat]? with|some e=>e.r|none=>0
theorem pM {g:Gr} {x:Int} {e:fJ} (h:g.edges[x.toNat]?=some e):eL g x=e.l:=by unfold eL;rw[h]
theorem rE {g:Gr} {x:Int} {e:fJ} (h:g.edges[x.toNat]?=some e):eR g x=e.r:=by unfold eR;rw[h]
section
variable {g:Gr} {l sl sr:List Int}
theorem bC.at (hM:bC g l) {x:Int} (hx:x∈l):∃ e,g.edges[x.toNat]?=some e∧e∈g.edges:=by
 have:=hM.rng x hx
 have h:g.edges[x.toNat]?=some (g.edges[x.toNat]'(by omega)):=List.getElem?_eq_getElem (by omega)
 exact⟨_,h,List.mem_of_getElem? h⟩
theorem bC.apartL (hM:bC g l):l.Pairwise fun x y=>eL g x≠eL g y∧eR g x≠eR g y:=by
 refine hM.apart.imp_of_mem ?_
 intro x y hx hy h
 obtain⟨a,ha,_⟩:=hM.at hx
 obtain⟨b,hb,_⟩:=hM.at hy
 have:=h a b ha hb
 rw[pM ha,pM hb,rE ha,rE hb]
 exact this
theorem bC.nodL (hM:bC g l) (p:Int→Bool):((l.filter p).map (eL g)).Nodup:=by
 rw[List.nodup_iff_pairwise_ne,List.pairwise_map]
 exact (hM.apartL.imp fun h=>h.1).filter _
theorem bC.nodR (hM:bC g l) (p:Int→Bool):((l.filter p).map (eR g)).Nodup:=by
 rw[List.nodup_iff_pairwise_ne,List.pairwise_map]
 exact (hM.apartL.imp fun h=>h.2).filter _
theorem cF.nodup {m:Int} {s:List Int} (h:cF m s):s.Nodup:=h.rise.imp fun h=>by omega
theorem pI (hM:bC g l) (hC:gt g sl sr):(∀ y∈(l.filter fun x=>decide (eL g x∈sl)).map (eL g),y∈sl)∧(∀ y∈(l.filter fun x=>!decide (eL g x∈sl)).map (eR g),y∈sr):=by
 constructor
 ·intro y hy
  obtain⟨x,hx,rfl⟩:=List.mem_map.1 hy
  simpa using (List.mem_filter.1 hx).2
 ·intro y hy
  obtain⟨x,hx,rfl⟩:=List.mem_map.1 hy
  obtain⟨hxl,hno⟩:=List.mem_filter.1 hx
  have hno':¬ eL g x∈sl:=by simpa using hno
  obtain⟨e,he,hem⟩:=hM.at hxl
  rw[pM he] at hno'
  rw[rE he]
  exact (hC.meet e hem).resolve_left hno'
theorem pW (hM:bC g l) (hC:gt g sl sr):l.length≤sl.length+sr.length:=by
 obtain⟨h1,h2⟩:=pI hM hC
 have k1:=fL _ _ (hM.nodL _) h1
 have k2:=fL _ _ (hM.nodR _) h2
 have k3:=jW (fun x=>decide (eL g x∈sl)) l
 rw[List.length_map] at k1 k2
 omega
theorem uT (hg:g.Right) (hM:bC g l) (hno:∀ w,gP g l w→j6 g (·.r) l w) (hsl:cF g.left sl) (hsr:cF g.right sr) (hl:∀ v:Nat,1≤v→(v:Int)≤g.left→((v:Int)∈sl↔¬ gI g l v)) (hr:∀ w:Nat,1≤w→(w:Int)≤g.right→((w:Int)∈sr↔gP g l w)):
 gt g sl sr∧sl.length+sr.length=l.length:=by
 have hlE:∀ e∈g.edges,(e.l∈sl↔¬ gI g l e.l.toNat):=fun e he=>by
  have hb:=hg.edge e he
  have:=hl e.l.toNat (by omega) (by omega)
  rwa [show ((e.l.toNat:Nat):Int)=e.l by omega] at this
 have hrE:∀ e∈g.edges,(e.r∈sr↔gP g l e.r.toNat):=fun e he=>by
  have hb:=hg.edge e he
  have:=hr e.r.toNat (by omega) (by omega)
  rwa [show ((e.r.toNat:Nat):Int)=e.r by omega] at this
 have hC:gt g sl sr:=by
  refine⟨hsl,hsr,fun e he=>?_⟩
  have hb:=hg.edge e he
  by_cases h:gI g l e.l.toNat
  ·exact .inr ((hrE e he).2 ⟨e,he,h,by omega⟩)
  ·exact .inl ((hlE e he).2 h)
 refine⟨hC,?_⟩
 have k0:=pW hM hC
 have k3:=jW (fun x=>decide (eL g x∈sl)) l
 -- each node of the cover is of a pair
 have k1:=fL sl ((l.filter fun x=>decide (eL g x∈sl)).map (eL g)) hsl.nodup fun v hv=>by
  have hvr:=hsl.rng v hv
  have hn:=(hl v.toNat (by omega) (by omega)).1 (by rw[show ((v.toNat:Nat):Int)=v by omega];exact hv)
  have hm:j6 g (·.l) l v:=Classical.byContradiction fun h=>hn (.free v.toNat (by omega) (by omega) (by rw[show ((v.toNat:Nat):Int)=v by omega];exact h))
  obtain⟨x,hx,e,he,hel⟩:=hm
  have hel':eL g x=v:=by rw[pM he];exact hel
  exact List.mem_map.2 ⟨x,List.mem_filter.2 ⟨hx,by rw[hel'];simpa using hv⟩,hel'⟩
 have k2:=fL sr ((l.filter fun x=>!decide (eL g x∈sl)).map (eR g)) hsr.nodup fun w hw=>by
  have hwr:=hsr.rng w hw
  have ha:=(hr w.toNat (by omega) (by omega)).1 (by rw[show ((w.toNat:Nat):Int)=w by omega];exact hw)
  obtain⟨x,hx,a,hxa,har⟩:=hno _ ha
  have har':a.r=w:=by have:a.r=((w.toNat:Nat):Int):=har;omega
  obtain⟨e,he,hal,her⟩:=ha
  have hal2:gI g l a.l.toNat:=.step e a x hal he hx hxa (by omega)
  have hnl:a.l∉sl:=fun h=>(hlE a (List.mem_of_getElem? hxa)).1 h hal2
  refine List.mem_map.2 ⟨x,List.mem_filter.2 ⟨hx,?_⟩,by rw[rE hxa];exact har'⟩
  rw[pM hxa];simpa using hnl
 rw[List.length_map] at k1 k2
 omega
end
/-! ### A greatest flow's pairs -/
theorem jP {N:bt} {f s:List Int} (hf:aT N f) (hc:oh N f s) {j:Nat} {a:dQ} (ha:N.arcs[j]?=some a) (h:f.getD j 0+1≤a.cap) (hin:a.fr∈s):a.to∈s:=by
 have hj:=(List.getElem?_eq_some_iff.1 ha).1
 have hl:=hf.len
 have hx:f[j]?=some (f.getD j 0):=by rw[List.getD_eq_getElem?_getD,List.getElem?_eq_getElem (by omega)];rfl
 obtain⟨g1,_⟩:=dl (dr ha hx)
 have he:cL N (2*j)=(a.fr,a.to):=by
  unfold cL
  rw[show 2*j/2=j by omega,ha]
  simp only
  unfold dI
  rw[if_neg (by omega)]
 have:=hc (2*j) (by omega) (by rw[List.getD_eq_getElem?_getD,g1,Option.getD_some];simp only;omega) (by rw[he];exact hin)
 rwa [he] at this
theorem oS {N:bt} {f s:List Int} (hf:aT N f) (hc:oh N f s) {j:Nat} {a:dQ} (ha:N.arcs[j]?=some a) (h:1≤f.getD j 0) (hin:a.to∈s):a.fr∈s:=by
 have hj:=(List.getElem?_eq_some_iff.1 ha).1
 have hl:=hf.len
 have hx:f[j]?=some (f.getD j 0):=by rw[List.getD_eq_getElem?_getD,List.getElem?_eq_getElem (by omega)];rfl
 obtain⟨_,g2⟩:=dl (dr ha hx)
 have he:cL N (2*j+1)=(a.to,a.fr):=by
  unfold cL
  rw[show (2*j+1)/2=j by omega,ha]
  simp only
  unfold dI
  rw[if_pos (by omega)]
 have:=hc (2*j+1) (by omega) (by rw[List.getD_eq_getElem?_getD,g2,Option.getD_some];exact h) (by rw[he];exact hin)
 rwa [he] at this
section
variable {g:Gr} {nl nr:Nat} {f:List Int}
theorem tv (hg:g.Right) (hf:aT (b5 g) f) (hl:g.left=nl) (hr:g.right=nr) {v:Nat} (h1:1≤v) (h2:v≤nl) (hno:¬ j6 g (·.l) (bX f nl g.edges.length) v):f.getD (v-1) 0=0:=by
 have hgl:=hg.left
 have hgr:=hg.right
 have hk:=hf.kept (2+v) (by show 1≤2+(v:Int)∧2+(v:Int)≤2+g.left+g.right;omega) (by show 2+(v:Int)≠1;omega) (by show 2+(v:Int)≠2;omega)
 rw[gQ] at hk
 obtain⟨z3,y3,_⟩:=fN hf (js (g:=g) hl (i:=v-1) (by omega))
 have hin:(pU (2+v) ((b5 g).arcs.zip f)).sum=f.getD (v-1) 0:=by
  rw[mE _ (v-1)]
  ·unfold pU
   rw[List.getD_eq_getElem?_getD,List.getElem?_map,z3]
   exact if_pos (by show 3+((v-1:Nat):Int)=2+v;omega)
  ·intro j x hx hne
   unfold pU at hx
   rw[List.getElem?_map] at hx
   cases hz:((b5 g).arcs.zip f)[j]? with
   |none=>rw[hz] at hx;simp at hx
   |some p=>
    rw[hz] at hx
    simp only[Option.map_some,Option.some.injEq] at hx
    rw[← hx]
    refine if_neg fun ht=>?_
    rcases hQ hl hr (gZ hz).1 with ⟨q1,q2⟩|⟨k',e',q1,q2,q3⟩|⟨i',q1,q2,q3⟩
    ·rw[q2] at ht;simp only at ht;omega
    ·rw[q3] at ht;simp only at ht
     have:=hg.edge e' (List.mem_of_getElem? q2)
     omega
    ·rw[q3] at ht;simp only at ht;omega
 have hout:(jv (2+v) ((b5 g).arcs.zip f)).sum=0:=by
  refine jb _ fun x hx=>?_
  obtain⟨j,hj,rfl⟩:=List.mem_iff_getElem.1 hx
  have hx':(jv (2+v) ((b5 g).arcs.zip f))[j]?=some _:=List.getElem?_eq_getElem hj
  unfold jv at hx'
  rw[List.getElem?_map] at hx'
  cases hz:((b5 g).arcs.zip f)[j]? with
  |none=>rw[hz] at hx';simp at hx'
  |some p=>
   rw[hz] at hx'
   simp only[Option.map_some,Option.some.injEq] at hx'
   unfold jv
   rw[← hx']
   by_cases ht:p.1.fr=2+v
   ·rw[if_pos ht]
    obtain⟨g1,g2⟩:=gZ hz
    rcases hQ hl hr g1 with ⟨q1,q2⟩|⟨k',e',q1,q2,q3⟩|⟨i',q1,q2,q3⟩
    ·rw[q2] at ht;simp only at ht;omega
    ·rw[q3] at ht;simp only at ht
     have hp:=hf.all p (List.mem_of_getElem? hz)
     refine Classical.byContradiction fun h0=>hno ⟨k',ek.2 ⟨k',(List.getElem?_eq_some_iff.1 q2).1,?_,rfl⟩,e',by rw[Int.toNat_natCast];exact q2,by show e'.l=_;omega⟩
     rw[← q1,g2];omega
    ·rw[q3] at ht;simp only at ht;omega
   ·exact if_neg ht
 omega
theorem ri (hg:g.Right) (hf:aT (b5 g) f) (hl:g.left=nl) (hr:g.right=nr) {w:Nat} (h1:1≤w) (h2:w≤nr) (hno:¬ j6 g (·.r) (bX f nl g.edges.length) w):f.getD (nl+g.edges.length+(w-1)) 0=0:=by
 have hgl:=hg.left
 have hgr:=hg.right
 have hk:=hf.kept (2+g.left+w) (by show 1≤2+g.left+(w:Int)∧2+g.left+(w:Int)≤2+g.left+g.right;omega) (by show 2+g.left+(w:Int)≠1;omega) (by show 2+g.left+(w:Int)≠2;omega)
 rw[gQ] at hk
 obtain⟨z3,y3,_⟩:=fN hf (jm (g:=g) hl hr (i:=w-1) (by omega))
 have hout:(jv (2+g.left+w) ((b5 g).arcs.zip f)).sum=f.getD (nl+g.edges.length+(w-1)) 0:=by
  rw[mE _ (nl+g.edges.length+(w-1))]
  ·unfold jv
   rw[List.getD_eq_getElem?_getD,List.getElem?_map,z3]
   exact if_pos (by show 3+g.left+((w-1:Nat):Int)=2+g.left+w;omega)
  ·intro j x hx hne
   unfold jv at hx
   rw[List.getElem?_map] at hx
   cases hz:((b5 g).arcs.zip f)[j]? with
   |none=>rw[hz] at hx;simp at hx
   |some p=>
    rw[hz] at hx
    simp only[Option.map_some,Option.some.injEq] at hx
    rw[← hx]
    refine if_neg fun ht=>?_
    rcases hQ hl hr (gZ hz).1 with ⟨q1,q2⟩|⟨k',e',q1,q2,q3⟩|⟨i',q1,q2,q3⟩
    ·rw[q2] at ht;simp only at ht;omega
    ·rw[q3] at ht;simp only at ht
     have:=hg.edge e' (List.mem_of_getElem? q2)
     omega
    ·rw[q3] at ht;simp only at ht;omega
 have hin:(pU (2+g.left+w) ((b5 g).arcs.zip f)).sum=0:=by
  refine jb _ fun x hx=>?_
  obtain⟨j,hj,rfl⟩:=List.mem_iff_getElem.1 hx
  have hx':(pU (2+g.left+w) ((b5 g).arcs.zip f))[j]?=some _:=List.getElem?_eq_getElem hj
  unfold pU at hx'
  rw[List.getElem?_map] at hx'
  cases hz:((b5 g).arcs.zip f)[j]? with
  |none=>rw[hz] at hx';simp at hx'
  |some p=>
   rw[hz] at hx'
   simp only[Option.map_some,Option.some.injEq] at hx'
   unfold pU
   rw[← hx']
   by_cases ht:p.1.to=2+g.left+w
   ·rw[if_pos ht]
    obtain⟨g1,g2⟩:=gZ hz
    rcases hQ hl hr g1 with ⟨q1,q2⟩|⟨k',e',q1,q2,q3⟩|⟨i',q1,q2,q3⟩
    ·rw[q2] at ht;simp only at ht;omega
    ·rw[q3] at ht;simp only at ht
     have hp:=hf.all p (List.mem_of_getElem? hz)
     refine Classical.byContradiction fun h0=>hno ⟨k',ek.2 ⟨k',(List.getElem?_eq_some_iff.1 q2).1,?_,rfl⟩,e',by rw[Int.toNat_natCast];exact q2,by show e'.r=_;omega⟩
     rw[← q1,g2];omega
    ·rw[q3] at ht;simp only at ht;omega
   ·exact if_neg ht
 omega
theorem n9 (hg:g.Right) (hf:lR (b5 g) f) (hl:g.left=nl) (hr:g.right=nr):∀ w,gP g (bX f nl g.edges.length) w→j6 g (·.r) (bX f nl g.edges.length) w:=by
 have hgl:=hg.left
 have hgr:=hg.right
 have hM:=mN hg hf.1 hl hr
 obtain⟨s,hs,hc⟩:=vw (fU hg) hf
 have hsrc:(1:Int)∈s:=hs.src
 have hsnk:(2:Int)∉s:=hs.snk
 -- an edge out of a node that is come to
 have edge:∀ e∈g.edges,2+e.l∈s→(∀ x∈bX f nl g.edges.length,∀ a,g.edges[x.toNat]?=some a→a.l=e.l→2+g.left+a.r∈s)→2+g.left+e.r∈s:=by
  intro e he hin hp
  obtain⟨k,hk,rfl⟩:=List.mem_iff_getElem.1 he
  have hke:g.edges[k]?=some g.edges[k]:=List.getElem?_eq_getElem hk
  by_cases h0:0<f.getD (nl+k) 0
  ·exact hp k (ek.2 ⟨k,hk,h0,rfl⟩) g.edges[k] (by rw[Int.toNat_natCast];exact hke) rfl
  ·exact jP hf.1 hc (gT hl hke) (by show f.getD (nl+k) 0+1≤1;omega) hin
 have key:∀ v,gI g (bX f nl g.edges.length) v→(1≤v∧v≤nl)∧2+(v:Int)∈s∧∀ x∈bX f nl g.edges.length,∀ a,g.edges[x.toNat]?=some a→a.l=v→2+g.left+a.r∈s:=by
  intro v hv
  induction hv with
  |free v h1 h2 hno=>
   refine⟨⟨h1,by omega⟩,?_,fun x hx a ha hal=>absurd ⟨x,hx,a,ha,hal⟩ hno⟩
   have h0:=tv hg hf.1 hl hr h1 (by omega) hno
   have:=jP hf.1 hc (js (g:=g) hl (i:=v-1) (by omega)) (by show f.getD (v-1) 0+1≤1;omega) hsrc
   rwa [show (3:Int)+((v-1:Nat):Int)=2+v by omega] at this
  |step e a x _ he hx ha har ih=>
   have hb:=hg.edge e he
   have hab:=hg.edge a (List.mem_of_getElem? ha)
   obtain⟨_,ih1,ih2⟩:=ih
   have her:=edge e he (by rwa [show ((e.l.toNat:Nat):Int)=e.l by omega] at ih1) fun y hy b hb' hbl=>ih2 y hy b hb' (by omega)
   obtain⟨k,hk,hpos,rfl⟩:=ek.1 hx
   rw[Int.toNat_natCast] at ha
   have hlin:=oS hf.1 hc (gT hl ha) (by omega) (by show 2+g.left+a.r∈s;rw[har];exact her)
   refine⟨by omega,by rw[show ((a.l.toNat:Nat):Int)=a.l by omega];exact hlin,fun y hy b hb' hbl=>?_⟩
   have hyk:y=(k:Int):=mi hM hy hx hb' (by rw[Int.toNat_natCast];exact ha) (.inl (by omega))
   rw[hyk,Int.toNat_natCast,ha] at hb'
   rw[← Option.some.inj hb',har]
   exact her
 rintro w ⟨e,he,hal,her⟩
 have hb:=hg.edge e he
 obtain⟨_,k1,k2⟩:=key _ hal
 have hw:=edge e he (by rwa [show ((e.l.toNat:Nat):Int)=e.l by omega] at k1) fun y hy b hb' hbl=>k2 y hy b hb' (by omega)
 refine Classical.byContradiction fun hno=>hsnk ?_
 have h0:=ri hg hf.1 hl hr (w:=w) (by omega) (by omega) hno
 exact jP hf.1 hc (jm (g:=g) hl hr (i:=w-1) (by omega)) (by show f.getD (nl+g.edges.length+(w-1)) 0+1≤1;omega) (by show 3+g.left+((w-1:Nat):Int)∈s;rwa [show 3+g.left+((w-1:Nat):Int)=2+g.left+e.r by omega])
end
end Go.Proofs.YtpbmihpjgjbndaaGreat
