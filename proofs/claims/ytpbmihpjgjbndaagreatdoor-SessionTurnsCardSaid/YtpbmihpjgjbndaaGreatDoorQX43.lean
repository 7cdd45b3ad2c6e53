/- The engine and the words that all chapters share: several texts in one. -/
import Derived.Test.YtpbmihpjgjbndaaGreatDoorTextP
import Derived.Lib.ItoaNum
import Derived.Test.YtpbmihpjgjbndaaGreatDoorQB
import Derived.Laws.Concat
import Derived.Laws.Strings
import Derived.Laws.Strings2
import Derived.Laws.Slices
/- More of lines, words and numbers, in plain words. -/
set_option linter.unusedVariables false
set_option linter.unusedSimpArgs false
namespace Go.Proofs.YtpbmihpjgjbndaaGreatDoor
open Go.Lib
/-! ### Digits -/
theorem tg {u:Nat} (h:u<10):decDigits u=[UInt8.ofNat (48+u)]:=by rw[decDigits,dif_pos h]
theorem sB {u:Nat} (h:10≤u):decDigits u=decDigits (u/10)++[UInt8.ofNat (48+u%10)]:=by rw[decDigits,dif_neg (by omega)]
theorem rd {P:Nat→Prop} (h1:∀ u,u<10→P u) (h2:∀ u,10≤u→P (u/10)→P u) (u:Nat):P u:=by
 induction u using Nat.strongRecOn with
 |_ u ih=>
  by_cases h:u<10
  ·exact h1 u h
  ·exact h2 u (by omega) (ih _ (by omega))
theorem wg (acc:Nat) (l m:List UInt8):fv acc (l++m)=fv (fv acc l) m:=by unfold fv;rw[List.foldl_append]
theorem me {k:Nat} (h:k<10):(UInt8.ofNat (48+k)).toNat=48+k:=by
 rw[UInt8.toNat_ofNat'];omega
theorem wO (u:Nat):fv 0 (decDigits u)=u:=by
 induction u using rd with
 |h1 u h=>rw[tg h];show 0*10+((UInt8.ofNat (48+u)).toNat-48)=u;rw[me h];omega
 |h2 u h ih=>rw[sB h,wg,ih];show u/10*10+((UInt8.ofNat (48+u%10)).toNat-48)=u;rw[me (by omega)];omega
theorem oL (u:Nat):(decDigits u).all lC=true:=by
 induction u using rd with
 |h1 u h=>rw[tg h];simp only[List.all_cons,List.all_nil,Bool.and_true];unfold lC;rw[me h];simp;omega
 |h2 u h ih=>rw[sB h,List.all_append,ih];simp only[List.all_cons,List.all_nil,Bool.and_true,Bool.true_and];unfold lC;rw[me (by omega)];simp;omega
theorem pO (u:Nat):decDigits u≠[]:=by
 by_cases h:u<10
 ·rw[tg h];simp
 ·rw[sB (by omega)];simp
theorem qc (u:Nat):∀ k,u<10^k→1≤k→(decDigits u).length≤k:=by
 induction u using rd with
 |h1 u h=>intro k _ hk;rw[tg h];simpa using hk
 |h2 u h ih=>
  intro k hk h1
  match k,h1 with
  |1,_=>omega
  |k+2,_=>
   rw[sB h,List.length_append]
   have:=ih (k+1) (by rw[Nat.pow_succ] at hk;omega) (by omega)
   simp;omega
theorem wY (n:Int) (h:-9223372036854775808≤n∧n≤9223372036854775807):1≤(itoa n).length∧(itoa n).length≤20:=by
 unfold itoa
 by_cases hn:n<0
 ·rw[if_pos hn]
  have:=qc n.natAbs 19 (by omega) (by omega)
  simp;omega
 ·rw[if_neg hn]
  have:=qc n.toNat 19 (by omega) (by omega)
  have:=List.length_pos_iff.2 (pO n.toNat)
  omega
theorem mM (n:Int) (h:-9223372036854775808≤n∧n≤9223372036854775807):dj (itoa n)=(n,0):=by
 unfold itoa
 by_cases hn:n<0
 ·rw[if_pos hn]
  unfold dj
  simp only[List.head?_cons,↓reduceIte,List.drop_succ_cons,List.drop_zero]
  rw[if_neg (by rw[oL];simp[pO]),wO,if_pos (by omega)]
  simp;omega
 ·rw[if_neg hn]
  have h45:¬ (decDigits n.toNat).head?=some 45:=by
   intro e
   have h1:=oL n.toNat
   cases hd:decDigits n.toNat with
   |nil=>exact pO _ hd
   |cons b r=>
    rw[hd] at e h1
    simp only[List.head?_cons,Option.some.injEq] at e
    subst e
    rw[List.all_cons,Bool.and_eq_true] at h1
    exact absurd h1.1 (by decide)
  unfold dj
  simp only
  rw[if_neg h45,if_neg h45,if_neg (by rw[oL];simp[pO]),wO,if_pos (by omega)]
  simp;omega
theorem gj (c:UInt8):∀ (l cur:List UInt8),(bD c cur l).length=l.count c+1
 |[],cur=>rfl
 |b::l,cur=>by
  unfold bD
  by_cases h:b=c
  ·rw[if_pos h,List.length_cons,gj c l [],h,List.count_cons_self]
  ·rw[if_neg h,gj c l _,List.count_cons_of_ne (fun e=>h e)]
theorem gi (c:UInt8):∀ (l cur r:List UInt8),bD c cur (l++c::r)=bD c cur l++bD c [] r
 |[],cur,r=>by simp[bD]
 |b::l,cur,r=>by
  rw[List.cons_append]
  have e1:bD c cur (b::(l++c::r))=if b=c then cur::bD c [] (l++c::r) else bD c (cur++[b]) (l++c::r):=rfl
  have e2:bD c cur (b::l)=if b=c then cur::bD c [] l else bD c (cur++[b]) l:=rfl
  rw[e1,e2]
  by_cases h:b=c
  ·rw[if_pos h,if_pos h,gi c l [] r];rfl
  ·rw[if_neg h,if_neg h,gi c l _ r]
theorem tu (c:UInt8) (m:List UInt8):trimSuffix (m++[c]) [c]=m:=by
 unfold trimSuffix hasSuffix
 have:([c]:List UInt8).isSuffixOf (m++[c])=true:=List.isSuffixOf_iff_suffix.2 ⟨m,rfl⟩
 rw[if_pos this]
 simp
theorem uT {c:UInt8} {l:List UInt8} (h:l.getLast?≠some c):trimSuffix l [c]=l:=by
 unfold trimSuffix hasSuffix
 rw[if_neg]
 intro e
 obtain⟨m,rfl⟩:=List.isSuffixOf_iff_suffix.1 e
 exact h (by simp)
theorem fJ (m:List UInt8):aY (m++[10])=bD 10 [] m:=by
 unfold aY
 rw[if_neg (by simp),tu]
theorem lB {l:List UInt8} (hne:l≠[]) (h:l.getLast?≠some 10):aY l=bD 10 [] l:=by
 unfold aY
 rw[if_neg hne,uT h]
theorem mt (l:List UInt8) (c:UInt8):l=[]∨(∃ m,l=m++[c])∨(l≠[]∧l.getLast?≠some c):=by
 by_cases h:l=[]
 ·exact .inl h
 ·by_cases h2:l.getLast?=some c
  ·exact .inr (.inl ⟨_,(List.getLast?_eq_some_iff.1 h2).choose_spec⟩)
  ·exact .inr (.inr ⟨h,h2⟩)
theorem tq (s t:List UInt8):aY (s++10::t)=aY (s++[10])++aY t:=by
 rw[fJ]
 rcases mt t 10 with rfl|⟨m,rfl⟩|⟨h1,h2⟩
 ·rw[fJ];simp[aY]
 ·rw[fJ,show s++10::(m++[10])=(s++10::m)++[10] by simp,fJ,gi]
 ·have hl:(s++10::t).getLast?=t.getLast?:=by
   rw[show s++10::t=(s++[10])++t by simp,List.getLast?_append]
   cases ht:t.getLast? with
   |none=>exact absurd (List.getLast?_eq_none_iff.1 ht) h1
   |some x=>rfl
  rw[lB h1 h2,lB (by simp) (by rw[hl];exact h2),gi]
theorem ui (l:List UInt8):(aY l).length=l.count 10+(if l≠[]∧l.getLast?≠some 10 then 1 else 0):=by
 rcases mt l 10 with rfl|⟨m,rfl⟩|⟨h1,h2⟩
 ·rfl
 ·rw[fJ,gj,if_neg (by simp),List.count_append];simp
 ·rw[lB h1 h2,gj,if_pos ⟨h1,h2⟩]
theorem ja {b:UInt8} (hb:l5 b=true):∀ (s cur t:List UInt8),bP cur (s++b::t)=bP cur s++bP [] t
 |[],cur,t=>by
  rw[List.nil_append,bP,bP,if_pos hb]
  by_cases h:cur=[]
  ·rw[if_pos h,if_pos h];rfl
  ·rw[if_neg h,if_neg h];rfl
 |x::s,cur,t=>by
  rw[List.cons_append,bP,bP]
  by_cases hx:l5 x=true
  ·rw[if_pos hx,if_pos hx,ja hb s [] t]
   by_cases h:cur=[]
   ·rw[if_pos h,if_pos h]
   ·rw[if_neg h,if_neg h];rfl
  ·rw[if_neg hx,if_neg hx,ja hb s _ t]
theorem gV {b:UInt8} (hb:l5 b=true) (s t:List UInt8):bx (s++b::t)=bx s++bx t:=ja hb s [] t
end Go.Proofs.YtpbmihpjgjbndaaGreatDoor
/- What a text of a network says: line by line. -/
set_option linter.unusedVariables false
set_option linter.unusedSimpArgs false
namespace Go.Proofs.YtpbmihpjgjbndaaGreatDoor
def bd:List (List UInt8)→List Int×Int
 |[]=>([],0)
 |w::r=>if (dj w).2≠0 then ([],(dj w).2) else if (bd r).2≠0 then ([],(bd r).2) else ((dj w).1::(bd r).1,0)
theorem p5:∀ {ws:List (List UInt8)},(∀ w∈ws,(dj w).2=0)→bd ws=(ws.map fun w=>(dj w).1,0)
 |[],_=>rfl
 |w::r,h=>by
  have ih:=p5 (ws:=r) fun x hx=>h x (by simp[hx])
  unfold bd
  rw[if_neg (fun k=>k (h w (by simp))),ih,if_neg (fun k=>k rfl)]
  rfl
theorem nY:∀ {ws:List (List UInt8)} {k:Nat} {w:List UInt8},ws[k]?=some w→(∀ j x,j<k→ws[j]?=some x→(dj x).2=0)→(dj w).2≠0→bd ws=([],(dj w).2)
 |[],k,w,h,_,_=>by simp at h
 |x::r,0,w,h,_,he=>by
  simp only[List.getElem?_cons_zero,Option.some.injEq] at h
  subst h
  unfold bd
  rw[if_pos he]
 |x::r,k+1,w,h,hb,he=>by
  have ih:=nY (ws:=r) (k:=k) (w:=w) (by simpa using h) (fun j y hj hy=>hb (j+1) y (by omega) (by simpa using hy)) he
  unfold bd
  rw[if_neg (fun q=>q (hb 0 x (by omega) rfl)),ih,if_pos he]
theorem kU {ws:List (List UInt8)} (h:(bd ws).2=0):(bd ws).1.length=ws.length∧∀ w∈ws,(dj w).2=0:=by
 induction ws with
 |nil=>exact⟨rfl,fun w hw=>absurd hw List.not_mem_nil⟩
 |cons w r ih=>
  unfold bd at h ⊢
  by_cases h1:(dj w).2≠0
  ·rw[if_pos h1] at h;exact absurd h h1
  ·rw[if_neg h1] at h ⊢
   by_cases h2:(bd r).2≠0
   ·rw[if_pos h2] at h;exact absurd h h2
   ·rw[if_neg h2] at h ⊢
    obtain⟨e,hr⟩:=ih (Classical.not_not.1 h2)
    refine⟨by simp[e],fun x hx=>?_⟩
    rcases List.mem_cons.1 hx with rfl|hx
    ·exact Classical.not_not.1 h1
    ·exact hr x hx
theorem za (l:List UInt8):-9223372036854775808≤(dj l).1∧(dj l).1≤9223372036854775807:=by
 unfold dj
 simp only
 by_cases h1:l.head?=some 45
 ·rw[if_pos h1,if_pos h1]
  split
  ·decide
  ·split
   ·simp only;omega
   ·decide
 ·rw[if_neg h1,if_neg h1]
  split
  ·decide
  ·split
   ·simp only;omega
   ·decide
theorem oH {ws:List (List UInt8)}:∀ n∈(bd ws).1,cL n:=by
 induction ws with
 |nil=>exact fun n hn=>absurd hn List.not_mem_nil
 |cons w r ih=>
  intro n hn
  unfold bd at hn
  split at hn
  ·exact absurd hn List.not_mem_nil
  ·split at hn
   ·exact absurd hn List.not_mem_nil
   ·rcases List.mem_cons.1 hn with rfl|hn
    ·exact za w
    ·exact ih n hn
structure Rd where
 nodes:Int
 src:Int
 snk:Int
 arcs:List dG
 most:Int
 sum:Int
abbrev Ws:=List (List UInt8)
def Rd.problem (r:Rd) (w:Ws):Rd×Int:=
 if w.length≠4∨w[1]?≠some [109,97,120]∨r.most≠-1 then (r,2) else
 if (bd (w.drop 2)).2≠0 then (r,(bd (w.drop 2)).2) else
 if (bd (w.drop 2)).1.getD 0 0<2∨500<(bd (w.drop 2)).1.getD 0 0∨(bd (w.drop 2)).1.getD 1 0<0∨2000<(bd (w.drop 2)).1.getD 1 0 then (r,3) else
 ({ r with nodes:=(bd (w.drop 2)).1.getD 0 0,most:=(bd (w.drop 2)).1.getD 1 0 },0)
def Rd.end_ (r:Rd) (w:Ws):Rd×Int:=
 if w.length≠3∨r.most=-1∨r.arcs≠[] then (r,2) else
 if w[2]?=some [115] then
  (if r.src≠0 then (r,2) else if (bd [w.getD 1 []]).2≠0 then (r,(bd [w.getD 1 []]).2) else
   if ¬ (1≤(bd [w.getD 1 []]).1.getD 0 0∧(bd [w.getD 1 []]).1.getD 0 0≤r.nodes) then (r,4) else
   if (bd [w.getD 1 []]).1.getD 0 0=r.src∨(bd [w.getD 1 []]).1.getD 0 0=r.snk then (r,5) else ({ r with src:=(bd [w.getD 1 []]).1.getD 0 0 },0))
 else if w[2]?=some [116] then
  (if r.snk≠0 then (r,2) else if (bd [w.getD 1 []]).2≠0 then (r,(bd [w.getD 1 []]).2) else
   if ¬ (1≤(bd [w.getD 1 []]).1.getD 0 0∧(bd [w.getD 1 []]).1.getD 0 0≤r.nodes) then (r,4) else
   if (bd [w.getD 1 []]).1.getD 0 0=r.src∨(bd [w.getD 1 []]).1.getD 0 0=r.snk then (r,5) else ({ r with snk:=(bd [w.getD 1 []]).1.getD 0 0 },0))
 else (r,2)
def Rd.arc (r:Rd) (w:Ws):Rd×Int:=
 if w.length≠4∨r.src=0∨r.snk=0 then (r,2) else
 if (bd (w.drop 1)).2≠0 then (r,(bd (w.drop 1)).2) else
 if ¬ (1≤(bd (w.drop 1)).1.getD 0 0∧(bd (w.drop 1)).1.getD 0 0≤r.nodes)∨¬ (1≤(bd (w.drop 1)).1.getD 1 0∧(bd (w.drop 1)).1.getD 1 0≤r.nodes) then (r,4) else
 if (bd (w.drop 1)).1.getD 2 0<0 then (r,3) else
 if (r.arcs.length:Int)=r.most then (r,6) else
 if 4611686018427387903<r.sum+(bd (w.drop 1)).1.getD 2 0 then (r,7) else
 ({ r with sum:=r.sum+(bd (w.drop 1)).1.getD 2 0,arcs:=r.arcs++[⟨(bd (w.drop 1)).1.getD 0 0,(bd (w.drop 1)).1.getD 1 0,(bd (w.drop 1)).1.getD 2 0⟩] },0)
def Rd.line (r:Rd) (w:Ws):Rd×Int:=
 match w with
 |[]=>(r,0)
 |x::_=>if x=[99] then (r,0) else if x=[112] then r.problem w else if x=[110] then r.end_ w else if x=[97] then r.arc w else (r,2)
structure Rd.OK (r:Rd):Prop where
 none:r.most=-1→r.arcs=[]∧r.src=0∧r.snk=0∧r.nodes=0
 some:r.most≠-1→(2≤r.nodes∧r.nodes≤500)∧0≤r.most∧r.most≤2000∧(r.arcs.length:Int)≤r.most
 src:r.src=0∨(1≤r.src∧r.src≤r.nodes)
 snk:r.snk=0∨(1≤r.snk∧r.snk≤r.nodes)
 diff:r.src=r.snk→r.src=0
 arc:∀ a∈r.arcs,(1≤a.fr∧a.fr≤r.nodes)∧(1≤a.to∧a.to≤r.nodes)∧0≤a.cap
 sum:(r.arcs.map (·.cap)).sum=r.sum
 most_le:r.sum≤4611686018427387903
theorem pa:∀ {l:List Int},(∀ x∈l,0≤x)→0≤l.sum
 |[],_=>by simp
 |x::l,h=>by
  have:=pa (l:=l) fun y hy=>h y (by simp[hy])
  have:=h x (by simp)
  rw[List.sum_cons];omega
theorem Rd.OK.sum_ge {r:Rd} (h:r.OK):0≤r.sum:=by
 rw[← h.sum]
 exact pa fun x hx=>by
  obtain⟨a,ha,rfl⟩:=List.mem_map.1 hx
  exact (h.arc a ha).2.2
theorem Rd.OK.len {r:Rd} (h:r.OK):r.arcs.length≤2000:=by
 by_cases hm:r.most=-1
 ·rw[(h.none hm).1];simp
 ·have:=h.some hm;omega
theorem Rd.OK.problem {r:Rd} (h:r.OK) (w:Ws):(r.problem w).1.OK:=by
 unfold Rd.problem
 split
 ·exact h
 ·rename_i h1
  split
  ·exact h
  ·split
   ·exact h
   ·rename_i h2 h3
    have hm:r.most=-1:=Classical.byContradiction fun k=>h1 (.inr (.inr k))
    obtain⟨e1,e2,e3,e4⟩:=h.none hm
    refine⟨fun k=>?_,fun _=>⟨⟨by simp only;omega,by simp only;omega⟩,by simp only;omega,by simp only;omega,?_⟩,.inl e2,.inl e3,fun _=>e2,fun a ha=>?_,h.sum,h.most_le⟩
    ·have k':(bd (w.drop 2)).1.getD 1 0=-1:=k
     omega
    ·show (r.arcs.length:Int)≤(bd (w.drop 2)).1.getD 1 0
     rw[e1]
     show (0:Int)≤_
     omega
    ·simp only at ha;rw[e1] at ha;exact absurd ha List.not_mem_nil
theorem Rd.OK.end_ {r:Rd} (h:r.OK) (w:Ws):(r.end_ w).1.OK:=by
 unfold Rd.end_
 split
 ·exact h
 ·rename_i h1
  have hm:r.most≠-1:=fun k=>h1 (.inr (.inl k))
  split
  ·split
   ·exact h
   ·split
    ·exact h
    ·split
     ·exact h
     ·split
      ·exact h
      ·rename_i h2 h3 h4 h5
       have h4':=Classical.not_not.1 h4
       exact⟨fun k=>absurd k hm,h.some,.inr h4',h.snk,fun k=>absurd (.inr k) h5,h.arc,h.sum,h.most_le⟩
  ·split
   ·split
    ·exact h
    ·split
     ·exact h
     ·split
      ·exact h
      ·split
       ·exact h
       ·rename_i h2 h3 h4 h5
        have h4':=Classical.not_not.1 h4
        exact⟨fun k=>absurd k hm,h.some,h.src,.inr h4',fun k=>absurd (.inl k.symm) h5,h.arc,h.sum,h.most_le⟩
   ·exact h
theorem Rd.OK.arc_ {r:Rd} (h:r.OK) (w:Ws):(r.arc w).1.OK:=by
 unfold Rd.arc
 split
 ·exact h
 ·rename_i h1
  split
  ·exact h
  ·split
   ·exact h
   ·split
    ·exact h
    ·split
     ·exact h
     ·split
      ·exact h
      ·rename_i h2 h3 h4 h5 h6
       have hm:r.most≠-1:=fun k=>h1 (.inr (.inl (h.none k).2.1))
       have h7:=h.some hm
       have h3a:=Classical.not_not.1 (fun k=>h3 (.inl k))
       have h3b:=Classical.not_not.1 (fun k=>h3 (.inr k))
       refine⟨fun k=>absurd k hm,fun _=>⟨h7.1,h7.2.1,h7.2.2.1,?_⟩,h.src,h.snk,h.diff,fun a ha=>?_,?_,by simp only;omega⟩
       ·simp only[List.length_append,List.length_cons,List.length_nil];omega
       ·rcases List.mem_append.1 ha with ha|ha
        ·exact h.arc a ha
        ·obtain rfl:=List.mem_singleton.1 ha
         exact⟨h3a,h3b,by simp only;omega⟩
       ·simp only[List.map_append,List.sum_append,h.sum];simp
theorem Rd.OK.line {r:Rd} (h:r.OK) (w:Ws):(r.line w).1.OK:=by
 unfold Rd.line
 split
 ·exact h
 ·split
  ·exact h
  ·split
   ·exact h.problem _
   ·split
    ·exact h.end_ _
    ·split
     ·exact h.arc_ _
     ·exact h
def l7:Rd:=⟨0,0,0,[],-1,0⟩
theorem y0:l7.OK:=⟨fun _=>⟨rfl,rfl,rfl,rfl⟩,fun h=>absurd rfl h,.inl rfl,.inl rfl,fun _=>rfl,fun a ha=>absurd ha List.not_mem_nil,rfl,by decide⟩
def eq (r:Rd) (i:Nat):List (List UInt8)→Rd×Nat×Int
 |[]=>(r,0,0)
 |x::ls=>if (r.line (bx x)).2≠0 then (r,i+1,(r.line (bx x)).2) else eq (r.line (bx x)).1 (i+1) ls
def lY:bc:=⟨0,0,0,[]⟩
def eg (s:List UInt8):bc×Nat×Int:=
 if (eq l7 0 (aY s)).2.2≠0 then (lY,(eq l7 0 (aY s)).2.1,(eq l7 0 (aY s)).2.2) else
 if (eq l7 0 (aY s)).1.most=-1∨(eq l7 0 (aY s)).1.src=0∨(eq l7 0 (aY s)).1.snk=0 then (lY,(aY s).length+1,2) else
 if ((eq l7 0 (aY s)).1.arcs.length:Int)<(eq l7 0 (aY s)).1.most then (lY,(aY s).length+1,6) else
 (⟨(eq l7 0 (aY s)).1.nodes,(eq l7 0 (aY s)).1.src,(eq l7 0 (aY s)).1.snk,(eq l7 0 (aY s)).1.arcs⟩,0,0)
end Go.Proofs.YtpbmihpjgjbndaaGreatDoor
/- Texts in the engine: strings as rows of bytes, and contracts of the library as promises. -/
set_option linter.unusedVariables false
set_option linter.unusedSimpArgs false
namespace Go.Proofs.YtpbmihpjgjbndaaGreatDoor
open Go.RowKit
def eN (l:List UInt8):Value:=.string ⟨l.toArray⟩
theorem cN (l:List UInt8):(⟨l.toArray⟩:ByteArray).size=l.length:=by show l.toArray.size=_;simp
theorem ky (l:List UInt8):(⟨l.toArray⟩:ByteArray).toList=l:=by rw[ByteArray.toList_eq]
theorem iO (l m:List UInt8):((⟨l.toArray⟩:ByteArray).toList==(⟨m.toArray⟩:ByteArray).toList)=dv (l=m):=by
 rw[ky,ky]
 by_cases h:l=m
 ·rw[aA h,h];simp
 ·rw[aB h];simpa using h
section
variable {X:Cx} {E:Env} {H:Heap}
theorem kB {o:Oper} {t t':Nat} {x y:Operand} {l m:List UInt8} (ho:o.op=.binOp .add t x y t') (hx:val E x=some (eN l)) (hy:val E y=some (eN m)) (h:l.length+m.length≤9223372036854775807):ib X o E H (eN (l++m)):=by
 intro a w hA hH
 have h1:=run_string_add_sum (P:=Tryz.prog) (w:=w) ⟨l.toArray⟩ ⟨m.toArray⟩ (by rw[cN,cN];exact h)
 have e:(⟨l.toArray⟩:ByteArray)++⟨m.toArray⟩=⟨(l++m).toArray⟩:=by
  apply ByteArray.ext
  rw[ByteArray.data_append]
  simp
 rw[e] at h1
 unfold eN at*
 simp[execOp,ho,hA.val hx,hA.val hy,lS,h1,binOp]
theorem sG {o:Oper} {t t':Nat} {x y:Operand} {l m:List UInt8} (ho:o.op=.binOp .eql t x y t') (hx:val E x=some (eN l)) (hy:val E y=some (eN m)):ib X o E H (.bool (dv (l=m))):=by
 have h:ib X o E H (.bool ((⟨l.toArray⟩:ByteArray).toList==(⟨m.toArray⟩:ByteArray).toList)):=hO (by rw[ho];simp only[l6,hx,hy,eN];rfl)
 rw[iO] at h
 exact h
theorem sr {o:Oper} {t t':Nat} {x y:Operand} {l m:List UInt8} (ho:o.op=.binOp .neq t x y t') (hx:val E x=some (eN l)) (hy:val E y=some (eN m)):ib X o E H (.bool (dv (l≠m))):=by
 have h:ib X o E H (.bool (!((⟨l.toArray⟩:ByteArray).toList==(⟨m.toArray⟩:ByteArray).toList))):=hO (by rw[ho];simp only[l6,hx,hy,eN];rfl)
 rw[iO] at h
 have e:(!(dv (l=m)))=dv (l≠m):=by
  by_cases h:l=m
  ·rw[aA h,aB (fun k=>k h)];rfl
  ·rw[aB h,aA h];rfl
 rw[e] at h
 exact h
theorem ie {o:Oper} {t s1 s2 i:Nat} {x ix:Operand} {l:List UInt8} {b:UInt8} {k:IntKind} {z:Option Value} (ho:o.op=.index t x ix) (hx:val E x=some (eN l)) (hi:val E ix=some (.int k (i:Int)))
 (ht:tab t=some ⟨.string,s1,s2,z⟩) (hb:l[i]?=some b):ib X o E H (.int .u8 (b.toNat:Int)):=by
 intro a w hA hH
 have hlt:=(List.getElem?_eq_some_iff.1 hb).1
 have hsz:=cN l
 have hg:(⟨l.toArray⟩:ByteArray)[i]?=some b:=by
  rw[getElem?_pos _ _ (by rw[hsz];exact hlt)]
  show some (l.toArray[i])=_
  rw[← hb,List.getElem?_eq_getElem hlt];simp
 unfold eN at hx
 simp[execOp,ho,hA.val hx,hA.val hi,Instr.index,asIntOf,run_underlying (ij ht),hg]
end
/-! ### Contracts as promises -/
theorem Fn.of_same {f:FuncId} {args:List Value} {H:Heap} {v:Value} {R:Value→Heap→Prop} (h:∀ w,Calls Tryz.prog f args.toArray w fun e w'=>e=.returned v∧w'=w) (hR:R v []):Fn f args [] H R:=fun w hw=>
 (h w).mono fun e w' ⟨he,hww⟩=>⟨v,[],he,(by subst hww;exact hw.mono (fun c hc=>by cases hc) List.Pairwise.nil),hR⟩
theorem jr {w w':World} {H:Heap} (hw:ci w [] w H) (hb:Below w.heap.size w w'):ci w [] w' []:=
 ⟨hb.os,hb.tape,hb.output,hb.size,fun k hk _=>hb.block k hk,fun c hc=>absurd hc List.not_mem_nil,fun c hc=>absurd hc List.not_mem_nil,List.Pairwise.nil⟩
theorem Fn.of_below {f:FuncId} {args:List Value} {H:Heap} {R:Value→Heap→Prop} (h:∀ w,ci w [] w H→Calls Tryz.prog f args.toArray w fun e w'=>∃ v,e=.returned v∧Below w.heap.size w w'∧R v []):Fn f args [] H R:=fun w hw=>
 (h w hw).mono fun e w' ⟨v,he,hb,hR⟩=>⟨v,[],he,jr hw hb,hR⟩
end Go.Proofs.YtpbmihpjgjbndaaGreatDoor
