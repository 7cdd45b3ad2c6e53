/- The engine and the words that all chapters share: several texts in one. -/
import Derived.Test.YtpbmihpjgjbndaaGreatQC
import Derived.Test.YtpbmihpjgjbndaaGreatQB
/- Cuts. -/
set_option linter.unusedVariables false
set_option linter.unusedSimpArgs false
namespace Go.Proofs.YtpbmihpjgjbndaaGreat
open Go.RowKit
def be (l:List Bool) (is:Bool) (k:Nat):List Int:=((List.range k).filter fun (v:Nat)=>decide (0<v∧l[v]?=some is)).map fun (v:Nat)=>(v:Int)
theorem gE (l:List Bool) (is:Bool) (k:Nat):be l is (k+1)=be l is k++(if 0<k∧l[k]?=some is then [(k:Int)] else []):=by
 unfold be
 rw[List.range_succ,List.filter_append,List.map_append]
 congr 1
 by_cases h:0<k∧l[k]?=some is<;>simp[h]
theorem gN (l:List Bool) (is:Bool) (k:Nat):(be l is k).length≤k:=by
 unfold be
 rw[List.length_map]
 exact Nat.le_trans (List.length_filter_le _ _) (by simp)
theorem dK {l:List Bool} {is:Bool} {k:Nat} {x:Int}:x∈be l is k↔∃ v:Nat,v<k∧0<v∧l[v]?=some is∧x=v:=by
 unfold be
 simp only[List.mem_map,List.mem_filter,List.mem_range,decide_eq_true_eq]
 constructor
 ·rintro⟨v,⟨h1,h2,h3⟩,rfl⟩;exact⟨v,h1,h2,h3,rfl⟩
 ·rintro⟨v,h1,h2,h3,rfl⟩;exact⟨v,⟨h1,h2,h3⟩,rfl⟩
end Go.Proofs.YtpbmihpjgjbndaaGreat
/- Chapter 14's networks of raw numbers. -/
set_option linter.unusedVariables false
set_option linter.unusedSimpArgs false
namespace Go.Proofs.YtpbmihpjgjbndaaGreat
open Go.RowKit
end Go.Proofs.YtpbmihpjgjbndaaGreat
/- Chapter 14's words: rows that hold a number, that are the same, and the example. -/
set_option linter.unusedVariables false
set_option linter.unusedSimpArgs false
namespace Go.Proofs.YtpbmihpjgjbndaaGreat
open Go.RowKit
theorem xk (A:Option Addr) (c b o:Nat) (l:List Int) (hA:l≠[]→A=some ⟨b,o,none⟩) (hl:l.length≤100000) (v:Int):
 Fn 35 [.slice A l.length c,.int .i64 v] [] [.seg b o (aw l)] fun u H'=>u=.bool (cU (v∈l))∧H'=[]:=by
 refine aM Tryz.func35 rfl rfl fun w0=>?_
 refine ae (aa (af [] rfl ?_))
 refine ae (ae (aa (af [] rfl ?_)))
 refine au ?_
 refine bu (σ:=Nat) (fun k=>[(5,.int .i64 k),(0,.slice A l.length c),(1,.int .i64 v)]) (fun k=>[.seg b o (aw l)]) (fun k=>k≤l.length∧∀ x∈l.take k,x≠v) (fun k=>l.length-k)
  0 [0] ⟨rfl,rfl,rfl,trivial⟩ (by decide) rfl ⟨Nat.zero_le _,fun x hx=>by simp at hx⟩ ?_
 rintro k ⟨hk,hall⟩
 refine ae (ae (aa (af [] rfl ?_)))
 refine aC rfl (fun hlt=>aq ?_) (fun hge=>aO ?_)
 ·have hlt:k<l.length:=by omega
  obtain rfl:=hA (by rintro rfl;simp at hlt)
  obtain⟨x,hx⟩:∃ x,l[k]?=some x:=⟨l[k],List.getElem?_eq_getElem hlt⟩
  refine ae (au ?_)
  refine ae (aa (ah [] rfl ?_))
  refine ab [] (cW rfl rfl rfl rfl rfl hlt) rfl ?_
  refine ab [] (aU 0 rfl rfl rfl rfl (aN hx)) rfl ?_
  refine af [] rfl ?_
  refine aC rfl (fun h=>?_) (fun h=>aq ?_)
  ·refine ae (aa (af [] rfl ?_))
   refine aE [] (by decide) rfl (aB ⟨_,rfl,congrArg Value.bool (az (by rw[← h];exact List.mem_of_getElem? hx)).symm,rfl⟩)
  ·skip
   refine aa (af [] rfl ?_)
   refine⟨k+1,[0],⟨?_,rfl,rfl,trivial⟩,by decide,rfl,⟨by omega,fun y hy=>?_⟩,by omega⟩
   ·show some (Value.int .i64 (IntKind.i64.wrap ((k:Int)+1)))=_
    rw[bK (by omega)];rfl
   ·rw[List.take_add_one,hx] at hy
    rcases List.mem_append.1 hy with hy|hy
    ·exact hall y hy
    ·simp at hy;rw[hy];exact h
 ·refine ae (aa (af [] rfl ?_))
  refine aE [] (by decide) rfl (aB ⟨_,rfl,congrArg Value.bool (aA (fun hm=>?_)).symm,rfl⟩)
  exact hall v (by rw[List.take_of_length_le (by omega)];exact hm) rfl
end Go.Proofs.YtpbmihpjgjbndaaGreat
/- Chapter 14's cuts of raw numbers. -/
set_option linter.unusedVariables false
set_option linter.unusedSimpArgs false
namespace Go.Proofs.YtpbmihpjgjbndaaGreat
open Go.RowKit
structure wO (N:bt) (s:List Int):Prop where
 rise:s.Pairwise (·<·)
 rng:∀ x∈s,1≤x∧x≤N.nodes
 src:N.src∈s
 snk:N.snk∉s
theorem kj {s:List Int} {v:Int} (h:s.Pairwise (·<·)) (hl:∀ x∈s,x<v):(s++[v]).Pairwise (·<·):=by
 rw[List.pairwise_append]
 exact⟨h,List.pairwise_singleton _ _,fun a ha b hb=>by rw[List.mem_singleton.1 hb];exact hl a ha⟩
end Go.Proofs.YtpbmihpjgjbndaaGreat
/- The arcs that cross a cut, and what they let through. -/
set_option linter.unusedVariables false
set_option linter.unusedSimpArgs false
namespace Go.Proofs.YtpbmihpjgjbndaaGreat
open Go.RowKit
def wJ (s:List Int):List (Int×Value):=s.map fun v=>(v,.bool true)
theorem jO:∀ (l:List Int),(∀ x∈l,0≤x)→0≤l.sum
 |[],_=>by simp
 |x::l,h=>by
  have:=jO l fun y hy=>h y (by simp[hy])
  have:=h x (by simp)
  simp only[List.sum_cons];omega
end Go.Proofs.YtpbmihpjgjbndaaGreat
/- Walks, and flows along them. -/
set_option linter.unusedVariables false
set_option linter.unusedSimpArgs false
namespace Go.Proofs.YtpbmihpjgjbndaaGreat
open Go.RowKit
theorem rt:∀ (al:List dQ) (f:List Int) (i:Nat) (a:dQ) (x m v:Int),al[i]?=some a→f[i]?=some x→
 ex (al.zip (f.set i (x+m))) v=ex (al.zip f) v+((if a.to=v then m else 0)-(if a.fr=v then m else 0))
 |[],_,_,_,_,_,_,h,_=>by simp at h
 |_::_,[],_,_,_,_,_,_,h=>by simp at h
 |b::al,y::f,0,a,x,m,v,ha,hx=>by
  simp only[List.getElem?_cons_zero,Option.some.injEq] at ha hx
  subst ha hx
  simp only[List.set_cons_zero,List.zip_cons_cons,ex,List.map_cons,List.sum_cons]
  split<;>split<;>omega
 |b::al,y::f,i+1,a,x,m,v,ha,hx=>by
  have:=rt al f i a x m v (by simpa using ha) (by simpa using hx)
  simp only[ex] at this
  simp only[List.set_cons_succ,List.zip_cons_cons,ex,List.map_cons,List.sum_cons]
  omega
theorem jH:∀ {l:List Int},(∀ x∈l,0≤x)→∀ {x},x∈l→x≤l.sum
 |[],_,_,h=>by cases h
 |y::l,h,x,hx=>by
  have h0:0≤l.sum:=by
   clear hx
   have h':∀ x∈l,0≤x:=fun x hx=>h x (by simp[hx])
   clear h
   induction l with
   |nil=>simp
   |cons z l ih=>
    have:=h' z (by simp)
    have:=ih (fun x hx=>h' x (by simp[hx]))
    rw[List.sum_cons];omega
  rw[List.sum_cons]
  rcases List.mem_cons.1 hx with rfl|hx
  ·omega
  ·have:=h y (by simp)
   have:=jH (fun x hx=>h x (by simp[hx])) hx
   omega
theorem bt.Right.cap {N:bt} (h:N.Right) {a:dQ} (ha:a∈N.arcs):a.cap≤4611686018427387903:=
 Int.le_trans (jH (l:=N.arcs.map (·.cap)) (fun x hx=>by obtain⟨b,hb,rfl⟩:=List.mem_map.1 hx;exact (h.arc b hb).2.2) (List.mem_map.2 ⟨a,ha,rfl⟩)) h.sum
theorem aT.inB {N:bt} (hR:N.Right) {f:List Int} (hf:Ranged N f):∀ x∈f,dw x:=by
 intro x hx
 obtain⟨j,hj,rfl⟩:=List.mem_iff_getElem.1 hx
 have hl:=hf.len
 have ha:N.arcs[j]?=some (N.arcs[j]'(by omega)):=List.getElem?_eq_getElem (by omega)
 have h2:=hf.all (N.arcs[j]'(by omega),f[j]) (List.mem_of_getElem? (List.getElem?_zip_eq_some.2 ⟨ha,List.getElem?_eq_getElem hj⟩))
 have h3:=hR.cap (List.mem_of_getElem? ha)
 simp only at h2
 unfold Go.Proofs.YtpbmihpjgjbndaaGreat.dw
 omega
theorem fT (N:bt) (hR:N.Right):aT N (List.replicate N.arcs.length 0):=by
 have hz:∀ (l:List dQ) (v:Int),ex (l.zip (List.replicate l.length 0)) v=0:=by
  intro l v
  induction l with
  |nil=>simp[ex]
  |cons a l ih=>
   simp only[ex] at ih
   simp only[ex,List.length_cons,List.replicate_succ,List.zip_cons_cons,List.map_cons,List.sum_cons,ih]
   split<;>split<;>rfl
 refine⟨⟨by simp,fun p hp=>?_⟩,fun v _ _ _=>hz _ _⟩
 obtain⟨h1,h2⟩:=List.of_mem_zip hp
 have:=(hR.arc p.1 h1).2.2
 have:=List.eq_of_mem_replicate h2
 omega
end Go.Proofs.YtpbmihpjgjbndaaGreat
/- Walks that block, in plain terms: the state of a search over lists of tracks, and what it keeps. -/
set_option linter.unusedVariables false
set_option linter.unusedSimpArgs false
namespace Go.Proofs.YtpbmihpjgjbndaaGreat
open Go.RowKit
def bU (N:bt) (r:Nat):Nat:=(cL N r).1.toNat
def cH (N:bt) (r:Nat):Nat:=(cL N r).2.toNat
theorem eD {N:bt} (hR:N.Right) {r:Nat} (hr:r<2*N.arcs.length):(cL N r).1=(bU N r:Int)∧1≤bU N r∧(bU N r:Int)≤N.nodes:=by
 have:=iP hR hr
 unfold bU;omega
theorem d6 {N:bt} (hR:N.Right) {r:Nat} (hr:r<2*N.arcs.length):(cL N r).2=(cH N r:Int)∧1≤cH N r∧(cH N r:Int)≤N.nodes:=by
 have:=iP hR hr
 unfold cH;omega
def bF (r:Nat):Nat:=if r%2=1 then r-1 else r+1
theorem iw (r:Nat):bF (bF r)=r:=by unfold bF;split<;>split<;>omega
theorem pO (r:Nat):bF r≠r:=by unfold bF;split<;>omega
theorem pD {r m:Nat} (h:r<2*m):bF r<2*m:=by unfold bF;split<;>omega
theorem qL (r:Nat):bF r/2=r/2:=by unfold bF;split<;>omega
theorem eU (N:bt) (r:Nat):bU N (bF r)=cH N r:=by
 unfold bU cH cL;rw[qL]
 cases N.arcs[r/2]? with
 |none=>rfl
 |some a=>
  show (dI a (bF r)).1.toNat=(dI a r).2.toNat
  unfold dI bF
  split<;>split<;>first|rfl|omega
theorem f6 (N:bt) (r:Nat):cH N (bF r)=bU N r:=by
 have:=eU N (bF r)
 rw[iw] at this;exact this.symm
def Tr (N:bt):Nat→List Nat→Nat→Prop
 |a,[],z=>a=z
 |a,r::W,z=>bU N r=a∧Tr N (cH N r) W z
theorem uA {N:bt} {r:Nat}:∀ {W:List Nat} {a:Nat},Tr N a W (bU N r)→Tr N a (W++[r]) (cH N r)
 |[],_,h=>⟨h.symm,rfl⟩
 |_::_,_,⟨h1,h2⟩=>⟨h1,uA h2⟩
theorem j8 {N:bt} {r z:Nat}:∀ {W:List Nat} {a:Nat},Tr N a (W++[r]) z→Tr N a W (bU N r)∧z=cH N r
 |[],_,⟨h1,h2⟩=>⟨h1.symm,h2.symm⟩
 |_::_,_,⟨h1,h2⟩=>⟨⟨h1,(j8 h2).1⟩,(j8 h2).2⟩
theorem oe {N:bt}:∀ {W:List Nat} {a z:Nat} (k:Nat),Tr N a W z→∃ y,Tr N a (W.take k) y
 |[],a,_,k,_=>⟨a,by rw[List.take_nil];exact rfl⟩
 |r::W,a,z,0,_=>⟨a,rfl⟩
 |r::W,a,z,k+1,⟨h1,h2⟩=>by obtain⟨y,hy⟩:=oe k h2;exact⟨y,h1,hy⟩
def cE (N:bt) (W:List Nat):Nat:=match W.getLast? with
 |none=>N.src.toNat
 |some r=>cH N r
theorem kl (N:bt) (W:List Nat) (r:Nat):cE N (W++[r])=cH N r:=by unfold cE;rw[List.getLast?_append];rfl
theorem nV {N:bt} {W:List Nat} {z:Nat} (h:Tr N N.src.toNat W z):z=cE N W:=by
 rcases List.eq_nil_or_concat W with rfl|⟨W0,r,rfl⟩
 ·exact h.symm
 ·rw[List.concat_eq_append] at h ⊢
  rw[(j8 h).2,kl]
structure ed (N:bt) (L:Nat→List Nat) (lv:Nat→Int):Prop where
 ok:∀ v r,r∈L v→r<2*N.arcs.length∧bU N r=v∧lv (cH N r)=lv v+1
 hi:∀ v,-1≤lv v∧lv v<N.nodes
theorem kz {N:bt} {L:Nat→List Nat} {lv:Nat→Int} (hG:ed N L lv):∀ {W:List Nat} {a z:Nat},Tr N a W z→(∀ r∈W,r∈L (bU N r))→lv z=lv a+W.length∧∀ r∈W,lv a≤lv (bU N r)∧lv (bU N r)<lv z
 |[],a,z,h,_=>by rw[show a=z from h];simp
 |r::W,a,z,⟨h1,h2⟩,hW=>by
  have h3:=(hG.ok _ _ (hW r (by simp))).2.2
  obtain⟨h4,h5⟩:=kz hG h2 fun q hq=>hW q (by simp[hq])
  rw[h1] at h3
  refine⟨by rw[h4,h3,List.length_cons];omega,fun q hq=>?_⟩
  rcases List.mem_cons.1 hq with rfl|hq
  ·rw[h1];omega
  ·have:=h5 q hq;omega
theorem mh {N:bt} {L:Nat→List Nat} {lv:Nat→Int} (hG:ed N L lv):∀ {W:List Nat} {a z:Nat},Tr N a W z→(∀ r∈W,r∈L (bU N r))→W.Nodup∧∀ r∈W,∀ q∈W,bF r≠q
 |[],a,z,h,_=>⟨List.nodup_nil,fun _ h=>by cases h⟩
 |r::W,a,z,⟨h1,h2⟩,hW=>by
  obtain⟨h3,h4⟩:=mh hG h2 fun q hq=>hW q (by simp[hq])
  have hr:=(hG.ok _ _ (hW r (by simp))).2.2
  have h5:=(kz hG h2 fun q hq=>hW q (by simp[hq])).2
  have hf:∀ s∈r::W,∀ q∈r::W,bF s=q→False:=by
   intro s hs q hq e
   have h6:=(hG.ok _ _ (hW s hs)).2.2
   have h7:=(hG.ok _ _ (hW q hq)).2.2
   rw[← e,f6,eU] at h7
   omega
  refine⟨List.nodup_cons.2 ⟨fun hin=>?_,h3⟩,fun s hs q hq e=>hf s hs q hq e⟩
  have:=(h5 r hin).1
  omega
def jc (L:Nat→List Nat) (pos:List Nat) (u:Nat):Prop:=∀ p,pos[u]?=some p→(L u).length≤p
structure PI (N:bt) (L:Nat→List Nat) (least:Int) (rm:List Int) (pos W:List Nat):Prop where
 pl:pos.length=N.nodes.toNat+1
 tr:∃ z,Tr N N.src.toNat W z
 head:∀ r∈W,∃ p,pos[bU N r]?=some p∧(L (bU N r))[p]?=some r∧least≤rm.getD r 0
 pass:∀ v p,pos[v]?=some p→∀ j r,j<p→(L v)[j]?=some r→rm.getD r 0<least∨(cH N r≠N.snk.toNat∧jc L pos (cH N r))
theorem oQ {pos:List Nat} {v p u q:Nat} (h:pos[v]?=some p) (hq:(pos.set v (p+1))[u]?=some q):∃ q0,pos[u]?=some q0∧q0≤q∧(u≠v→q0=q):=by
 by_cases e:v=u
 ·subst e
  rw[List.getElem?_set_self (List.getElem?_eq_some_iff.1 h).1] at hq
  simp only[Option.some.injEq] at hq
  exact⟨p,h,by omega,fun h=>absurd rfl h⟩
 ·rw[List.getElem?_set_ne e] at hq
  exact⟨q,hq,Nat.le_refl _,fun _=>rfl⟩
theorem jc.more {L:Nat→List Nat} {pos:List Nat} {v p u:Nat} (h:jc L pos u) (hp:pos[v]?=some p):jc L (pos.set v (p+1)) u:=by
 intro q hq
 obtain⟨q0,h1,h2,_⟩:=oQ hp hq
 exact Nat.le_trans (h q0 h1) h2
section
variable {N:bt} {L:Nat→List Nat} {lv:Nat→Int} {least:Int} {rm:List Int} {pos W:List Nat}
theorem PI.on (h:PI N L least rm pos W):Tr N N.src.toNat W (cE N W):=by
 obtain⟨z,hz⟩:=h.tr
 rw[← nV hz];exact hz
theorem PI.mem (h:PI N L least rm pos W):∀ r∈W,r∈L (bU N r):=fun r hr=>by
 obtain⟨p,_,h2,_⟩:=h.head r hr
 exact List.mem_of_getElem? h2
theorem PI.go (h:PI N L least rm pos W) (hG:ed N L lv) {p r:Nat} (hp:pos[cE N W]?=some p) (hr:(L (cE N W))[p]?=some r) (hl:least≤rm.getD r 0):PI N L least rm pos (W++[r]):=by
 have hf:=(hG.ok _ _ (List.mem_of_getElem? hr)).2.1
 refine⟨h.pl,⟨_,uA (hf.symm▸h.on)⟩,fun q hq=>?_,h.pass⟩
 rcases List.mem_append.1 hq with hq|hq
 ·exact h.head q hq
 ·rw[List.mem_singleton.1 hq,hf];exact⟨p,hp,hr,hl⟩
theorem PI.bump (h:PI N L least rm pos W) {v p r:Nat} (hv:∀ q∈W,bU N q≠v) (hp:pos[v]?=some p) (hr:(L v)[p]?=some r) (hl:rm.getD r 0<least∨(cH N r≠N.snk.toNat∧jc L pos (cH N r))):PI N L least rm (pos.set v (p+1)) W:=by
 refine⟨by rw[List.length_set];exact h.pl,h.tr,fun q hq=>?_,fun u q hq j s hj hs=>?_⟩
 ·obtain⟨k,h1,h2,h3⟩:=h.head q hq
  exact⟨k,by rw[List.getElem?_set_ne (hv q hq).symm];exact h1,h2,h3⟩
 ·obtain⟨q0,h1,h2,h3⟩:=oQ hp hq
  have key:rm.getD s 0<least∨(cH N s≠N.snk.toNat∧jc L pos (cH N s)):=by
   by_cases e:u=v
   ·subst e
    rw[hp] at h1
    simp only[Option.some.injEq] at h1
    rw[List.getElem?_set_self (List.getElem?_eq_some_iff.1 hp).1] at hq
    simp only[Option.some.injEq] at hq
    by_cases ej:j=p
    ·subst ej;rw[hr] at hs;simp only[Option.some.injEq] at hs;rw[← hs];exact hl
    ·exact h.pass u p hp j s (by omega) hs
   ·have:=h3 e
    subst this
    exact h.pass u q0 h1 j s hj hs
  rcases key with k|⟨k1,k2⟩
  ·exact .inl k
  ·exact .inr ⟨k1,k2.more hp⟩
theorem PI.skip (h:PI N L least rm pos W) (hG:ed N L lv) {p r:Nat} (hp:pos[cE N W]?=some p) (hr:(L (cE N W))[p]?=some r) (hl:rm.getD r 0<least):PI N L least rm (pos.set (cE N W) (p+1)) W:=
 h.bump (fun q hq e=>by have:=((kz hG h.on h.mem).2 q hq).2;rw[e] at this;omega) hp hr (.inl hl)
theorem PI.drop {r:Nat} (h:PI N L least rm pos (W++[r])):PI N L least rm pos W:=by
 obtain⟨z,hz⟩:=h.tr
 exact⟨h.pl,⟨_,(j8 hz).1⟩,fun q hq=>h.head q (by simp[hq]),h.pass⟩
theorem PI.back_at {r:Nat} (h:PI N L least rm pos (W++[r])):∃ q,pos[cE N W]?=some q∧(L (cE N W))[q]?=some r∧bU N r=cE N W:=by
 obtain⟨z,hz⟩:=h.tr
 have e:=nV (j8 hz).1
 obtain⟨p,h1,h2,_⟩:=h.head r (by simp)
 rw[e] at h1 h2
 exact⟨p,h1,h2,e⟩
theorem PI.back {r p q:Nat} (h:PI N L least rm pos (W++[r])) (hG:ed N L lv) (hs:cE N (W++[r])≠N.snk.toNat) (hp:pos[cE N (W++[r])]?=some p) (hl:(L (cE N (W++[r]))).length≤p) (hq:pos[cE N W]?=some q):
 PI N L least rm (pos.set (cE N W) (q+1)) W:=by
 obtain⟨q',h1,h2,h3⟩:=h.back_at
 rw[hq] at h1
 simp only[Option.some.injEq] at h1
 subst h1
 rw[kl] at hs hp hl
 refine h.drop.bump (fun s hs' e=>?_) hq h2 (.inr ⟨hs,fun p' hp'=>?_⟩)
 ·have:=((kz hG h.drop.on h.drop.mem).2 s hs').2
  rw[e] at this;omega
 ·rw[hp] at hp'
  simp only[Option.some.injEq] at hp'
  rw[← hp'];exact hl
end
inductive Nx (N:bt) (L:Nat→List Nat) (least:Int) (rm:List Int):List Nat→List Nat→Bool→List Nat→List Nat→Prop
 |hit {pos W:List Nat}:cE N W=N.snk.toNat→Nx N L least rm pos W true pos W
 |go {pos W pos' W':List Nat} {r p:Nat} {b:Bool}:cE N W≠N.snk.toNat→pos[cE N W]?=some p→(L (cE N W))[p]?=some r→least≤rm.getD r 0→Nx N L least rm pos (W++[r]) b pos' W'→Nx N L least rm pos W b pos' W'
 |skip {pos W pos' W':List Nat} {r p:Nat} {b:Bool}:cE N W≠N.snk.toNat→pos[cE N W]?=some p→(L (cE N W))[p]?=some r→rm.getD r 0<least→Nx N L least rm (pos.set (cE N W) (p+1)) W b pos' W'→Nx N L least rm pos W b pos' W'
 |back {pos W pos' W':List Nat} {r p q:Nat} {b:Bool}:cE N (W++[r])≠N.snk.toNat→pos[cE N (W++[r])]?=some p→(L (cE N (W++[r]))).length≤p→pos[cE N W]?=some q→Nx N L least rm (pos.set (cE N W) (q+1)) W b pos' W'→Nx N L least rm pos (W++[r]) b pos' W'
 |stop {pos:List Nat} {p:Nat}:N.src.toNat≠N.snk.toNat→pos[N.src.toNat]?=some p→(L N.src.toNat).length≤p→Nx N L least rm pos [] false pos []
theorem Nx.keeps {N:bt} {L:Nat→List Nat} {lv:Nat→Int} {least:Int} {rm:List Int} (hG:ed N L lv) {pos W pos' W':List Nat} {b:Bool} (h:Nx N L least rm pos W b pos' W'):
 PI N L least rm pos W→PI N L least rm pos' W'∧(b=true→cE N W'=N.snk.toNat)∧(b=false→W'=[]∧jc L pos' N.src.toNat):=by
 induction h with
 |hit h=>exact fun hI=>⟨hI,fun _=>h,fun h=>(by cases h)⟩
 |go _ h2 h3 h4 _ ih=>exact fun hI=>ih (hI.go hG h2 h3 h4)
 |skip _ h2 h3 h4 _ ih=>exact fun hI=>ih (hI.skip hG h2 h3 h4)
 |back h1 h2 h3 h4 _ ih=>exact fun hI=>ih (hI.back hG h1 h2 h3 h4)
 |stop _ h2 h3=>exact fun hI=>⟨hI,fun h=>(by cases h),fun _=>⟨rfl,fun p hp=>by rw[h2] at hp;simp only[Option.some.injEq] at hp;rw[← hp];exact h3⟩⟩
inductive LP (N:bt) (L:Nat→List Nat) (least:Int) (rm:List Int):Nat→Prop
 |src:LP N L least rm N.src.toNat
 |step {r:Nat}:LP N L least rm (bU N r)→r∈L (bU N r)→least≤rm.getD r 0→LP N L least rm (cH N r)
theorem ry {N:bt} (hR:N.Right) {L:Nat→List Nat} {lv:Nat→Int} {least:Int} {rm:List Int} (hG:ed N L lv) {pos:List Nat} (hI:PI N L least rm pos []) (hd:jc L pos N.src.toNat) (hs:N.src.toNat≠N.snk.toNat):
 ∀ {u},LP N L least rm u→u≠N.snk.toNat∧jc L pos u:=by
 intro u h
 induction h with
 |src=>exact⟨hs,hd⟩
 |@step r _ hr hl ih=>
  obtain⟨j,hj,hjr⟩:=List.mem_iff_getElem.1 hr
  have hlt:=(hG.ok _ _ hr).1
  have hf:=eD hR hlt
  have hlen:bU N r<pos.length:=by rw[hI.pl];omega
  obtain⟨p,hp⟩:∃ p,pos[bU N r]?=some p:=⟨pos[bU N r],List.getElem?_eq_getElem hlen⟩
  have:=ih.2 p hp
  rcases hI.pass _ p hp j r (by omega) (by rw[List.getElem?_eq_getElem hj,hjr]) with k|k
  ·omega
  ·exact k
end Go.Proofs.YtpbmihpjgjbndaaGreat
/- What a walk of tracks carries, in plain terms: rooms, flows, and walks until none is left. -/
set_option linter.unusedVariables false
set_option linter.unusedSimpArgs false
namespace Go.Proofs.YtpbmihpjgjbndaaGreat
open Go.RowKit
def ki (a:Int) (r:Nat) (rm:List Int):List Int:=(rm.set r (rm.getD r 0-a)).set (bF r) (rm.getD (bF r) 0+a)
def bZ (a:Int):List Nat→List Int→List Int
 |[],rm=>rm
 |r::W,rm=>bZ a W (ki a r rm)
theorem iE (a:Int) (r:Nat) (rm:List Int):(ki a r rm).length=rm.length:=by simp[ki]
theorem eV (a:Int):∀ (W:List Nat) (rm:List Int),(bZ a W rm).length=rm.length
 |[],_=>rfl
 |r::W,rm=>by rw[bZ,eV a W,iE]
theorem nv (a:Int) (r:Nat):∀ (W:List Nat) (rm:List Int),bZ a (W++[r]) rm=ki a r (bZ a W rm)
 |[],_=>rfl
 |q::W,rm=>by simp only[List.cons_append,bZ];exact nv a r W _
theorem f7 {l:List Int} {i j:Nat} {x d:Int} (hi:i<l.length):(l.set i x).getD j d=if i=j then x else l.getD j d:=by
 simp only[List.getD_eq_getElem?_getD]
 by_cases e:i=j
 ·subst e;rw[if_pos rfl,List.getElem?_set_self hi];rfl
 ·rw[if_neg e,List.getElem?_set_ne e]
theorem nB {a:Int} {r m:Nat} {rm:List Int} (hl:rm.length=2*m) (hr:r<2*m) (q:Nat):
 (ki a r rm).getD q 0=rm.getD q 0+(if bF q=r then a else 0)-(if q=r then a else 0):=by
 have hf:=pD hr
 unfold ki
 rw[f7 (by rw[List.length_set];omega),f7 (by omega)]
 have hne:=pO r
 by_cases e1:bF r=q
 ·subst e1
  rw[if_pos rfl,iw,if_pos rfl,if_neg hne];omega
 ·have e2:bF q≠r:=fun h=>e1 (by rw[← h,iw])
  rw[if_neg e1,if_neg e2]
  by_cases e3:r=q
  ·subst e3;rw[if_pos rfl,if_pos rfl];omega
  ·rw[if_neg e3,if_neg (fun h=>e3 h.symm)];omega
open Classical in
theorem fg {a:Int} {m:Nat}:∀ {W:List Nat} {rm:List Int},rm.length=2*m→(∀ r∈W,r<2*m)→W.Nodup→(∀ q:Nat,(bZ a W rm).getD q 0=rm.getD q 0+(if bF q∈W then a else 0)-(if q∈W then a else 0))
 |[],rm,_,_,_,q=>by simp[bZ]
 |r::W,rm,hl,hW,hn,q=>by
  have h1:=List.nodup_cons.1 hn
  rw[bZ,fg (by rw[iE];exact hl) (fun x hx=>hW x (by simp[hx])) h1.2 q,nB hl (hW r (by simp))]
  have e1:(if bF q∈r::W then a else 0)=(if bF q=r then a else 0)+(if bF q∈W then a else 0):=by
   by_cases e:bF q=r
   ·rw[if_pos e,if_pos (by simp[e]),if_neg (by rw[e];exact h1.1)];omega
   ·rw[if_neg e]
    by_cases e2:bF q∈W
    ·rw[if_pos e2,if_pos (by simp[e2])];omega
    ·rw[if_neg e2,if_neg (by simp[e,e2])];omega
  have e2:(if q∈r::W then a else 0)=(if q=r then a else 0)+(if q∈W then a else 0):=by
   by_cases e:q=r
   ·rw[if_pos e,if_pos (by simp[e]),if_neg (by rw[e];exact h1.1)];omega
   ·rw[if_neg e]
    by_cases e2:q∈W
    ·rw[if_pos e2,if_pos (by simp[e2])];omega
    ·rw[if_neg e2,if_neg (by simp[e,e2])];omega
  rw[e1,e2];omega
def ci (rm:List Int) (W:List Nat):Int:=W.foldl (fun m q=>if rm.getD q 0<m then rm.getD q 0 else m) (rm.getD (W.headD 0) 0)
theorem lX (rm:List Int):∀ (W:List Nat) (x:Int),(W.foldl (fun m q=>if rm.getD q 0<m then rm.getD q 0 else m) x≤x)∧(∀ r∈W,W.foldl (fun m q=>if rm.getD q 0<m then rm.getD q 0 else m) x≤rm.getD r 0)∧
 (W.foldl (fun m q=>if rm.getD q 0<m then rm.getD q 0 else m) x=x∨∃ r∈W,W.foldl (fun m q=>if rm.getD q 0<m then rm.getD q 0 else m) x=rm.getD r 0)
 |[],x=>⟨Int.le_refl _,fun _ h=>(by cases h),.inl rfl⟩
 |r::W,x=>by
  obtain⟨h1,h2,h3⟩:=lX rm W (if rm.getD r 0<x then rm.getD r 0 else x)
  simp only[List.foldl_cons]
  refine⟨Int.le_trans h1 (by split<;>omega),fun q hq=>?_,?_⟩
  ·rcases List.mem_cons.1 hq with rfl|hq
   ·exact Int.le_trans h1 (by split<;>omega)
   ·exact h2 q hq
  ·rcases h3 with h3|⟨q,hq,h3⟩
   ·split at h3
    ·exact .inr ⟨r,by simp,by rename_i hlt;rw[if_pos hlt];exact h3⟩
    ·rename_i hlt;exact .inl (by rw[if_neg hlt];exact h3)
   ·exact .inr ⟨q,by simp[hq],h3⟩
theorem g9 {rm:List Int} {W:List Nat}:∀ r∈W,ci rm W≤rm.getD r 0:=(lX rm W _).2.1
theorem ic {rm:List Int} {W:List Nat} (h:W≠[]):∃ r∈W,ci rm W=rm.getD r 0:=by
 rcases (lX rm W (rm.getD (W.headD 0) 0)).2.2 with h1|h1
 ·cases W with
  |nil=>exact absurd rfl h
  |cons r W=>exact⟨r,by simp,h1⟩
 ·exact h1
def kt (least:Int) (rm:List Int) (W:List Nat):Nat:=W.findIdx fun r=>decide (rm.getD r 0<least)
inductive Bl (N:bt) (L:Nat→List Nat) (least:Int):List Int→List Nat→List Nat→List (List Nat×Int)→List Int→Prop
 |stop {rm:List Int} {pos W pos' W':List Nat}:Nx N L least rm pos W false pos' W'→Bl N L least rm pos W [] rm
 |walk {rm rm':List Int} {pos W pos' W':List Nat} {ws:List (List Nat×Int)}:Nx N L least rm pos W true pos' W'→
  Bl N L least (bZ (ci rm W') W' rm) pos' (W'.take (kt least (bZ (ci rm W') W' rm) W')) ws rm'→Bl N L least rm pos W ((W',ci rm W')::ws) rm'
/-! ### Flows and rooms -/
theorem dr {l:List dQ} {f:List Int} {i:Nat} {a:dQ} {x:Int} (h:l[i]?=some a) (k:f[i]?=some x):(l.zip f)[i]?=some (a,x):=List.getElem?_zip_eq_some.2 ⟨h,k⟩
theorem dl:∀ {ps:List (dQ×Int)} {i:Nat} {p:dQ×Int},ps[i]?=some p→(aK ps)[2*i]?=some (p.1.cap-p.2)∧(aK ps)[2*i+1]?=some p.2
 |[],_,_,h=>by simp at h
 |q::ps,0,p,h=>by
  simp only[List.getElem?_cons_zero,Option.some.injEq] at h
  subst h
  exact⟨rfl,rfl⟩
 |q::ps,i+1,p,h=>by
  have ih:=dl (ps:=ps) (i:=i) (by simpa using h)
  have e:aK (q::ps)=[q.1.cap-q.2,q.2]++aK ps:=by simp[aK]
  rw[e,List.getElem?_append_right (by simp;omega),List.getElem?_append_right (by simp;omega)]
  exact⟨by rw[show 2*(i+1)-[q.1.cap-q.2,q.2].length=2*i by simp;omega];exact ih.1,by rw[show 2*(i+1)+1-[q.1.cap-q.2,q.2].length=2*i+1 by simp;omega];exact ih.2⟩
def eb (a:Int) (r:Nat) (f:List Int):List Int:=f.set (r/2) (f.getD (r/2) 0+if r%2=1 then-a else a)
def fQ (a:Int):List Nat→List Int→List Int
 |[],f=>f
 |r::W,f=>fQ a W (eb a r f)
theorem gK (a:Int) (r:Nat) (f:List Int):(eb a r f).length=f.length:=by simp[eb]
theorem qP {N:bt} {a:Int} {r:Nat} {f:List Int} (hl:f.length=N.arcs.length) (hr:r<2*N.arcs.length):ki a r (aK (N.arcs.zip f))=aK (N.arcs.zip (eb a r f)):=by
 have hzl:(N.arcs.zip f).length=N.arcs.length:=by simp;omega
 have hzl2:(N.arcs.zip (eb a r f)).length=N.arcs.length:=by simp[gK];omega
 have hrl:=b7 (N.arcs.zip f)
 have hrl2:=b7 (N.arcs.zip (eb a r f))
 rw[hzl] at hrl
 rw[hzl2] at hrl2
 have hext:∀ q:Nat,q<2*N.arcs.length→(ki a r (aK (N.arcs.zip f))).getD q 0=(aK (N.arcs.zip (eb a r f))).getD q 0:=by
  intro q hq
  rw[nB hrl hr]
  have hqi:q/2<N.arcs.length:=by omega
  obtain⟨ar,har⟩:∃ x,N.arcs[q/2]?=some x:=⟨N.arcs[q/2],List.getElem?_eq_getElem hqi⟩
  have hx:f[q/2]?=some (f.getD (q/2) 0):=by rw[List.getD_eq_getElem?_getD,List.getElem?_eq_getElem (by omega)];rfl
  have hy:(eb a r f)[q/2]?=some ((eb a r f).getD (q/2) 0):=by rw[List.getD_eq_getElem?_getD,List.getElem?_eq_getElem (by rw[gK];omega)];rfl
  obtain⟨g1,g2⟩:=dl (dr har hx)
  obtain⟨g3,g4⟩:=dl (dr har hy)
  have hv:(eb a r f).getD (q/2) 0=f.getD (q/2) 0+if r/2=q/2 then (if r%2=1 then-a else a) else 0:=by
   unfold eb
   rw[f7 (by omega)]
   by_cases e:r/2=q/2
   ·rw[if_pos e,if_pos e,e]
   ·rw[if_neg e,if_neg e];omega
  simp only at g1 g2 g3 g4
  rcases Nat.mod_two_eq_zero_or_one q with hm|hm
  ·have e:2*(q/2)=q:=by omega
   rw[e] at g1 g3
   simp only[List.getD_eq_getElem?_getD] at hv ⊢
   rw[g1,g3]
   simp only[Option.getD_some,List.getD_eq_getElem?_getD] at hv ⊢
   rw[hv]
   unfold bF
   rw[if_neg (by omega:¬ q%2=1)]
   split<;>split<;>split<;>(try split)<;>omega
  ·have e:2*(q/2)+1=q:=by omega
   rw[e] at g2 g4
   simp only[List.getD_eq_getElem?_getD] at hv ⊢
   rw[g2,g4]
   simp only[Option.getD_some,List.getD_eq_getElem?_getD] at hv ⊢
   rw[hv]
   unfold bF
   rw[if_pos hm]
   split<;>split<;>split<;>(try split)<;>omega
 refine List.ext_getElem (by rw[iE,hrl,hrl2]) fun q h1 h2=>?_
 have:=hext q (by omega)
 simp only[List.getD_eq_getElem?_getD] at this
 rw[List.getElem?_eq_getElem h1,List.getElem?_eq_getElem h2] at this
 exact this
theorem sb {N:bt} {a v:Int} {r:Nat} {f:List Int} (hl:f.length=N.arcs.length) (hr:r<2*N.arcs.length):
 ex (N.arcs.zip (eb a r f)) v=ex (N.arcs.zip f) v+((if (cL N r).2=v then a else 0)-(if (cL N r).1=v then a else 0)):=by
 obtain⟨ar,har⟩:∃ x,N.arcs[r/2]?=some x:=⟨N.arcs[r/2]'(by omega),List.getElem?_eq_getElem (by omega)⟩
 have hx:f[r/2]?=some (f.getD (r/2) 0):=by rw[List.getD_eq_getElem?_getD,List.getElem?_eq_getElem (by omega)];rfl
 have he:cL N r=dI ar r:=by unfold cL;rw[har]
 unfold eb
 rw[rt N.arcs f (r/2) ar _ _ v har hx,he]
 unfold dI
 by_cases hm:r%2=1
 ·rw[if_pos hm,if_pos hm]
  simp only
  split<;>split<;>omega
 ·rw[if_neg hm,if_neg hm]
theorem nF {N:bt} (hR:N.Right) {a:Int}:∀ {W:List Nat} {f:List Int} {x z:Nat},f.length=N.arcs.length→(∀ r∈W,r<2*N.arcs.length)→Tr N x W z→
 (fQ a W f).length=N.arcs.length∧bZ a W (aK (N.arcs.zip f))=aK (N.arcs.zip (fQ a W f))∧∀ v:Int,ex (N.arcs.zip (fQ a W f)) v=ex (N.arcs.zip f) v+((if (z:Int)=v then a else 0)-(if (x:Int)=v then a else 0))
 |[],f,x,z,hl,_,h=>⟨hl,rfl,fun v=>by rw[show x=z from h];simp only[fQ];omega⟩
 |r::W,f,x,z,hl,hW,⟨h1,h2⟩=>by
  have hr:=hW r (by simp)
  obtain⟨k1,k2,k3⟩:=nF hR (a:=a) (f:=eb a r f) (by rw[gK];exact hl) (fun q hq=>hW q (by simp[hq])) h2
  refine⟨k1,by rw[bZ,qP hl hr,k2];rfl,fun v=>?_⟩
  rw[fQ,k3,sb hl hr,(d6 hR hr).1,(eD hR hr).1,h1]
  omega
theorem iC {N:bt} {f:List Int} (hl:f.length=N.arcs.length):Ranged N f↔∀ q,q<2*N.arcs.length→0≤(aK (N.arcs.zip f)).getD q 0:=by
 constructor
 ·intro h q hq
  obtain⟨ar,har⟩:∃ x,N.arcs[q/2]?=some x:=⟨N.arcs[q/2]'(by omega),List.getElem?_eq_getElem (by omega)⟩
  have hx:f[q/2]?=some (f.getD (q/2) 0):=by rw[List.getD_eq_getElem?_getD,List.getElem?_eq_getElem (by omega)];rfl
  have hz:=dr har hx
  obtain⟨g1,g2⟩:=dl hz
  have:=h.all _ (List.mem_of_getElem? hz)
  simp only at g1 g2 this
  rcases Nat.mod_two_eq_zero_or_one q with hm|hm
  ·rw[show 2*(q/2)=q by omega] at g1
   rw[List.getD_eq_getElem?_getD,g1,Option.getD_some];omega
  ·rw[show 2*(q/2)+1=q by omega] at g2
   rw[List.getD_eq_getElem?_getD,g2,Option.getD_some];omega
 ·intro h
  refine⟨hl,fun p hp=>?_⟩
  obtain⟨j,hj,hjp⟩:=List.mem_iff_getElem.1 hp
  have hz:(N.arcs.zip f)[j]?=some p:=by rw[List.getElem?_eq_getElem hj,hjp]
  have hjl:j<N.arcs.length:=by have:=hj;simp at this;omega
  obtain⟨g1,g2⟩:=dl hz
  have h1:=h (2*j) (by omega)
  have h2:=h (2*j+1) (by omega)
  rw[List.getD_eq_getElem?_getD,g1,Option.getD_some] at h1
  rw[List.getD_eq_getElem?_getD,g2,Option.getD_some] at h2
  omega
theorem kV {N:bt} (hR:N.Right) {f:List Int} (hf:aT N f) {W:List Nat} (hW:∀ r∈W,r<2*N.arcs.length) (hn:W.Nodup) (ht:Tr N N.src.toNat W N.snk.toNat) {a:Int} (ha:0≤a) (hm:∀ r∈W,a≤(aK (N.arcs.zip f)).getD r 0):
 aT N (fQ a W f)∧bZ a W (aK (N.arcs.zip f))=aK (N.arcs.zip (fQ a W f))∧ex (N.arcs.zip (fQ a W f)) N.snk=ex (N.arcs.zip f) N.snk+a:=by
 obtain⟨h1,h2,h3⟩:=nF hR (a:=a) hf.len hW ht
 have hsr:=hR.src
 have hsk:=hR.snk
 have hd:=hR.diff
 have e1:((N.src.toNat:Nat):Int)=N.src:=by omega
 have e2:((N.snk.toNat:Nat):Int)=N.snk:=by omega
 rw[e1,e2] at h3
 have hzl:(N.arcs.zip f).length=N.arcs.length:=by have:=hf.len;simp;omega
 refine⟨⟨(iC h1).2 fun q hq=>?_,fun v hv hvs hvt=>?_⟩,h2,?_⟩
 ·rw[← h2,fg (by rw[b7,hzl]) hW hn]
  have h0:=(iC hf.len).1 hf.toRanged q hq
  by_cases e:q∈W
  ·have:=hm q e
   rw[if_pos e]
   split<;>omega
  ·rw[if_neg e]
   split<;>omega
 ·rw[h3,hf.kept v hv hvs hvt,if_neg (fun e=>hvt e.symm),if_neg (fun e=>hvs e.symm)];rfl
 ·rw[h3,if_pos rfl,if_neg hd];omega
theorem Bl.keeps {N:bt} (hR:N.Right) {L:Nat→List Nat} {lv:Nat→Int} {least:Int} (hG:ed N L lv) (hle:1≤least) {rm rm':List Int} {pos W:List Nat} {ws:List (List Nat×Int)} (h:Bl N L least rm pos W ws rm'):
 ∀ f,aT N f→rm=aK (N.arcs.zip f)→PI N L least rm pos W→
   ∃ f',aT N f'∧rm'=aK (N.arcs.zip f')∧ex (N.arcs.zip f) N.snk+least*ws.length≤ex (N.arcs.zip f') N.snk∧(∀ u,LP N L least rm' u→u≠N.snk.toNat)∧(∀ v r,r∈L v→rm'.getD r 0≤rm.getD r 0)∧
     (∀ q,q<2*N.arcs.length→rm.getD q 0<rm'.getD q 0→bF q∈L (bU N (bF q))):=by
 induction h with
 |@stop rm pos W pos' W' hn=>
  intro f hf he hI
  obtain⟨h1,_,h3⟩:=hn.keeps hG hI
  obtain⟨rfl,hd⟩:=h3 rfl
  have hsr:=hR.src
  have hsk:=hR.snk
  have hdf:=hR.diff
  exact⟨f,hf,he,by simp,fun u hu=>(ry hR hG h1 hd (by omega) hu).1,fun _ _ _=>Int.le_refl _,fun q _ h=>by omega⟩
 |@walk rm rm' pos W pos' W' ws hn _ ih=>
  intro f hf he hI
  obtain⟨h1,h2,_⟩:=hn.keeps hG hI
  have hend:=h2 rfl
  have hon:=h1.on
  rw[hend] at hon
  have hnd:=mh hG hon h1.mem
  have hlt:∀ r∈W',r<2*N.arcs.length:=fun r hr=>(hG.ok _ _ (h1.mem r hr)).1
  have hroom:∀ r∈W',least≤rm.getD r 0:=fun r hr=>by obtain⟨_,_,_,h⟩:=h1.head r hr;exact h
  have hWne:W'≠[]:=by
   intro h0
   have hsr:=hR.src
   have hsk:=hR.snk
   have hdf:=hR.diff
   rw[h0] at hend
   simp only[cE,List.getLast?_nil] at hend
   omega
  obtain⟨r0,hr0,hmo⟩:=ic (rm:=rm) hWne
  have hma:=hroom r0 hr0
  rw[← hmo] at hma
  obtain⟨a,haeq⟩:∃ a,a=ci rm W':=⟨_,rfl⟩
  rw[← haeq] at hma ih ⊢
  have hmle:∀ r∈W',a≤rm.getD r 0:=fun r hr=>haeq▸g9 r hr
  obtain⟨k1,k2,k3⟩:=kV hR hf hlt hnd.1 hon (by omega:0≤a) (he▸hmle)
  rw[← he] at k2
  have hzl:rm.length=2*N.arcs.length:=by rw[he,b7];have:=hf.len;simp;omega
  have hget:=fg (a:=a) hzl hlt hnd.1
  have hmono:∀ v r,r∈L v→(bZ a W' rm).getD r 0≤rm.getD r 0:=by
   intro v r hr
   rw[hget]
   have:bF r∉W':=by
    intro hin
    have g1:=(hG.ok _ _ hr)
    have g2:=(hG.ok _ _ (h1.mem _ hin)).2.2
    have g3:=g1.2.2
    rw[f6,eU] at g2
    rw[← g1.2.1] at g3
    omega
   rw[if_neg this]
   split<;>omega
  have hI':PI N L least (bZ a W' rm) pos' (W'.take (kt least (bZ a W' rm) W')):=by
   refine⟨h1.pl,oe _ hon,fun r hr=>?_,fun v p hp j r hj hjr=>?_⟩
   ·obtain⟨p,g1,g2,_⟩:=h1.head r (List.mem_of_mem_take hr)
    refine⟨p,g1,g2,?_⟩
    obtain⟨i,hi,hir⟩:=List.mem_iff_getElem.1 hr
    have hi':i<kt least (bZ a W' rm) W':=by rw[List.length_take] at hi;omega
    rw[List.getElem_take] at hir
    have:=List.not_of_lt_findIdx hi'
    rw[hir] at this
    simpa using this
   ·rcases h1.pass v p hp j r hj hjr with k|k
    ·exact .inl (by have:=hmono v r (List.mem_of_getElem? hjr);omega)
    ·exact .inr k
  obtain⟨f',g1,g2,g3,g4,g5,g6⟩:=ih (fQ a W' f) k1 k2 hI'
  refine⟨f',g1,g2,?_,g4,fun v r hr=>Int.le_trans (g5 v r hr) (hmono v r hr),fun q hq hqlt=>?_⟩
  ·rw[k3] at g3
   rw[List.length_cons]
   have:least*((ws.length+1:Nat):Int)=least*ws.length+least:=by grind
   omega
  ·by_cases hc:rm.getD q 0<(bZ a W' rm).getD q 0
   ·rw[hget] at hc
    by_cases hin:bF q∈W'
    ·exact h1.mem _ hin
    ·rw[if_neg hin] at hc
     split at hc<;>omega
   ·exact g6 q hq (by omega)
end Go.Proofs.YtpbmihpjgjbndaaGreat
/- Levels, in plain terms. -/
set_option linter.unusedVariables false
set_option linter.unusedSimpArgs false
namespace Go.Proofs.YtpbmihpjgjbndaaGreat
open Go.RowKit
def bT (lv:List Int) (v:Nat):Int:=lv.getD v (-1)
theorem ow {lv:List Int} {v:Nat} {x:Int} (h:lv[v]?=some x):bT lv v=x:=by unfold bT;rw[List.getD_eq_getElem?_getD,h];rfl
theorem eB {lv:List Int} {v:Nat} (h:v<lv.length):lv[v]?=some (bT lv v):=by unfold bT;rw[List.getD_eq_getElem?_getD,List.getElem?_eq_getElem h];rfl
theorem lH {lv:List Int} {t v:Nat} {x:Int} (h:t<lv.length):bT (lv.set t x) v=if t=v then x else bT lv v:=f7 h
theorem nS {lv:List Int} {v:Nat} (h:lv.length≤v):bT lv v=-1:=by unfold bT;rw[List.getD_eq_getElem?_getD,List.getElem?_eq_none h];rfl
structure dx (N:bt) (rm:List Int) (least:Int) (lv:List Int):Prop where
 len:lv.length=N.nodes.toNat+1
 src:bT lv N.src.toNat=0
 nil:bT lv 0=-1
 rng:∀ v,-1≤bT lv v∧bT lv v<N.nodes
 zero:∀ v,bT lv v=0→v=N.src.toNat
 step:∀ r,r<2*N.arcs.length→least≤rm.getD r 0→0≤bT lv (bU N r)→0≤bT lv (cH N r)∧bT lv (cH N r)≤bT lv (bU N r)+1
 back:∀ v,0<bT lv v→∃ r,r<2*N.arcs.length∧least≤rm.getD r 0∧cH N r=v∧bT lv (bU N r)=bT lv v-1
structure LH (N:bt) (rm:List Int) (least:Int) (k:Nat) (fr:List Nat) (lv:List Int):Prop where
 k1:1≤k
 len:lv.length=N.nodes.toNat+1
 src:bT lv N.src.toNat=0
 nil:bT lv 0=-1
 rng:∀ v,bT lv v=-1∨0≤bT lv v∧bT lv v≤(k:Int)-1
 zero:∀ v,bT lv v=0→v=N.src.toNat
 front:∀ v,bT lv v=(k:Int)-1↔v∈fr
 done:∀ r,r<2*N.arcs.length→least≤rm.getD r 0→0≤bT lv (bU N r)→bT lv (bU N r)<(k:Int)-1→0≤bT lv (cH N r)∧bT lv (cH N r)≤bT lv (bU N r)+1
 back:∀ v,0<bT lv v→∃ r,r<2*N.arcs.length∧least≤rm.getD r 0∧cH N r=v∧bT lv (bU N r)=bT lv v-1
 cnt:k+fr.length+lv.count (-1)≤N.nodes.toNat+2
structure LV (N:bt) (rm:List Int) (least:Int) (k:Nat) (now:List Nat) (i j:Nat) (nxt:List Nat) (lv:List Int):Prop where
 k1:1≤k
 len:lv.length=N.nodes.toNat+1
 src:bT lv N.src.toNat=0
 nil:bT lv 0=-1
 rng:∀ v,bT lv v=-1∨0≤bT lv v∧bT lv v≤(k:Int)
 zero:∀ v,bT lv v=0→v=N.src.toNat
 old:∀ v,bT lv v=(k:Int)-1↔v∈now
 new:∀ v,bT lv v=(k:Int)↔v∈nxt
 done:∀ r,r<2*N.arcs.length→least≤rm.getD r 0→0≤bT lv (bU N r)→(bT lv (bU N r)<(k:Int)-1∨bU N r∈now.take i∨(now[i]?=some (bU N r)∧∃ a,a<j∧(tr N (2*N.arcs.length) (bU N r))[a]?=some (r:Int)))→
  0≤bT lv (cH N r)∧bT lv (cH N r)≤bT lv (bU N r)+1
 back:∀ v,0<bT lv v→∃ r,r<2*N.arcs.length∧least≤rm.getD r 0∧cH N r=v∧bT lv (bU N r)=bT lv v-1
 cnt:k+nxt.length+lv.count (-1)≤N.nodes.toNat+1
section
variable {N:bt} {rm:List Int} {least:Int} {k:Nat} {lv:List Int}
theorem fk:∀ (l:List Int) (t:Nat) (x:Int),l[t]?=some (-1)→x≠-1→(l.set t x).count (-1)+1=l.count (-1)
 |[],_,_,h,_=>by simp at h
 |y::l,0,x,h,hx=>by
  simp only[List.getElem?_cons_zero,Option.some.injEq] at h
  subst h
  simp[hx]
 |y::l,t+1,x,h,hx=>by
  have:=fk l t x (by simpa using h) hx
  simp only[List.set_cons_succ,List.count_cons]
  omega
theorem LH.init (hR:N.Right):LH N rm least 1 [N.src.toNat] ((List.replicate (N.nodes.toNat+1) (-1)).set N.src.toNat 0):=by
 have hsr:=hR.src
 have hnn:=hR.nodes
 have hlt:N.src.toNat<(List.replicate (N.nodes.toNat+1) (-1:Int)).length:=by rw[List.length_replicate];omega
 have hr:∀ v,bT (List.replicate (N.nodes.toNat+1) (-1)) v=-1:=by
  intro v
  by_cases h:v<N.nodes.toNat+1
  ·exact ow (by rw[List.getElem?_replicate,if_pos h])
  ·exact nS (by rw[List.length_replicate];omega)
 have hv:∀ v,bT ((List.replicate (N.nodes.toNat+1) (-1)).set N.src.toNat 0) v=if N.src.toNat=v then 0 else-1:=fun v=>by rw[lH hlt,hr]
 refine⟨Nat.le_refl _,by simp,by rw[hv,if_pos rfl],by rw[hv,if_neg (by omega)],fun v=>?_,fun v h=>?_,fun v=>?_,fun r _ _ h1 h2=>by omega,fun v h=>?_,?_⟩
 ·rw[hv];split
  ·exact .inr ⟨by omega,by omega⟩
  ·exact .inl rfl
 ·rw[hv] at h;split at h
  ·rename_i e;exact e.symm
  ·omega
 ·rw[hv,List.mem_singleton]
  constructor
  ·intro h
   split at h
   ·rename_i e;exact e.symm
   ·omega
  ·rintro rfl;rw[if_pos rfl];omega
 ·rw[hv] at h;split at h<;>omega
 ·have:=fk (List.replicate (N.nodes.toNat+1) (-1)) N.src.toNat 0 (by rw[List.getElem?_replicate,if_pos (by omega)]) (by decide)
  have h2:(List.replicate (N.nodes.toNat+1) (-1:Int)).count (-1)=N.nodes.toNat+1:=by simp
  simp only[List.length_singleton]
  omega
theorem LH.turn {fr:List Nat} (h:LH N rm least k fr lv) (hne:fr≠[]):LV N rm least k fr 0 0 [] lv:=by
 have hk:=h.k1
 have hlen:0<fr.length:=List.length_pos_iff.2 hne
 refine⟨h.k1,h.len,h.src,h.nil,fun v=>?_,h.zero,h.front,fun v=>⟨fun e=>?_,fun e=>by cases e⟩,fun r h1 h2 h3 h4=>?_,h.back,?_⟩
 ·rcases h.rng v with e|e
  ·exact .inl e
  ·exact .inr ⟨e.1,by omega⟩
 ·rcases h.rng v with e'|e'<;>omega
 ·rcases h4 with h4|h4|⟨_,a,ha,_⟩
  ·exact h.done r h1 h2 h3 h4
  ·simp at h4
  ·omega
 ·have:=h.cnt
  simp only[List.length_nil];omega
theorem LV.row {now nxt:List Nat} {i j:Nat} (h:LV N rm least k now i j nxt lv) (hj:∀ v,now[i]?=some v→(tr N (2*N.arcs.length) v).length≤j):LV N rm least k now (i+1) 0 nxt lv:=by
 refine⟨h.k1,h.len,h.src,h.nil,h.rng,h.zero,h.old,h.new,fun r h1 h2 h3 h4=>?_,h.back,h.cnt⟩
 rcases h4 with h4|h4|⟨_,a,ha,_⟩
 ·exact h.done r h1 h2 h3 (.inl h4)
 ·rw[List.take_add_one] at h4
  rcases List.mem_append.1 h4 with h4|h4
  ·exact h.done r h1 h2 h3 (.inr (.inl h4))
  ·cases hv:now[i]? with
   |none=>rw[hv] at h4;simp at h4
   |some v=>
    rw[hv] at h4
    have e:bU N r=v:=by simpa using h4
    refine h.done r h1 h2 h3 (.inr (.inr ⟨by rw[hv,e],?_⟩))
    have hm:(r:Int)∈tr N (2*N.arcs.length) (bU N r):=by
     refine uu.2 ⟨r,h1,?_,rfl⟩
     unfold bU
     have hfz:0≤(cL N r).1:=by
      by_cases hz:0≤(cL N r).1
      ·exact hz
      ·exfalso
       have:bU N r=0:=by unfold bU;omega
       rw[this,h.nil] at h3
       omega
     omega
    obtain⟨a,ha,hae⟩:=List.mem_iff_getElem.1 hm
    exact⟨a,Nat.lt_of_lt_of_le ha (e▸hj v hv),by rw[List.getElem?_eq_getElem ha,hae]⟩
 ·omega
theorem LV.final {now nxt:List Nat} {i j:Nat} (h:LV N rm least k now i j nxt lv) (hi:now.length≤i):LH N rm least (k+1) nxt lv:=by
 have hk:=h.k1
 refine⟨by omega,h.len,h.src,h.nil,fun v=>?_,h.zero,fun v=>?_,fun r h1 h2 h3 h4=>?_,h.back,?_⟩
 ·rcases h.rng v with e|e
  ·exact .inl e
  ·exact .inr ⟨e.1,by omega⟩
 ·have:=h.new v
  rw[show (((k+1:Nat):Int)-1)=(k:Int) by omega]
  exact this
 ·refine h.done r h1 h2 h3 ?_
  by_cases e:bT lv (bU N r)<(k:Int)-1
  ·exact .inl e
  ·refine .inr (.inl ?_)
   rw[List.take_of_length_le hi]
   exact (h.old _).1 (by omega)
 ·have:=h.cnt;omega
theorem LV.pass {now nxt:List Nat} {i j r:Nat} (h:LV N rm least k now i j nxt lv) (hr:∃ v,now[i]?=some v∧(tr N (2*N.arcs.length) v)[j]?=some (r:Int)) (hf:rm.getD r 0<least∨bT lv (cH N r)≠-1):LV N rm least k now i (j+1) nxt lv:=by
 refine⟨h.k1,h.len,h.src,h.nil,h.rng,h.zero,h.old,h.new,fun q h1 h2 h3 h4=>?_,h.back,h.cnt⟩
 rcases h4 with h4|h4|⟨h4,a,ha,hq⟩
 ·exact h.done q h1 h2 h3 (.inl h4)
 ·exact h.done q h1 h2 h3 (.inr (.inl h4))
 ·by_cases e:a=j
  ·subst e
   obtain⟨v,hv,hvr⟩:=hr
   rw[hv] at h4
   simp only[Option.some.injEq] at h4
   rw[← h4,hvr] at hq
   have e2:r=q:=by
    have e3:(r:Int)=q:=by simpa using hq
    omega
   subst e2
   have hlv:=(h.old v).2 (List.mem_of_getElem? hv)
   rcases hf with hf|hf
   ·omega
   ·rcases h.rng (cH N r) with e3|e3
    ·exact absurd e3 hf
    ·rw[h4] at hlv;exact⟨e3.1,by omega⟩
  ·exact h.done q h1 h2 h3 (.inr (.inr ⟨h4,a,by omega,hq⟩))
theorem LV.put {now nxt:List Nat} {i j r:Nat} (h:LV N rm least k now i j nxt lv) (hr:∃ v,now[i]?=some v∧bU N r=v∧(tr N (2*N.arcs.length) v)[j]?=some (r:Int)) (hrl:r<2*N.arcs.length) (ht:1≤cH N r∧cH N r<lv.length) (hl:least≤rm.getD r 0) (hf:bT lv (cH N r)=-1):
 LV N rm least k now i (j+1) (nxt++[cH N r]) (lv.set (cH N r) (k:Int)):=by
 obtain⟨v,hv,hfr,hvr⟩:=hr
 obtain⟨t,rfl⟩:∃ t,t=cH N r:=⟨_,rfl⟩
 have hk:=h.k1
 have hs:∀ u,bT (lv.set (cH N r) (k:Int)) u=if cH N r=u then (k:Int) else bT lv u:=fun u=>lH ht.2
 have hvl:=(h.old v).2 (List.mem_of_getElem? hv)
 have hne:cH N r≠v:=fun e=>by rw[e] at hf;omega
 refine⟨h.k1,by rw[List.length_set];exact h.len,?_,?_,fun u=>?_,fun u hu=>?_,fun u=>?_,fun u=>?_,fun q h1 h2 h3 h4=>?_,fun u hu=>?_,?_⟩
 ·rw[hs,if_neg (fun e=>by rw[e,h.src] at hf;omega)];exact h.src
 ·rw[hs,if_neg (by omega)];exact h.nil
 ·rw[hs];split
  ·exact .inr ⟨by omega,by omega⟩
  ·exact h.rng u
 ·rw[hs] at hu;split at hu
  ·omega
  ·exact h.zero u hu
 ·rw[hs];split
  ·rename_i e
   subst e
   constructor
   ·intro e;omega
   ·intro e;have:=(h.old _).2 e;omega
  ·exact h.old u
 ·rw[hs,List.mem_append,List.mem_singleton];split
  ·rename_i e;exact⟨fun _=>.inr e.symm,fun _=>rfl⟩
  ·rename_i e
   rw[h.new u]
   exact⟨.inl,fun hh=>hh.resolve_right fun e2=>e e2.symm⟩
 ·rw[hs] at h3 h4 ⊢
  have key:cH N r≠bU N q:=by
   intro e
   rw[if_pos e] at h4
   rcases h4 with h4|h4|⟨h4,_⟩
   ·omega
   ·have:=(h.old _).2 (List.mem_of_mem_take h4)
    rw[← e] at this;omega
   ·rw[hv] at h4
    simp only[Option.some.injEq] at h4
    exact hne (e.trans h4.symm)
  rw[if_neg key] at h3 h4
  have hfq:bT (lv.set (cH N r) (k:Int)) (bU N q)=bT lv (bU N q):=by rw[hs,if_neg key]
  rw[hfq]
  have hle:bT lv (bU N q)≤k∧(∀ (_:bU N q=v),bT lv (bU N q)=k-1):=by
   constructor
   ·rcases h.rng (bU N q) with e|e<;>omega
   ·intro e;rw[e];exact hvl
  by_cases e:cH N r=cH N q
  ·rw[if_pos e]
   refine⟨by omega,?_⟩
   rcases h4 with h4|h4|⟨h4,_⟩
   ·have:=h.done q h1 h2 h3 (.inl h4)
    rw[← e,hf] at this;omega
   ·have:=(h.old _).2 (List.mem_of_mem_take h4)
    omega
   ·rw[hv] at h4
    simp only[Option.some.injEq] at h4
    have:=hle.2 h4.symm
    omega
  ·rw[if_neg e]
   rcases h4 with h4|h4|⟨h4,a,ha,hq⟩
   ·exact h.done q h1 h2 h3 (.inl h4)
   ·exact h.done q h1 h2 h3 (.inr (.inl h4))
   ·by_cases ea:a=j
    ·subst ea
     rw[hv] at h4
     simp only[Option.some.injEq] at h4
     rw[← h4,hvr] at hq
     have e2:r=q:=by
      have e3:(r:Int)=q:=by simpa using hq
      omega
     exact absurd (by rw[e2]) e
    ·exact h.done q h1 h2 h3 (.inr (.inr ⟨h4,a,by omega,hq⟩))
 ·rw[hs] at hu
  by_cases e:cH N r=u
  ·refine⟨r,hrl,hl,e,?_⟩
   rw[hs,hs,if_pos e,if_neg (fun e2=>hne (e2.trans hfr)),hfr,hvl]
  ·rw[if_neg e] at hu
   obtain⟨q,g1,g2,g3,g4⟩:=h.back u hu
   refine⟨q,g1,g2,g3,?_⟩
   rw[hs,hs,if_neg e,if_neg,g4]
   intro e2
   rw[← e2,hf] at g4
   omega
 ·have:=h.cnt
  have hc:=fk lv (cH N r) (k:Int) (by rw[eB ht.2,hf]) (by omega)
  rw[List.length_append,List.length_singleton];omega
theorem LH.lev (hR:N.Right) (h:LH N rm least k [] lv):dx N rm least lv:=by
 have hk:=h.k1
 have hnn:=hR.nodes
 have hc:1≤lv.count (-1):=by
  have h0:(-1:Int)∈lv:=by
   have:=eB (lv:=lv) (v:=0) (by rw[h.len];omega)
   rw[h.nil] at this
   exact List.mem_of_getElem? this
  exact List.one_le_count_iff.2 h0
 have hcnt:=h.cnt
 have hf:∀ v,bT lv v≠(k:Int)-1:=fun v e=>by have:=(h.front v).1 e;simp at this
 refine⟨h.len,h.src,h.nil,fun v=>?_,h.zero,fun r h1 h2 h3=>?_,h.back⟩
 ·have:=hf v
  simp only[List.length_nil] at hcnt
  rcases h.rng v with e|e<;>omega
 ·refine h.done r h1 h2 h3 ?_
  have:=hf (bU N r)
  rcases h.rng (bU N r) with e|e<;>omega
end
def bo (N:bt) (rm:List Int) (least:Int) (lv:List Int) (k:Nat):List Nat:=(List.range k).filter fun r=>decide (least≤rm.getD r 0∧bT lv (bU N r)≠-1∧bT lv (cH N r)=bT lv (bU N r)+1)
def cP (N:bt) (ls:List Nat) (v:Nat):List Nat:=ls.filter fun r=>decide (bU N r=v)
theorem dm {N:bt} {rm:List Int} {least:Int} {lv:List Int} {k r:Nat}:r∈bo N rm least lv k↔r<k∧least≤rm.getD r 0∧bT lv (bU N r)≠-1∧bT lv (cH N r)=bT lv (bU N r)+1:=by
 unfold bo;rw[List.mem_filter,List.mem_range,decide_eq_true_eq]
theorem dU {N:bt} {ls:List Nat} {v r:Nat}:r∈cP N ls v↔r∈ls∧bU N r=v:=by
 unfold cP;rw[List.mem_filter,decide_eq_true_eq]
theorem eJ {N:bt} {rm:List Int} {least:Int} {lv:List Int} (h:dx N rm least lv):ed N (cP N (bo N rm least lv (2*N.arcs.length))) (bT lv):=by
 refine⟨fun v r hr=>?_,h.rng⟩
 obtain⟨h1,h2⟩:=dU.1 hr
 obtain⟨h3,_,_,h6⟩:=dm.1 h1
 exact⟨h3,h2,by rw[h6,h2]⟩
theorem uh {N:bt} {rm:List Int} {least:Int} {lv:List Int} (h:dx N rm least lv):∀ (k v:Nat),bT lv v=k→LP N (cP N (bo N rm least lv (2*N.arcs.length))) least rm v
 |0,v,hv=>by rw[h.zero v (by simpa using hv)];exact .src
 |k+1,v,hv=>by
  obtain⟨r,h1,h2,h3,h4⟩:=h.back v (by omega)
  have ih:=uh h k (bU N r) (by omega)
  rw[← h3]
  exact .step ih (dU.2 ⟨dm.2 ⟨h1,h2,by omega,by rw[h3];omega⟩,rfl⟩) h2
theorem wi {N:bt} {rm:List Int} {least:Int} {lv:List Int} (h:dx N rm least lv) (hl:rm.length=2*N.arcs.length):∀ {v:Int},tj N rm least v→0≤bT lv v.toNat:=by
 intro v hv
 induction hv with
 |src=>rw[h.src];omega
 |step u r _ h1 h2 h3 ih=>
  have:=h.step r (by omega) h3 (by unfold bU;rw[h2];exact ih)
  exact this.1
end Go.Proofs.YtpbmihpjgjbndaaGreat
