/- The levels of a network's nodes. -/
import Derived.Test.YtpbmihpjgjbndaaGreatDoorQB
import Derived.Test.YtpbmihpjgjbndaaGreatDoorQF
set_option linter.unusedVariables false
set_option linter.unusedSimpArgs false
namespace Go.Proofs.YtpbmihpjgjbndaaGreatDoor
open Go.RowKit
theorem xr (px pn:Nat) (Ax An:Option Addr) (lx cx ln cn:Nat):Fn 145 [.pointer (some ⟨px,0,none⟩),.pointer (some ⟨pn,0,none⟩)] (aR [blk px 23 [.slice Ax lx cx],blk pn 23 [.slice An ln cn]])
 ([]++[blk px 23 [.slice Ax lx cx],blk pn 23 [.slice An ln cn]]) fun v H'=>v=.bool (dI (0<lx))∧H'=[blk px 23 [.slice An 0 cn],blk pn 23 [.slice Ax lx cx]]:=by
 refine aS Tryz.func145 rfl rfl fun w0=>?_
 refine ad (aa (ae [] rfl ?_))
 refine d7 [(0,.pointer (some ⟨px,0,none⟩)),(1,.pointer (some ⟨pn,0,none⟩))] [blk px 23 [.slice An 0 cn],blk pn 23 [.slice Ax lx cx]] ?_ ?_
 ·refine zi ?_
  (repeat' (first
   |exact trivial
   |refine xl (by decide+kernel) ⟨[0,1],⟨rfl,rfl,trivial⟩,by decide,rfl⟩
   |refine gC 0 [1] (by decide+kernel) ?_
   |refine gC 0 [2] (by decide+kernel) ?_
   |refine gC 2 [3] (by decide+kernel) ?_
   |refine gC 0 [] (by decide+kernel) ?_
   |refine gC 1 [] (by decide+kernel) ?_
   |refine gC 2 [] (by decide+kernel) ?_
   |refine gC 3 [] (by decide+kernel) ?_
   |refine gC 4 [] (by decide+kernel) ?_
   |refine⟨⟨_,rfl,?_⟩,?_⟩
   |refine ab [] (af 0 rfl rfl rfl rfl) rfl ?_
   |refine ab [] (af 1 rfl rfl rfl rfl) rfl ?_
   |refine ab [] (fg (i:=0) rfl rfl rfl rfl rfl (Nat.zero_le _)) rfl ?_
   |refine aX 1 rfl rfl rfl rfl rfl [] rfl ?_
   |refine aX 0 rfl rfl rfl rfl rfl [] rfl ?_
   |refine ai ?_))
 refine ad (aa (ah [] rfl ?_))
 refine ab [] (af 1 rfl rfl rfl rfl) rfl ?_
 refine ae [] rfl ?_
 refine aE [0,1] (by decide) rfl (aB ⟨_,rfl,congrArg Value.bool (d8 (by omega)),rfl⟩)
def zE (N:a8) (f:List Int) (least:Int) (n:Nat) (v:Value) (H':Heap):Prop:=
 (aH N f∧1≤least∧∃ (lv:List Int) (g:Nat),dr N (aM (N.arcs.zip f)) least lv∧v=.tuple #[.slice (some ⟨g,0,none⟩) (n+1) (n+1),.int .i64 0]∧
  H'=[.own (.slice (some ⟨g,0,none⟩) (n+1) (n+1)) 3 1 (n+1) (ap lv)])∨
 (¬ aH N f∧v=.tuple #[.slice none 0 0,.int .i64 (eO N f)]∧H'=[])∨(aH N f∧least<1∧v=.tuple #[.slice none 0 0,.int .i64 3]∧H'=[])
structure LS where
 k:Nat
 fr:List Nat
 Ax:Option Addr
 cx:Nat
 nw:List Int
 An:Option Addr
 cn:Nat
 lv:List Int
set_option maxHeartbeats 1000000 in
theorem nY (N:a8) (hN:N.Fits) (hR:N.Right) (A:Option Addr) (c b o:Nat) (hA:N.arcs≠[]→A=some ⟨b,o,none⟩) (f:List Int) (F:Option Addr) (cf bf of:Nat) (hF:f≠[]→F=some ⟨bf,of,none⟩) (hf:∀ x∈f,bN x) (hfl:f.length*8≤140737488351232) (least:Int)
 (n:Nat) (hn:N.nodes=n):Fn 117 [bu N A c,.slice F f.length cf,.int .i64 least] [] [.seg b o (arcs N.arcs),.seg bf of (ap f)] (zE N f least n):=by
 have hnn:=hR.nodes
 have hl2:=hR.len
 refine aS Tryz.func117 rfl rfl fun w0=>?_
 refine ad (aa ?_)
 refine bw (cs:=bG N A c) rfl rfl rfl (fun _=>rfl) fun p=>?_
 refine ae [] rfl ?_
 refine ad (aa ?_)
 refine ab [] (v:=bu N A c) (af 0 rfl rfl rfl rfl) rfl ?_
 refine ah [] rfl ?_
 refine ax [] (kq N hN hR A c b o hA f F cf bf of hF hf hfl) rfl rfl rfl rfl (by kernel_rfl) ⟨⟨1,_,by simp,rfl,aq _ _ _,ay⟩,⟨2,_,by simp,rfl,aq _ _ _,ay⟩,trivial⟩ (fun _=>rfl) ?_
 rintro v H' (⟨hW,A1,c1,rfl,rfl⟩|⟨hW,rfl,rfl⟩)
 case inr=>
  refine⟨rfl,?_⟩
  refine ae [] rfl ?_
  refine ad (au (ad (aa (ae [] rfl ?_))))
  refine aC rfl (fun h=>?_) (fun h=>absurd (cK.1 (Classical.not_not.1 h)) hW)
  refine ad (aa (ae [] rfl ?_))
  refine aE [] (by decide) rfl (aB ⟨_,rfl,.inr (.inl ⟨hW,rfl,rfl⟩)⟩)
 refine⟨rfl,?_⟩
 refine ae [] rfl ?_
 refine ad (au (ad (aa (ae [] rfl ?_))))
 refine aC rfl (fun h=>absurd rfl h) (fun _=>?_)
 refine ad (aa (ae [] rfl ?_))
 refine aC rfl (fun h=>?_) (fun hle=>av ?_)
 ·refine ad (aa (ae [] rfl ?_))
  refine aE [] (by decide) rfl (aB ⟨_,rfl,.inr (.inr ⟨hW,h,rfl,rfl⟩)⟩)
 obtain⟨rm,hrm⟩:∃ rm,rm=aM (N.arcs.zip f):=⟨_,rfl⟩
 have hrl:rm.length=2*N.arcs.length:=by rw[hrm,cv,List.length_zip,hW.len,Nat.min_self]
 rw[← hrm]
 refine ad (aa (ah [] rfl ?_))
 refine ab [] (af 1 rfl rfl rfl rfl) rfl ?_
 refine ah [] rfl ?_
 refine aw 41 (v':=.int .i64 ((n+1:Nat):Int)) rfl (congrArg (Value.int .i64) ((bU (n:=N.nodes+1) (by omega)).trans (by omega))) ?_
 refine dv (n:=n+1) (c:=n+1) rfl rfl rfl rfl rfl rfl (by omega) (by omega) (by omega) (fun _=>rfl) fun g=>?_
 refine ae [] rfl ?_
 refine ad (aa (ah [] rfl ?_))
 refine ab [] (af 2 rfl rfl rfl rfl) rfl ?_
 refine ah [] rfl ?_
 refine aw 45 (v':=.int .i64 ((n+1:Nat):Int)) rfl (congrArg (Value.int .i64) ((bU (n:=N.nodes+1) (by omega)).trans (by omega))) ?_
 refine dv (n:=n+1) (c:=n+1) rfl rfl rfl rfl rfl rfl (by omega) (by omega) (by omega) (fun _=>rfl) fun go=>?_
 refine ae [] rfl ?_
 rw[show made [Value.slice none 0 0] ((n+1)*1)=(List.replicate (n+1) dg).map cH by rw[dn,Nat.mul_one,List.map_replicate];rfl]
 rw[show made [Value.int .i64 0] ((n+1)*1)=ap (List.replicate (n+1) 0) by rw[dn,Nat.mul_one];simp[ap]]
 refine ad (ad (aa (ae [] rfl ?_)))
 refine au ?_
 refine bq (σ:=Nat) (fun k=>[(49,.int .i64 k),(48,.int .i64 ((n+1:Nat):Int)),(11,.slice (some ⟨go,0,none⟩) (n+1) (n+1)),(10,.slice (some ⟨g,0,none⟩) (n+1) (n+1)),(8,.slice A1 (2*N.arcs.length) c1),(3,.pointer (some ⟨p,0,none⟩)),(2,.int .i64 least)])
  (fun k=>[.own (.slice (some ⟨go,0,none⟩) (n+1) (n+1)) 3 1 (n+1) (ap (List.replicate k (-1)++List.replicate (n+1-k) 0)),.own (.slice (some ⟨g,0,none⟩) (n+1) (n+1)) 23 1 (n+1) ((List.replicate (n+1) dg).map cH),.own (.slice A1 (2*N.arcs.length) c1) 2 1 (2*N.arcs.length) (ap rm),blk p 27 (bG N A c),.seg b o (arcs N.arcs),.seg bf of (ap f)])
  (fun k=>k≤n+1) (fun k=>n+1-k) 0 [0,1,2,3,4,5] ⟨rfl,rfl,rfl,rfl,rfl,rfl,rfl,trivial⟩ (by decide) rfl (Nat.zero_le _) ?_
 ·intro k hk
  refine ad (aa (ae [] rfl ?_))
  refine ad (aC rfl (fun hlt=>av ?_) (fun hge=>aV ?_))
  ·have hlt:k<n+1:=by omega
   refine ad (au ?_)
   refine ad (aa (ae [] rfl ?_))
   refine aa (ah [] rfl ?_)
   refine ab [] (aJ rfl rfl rfl rfl rfl hlt) rfl ?_
   refine aQ 0 rfl rfl rfl rfl (ep rfl (by simp;omega)) [] rfl ?_
   refine ai ?_
   refine aa (ae [] rfl ?_)
   refine⟨k+1,[0,1,2,3,4,5],⟨?_,rfl,rfl,rfl,rfl,rfl,rfl,trivial⟩,by decide,?_,by omega,by omega⟩
   ·show some (Value.int .i64 (IntKind.i64.wrap ((k:Int)+1)))=_
    rw[bU (by omega)];rfl
   ·rw[show List.replicate (k+1) (-1:Int)++List.replicate (n+1-(k+1)) 0=(List.replicate k (-1)++List.replicate (n+1-k) 0).set k (-1) by
     rw[List.set_append_right _ _ (by simp),List.length_replicate,Nat.sub_self,show n+1-k=(n+1-(k+1))+1 by omega,List.replicate_succ (n:=n+1-(k+1)),List.set_cons_zero,List.replicate_succ' (n:=k),List.append_assoc]
     rfl]
    rfl
  ·obtain rfl:k=n+1:=by omega
   rw[Nat.sub_self,List.replicate_zero,List.append_nil]
   refine ad (ad (aa (ae [] rfl ?_)))
   refine au ?_
   refine bA (aK.nils 3 (n+1)) ?_
   refine cN (σ:=Nat×List eu) (fun s=>[(58,.int .i64 s.1),(57,.int .i64 ((2*N.arcs.length:Nat):Int)),(56,.slice A1 (2*N.arcs.length) c1),(11,.slice (some ⟨go,0,none⟩) (n+1) (n+1)),(10,.slice (some ⟨g,0,none⟩) (n+1) (n+1)),(8,.slice A1 (2*N.arcs.length) c1),(3,.pointer (some ⟨p,0,none⟩)),(2,.int .i64 least)])
    (fun s=>[.own (.slice (some ⟨go,0,none⟩) (n+1) (n+1)) 3 1 (n+1) (ap (List.replicate (n+1) (-1))),.own (.slice (some ⟨g,0,none⟩) (n+1) (n+1)) 23 1 (n+1) (s.2.map cH),.own (.slice A1 (2*N.arcs.length) c1) 2 1 (2*N.arcs.length) (ap rm),blk p 27 (bG N A c),.seg b o (arcs N.arcs),.seg bf of (ap f)]++s.2.map (bH 3))
    (fun s=>s.1≤2*N.arcs.length∧s.2.length=n+1∧∀ (v:Nat) (r:eu),s.2[v]?=some r→r.l=tr N s.1 v) (fun s=>2*N.arcs.length-s.1)
    (0,List.replicate (n+1) dg) ⟨rfl,rfl,rfl,rfl,rfl,rfl,rfl,rfl,trivial⟩ aK.refl ⟨Nat.zero_le _,by simp,fun v r h=>?_⟩ ?_
   ·rw[List.getElem?_replicate] at h
    split at h
    ·simp only[Option.some.injEq] at h;subst h;rfl
    ·cases h
   rintro⟨k,rows⟩ ⟨hk,hrows,htr⟩
   simp only at hk hrows htr ⊢
   refine ad (aa (ae [] rfl ?_))
   refine ad (aC rfl (fun hlt=>av ?_) (fun hge=>aV ?_))
   ·have hlt:k<2*N.arcs.length:=by omega
    have he:=ff hR hlt
    obtain⟨v,hv⟩:∃ v:Nat,(bP N k).1=v:=⟨(bP N k).1.toNat,by omega⟩
    have hvn:v<rows.length:=by omega
    obtain⟨row,hrow⟩:∃ r,rows[v]?=some r:=⟨rows[v],List.getElem?_eq_getElem hvn⟩
    have hrl':=htr v row hrow
    have hlen:=jk N k v
    rw[← hrl'] at hlen
    refine ad (au ?_)
    refine ad (aa (ae [] rfl ?_))
    refine ad (aa ?_)
    refine ab [] (v:=bu N A c) (af 3 rfl rfl rfl rfl) rfl ?_
    refine ah [] rfl ?_
    refine ax [] (e6 N A c b o hA hl2 k hlt) rfl rfl rfl rfl (by kernel_rfl) ⟨⟨4,_,by simp,rfl,aq _ _ _,ay⟩,trivial⟩ (fun _=>rfl) ?_
    rintro v' H' ⟨rfl,rfl⟩
    refine⟨rfl,?_⟩
    refine ae [] rfl ?_
    refine aP 14 (v':=.int .i64 (v:Int)) rfl (congrArg (Value.int .i64) hv) ?_
    refine aa (ah [] rfl ?_)
    refine ab [] (aJ rfl rfl rfl rfl rfl (by omega)) rfl ?_
    refine ab [] (aD (v:=cH row) 1 rfl rfl rfl (show (rows.map cH)[v]?=some (cH row) by rw[List.getElem?_map,hrow];rfl)) rfl ?_
    refine ah [] rfl ?_
    refine bK rfl rfl rfl rfl rfl rfl rfl (fun _=>rfl) fun g2=>?_
    show JL _ _ _ _ _ ([_,_,_,_,_,_,_]++rows.map (bH 3))
    refine bY (aK.front (i:=v) (c:=bH 3 row) (by rw[List.getElem?_map,hrow];rfl)) ?_
    refine be (n:=row.l.length) (m:=1) (off:=0) (news:=ap [(k:Int)]) 0 1 rfl rfl rfl rfl rfl rfl (by decide) rfl rfl (aL g2 _ _ (0,0)) (fun _=>rfl) rfl rfl (by omega) (by omega) (fun _ _=>rfl) fun A2 c2=>?_
    rw[show row.l.length+1=(row.l++[(k:Int)]).length by simp,show ap row.l++ap [(k:Int)]=ap (row.l++[(k:Int)]) by simp[ap]]
    refine ab [] (aJ rfl rfl rfl rfl rfl (by omega)) rfl ?_
    refine aQ 3 rfl rfl rfl rfl (dk rfl rfl rfl (by rw[List.length_map];omega)) [] rfl ?_
    refine ai ?_
    refine aa (ae [] rfl ?_)
    refine⟨(k+1,rows.set v ⟨A2,c2,row.l++[(k:Int)]⟩),⟨?_,rfl,rfl,rfl,rfl,rfl,rfl,rfl,trivial⟩,?_,⟨by simp only;omega,by simp only[List.length_set];omega,fun u r hu=>?_⟩,by simp only;omega⟩
    ·show some (Value.int .i64 (IntKind.i64.wrap ((k:Int)+1)))=_
     rw[bU (by omega)];rfl
    ·simp only[List.map_set]
     refine aK.trans (aK.sub (List.Sublist.cons_cons _ (List.sublist_cons_self _ _))) (aK.back (A:=[_,_,_,_,_,_]) (by rw[List.length_map];exact hvn))
    ·rw[sM]
     by_cases huv:v=u
     ·subst huv
      rw[List.getElem?_set_self hvn] at hu
      simp only[Option.some.injEq] at hu
      rw[← hu,if_pos hv,hrl']
     ·rw[List.getElem?_set_ne huv] at hu
      rw[if_neg (by omega),List.append_nil]
      exact htr u r hu
   ·have hk':k=2*N.arcs.length:=by omega
    subst hk'
    have hrowA0:∀ w,cm w0 [] w ([.own (.slice (some ⟨go,0,none⟩) (n+1) (n+1)) 3 1 (n+1) (ap (List.replicate (n+1) (-1))),.own (.slice (some ⟨g,0,none⟩) (n+1) (n+1)) 23 1 (n+1) (rows.map cH),.own (.slice A1 (2*N.arcs.length) c1) 2 1 (2*N.arcs.length) (ap rm),blk p 27 (bG N A c),.seg b o (arcs N.arcs),.seg bf of (ap f)]++rows.map (bH 3))→
     ∀ v:Nat,∃ gv:Nat,∀ row,rows[v]?=some row→row.l.length≤row.c∧(ap row.l≠[]→row.A=some ⟨gv,0,none⟩):=by
     intro w hw v
     cases hv:rows[v]? with
     |none=>exact⟨0,fun row h=>by cases h⟩
     |some row=>
      obtain⟨_,h2,h3,h4⟩:=bh (X:=⟨w0,[],⟨0,[]⟩⟩) (v+6) (show _=some (bH 3 row) by show (rows.map (bH 3))[v]?=_;rw[List.getElem?_map,hv];rfl) w hw
      obtain⟨gv,hgv⟩:=cB h3 h4
      exact⟨gv,fun row' h=>by simp only[Option.some.injEq] at h;subst h;exact⟨h2,hgv⟩⟩
    refine bO hrowA0 fun hrowA=>?_
    obtain⟨gv,hgv⟩:∃ gv:Nat→Nat,∀ (v:Nat) (row:eu),rows[v]?=some row→row.l.length≤row.c∧(ap row.l≠[]→row.A=some ⟨gv v,0,none⟩):=⟨fun v=>Classical.choose (hrowA v),fun v=>Classical.choose_spec (hrowA v)⟩
    refine bO (bh 2 rfl) fun ⟨_,_,hA1,_⟩=>?_
    clear hrowA hrowA0
    have hsrc:=hR.src
    obtain⟨s0,hs0⟩:∃ s:Nat,N.src=s:=⟨N.src.toNat,by omega⟩
    refine ad (aa ?_)
    refine ci rfl rfl rfl (fun _=>rfl) fun pw=>?_
    refine ci rfl rfl rfl (fun _=>rfl) fun px=>?_
    refine ae [] rfl ?_
    refine ad (aa (ah [] rfl ?_))
    (first|refine ab [] (af 0 rfl rfl rfl rfl) rfl ?_|refine ab [] (af 1 rfl rfl rfl rfl) rfl ?_|refine ab [] (af 2 rfl rfl rfl rfl) rfl ?_|refine ab [] (af 3 rfl rfl rfl rfl) rfl ?_|refine ab [] (af 4 rfl rfl rfl rfl) rfl ?_|refine ab [] (af 5 rfl rfl rfl rfl) rfl ?_|refine ab [] (af 6 rfl rfl rfl rfl) rfl ?_|refine ab [] (af 7 rfl rfl rfl rfl) rfl ?_)
    refine aw 80 (v':=.int .i64 (s0:Int)) rfl (congrArg (Value.int .i64) hs0) ?_
    refine ab [] (aJ rfl rfl rfl rfl rfl (by omega)) rfl ?_
    refine aQ 2 rfl rfl rfl rfl (ep rfl (by simp;omega)) [] rfl ?_
    refine ai ?_
    refine cC 3 1 ?_
    refine ad (aa (ah [] rfl ?_))
    refine ab [] (v:=.slice none 0 0) (af 1 rfl rfl rfl rfl) rfl ?_
    refine ah [] rfl ?_
    (first|refine ab [] (af 0 rfl rfl rfl rfl) rfl ?_|refine ab [] (af 1 rfl rfl rfl rfl) rfl ?_|refine ab [] (af 2 rfl rfl rfl rfl) rfl ?_|refine ab [] (af 3 rfl rfl rfl rfl) rfl ?_|refine ab [] (af 4 rfl rfl rfl rfl) rfl ?_|refine ab [] (af 5 rfl rfl rfl rfl) rfl ?_|refine ab [] (af 6 rfl rfl rfl rfl) rfl ?_|refine ab [] (af 7 rfl rfl rfl rfl) rfl ?_)
    refine aw 84 (v':=.int .i64 (s0:Int)) rfl (congrArg (Value.int .i64) hs0) ?_
    refine bK rfl rfl rfl rfl rfl rfl rfl (fun _=>rfl) fun g3=>?_
    refine be (n:=0) (m:=1) (off:=0) (news:=ap [(s0:Int)]) 1 0 rfl rfl rfl rfl rfl rfl (by decide) rfl rfl (aL g3 _ _ (0,0)) (fun _=>rfl) rfl rfl (by omega) (by omega) (fun _ _=>rfl) fun A3 c3=>?_
    refine aX 2 rfl rfl rfl rfl rfl [] rfl ?_
    refine ai ?_
    refine ad (aa (ae [] rfl ?_))
    refine ad (ad (aa (ae [] rfl ?_)))
    refine cC 3 1 ?_
    refine au ?_
    have hgl:∀ (v:Nat) (row:eu),rows[v]?=some row→row.l=tr N (2*N.arcs.length) v:=fun v row h=>htr v row h
    show J _ _ _ _ ([_,_,_,_,_,_,_,_,_,_,_]++rows.map (bH 3))
    refine cN (σ:=LS) (fun s=>[(19,.int .i64 s.k),(18,.func (.func 145) #[] #[.pointer (some ⟨px,0,none⟩),.pointer (some ⟨pw,0,none⟩)]),(17,.pointer (some ⟨px,0,none⟩)),(16,.pointer (some ⟨pw,0,none⟩)),(11,.slice (some ⟨go,0,none⟩) (n+1) (n+1)),(10,.slice (some ⟨g,0,none⟩) (n+1) (n+1)),(8,.slice A1 (2*N.arcs.length) c1),(3,.pointer (some ⟨p,0,none⟩)),(2,.int .i64 least)])
     (fun s=>[blk px 23 [.slice s.Ax s.fr.length s.cx],blk pw 23 [.slice s.An s.nw.length s.cn],.own (.slice s.Ax s.fr.length s.cx) 3 1 s.fr.length (ap (s.fr.map fun (i:Nat)=>(i:Int))),.own (.slice s.An s.nw.length s.cn) 3 1 s.nw.length (ap s.nw),
      .own (.slice (some ⟨go,0,none⟩) (n+1) (n+1)) 3 1 (n+1) (ap s.lv),.own (.slice (some ⟨g,0,none⟩) (n+1) (n+1)) 23 1 (n+1) (rows.map cH),.own (.slice A1 (2*N.arcs.length) c1) 2 1 (2*N.arcs.length) (ap rm),blk p 27 (bG N A c),.seg b o (arcs N.arcs),.seg bf of (ap f)]++rows.map (bH 3))
     (fun s=>LH N rm least s.k s.fr s.lv) (fun s=>2*s.lv.count (-1)+s.fr.length)
     ⟨1,[s0],A3,c3,[],none,0,(List.replicate (n+1) (-1)).set s0 0⟩ ⟨rfl,rfl,rfl,rfl,rfl,rfl,rfl,rfl,rfl,trivial⟩ (aK.re [3,4,2,0,5,6,7,8,9,10] rfl (by decide)) ?_ ?_
    ·have:=LH.init (rm:=rm) (least:=least) hR
     rw[hs0,hn,Int.toNat_natCast,Int.toNat_natCast] at this
     exact this
    rintro⟨k,fr,Ax,cx,nw,An,cn,lv⟩ hI
    simp only at hI ⊢
    have hcnt:=hI.cnt
    have hk1:=hI.k1
    rw[hn,Int.toNat_natCast] at hcnt
    refine ad (ad (aa (ah [] rfl ?_)))
    show JL _ _ _ _ _ ([_,_]++([_,_,_,_,_,_,_,_]++rows.map (bH 3)))
    refine ao (fst:=[]) (vs:=[]) (cap:=[.pointer (some ⟨px,0,none⟩),.pointer (some ⟨pw,0,none⟩)]) [] (xr px pw Ax An fr.length cx nw.length cn) rfl rfl rfl rfl (by kernel_rfl) aK.refl trivial (fun _=>rfl) ?_
    rintro v H' ⟨rfl,rfl⟩
    refine⟨rfl,?_⟩
    refine ai ?_
    refine aC rfl (fun hne=>av ?_) (fun hne=>aV ?_)
    ·have hfne:fr≠[]:=by rintro rfl;simp at hne
     refine bA (aK.shrink (m:=0) 3 rfl (Nat.zero_le _)) ?_
     show J _ _ _ _ ([_,_,_,_,_,_,_,_,_,_]++rows.map (bH 3))
     refine bO (bh 2 rfl) fun ⟨_,_,hAx,_⟩=>?_
     obtain⟨gx,rfl⟩:=hAx (List.length_pos_iff.2 hfne)
     refine ad (au ?_)
     refine ad (aa (ah [] rfl ?_))
     (first|refine ab [] (af 0 rfl rfl rfl rfl) rfl ?_|refine ab [] (af 1 rfl rfl rfl rfl) rfl ?_|refine ab [] (af 2 rfl rfl rfl rfl) rfl ?_|refine ab [] (af 3 rfl rfl rfl rfl) rfl ?_|refine ab [] (af 4 rfl rfl rfl rfl) rfl ?_|refine ab [] (af 5 rfl rfl rfl rfl) rfl ?_|refine ab [] (af 6 rfl rfl rfl rfl) rfl ?_|refine ab [] (af 7 rfl rfl rfl rfl) rfl ?_)
     refine ae [] rfl ?_
     refine au ?_
     refine cN (σ:=Nat×List Nat×Option Addr×Nat×List Int) (fun s=>[(94,.int .i64 s.1),(93,.int .i64 fr.length),(92,.slice (some ⟨gx,0,none⟩) fr.length cx),(19,.int .i64 k),(18,.func (.func 145) #[] #[.pointer (some ⟨px,0,none⟩),.pointer (some ⟨pw,0,none⟩)]),(17,.pointer (some ⟨px,0,none⟩)),(16,.pointer (some ⟨pw,0,none⟩)),(11,.slice (some ⟨go,0,none⟩) (n+1) (n+1)),(10,.slice (some ⟨g,0,none⟩) (n+1) (n+1)),(8,.slice A1 (2*N.arcs.length) c1),(3,.pointer (some ⟨p,0,none⟩)),(2,.int .i64 least)])
      (fun s=>[blk px 23 [.slice s.2.2.1 s.2.1.length s.2.2.2.1],blk pw 23 [.slice (some ⟨gx,0,none⟩) fr.length cx],.own (.slice (some ⟨gx,0,none⟩) fr.length cx) 3 1 fr.length (ap (fr.map fun (i:Nat)=>(i:Int))),.own (.slice s.2.2.1 s.2.1.length s.2.2.2.1) 3 1 s.2.1.length (ap (s.2.1.map fun (i:Nat)=>(i:Int))),
       .own (.slice (some ⟨go,0,none⟩) (n+1) (n+1)) 3 1 (n+1) (ap s.2.2.2.2),.own (.slice (some ⟨g,0,none⟩) (n+1) (n+1)) 23 1 (n+1) (rows.map cH),.own (.slice A1 (2*N.arcs.length) c1) 2 1 (2*N.arcs.length) (ap rm),blk p 27 (bG N A c),.seg b o (arcs N.arcs),.seg bf of (ap f)]++rows.map (bH 3))
      (fun s=>s.1≤fr.length∧LV N rm least k fr s.1 0 s.2.1 s.2.2.2.2∧2*s.2.2.2.2.count (-1)+2*s.2.1.length=2*lv.count (-1)) (fun s=>fr.length-s.1)
      (0,[],An,cn,lv) ⟨rfl,rfl,rfl,rfl,rfl,rfl,rfl,rfl,rfl,rfl,rfl,rfl,trivial⟩ (aK.re [0,1,2,3,4,5,6,7,8,9] rfl (by decide)) ⟨Nat.zero_le _,hI.turn hfne,rfl⟩ ?_
     rintro⟨i,nxt,Ay,cy,lw⟩ ⟨hil,hV,hct⟩
     simp only at hil hV hct ⊢
     have hvc:=hV.cnt
     rw[hn,Int.toNat_natCast] at hvc
     have hwl:=hV.len
     rw[hn,Int.toNat_natCast] at hwl
     refine ad (aa (ae [] rfl ?_))
     refine ad (aC rfl (fun hlt=>av ?_) (fun hge=>aV ?_))
     ·have hlt:i<fr.length:=by omega
      obtain⟨v,hv⟩:∃ v,fr[i]?=some v:=⟨fr[i],List.getElem?_eq_getElem hlt⟩
      have hvm:(fr.map fun (i:Nat)=>(i:Int))[i]?=some (v:Int):=by rw[List.getElem?_map,hv];rfl
      have hvl:=(hV.old v).2 (List.mem_of_getElem? hv)
      have hvn:v<rows.length:=by
       refine Nat.lt_of_not_le fun h=>?_
       rw[tt (by omega)] at hvl
       omega
      obtain⟨row,hrow⟩:∃ row,rows[v]?=some row:=⟨rows[v],List.getElem?_eq_getElem hvn⟩
      have hrowl:=hgl v row hrow
      have hrowlen:=jk N (2*N.arcs.length) v
      rw[← hrowl] at hrowlen
      refine ad (au ?_)
      refine ad (aa (ah [] rfl ?_))
      refine ab [] (aJ rfl rfl rfl rfl rfl hlt) rfl ?_
      refine ab [] (aD (v:=.int .i64 (v:Int)) 2 rfl rfl rfl (b8 hvm)) rfl ?_
      refine ae [] rfl ?_
      refine ad (aa (ah [] rfl ?_))
      refine ab [] (aJ rfl rfl rfl rfl rfl (by omega)) rfl ?_
      refine ab [] (aD (v:=.slice row.A row.l.length row.c) 5 rfl rfl rfl (show (rows.map cH)[v]?=some (cH row) by rw[List.getElem?_map,hrow];rfl)) rfl ?_
      refine ae [] rfl ?_
      refine au ?_
      refine cN (σ:=Nat×List Nat×Option Addr×Nat×List Int) (fun s=>[(103,.int .i64 s.1),(102,.int .i64 row.l.length),(101,.slice row.A row.l.length row.c),(94,.int .i64 i),(93,.int .i64 fr.length),(92,.slice (some ⟨gx,0,none⟩) fr.length cx),(19,.int .i64 k),(18,.func (.func 145) #[] #[.pointer (some ⟨px,0,none⟩),.pointer (some ⟨pw,0,none⟩)]),(17,.pointer (some ⟨px,0,none⟩)),(16,.pointer (some ⟨pw,0,none⟩)),(11,.slice (some ⟨go,0,none⟩) (n+1) (n+1)),(10,.slice (some ⟨g,0,none⟩) (n+1) (n+1)),(8,.slice A1 (2*N.arcs.length) c1),(3,.pointer (some ⟨p,0,none⟩)),(2,.int .i64 least)])
       (fun s=>[blk px 23 [.slice s.2.2.1 s.2.1.length s.2.2.2.1],blk pw 23 [.slice (some ⟨gx,0,none⟩) fr.length cx],.own (.slice (some ⟨gx,0,none⟩) fr.length cx) 3 1 fr.length (ap (fr.map fun (i:Nat)=>(i:Int))),.own (.slice s.2.2.1 s.2.1.length s.2.2.2.1) 3 1 s.2.1.length (ap (s.2.1.map fun (i:Nat)=>(i:Int))),
        .own (.slice (some ⟨go,0,none⟩) (n+1) (n+1)) 3 1 (n+1) (ap s.2.2.2.2),.own (.slice (some ⟨g,0,none⟩) (n+1) (n+1)) 23 1 (n+1) (rows.map cH),.own (.slice A1 (2*N.arcs.length) c1) 2 1 (2*N.arcs.length) (ap rm),blk p 27 (bG N A c),.seg b o (arcs N.arcs),.seg bf of (ap f)]++rows.map (bH 3))
       (fun s=>s.1≤row.l.length∧LV N rm least k fr i s.1 s.2.1 s.2.2.2.2∧2*s.2.2.2.2.count (-1)+2*s.2.1.length=2*lv.count (-1)) (fun s=>row.l.length-s.1)
       (0,nxt,Ay,cy,lw) ⟨rfl,rfl,rfl,rfl,rfl,rfl,rfl,rfl,rfl,rfl,rfl,rfl,rfl,rfl,rfl,trivial⟩ aK.refl ⟨Nat.zero_le _,hV,hct⟩ ?_
      clear hvc hwl hV hct
      rintro⟨j,nxt,Ay,cy,lw⟩ ⟨hjl,hV,hct⟩
      simp only at hjl hV hct ⊢
      have hvc:=hV.cnt
      rw[hn,Int.toNat_natCast] at hvc
      have hwl:=hV.len
      rw[hn,Int.toNat_natCast] at hwl
      refine ad (aa (ae [] rfl ?_))
      refine ad (aC rfl (fun hlt2=>av ?_) (fun hge=>aV ?_))
      ·have hlt2:j<row.l.length:=by omega
       obtain⟨y,hy⟩:∃ y,row.l[j]?=some y:=⟨row.l[j],List.getElem?_eq_getElem hlt2⟩
       have hymem:=List.mem_of_getElem? hy
       rw[hrowl] at hymem
       obtain⟨r,hr,hru,rfl⟩:=oI.1 hymem
       have hin:=ff hR hr
       obtain⟨te,htn1,htn2⟩:=fu hR hr
       obtain⟨t,ht⟩:∃ t,d9 N r=t:=⟨_,rfl⟩
       rw[ht] at te htn1 htn2
       have hfr:cU N r=v:=by unfold cU;omega
       obtain⟨x,hxr⟩:∃ x,rm[r]?=some x:=⟨rm[r]'(by omega),List.getElem?_eq_getElem (by omega)⟩
       have hxd:rm.getD r 0=x:=by rw[List.getD_eq_getElem?_getD,hxr];rfl
       have hlt3:t<lw.length:=by omega
       obtain⟨gr,rfl⟩:=hA1 (by omega)
       have hrowne:ap row.l≠[]:=by
        intro h0
        have:row.l.length=0:=by rw[← bB,h0];rfl
        omega
       have hrA:=(hgv v row hrow).2 hrowne
       have hjr:∃ u,fr[i]?=some u∧(tr N (2*N.arcs.length) u)[j]?=some (r:Int):=⟨v,hv,hrowl▸hy⟩
       have hnext:IntKind.i64.wrap ((j:Int)+1)=((j+1:Nat):Int):=bU (by omega)
       refine ad (au ?_)
       refine ad (aa (ah [] rfl ?_))
       refine ab [] (f9 (b:=gv v) (off:=0) rfl (by rw[hrA];rfl) rfl rfl rfl hlt2) rfl ?_
       refine ab [] (dD (b:=gv v) (off:=0) (i:=j) (cs:=ap row.l) (v:=.int .i64 (r:Int)) (c:=bH 3 row) (v+10) rfl rfl (show (rows.map (bH 3))[v]?=_ by rw[List.getElem?_map,hrow];rfl)
        (aY (e:=3) (sz:=1) (n:=row.l.length) (cap:=row.c) (fun _=>hrA)) (b8 hy)) rfl ?_
       refine ae [] rfl ?_
       refine ad (aa ?_)
       refine ab [] (v:=bu N A c) (af 7 rfl rfl rfl rfl) rfl ?_
       refine ah [] rfl ?_
       refine ax [] (e6 N A c b o hA hl2 r hr) rfl rfl rfl rfl (by kernel_rfl) ⟨⟨8,_,by simp,rfl,aq _ _ _,ay⟩,trivial⟩ (fun _=>rfl) ?_
       rintro v' H' ⟨rfl,rfl⟩
       refine⟨rfl,?_⟩
       refine ae [] rfl ?_
       refine aP 25 (v':=.int .i64 (t:Int)) rfl (congrArg (Value.int .i64) te) ?_
       refine ad (aa (ah [] rfl ?_))
       refine ab [] (aJ rfl rfl rfl rfl rfl (by omega)) rfl ?_
       refine ab [] (aD 6 rfl rfl rfl (a9 hxr)) rfl ?_
       refine ah [] rfl ?_
       have hyes:∀ E2:Env,True:=fun _=>trivial
       have hskip:rm.getD r 0<least∨bZ lw (d9 N r)≠-1→LV N rm least k fr i (j+1) nxt lw:=fun h=>hV.pass hjr h
       by_cases hge:least≤x
       ·refine aw 119 (v':=.bool true) rfl (congrArg Value.bool (az hge)) ?_
        refine ah [6] rfl ?_
        refine ab [6] (aJ rfl rfl rfl rfl rfl (by omega)) rfl ?_
        refine ab [6] (aD 4 rfl rfl rfl (df (iV hlt3))) rfl ?_
        refine ae [6] rfl ?_
        refine aC rfl (fun hnone=>?_) (fun hsome=>av ?_)
        ·have hput:=hV.put (r:=r) ⟨v,hv,hfr,hrowl▸hy⟩ hr ⟨by omega,by omega⟩ (by omega) (by rw[ht];exact hnone)
         have hcs:=e9 lw t (k:Int) (by rw[iV hlt3,hnone]) (by omega)
         rw[ht] at hput
         refine ad (aa (ah [] rfl ?_))
         refine ab [] (aJ rfl rfl rfl rfl rfl (by omega)) rfl ?_
         refine aQ 4 rfl rfl rfl rfl (ep rfl hlt3) [] rfl ?_
         refine ai ?_
         refine aa (ah [] rfl ?_)
         refine ab [] (v:=.slice Ay nxt.length cy) (af 0 rfl rfl rfl rfl) rfl ?_
         refine ah [] rfl ?_
         refine bK rfl rfl rfl rfl rfl rfl rfl (fun _=>rfl) fun g4=>?_
         refine be (n:=nxt.length) (m:=1) (off:=0) (news:=ap [(t:Int)]) 4 0 rfl rfl rfl rfl rfl rfl (by decide) rfl rfl (aL g4 _ _ (0,0)) (fun _=>rfl) rfl rfl (by omega) (by omega) (fun _ _=>rfl) fun A4 c4=>?_
         rw[show nxt.length+1=(nxt++[t]).length by simp,show ap (nxt.map fun (i:Nat)=>(i:Int))++ap [(t:Int)]=ap ((nxt++[t]).map fun (i:Nat)=>(i:Int)) by simp[ap]]
         refine aX 1 rfl rfl rfl rfl rfl [] rfl ?_
         refine ai ?_
         refine aa (ae [] rfl ?_)
         show ∃ s',_∧aK _ ([_,_,_,_,_,_,_,_,_,_,_]++rows.map (bH 3)) _∧_
         exact⟨(j+1,nxt++[t],A4,c4,lw.set t (k:Int)),⟨congrArg some (congrArg (Value.int .i64) hnext),rfl,rfl,rfl,rfl,rfl,rfl,rfl,rfl,rfl,rfl,rfl,rfl,rfl,rfl,trivial⟩,aK.re [1,2,3,4,5,6,7,8,9,10] rfl (by decide),⟨by simp only;omega,hput,by simp only[List.length_append,List.length_singleton];omega⟩,by simp only;omega⟩
        ·skip
         refine aa (ae [] rfl ?_)
         exact⟨(j+1,nxt,Ay,cy,lw),⟨congrArg some (congrArg (Value.int .i64) hnext),rfl,rfl,rfl,rfl,rfl,rfl,rfl,rfl,rfl,rfl,rfl,rfl,rfl,rfl,trivial⟩,aK.refl,⟨by simp only;omega,hskip (.inr (by rw[ht];exact hsome)),hct⟩,by simp only;omega⟩
       ·refine aw 119 (v':=.bool false) rfl (congrArg Value.bool (aA hge)) ?_
        refine ae [6] rfl ?_
        refine bI rfl (av ?_)
        refine aa (ae [] rfl ?_)
        exact⟨(j+1,nxt,Ay,cy,lw),⟨congrArg some (congrArg (Value.int .i64) hnext),rfl,rfl,rfl,rfl,rfl,rfl,rfl,rfl,rfl,rfl,rfl,rfl,rfl,rfl,trivial⟩,aK.refl,⟨by simp only;omega,hskip (.inl (by omega)),hct⟩,by simp only;omega⟩
      ·have hV':=hV.row (fun u hu=>by
        rw[hv] at hu
        simp only[Option.some.injEq] at hu
        rw[← hu,← hrowl];omega)
       refine aa (ae [] rfl ?_)
       exact⟨(i+1,nxt,Ay,cy,lw),⟨congrArg some (congrArg (Value.int .i64) (bU (by omega))),rfl,rfl,rfl,rfl,rfl,rfl,rfl,rfl,rfl,rfl,rfl,trivial⟩,aK.refl,⟨by simp only;omega,hV',hct⟩,by simp only;omega⟩
     ·have hH:=hV.final (by omega)
      refine aa (ae [] rfl ?_)
      exact⟨⟨k+1,nxt,Ay,cy,fr.map fun (i:Nat)=>(i:Int),some ⟨gx,0,none⟩,cx,lw⟩,⟨congrArg some (congrArg (Value.int .i64) (bU (by omega))),rfl,rfl,rfl,rfl,rfl,rfl,rfl,rfl,trivial⟩,by
       simp only[List.length_map]
       exact aK.re [0,1,3,2,4,5,6,7,8,9] rfl (by decide),hH,by simp only;have:=List.length_pos_iff.2 hfne;omega⟩
    ·have hf0:fr=[]:=List.length_eq_zero_iff.1 (by omega)
     subst hf0
     refine ad (aa (ae [] rfl ?_))
     refine aE [4] (by decide) rfl (aB ⟨_,rfl,.inl ⟨hW,by omega,lv,go,?_,rfl,rfl⟩⟩)
     rw[← hrm]
     exact hI.lev hR
end Go.Proofs.YtpbmihpjgjbndaaGreatDoor
