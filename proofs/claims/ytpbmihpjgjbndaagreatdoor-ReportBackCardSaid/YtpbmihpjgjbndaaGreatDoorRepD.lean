/- Reports: Parse of any text. -/
import Derived.Test.YtpbmihpjgjbndaaGreatDoorQX39
set_option linter.unusedVariables false
set_option linter.unusedSimpArgs false
namespace Go.Proofs.YtpbmihpjgjbndaaGreatDoor
open Go.RowKit
open Lib
theorem wb {n:Nat} {q:List Int×List Int} {ls:List (List UInt8)} {k:Nat} {x:List UInt8} (hx:ls[k]?=some x) (hw:bB x=[]) {q':List Int×List Int}:ee n q (ls.map bB)≠some q':=by
 have hlt:=(List.getElem?_eq_some_iff.1 hx).1
 have e:ls=ls.take k++x::ls.drop (k+1):=by
  have:ls.drop k=x::ls.drop (k+1):=by rw[List.drop_eq_getElem_cons hlt];rw[(List.getElem?_eq_some_iff.1 hx).2]
  rw[← this,List.take_append_drop]
 rw[e,List.map_append,fH]
 cases ee n q ((ls.take k).map bB) with
 |none=>simp
 |some q2=>
  simp only[List.map_cons,hw]
  show (none:Option (List Int×List Int))≠some q'
  simp
theorem tN {n:Nat} {q q1:List Int×List Int} {ls:List (List UInt8)} {k:Nat} {x h:List UInt8} {t:Ws} (hx:ls[k]?=some x) (hw:bB x=h::t) (hq:ee n q ((ls.take k).map bB)=some q1):ee n q ((ls.take (k+1)).map bB)=some (d9 n q1 h t):=by
 rw[List.take_add_one,hx,List.map_append,fH,hq]
 simp only[Option.toList,List.map_cons,List.map_nil,hw]
 rfl
theorem kB {l:List Int} {A B:Option Addr} (h:ao l≠[]→A=B) (hl:l≠[]):A=B:=h fun h0=>hl (by simpa [ao] using h0)
set_option maxHeartbeats 4000000 in
theorem nD (V:fC) (N:a8) (hN:N.Fits) (hR:N.Right) (A:Option Addr) (c b o:Nat) (hA:N.arcs≠[]→A=some ⟨b,o,none⟩) (l:List UInt8) (hl:l.length≤90000):
 Fn 16 [br N A c,eh l] [] ([.seg b o (arcs N.arcs)]++V.heap) (xw N l):=by
 have hl2:=hR.len
 have hll:=qa l
 refine aS Tryz.func16 rfl rfl fun w0=>?_
 refine ad (aa ?_)
 refine bw (cs:=bP N A c) rfl rfl rfl (fun _=>rfl) fun p2=>?_
 refine ae [] rfl ?_
 refine ad (ad (aa ?_))
 refine ab [] (v:=br N A c) (af 0 rfl rfl rfl rfl) rfl ?_
 refine av [] (km N hN A c b o hA) rfl rfl rfl rfl (by kernel_rfl) ⟨⟨1,_,by simp,rfl,aq _ _ _,ay⟩,trivial⟩ (fun _=>rfl) ?_
 rintro v H' ⟨rfl,rfl⟩
 refine⟨rfl,?_⟩
 rw[hR.check]
 refine ae [] rfl ?_
 refine ad (aa (ae [] rfl ?_))
 refine aD rfl (fun h=>absurd rfl h) (fun _=>aw ?_)
 refine ad (aa (ah [] rfl ?_))
 (first|refine ab [] (af 0 rfl rfl rfl rfl) rfl ?_|refine ab [] (af 1 rfl rfl rfl rfl) rfl ?_|refine ab [] (af 2 rfl rfl rfl rfl) rfl ?_|refine ab [] (af 3 rfl rfl rfl rfl) rfl ?_|refine ab [] (af 4 rfl rfl rfl rfl) rfl ?_|refine ab [] (af 5 rfl rfl rfl rfl) rfl ?_|refine ab [] (af 6 rfl rfl rfl rfl) rfl ?_|refine ab [] (af 7 rfl rfl rfl rfl) rfl ?_)
 refine ah [] rfl ?_
 refine du (n:=N.arcs.length) (c:=N.arcs.length) rfl rfl rfl rfl rfl rfl (by omega) (by omega) (by omega) (fun _=>rfl) fun g8=>?_
 rw[show made [Value.int .i64 0] (N.arcs.length*1)=ao (List.replicate N.arcs.length 0) by rw[dk,Nat.mul_one];simp[ao]]
 refine ae [] rfl ?_
 refine ad (aa (ae [] rfl ?_))
 refine ad (ad (aa (ah [] rfl ?_)))
 refine av [] (qr V l (by omega)) rfl rfl rfl rfl (by kernel_rfl) ⟨⟨3,by simp,rfl⟩,⟨4,by simp,rfl⟩,⟨5,by simp,rfl⟩,trivial⟩ (fun _=>rfl) ?_
 rintro v H' ⟨AL,nL,rfl,rfl,rfl⟩
 refine⟨rfl,?_⟩
 refine d7 (be 0 rfl) fun ⟨_,_,hAL,hlL⟩=>?_
 obtain⟨gL,hAL⟩:=ci hAL hlL
 refine ae [] rfl ?_
 refine cE 3 1 ?_
 refine au ?_
 refine cO (σ:={ t:Nat×(List Int×List Int)×Option Addr×Nat//t.1≤(bg l).length∧ee N.arcs.length (List.replicate N.arcs.length 0,[]) (((bg l).take t.1).map bB)=some t.2.1∧t.2.1.1.length=N.arcs.length∧(∀ x∈t.2.1.1,bT x)∧(∀ x∈t.2.1.2,bT x)∧t.2.1.2.length≤t.1 })
  (fun t=>[(29,.int .i64 (t.1.1:Int)),(28,.int .i64 (bg l).length),(27,.slice AL (bg l).length (bg l).length),(9,.slice t.1.2.2.1 t.1.2.1.2.length t.1.2.2.2),(8,.slice (some ⟨g8,0,none⟩) N.arcs.length N.arcs.length),(1,eh l),(2,.pointer (some ⟨p2,0,none⟩))])
  (fun t=>[.own (.slice (some ⟨g8,0,none⟩) N.arcs.length N.arcs.length) 2 1 N.arcs.length (ao t.1.2.1.1),.own (.slice t.1.2.2.1 t.1.2.1.2.length t.1.2.2.2) 3 1 t.1.2.1.2.length (ao t.1.2.1.2),.own (.slice AL (bg l).length (bg l).length) 9 1 (bg l).length (dX (bg l)),blk p2 27 (bP N A c),.seg b o (arcs N.arcs)]++V.heap)
  (fun _=>True) (fun t=>(bg l).length-t.1.1) ⟨(0,(List.replicate N.arcs.length 0,[]),none,0),Nat.zero_le _,rfl,by simp,fun x hx=>by rw[(List.mem_replicate.1 hx).2];decide,fun x hx=>absurd hx List.not_mem_nil,Nat.zero_le _⟩ ⟨rfl,rfl,rfl,rfl,rfl,rfl,rfl,trivial⟩ (aK.picks [2,0,1,3,4,5,6,7] (by decide) rfl) trivial ?_
 rintro⟨⟨k,⟨f,s⟩,As,cs⟩,hk,hfold,hfl,hfi,hsi,hsk⟩-
 simp only at hk hfold hfl hfi hsi hsk ⊢
 refine ad (aa (ae [] rfl ?_))
 refine ad (aD rfl (fun hlt=>aw ?_) (fun hge=>aX ?_))
 ·have hlt:k<(bg l).length:=by omega
  obtain⟨x,hx⟩:∃ x,(bg l)[k]?=some x:=⟨(bg l)[k],List.getElem?_eq_getElem hlt⟩
  have hxl:=qK l x (List.mem_of_getElem? hx)
  obtain rfl:=qn hAL (by intro h0;rw[h0] at hlt;simp at hlt)
  refine ad (au ?_)
  refine ad (aa (ah [] rfl ?_))
  refine ab [] (aJ rfl rfl rfl rfl rfl hlt) rfl ?_
  refine ab [] (aF 2 rfl rfl rfl (kM hx)) rfl ?_
  refine ae [] rfl ?_
  refine ad (aa (ah [] rfl ?_))
  refine av [] (vh x (by omega)) rfl rfl rfl rfl (by kernel_rfl) trivial (fun _=>rfl) ?_
  rintro v H' ⟨Aw,nw,rfl,rfl,rfl⟩
  refine⟨rfl,?_⟩
  refine d7 (be 0 rfl) fun ⟨_,_,hAw,hlw⟩=>?_
  obtain⟨gw,hAw⟩:=ci hAw hlw
  refine ae [] rfl ?_
  refine ad (ad (aa (ae [] rfl ?_)))
  cases hw:bB x with
  |nil=>
   refine aP 37 (v':=.bool true) rfl (congrArg Value.bool (az rfl)) ?_
   refine bA rfl ?_
   refine ad (aa (ae [] rfl ?_))
   exact aE [] (by decide) rfl (aB ⟨_,rfl,.inr ⟨fun ⟨f',s',h,_⟩=>wb hx hw h,rfl,rfl⟩⟩)
  |cons h t=>
   rw[hw] at hAw
   obtain rfl:=qn hAw (by simp)
   have hwe:=qS x
   rw[hw] at hwe
   have hwle:=wm x
   rw[hw] at hwle
   simp only[List.length_cons] at hwle
   have hnext:=tN hx hw hfold
   obtain⟨k1,k2,k3,k4⟩:=v5 (n:=N.arcs.length) (q:=(f,s)) (h:=h) (t:=t) hfi hsi
   refine aP 37 (v':=.bool false) rfl (congrArg Value.bool (aA (by simp;omega))) ?_
   refine bU rfl (aw ?_)
   refine ad (aa (ah [] rfl ?_))
   refine ab [] (eC (i:=1) rfl rfl rfl rfl rfl (by simp)) rfl ?_
   refine ax 40 (v':=.slice (iz (some ⟨gw,0,none⟩) (h::t).length 1 1) t.length t.length) rfl (by show Value.slice _ _ _=_;simp) ?_
   refine av [] (pP V t (fun y hy=>by have:=hwe y (by simp[hy]);omega) (by omega) (iz (some ⟨gw,0,none⟩) (h::t).length 1 1) t.length t.length gw 1 (fun hne=>by
    have:=List.length_pos_iff.2 hne
    rw[jr (b:=gw) (o:=0) (n:=(h::t).length) (fun _=>rfl) (Nat.le_refl _) (by simp only[List.length_cons];omega)]) rfl) rfl rfl rfl rfl (by kernel_rfl) ⟨⟨0,_,by simp,rfl,hZ (bI (xs:=dX (h::t))) 1,.inr rfl⟩,⟨6,by simp,rfl⟩,⟨7,by simp,rfl⟩,⟨8,by simp,rfl⟩,trivial⟩ (fun _=>rfl) ?_
   rintro v H' ⟨An,cn,rfl,rfl⟩
   refine⟨rfl,?_⟩
   refine d7 (be 0 rfl) fun ⟨_,_,hAn,hln⟩=>?_
   obtain⟨gn,hAn⟩:=ci hAn hln
   refine ae [] rfl ?_
   refine au ?_
   obtain⟨q1,hq1⟩:∃ q1:Bool,q1=dj (h=[102]∧gO t=true∧(bO t).1.length=2∧1≤(bO t).1.getD 0 0∧(bO t).1.getD 0 0≤N.arcs.length):=⟨_,rfl⟩
   refine er [(44,.bool q1),(29,.int .i64 (k:Int)),(28,.int .i64 (bg l).length),(27,.slice (some ⟨gL,0,none⟩) (bg l).length (bg l).length),(9,.slice As s.length cs),(8,.slice (some ⟨g8,0,none⟩) N.arcs.length N.arcs.length),(1,eh l),(2,.pointer (some ⟨p2,0,none⟩)),(12,.slice (some ⟨gw,0,none⟩) (h::t).length (h::t).length),(13,.slice An (bO t).1.length cn),(14,.bool (gO t))] ([.own (.slice An (bO t).1.length cn) 2 1 (bO t).1.length (ao (bO t).1),.own (.slice (some ⟨gw,0,none⟩) (h::t).length (h::t).length) 9 1 (h::t).length (dX (h::t)),.own (.slice (some ⟨g8,0,none⟩) N.arcs.length N.arcs.length) 2 1 N.arcs.length (ao f),.own (.slice As s.length cs) 3 1 s.length (ao s),.own (.slice (some ⟨gL,0,none⟩) (bg l).length (bg l).length) 9 1 (bg l).length (dX (bg l)),blk p2 27 (bP N A c),.seg b o (arcs N.arcs)]++V.heap) ?_ ?_
   ·skip
    refine aa (ah [] rfl ?_)
    refine ab [] (aJ (m:=0) rfl rfl rfl rfl rfl (by simp)) rfl ?_
    refine ab [] (aF (v:=eh h) 1 rfl rfl rfl rfl) rfl ?_
    refine ab [] (lT (m:=[102]) rfl rfl rfl) rfl ?_
    refine ah [] rfl ?_
    by_cases h1:h=[102]
    case neg=>
     refine ax 49 (v':=.bool false) rfl (congrArg Value.bool (aA h1)) ?_
     refine ah [4,7,12,18] rfl ?_
     refine ai ⟨[0,1,2,3,4,5,6,7,8,9],⟨?_,rfl,rfl,rfl,rfl,rfl,rfl,rfl,rfl,rfl,rfl,trivial⟩,by decide,rfl⟩
     exact congrArg (fun z=>some (Value.bool z)) (hq1.trans (aA (fun n=>h1 n.1))).symm
    refine ax 49 (v':=.bool true) rfl (congrArg Value.bool (az h1)) ?_
    refine ah [4] rfl ?_
    cases h2:gO t with
    |false=>
     refine ah [4,7,12,18] rfl ?_
     refine ai ⟨[0,1,2,3,4,5,6,7,8,9],⟨?_,rfl,rfl,rfl,rfl,rfl,rfl,rfl,rfl,rfl,rfl,trivial⟩,by decide,rfl⟩
     exact congrArg (fun z=>some (Value.bool z)) (hq1.trans (aA (fun n=>by rw[h2] at n;exact Bool.noConfusion n.2.1))).symm
    |true=>
    refine ah [4,7] rfl ?_
    by_cases h3:(bO t).1.length=2
    case neg=>
     refine ax 57 (v':=.bool false) rfl (congrArg Value.bool (aA (by omega))) ?_
     refine ah [4,7,12,18] rfl ?_
     refine ai ⟨[0,1,2,3,4,5,6,7,8,9],⟨?_,rfl,rfl,rfl,rfl,rfl,rfl,rfl,rfl,rfl,rfl,trivial⟩,by decide,rfl⟩
     exact congrArg (fun z=>some (Value.bool z)) (hq1.trans (aA (fun n=>h3 n.2.2.1))).symm
    refine ax 57 (v':=.bool true) rfl (congrArg Value.bool (az (by omega))) ?_
    refine ah [4,7,12] rfl ?_
    obtain⟨y0,hy0⟩:∃ y0,(bO t).1[0]?=some y0:=⟨_,List.getElem?_eq_getElem (by omega)⟩
    have hyd:(bO t).1.getD 0 0=y0:=by rw[List.getD_eq_getElem?_getD,hy0];rfl
    rw[hyd] at hq1
    obtain rfl:=kB hAn (by intro h0;rw[h0] at h3;simp at h3)
    refine ab [4,7,12] (aJ (m:=0) rfl rfl rfl rfl rfl (by omega)) rfl ?_
    refine ab [4,7,12] (aF (v:=.int .i64 y0) 0 rfl rfl rfl (a9 hy0)) rfl ?_
    refine ah [4,7,12] rfl ?_
    by_cases h4:1≤y0
    case neg=>
     refine ax 63 (v':=.bool false) rfl (congrArg Value.bool (aA h4)) ?_
     refine ah [4,7,12,18] rfl ?_
     refine ai ⟨[0,1,2,3,4,5,6,7,8,9],⟨?_,rfl,rfl,rfl,rfl,rfl,rfl,rfl,rfl,rfl,rfl,trivial⟩,by decide,rfl⟩
     exact congrArg (fun z=>some (Value.bool z)) (hq1.trans (aA (fun n=>h4 n.2.2.2.1))).symm
    refine ax 63 (v':=.bool true) rfl (congrArg Value.bool (az h4)) ?_
    refine ah [4,7,12,18] rfl ?_
    refine ab [4,7,12,18] (aJ (m:=0) rfl rfl rfl rfl rfl (by omega)) rfl ?_
    refine ab [4,7,12,18] (aF (v:=.int .i64 y0) 0 rfl rfl rfl (a9 hy0)) rfl ?_
    refine ah [4,7,12,18] rfl ?_
    refine ai ⟨[0,1,2,3,4,5,6,7,8,9],⟨?_,rfl,rfl,rfl,rfl,rfl,rfl,rfl,rfl,rfl,rfl,trivial⟩,by decide,rfl⟩
    exact congrArg (fun z=>some (Value.bool z)) ((dI ⟨fun n=>⟨h1,h2,h3,h4,n⟩,fun n=>n.2.2.2.2⟩).trans hq1.symm)
   cases q1 with
   |true=>
    obtain⟨h1,h2,h3,h4,h5⟩:=oX hq1.symm
    obtain⟨y0,hy0⟩:∃ y0,(bO t).1[0]?=some y0:=⟨_,List.getElem?_eq_getElem (by omega)⟩
    obtain⟨y1,hy1⟩:∃ y1,(bO t).1[1]?=some y1:=⟨_,List.getElem?_eq_getElem (by omega)⟩
    have hyd:(bO t).1.getD 0 0=y0:=by rw[List.getD_eq_getElem?_getD,hy0];rfl
    have hyd1:(bO t).1.getD 1 0=y1:=by rw[List.getD_eq_getElem?_getD,hy1];rfl
    have e1:d9 N.arcs.length (f,s) h t=(f.set (y0-1).toNat y1,s):=by unfold d9;rw[if_pos ⟨h1,h2,h3,h4,h5⟩,hyd,hyd1]
    rw[e1] at hnext k1 k2 k3 k4
    rw[hyd] at h4 h5
    obtain rfl:=kB hAn (by intro h0;rw[h0] at h3;simp at h3)
    refine bA rfl ?_
    refine bn 9 [(0,true),(1,true),(2,true),(3,true),(4,true),(5,true),(6,true),(7,true),(8,true)] [0] (by kernel_rfl) (by decide) rfl ?_
    refine aC [] rfl ?_
    refine aj [] rfl (aJ (m:=0) rfl rfl rfl rfl rfl (by omega)) rfl ?_
    refine aj [] rfl (aF (v:=.int .i64 y0) 0 rfl rfl rfl (a9 hy0)) rfl ?_
    refine aC [] rfl ?_
    refine bX 75 (v':=.int .i64 (((y0-1).toNat:Nat):Int)) rfl (congrArg (Value.int .i64) (by rw[b8 (by omega)];omega)) ?_
    refine aj [] rfl (aJ (m:=1) rfl rfl rfl rfl rfl (by omega)) rfl ?_
    refine aj [] rfl (aF (v:=.int .i64 y1) 0 rfl rfl rfl (a9 hy1)) rfl ?_
    refine aj [] rfl (aJ rfl rfl rfl rfl rfl (show (y0-1).toNat<N.arcs.length by omega)) rfl ?_
    refine bu ?_
    refine aQ 2 rfl rfl rfl rfl (em rfl (by omega)) [] rfl ?_
    refine ai ?_
    refine aa (ae [] rfl ?_)
    refine⟨⟨(k+1,(f.set (y0-1).toNat y1,s),As,cs),by simp only;omega,hnext,by simp only at*;omega,k1,k2,by simp only at*;omega⟩,⟨congrArg (fun z=>some (Value.int .i64 z)) (b8 (by omega)),rfl,rfl,rfl,rfl,rfl,rfl,trivial⟩,aK.picks [2,3,4,5,6,7,8,9] (by decide) rfl,trivial,by simp only;omega⟩
   |false=>
    have hq1':=jR hq1.symm
    refine bU rfl ?_
    obtain⟨q2,hq2⟩:∃ q2:Bool,q2=dj (h=[120]∧gO t=true∧(bO t).1.length=1):=⟨_,rfl⟩
    refine er [(80,.bool q2),(29,.int .i64 (k:Int)),(28,.int .i64 (bg l).length),(27,.slice (some ⟨gL,0,none⟩) (bg l).length (bg l).length),(9,.slice As s.length cs),(8,.slice (some ⟨g8,0,none⟩) N.arcs.length N.arcs.length),(1,eh l),(2,.pointer (some ⟨p2,0,none⟩)),(12,.slice (some ⟨gw,0,none⟩) (h::t).length (h::t).length),(13,.slice An (bO t).1.length cn),(14,.bool (gO t))] ([.own (.slice An (bO t).1.length cn) 2 1 (bO t).1.length (ao (bO t).1),.own (.slice (some ⟨gw,0,none⟩) (h::t).length (h::t).length) 9 1 (h::t).length (dX (h::t)),.own (.slice (some ⟨g8,0,none⟩) N.arcs.length N.arcs.length) 2 1 N.arcs.length (ao f),.own (.slice As s.length cs) 3 1 s.length (ao s),.own (.slice (some ⟨gL,0,none⟩) (bg l).length (bg l).length) 9 1 (bg l).length (dX (bg l)),blk p2 27 (bP N A c),.seg b o (arcs N.arcs)]++V.heap) ?_ ?_
    ·skip
     refine aa (ah [] rfl ?_)
     refine ab [] (aJ (m:=0) rfl rfl rfl rfl rfl (by simp)) rfl ?_
     refine ab [] (aF (v:=eh h) 1 rfl rfl rfl rfl) rfl ?_
     refine ab [] (lT (m:=[120]) rfl rfl rfl) rfl ?_
     refine ah [] rfl ?_
     by_cases h1:h=[120]
     case neg=>
      refine ax 85 (v':=.bool false) rfl (congrArg Value.bool (aA h1)) ?_
      refine ah [4,7] rfl ?_
      refine ai ⟨[0,1,2,3,4,5,6,7,8,9],⟨?_,rfl,rfl,rfl,rfl,rfl,rfl,rfl,rfl,rfl,rfl,trivial⟩,by decide,rfl⟩
      exact congrArg (fun z=>some (Value.bool z)) (hq2.trans (aA (fun n=>h1 n.1))).symm
     refine ax 85 (v':=.bool true) rfl (congrArg Value.bool (az h1)) ?_
     refine ah [4] rfl ?_
     cases h2:gO t with
     |false=>
      refine ah [4,7] rfl ?_
      refine ai ⟨[0,1,2,3,4,5,6,7,8,9],⟨?_,rfl,rfl,rfl,rfl,rfl,rfl,rfl,rfl,rfl,rfl,trivial⟩,by decide,rfl⟩
      exact congrArg (fun z=>some (Value.bool z)) (hq2.trans (aA (fun n=>by rw[h2] at n;exact Bool.noConfusion n.2.1))).symm
     |true=>
      refine ah [4,7] rfl ?_
      refine ai ⟨[0,1,2,3,4,5,6,7,8,9],⟨?_,rfl,rfl,rfl,rfl,rfl,rfl,rfl,rfl,rfl,rfl,trivial⟩,by decide,rfl⟩
      exact congrArg (fun z=>some (Value.bool z)) ((dI ⟨fun n=>⟨h1,h2,by omega⟩,fun n=>by omega⟩).trans hq2.symm)
    cases q2 with
    |true=>
     have hq2':=oX hq2.symm
     obtain⟨y0,hy0⟩:∃ y0,(bO t).1[0]?=some y0:=⟨_,List.getElem?_eq_getElem (by omega)⟩
     have hyd:(bO t).1.getD 0 0=y0:=by rw[List.getD_eq_getElem?_getD,hy0];rfl
     have e1:d9 N.arcs.length (f,s) h t=(f,s++[y0]):=by unfold d9;rw[if_neg hq1',if_pos hq2',hyd]
     rw[e1] at hnext k1 k2 k3 k4
     obtain rfl:=kB hAn (by intro h0;have h3:=hq2'.2.2;rw[h0] at h3;simp at h3)
     refine bA rfl ?_
     refine aa (ah [] rfl ?_)
     refine ab [] (aJ (m:=0) rfl rfl rfl rfl rfl (by omega)) rfl ?_
     refine ab [] (aF (v:=.int .i64 y0) 0 rfl rfl rfl (a9 hy0)) rfl ?_
     refine ah [] rfl ?_
     refine bH rfl rfl rfl rfl rfl rfl rfl (fun _=>rfl) fun g2=>?_
     refine bc (n:=s.length) (m:=1) (off:=0) (news:=ao [y0]) 4 0 rfl rfl rfl rfl rfl rfl (by decide) rfl rfl (aL g2 _ _ (0,0)) (fun _=>rfl) rfl rfl (by omega) (by omega) (fun _ _=>rfl) fun A3 c3=>?_
     rw[show s.length+1=(s++[y0]).length by simp,show ao s++ao [y0]=ao (s++[y0]) by simp[ao]]
     refine ae [] rfl ?_
     refine aa (ae [] rfl ?_)
     refine⟨⟨(k+1,(f,s++[y0]),A3,c3),by simp only;omega,hnext,by simp only at*;omega,k1,k2,by simp only at*;omega⟩,⟨congrArg (fun z=>some (Value.int .i64 z)) (b8 (by omega)),rfl,rfl,rfl,rfl,rfl,rfl,trivial⟩,aK.picks [3,4,5,6,7,8,9,10] (by decide) rfl,trivial,by simp only;omega⟩
    |false=>
     have e1:d9 N.arcs.length (f,s) h t=(f,s):=by unfold d9;rw[if_neg hq1',if_neg (jR hq2.symm)]
     rw[e1] at hnext k1 k2 k3 k4
     refine bU rfl (aw ?_)
     refine aa (ae [] rfl ?_)
     refine⟨⟨(k+1,(f,s),As,cs),by simp only;omega,hnext,by simp only at*;omega,k1,k2,by simp only at*;omega⟩,⟨congrArg (fun z=>some (Value.int .i64 z)) (b8 (by omega)),rfl,rfl,rfl,rfl,rfl,rfl,trivial⟩,aK.picks [2,3,4,5,6,7,8,9] (by decide) rfl,trivial,by simp only;omega⟩
 ·obtain rfl:k=(bg l).length:=by omega
  rw[List.take_length] at hfold
  refine bL (be 1 rfl) fun ⟨_,_,hAs,hls⟩=>?_
  obtain⟨gs,hAs⟩:=ci hAs hls
  refine ad (ad (aa ?_))
  refine ab [] (v:=br N A c) (af 3 rfl rfl rfl rfl) rfl ?_
  refine ah [] rfl ?_
  have TP:=jd V N hN hR A c b o hA f hfi (by omega) (some ⟨g8,0,none⟩) N.arcs.length g8 0 (fun _=>rfl) s hsi (by omega) As cs gs 0 (kB hAs)
  rw[hfl] at TP
  refine av [] TP rfl rfl rfl rfl (by kernel_rfl) ⟨⟨4,_,by simp,rfl,aq _ _ _,ay⟩,⟨0,_,by simp,rfl,bI,.inr rfl⟩,⟨1,_,by simp,rfl,aT hAs,aU hAs⟩,⟨5,by simp,rfl⟩,⟨6,by simp,rfl⟩,⟨7,by simp,rfl⟩,trivial⟩ (fun _=>rfl) ?_
  rintro v H' ⟨rfl,rfl⟩
  refine⟨rfl,?_⟩
  have hbadE:∀ (e:Int) (u:List UInt8),iH N f s=.tuple #[eh u,.int .i64 e]→e≠0→¬ ∃ f' s',l8 N l f' s':=by
   rintro e u hr he ⟨f',s',h1,h2,h3,h4⟩
   rw[hfold] at h1
   obtain⟨rfl,rfl⟩:=Prod.mk.inj (Option.some.inj h1)
   unfold iH at hr
   rw[if_pos h2,if_pos h3] at hr
   injection hr with hr
   have:=congrArg (fun a:Array Value=>a[1]?) hr
   simp at this
   exact he this.symm
  by_cases hok:aI N f∧eu N s
  case neg=>
   obtain⟨e,he,hr⟩:∃ e:Int,e≠0∧iH N f s=.tuple #[eh [],.int .i64 e]:=by
    unfold iH
    by_cases h1:aI N f
    ·rw[if_pos h1,if_neg (fun h=>hok ⟨h1,h⟩)]
     exact⟨_,fun h=>hok ⟨h1,om.1 h⟩,rfl⟩
    ·rw[if_neg h1]
     exact⟨_,fun h=>h1 (cK.1 h),rfl⟩
   have hb:=hbadE e [] hr he
   rw[hr]
   refine ae [] rfl ?_
   refine ad (aa (ah [] rfl ?_))
   refine ax 109 (v':=.bool true) rfl (congrArg Value.bool (az he)) ?_
   refine ah [2] rfl ?_
   refine ai ?_
   refine bA rfl ?_
   refine ad (aa (ae [] rfl ?_))
   exact aE [] (by decide) rfl (aB ⟨_,rfl,.inr ⟨hb,rfl,rfl⟩⟩)
  have hr:iH N f s=.tuple #[eh (ft f s (df (N.arcs.zip f) N.snk) (eR s N.arcs)),.int .i64 0]:=by unfold iH;rw[if_pos hok.1,if_pos hok.2]
  rw[hr]
  refine ae [] rfl ?_
  refine ad (aa (ah [] rfl ?_))
  refine ax 109 (v':=.bool false) rfl (congrArg Value.bool (aA (fun h=>h rfl))) ?_
  refine ah [2] rfl ?_
  refine ax 113 (v':=.bool (dj (ft f s (df (N.arcs.zip f) N.snk) (eR s N.arcs)≠l))) rfl (congrArg Value.bool (by
   rw[iN]
   by_cases h:ft f s (df (N.arcs.zip f) N.snk) (eR s N.arcs)=l
   ·rw[az h,aA (fun n=>n h)];rfl
   ·rw[aA h,az h];rfl)) ?_
  refine ai ?_
  refine aD rfl (fun hne=>?_) (fun heq=>aw ?_)
  ·refine ad (aa (ae [] rfl ?_))
   refine aE [] (by decide) rfl (aB ⟨_,rfl,.inr ⟨fun ⟨f',s',h1,h2,h3,h4⟩=>?_,rfl,rfl⟩⟩)
   rw[hfold] at h1
   obtain⟨rfl,rfl⟩:=Prod.mk.inj (Option.some.inj h1)
   exact hne h4
  ·have heq:=Classical.not_not.1 heq
   refine ad (aa (ae [] rfl ?_))
   refine aE [0,1] (by decide) rfl (aB ⟨_,rfl,.inl ⟨f,s,some ⟨g8,0,none⟩,As,N.arcs.length,cs,⟨hfold,hok.1,hok.2,heq⟩,?_,?_⟩⟩)
   ·rw[hfl];rfl
   ·rw[hfl]
end Go.Proofs.YtpbmihpjgjbndaaGreatDoor
