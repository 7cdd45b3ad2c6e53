/- Reports: Parse of any text. -/
import Derived.Test.YtpbmihpjgjbndaaGreatDoorQX39
set_option linter.unusedVariables false
set_option linter.unusedSimpArgs false
namespace Go.Proofs.YtpbmihpjgjbndaaGreatDoor
open Go.RowKit
open Lib
theorem wg {n:Nat} {q:List Int×List Int} {ls:List (List UInt8)} {k:Nat} {x:List UInt8} (hx:ls[k]?=some x) (hw:bx x=[]) {q':List Int×List Int}:el n q (ls.map bx)≠some q':=by
 have hlt:=(List.getElem?_eq_some_iff.1 hx).1
 have e:ls=ls.take k++x::ls.drop (k+1):=by
  have:ls.drop k=x::ls.drop (k+1):=by rw[List.drop_eq_getElem_cons hlt];rw[(List.getElem?_eq_some_iff.1 hx).2]
  rw[← this,List.take_append_drop]
 rw[e,List.map_append,fH]
 cases el n q ((ls.take k).map bx) with
 |none=>simp
 |some q2=>
  simp only[List.map_cons,hw]
  show (none:Option (List Int×List Int))≠some q'
  simp
theorem uB {n:Nat} {q q1:List Int×List Int} {ls:List (List UInt8)} {k:Nat} {x h:List UInt8} {t:Ws} (hx:ls[k]?=some x) (hw:bx x=h::t) (hq:el n q ((ls.take k).map bx)=some q1):el n q ((ls.take (k+1)).map bx)=some (ef n q1 h t):=by
 rw[List.take_add_one,hx,List.map_append,fH,hq]
 simp only[Option.toList,List.map_cons,List.map_nil,hw]
 rfl
theorem ko {l:List Int} {A B:Option Addr} (h:ap l≠[]→A=B) (hl:l≠[]):A=B:=h fun h0=>hl (by simpa [ap] using h0)
set_option maxHeartbeats 4000000 in
theorem nO (V:f8) (N:a8) (hN:N.Fits) (hR:N.Right) (A:Option Addr) (c b o:Nat) (hA:N.arcs≠[]→A=some ⟨b,o,none⟩) (l:List UInt8) (hl:l.length≤90000):
 Fn 16 [bu N A c,dy l] [] ([.seg b o (arcs N.arcs)]++V.heap) (xT N l):=by
 have hl2:=hR.len
 have hll:=wY l
 refine aS Tryz.func16 rfl rfl fun w0=>?_
 refine ad (aa ?_)
 refine bw (cs:=bG N A c) rfl rfl rfl (fun _=>rfl) fun p2=>?_
 refine ae [] rfl ?_
 refine ad (ad (aa ?_))
 refine ab [] (v:=bu N A c) (af 0 rfl rfl rfl rfl) rfl ?_
 refine ax [] (kv N hN A c b o hA) rfl rfl rfl rfl (by kernel_rfl) ⟨⟨1,_,by simp,rfl,aq _ _ _,ay⟩,trivial⟩ (fun _=>rfl) ?_
 rintro v H' ⟨rfl,rfl⟩
 refine⟨rfl,?_⟩
 rw[hR.check]
 refine ae [] rfl ?_
 refine ad (aa (ae [] rfl ?_))
 refine aC rfl (fun h=>absurd rfl h) (fun _=>av ?_)
 refine ad (aa (ah [] rfl ?_))
 (first|refine ab [] (af 0 rfl rfl rfl rfl) rfl ?_|refine ab [] (af 1 rfl rfl rfl rfl) rfl ?_|refine ab [] (af 2 rfl rfl rfl rfl) rfl ?_|refine ab [] (af 3 rfl rfl rfl rfl) rfl ?_|refine ab [] (af 4 rfl rfl rfl rfl) rfl ?_|refine ab [] (af 5 rfl rfl rfl rfl) rfl ?_|refine ab [] (af 6 rfl rfl rfl rfl) rfl ?_|refine ab [] (af 7 rfl rfl rfl rfl) rfl ?_)
 refine ah [] rfl ?_
 refine dv (n:=N.arcs.length) (c:=N.arcs.length) rfl rfl rfl rfl rfl rfl (by omega) (by omega) (by omega) (fun _=>rfl) fun g8=>?_
 rw[show made [Value.int .i64 0] (N.arcs.length*1)=ap (List.replicate N.arcs.length 0) by rw[dn,Nat.mul_one];simp[ap]]
 refine ae [] rfl ?_
 refine ad (aa (ae [] rfl ?_))
 refine ad (ad (aa (ah [] rfl ?_)))
 refine ax [] (qe V l (by omega)) rfl rfl rfl rfl (by kernel_rfl) ⟨⟨3,by simp,rfl⟩,⟨4,by simp,rfl⟩,⟨5,by simp,rfl⟩,trivial⟩ (fun _=>rfl) ?_
 rintro v H' ⟨AL,nL,rfl,rfl,rfl⟩
 refine⟨rfl,?_⟩
 refine eN (bh 0 rfl) fun ⟨_,_,hAL,hlL⟩=>?_
 obtain⟨gL,hAL⟩:=cB hAL hlL
 refine ae [] rfl ?_
 refine cC 3 1 ?_
 refine au ?_
 refine cN (σ:={ t:Nat×(List Int×List Int)×Option Addr×Nat//t.1≤(bc l).length∧el N.arcs.length (List.replicate N.arcs.length 0,[]) (((bc l).take t.1).map bx)=some t.2.1∧t.2.1.1.length=N.arcs.length∧(∀ x∈t.2.1.1,bN x)∧(∀ x∈t.2.1.2,bN x)∧t.2.1.2.length≤t.1 })
  (fun t=>[(29,.int .i64 (t.1.1:Int)),(28,.int .i64 (bc l).length),(27,.slice AL (bc l).length (bc l).length),(9,.slice t.1.2.2.1 t.1.2.1.2.length t.1.2.2.2),(8,.slice (some ⟨g8,0,none⟩) N.arcs.length N.arcs.length),(1,dy l),(2,.pointer (some ⟨p2,0,none⟩))])
  (fun t=>[.own (.slice (some ⟨g8,0,none⟩) N.arcs.length N.arcs.length) 2 1 N.arcs.length (ap t.1.2.1.1),.own (.slice t.1.2.2.1 t.1.2.1.2.length t.1.2.2.2) 3 1 t.1.2.1.2.length (ap t.1.2.1.2),.own (.slice AL (bc l).length (bc l).length) 9 1 (bc l).length (dC (bc l)),blk p2 27 (bG N A c),.seg b o (arcs N.arcs)]++V.heap)
  (fun _=>True) (fun t=>(bc l).length-t.1.1) ⟨(0,(List.replicate N.arcs.length 0,[]),none,0),Nat.zero_le _,rfl,by simp,fun x hx=>by rw[(List.mem_replicate.1 hx).2];decide,fun x hx=>absurd hx List.not_mem_nil,Nat.zero_le _⟩ ⟨rfl,rfl,rfl,rfl,rfl,rfl,rfl,trivial⟩ (aK.picks [2,0,1,3,4,5,6,7] (by decide) rfl) trivial ?_
 rintro⟨⟨k,⟨f,s⟩,As,cs⟩,hk,hfold,hfl,hfi,hsi,hsk⟩-
 simp only at hk hfold hfl hfi hsi hsk ⊢
 refine ad (aa (ae [] rfl ?_))
 refine ad (aC rfl (fun hlt=>av ?_) (fun hge=>aV ?_))
 ·have hlt:k<(bc l).length:=by omega
  obtain⟨x,hx⟩:∃ x,(bc l)[k]?=some x:=⟨(bc l)[k],List.getElem?_eq_getElem hlt⟩
  have hxl:=rn l x (List.mem_of_getElem? hx)
  obtain rfl:=qA hAL (by intro h0;rw[h0] at hlt;simp at hlt)
  refine ad (au ?_)
  refine ad (aa (ah [] rfl ?_))
  refine ab [] (aJ rfl rfl rfl rfl rfl hlt) rfl ?_
  refine ab [] (aD 2 rfl rfl rfl (fJ hx)) rfl ?_
  refine ae [] rfl ?_
  refine ad (aa (ah [] rfl ?_))
  refine ax [] (vZ x (by omega)) rfl rfl rfl rfl (by kernel_rfl) trivial (fun _=>rfl) ?_
  rintro v H' ⟨Aw,nw,rfl,rfl,rfl⟩
  refine⟨rfl,?_⟩
  refine eN (bh 0 rfl) fun ⟨_,_,hAw,hlw⟩=>?_
  obtain⟨gw,hAw⟩:=cB hAw hlw
  refine ae [] rfl ?_
  refine ad (ad (aa (ae [] rfl ?_)))
  cases hw:bx x with
  |nil=>
   refine aP 37 (v':=.bool true) rfl (congrArg Value.bool (az rfl)) ?_
   refine bo rfl ?_
   refine ad (aa (ae [] rfl ?_))
   exact aE [] (by decide) rfl (aB ⟨_,rfl,.inr ⟨fun ⟨f',s',h,_⟩=>wg hx hw h,rfl,rfl⟩⟩)
  |cons h t=>
   rw[hw] at hAw
   obtain rfl:=qA hAw (by simp)
   have hwe:=rQ x
   rw[hw] at hwe
   have hwle:=wX x
   rw[hw] at hwle
   simp only[List.length_cons] at hwle
   have hnext:=uB hx hw hfold
   obtain⟨k1,k2,k3,k4⟩:=vK (n:=N.arcs.length) (q:=(f,s)) (h:=h) (t:=t) hfi hsi
   refine aP 37 (v':=.bool false) rfl (congrArg Value.bool (aA (by simp;omega))) ?_
   refine bI rfl (av ?_)
   refine ad (aa (ah [] rfl ?_))
   refine ab [] (eL (i:=1) rfl rfl rfl rfl rfl (by simp)) rfl ?_
   refine aw 40 (v':=.slice (ij (some ⟨gw,0,none⟩) (h::t).length 1 1) t.length t.length) rfl (by show Value.slice _ _ _=_;simp) ?_
   refine ax [] (pJ V t (fun y hy=>by have:=hwe y (by simp[hy]);omega) (by omega) (ij (some ⟨gw,0,none⟩) (h::t).length 1 1) t.length t.length gw 1 (fun hne=>by
    have:=List.length_pos_iff.2 hne
    rw[jc (b:=gw) (o:=0) (n:=(h::t).length) (fun _=>rfl) (Nat.le_refl _) (by simp only[List.length_cons];omega)]) rfl) rfl rfl rfl rfl (by kernel_rfl) ⟨⟨0,_,by simp,rfl,ik (bX (xs:=dC (h::t))) 1,.inr rfl⟩,⟨6,by simp,rfl⟩,⟨7,by simp,rfl⟩,⟨8,by simp,rfl⟩,trivial⟩ (fun _=>rfl) ?_
   rintro v H' ⟨An,cn,rfl,rfl⟩
   refine⟨rfl,?_⟩
   refine eN (bh 0 rfl) fun ⟨_,_,hAn,hln⟩=>?_
   obtain⟨gn,hAn⟩:=cB hAn hln
   refine ae [] rfl ?_
   refine au ?_
   obtain⟨q1,hq1⟩:∃ q1:Bool,q1=dI (h=[102]∧gV t=true∧(bD t).1.length=2∧1≤(bD t).1.getD 0 0∧(bD t).1.getD 0 0≤N.arcs.length):=⟨_,rfl⟩
   refine d7 [(44,.bool q1),(29,.int .i64 (k:Int)),(28,.int .i64 (bc l).length),(27,.slice (some ⟨gL,0,none⟩) (bc l).length (bc l).length),(9,.slice As s.length cs),(8,.slice (some ⟨g8,0,none⟩) N.arcs.length N.arcs.length),(1,dy l),(2,.pointer (some ⟨p2,0,none⟩)),(12,.slice (some ⟨gw,0,none⟩) (h::t).length (h::t).length),(13,.slice An (bD t).1.length cn),(14,.bool (gV t))] ([.own (.slice An (bD t).1.length cn) 2 1 (bD t).1.length (ap (bD t).1),.own (.slice (some ⟨gw,0,none⟩) (h::t).length (h::t).length) 9 1 (h::t).length (dC (h::t)),.own (.slice (some ⟨g8,0,none⟩) N.arcs.length N.arcs.length) 2 1 N.arcs.length (ap f),.own (.slice As s.length cs) 3 1 s.length (ap s),.own (.slice (some ⟨gL,0,none⟩) (bc l).length (bc l).length) 9 1 (bc l).length (dC (bc l)),blk p2 27 (bG N A c),.seg b o (arcs N.arcs)]++V.heap) ?_ ?_
   ·skip
    refine aa (ah [] rfl ?_)
    refine ab [] (aJ (m:=0) rfl rfl rfl rfl rfl (by simp)) rfl ?_
    refine ab [] (aD (v:=dy h) 1 rfl rfl rfl rfl) rfl ?_
    refine ab [] (l5 (m:=[102]) rfl rfl rfl) rfl ?_
    refine ah [] rfl ?_
    by_cases h1:h=[102]
    case neg=>
     refine aw 49 (v':=.bool false) rfl (congrArg Value.bool (aA h1)) ?_
     refine ah [4,7,12,18] rfl ?_
     refine ai ⟨[0,1,2,3,4,5,6,7,8,9],⟨?_,rfl,rfl,rfl,rfl,rfl,rfl,rfl,rfl,rfl,rfl,trivial⟩,by decide,rfl⟩
     exact congrArg (fun z=>some (Value.bool z)) (hq1.trans (aA (fun n=>h1 n.1))).symm
    refine aw 49 (v':=.bool true) rfl (congrArg Value.bool (az h1)) ?_
    refine ah [4] rfl ?_
    cases h2:gV t with
    |false=>
     refine ah [4,7,12,18] rfl ?_
     refine ai ⟨[0,1,2,3,4,5,6,7,8,9],⟨?_,rfl,rfl,rfl,rfl,rfl,rfl,rfl,rfl,rfl,rfl,trivial⟩,by decide,rfl⟩
     exact congrArg (fun z=>some (Value.bool z)) (hq1.trans (aA (fun n=>by rw[h2] at n;exact Bool.noConfusion n.2.1))).symm
    |true=>
    refine ah [4,7] rfl ?_
    by_cases h3:(bD t).1.length=2
    case neg=>
     refine aw 57 (v':=.bool false) rfl (congrArg Value.bool (aA (by omega))) ?_
     refine ah [4,7,12,18] rfl ?_
     refine ai ⟨[0,1,2,3,4,5,6,7,8,9],⟨?_,rfl,rfl,rfl,rfl,rfl,rfl,rfl,rfl,rfl,rfl,trivial⟩,by decide,rfl⟩
     exact congrArg (fun z=>some (Value.bool z)) (hq1.trans (aA (fun n=>h3 n.2.2.1))).symm
    refine aw 57 (v':=.bool true) rfl (congrArg Value.bool (az (by omega))) ?_
    refine ah [4,7,12] rfl ?_
    obtain⟨y0,hy0⟩:∃ y0,(bD t).1[0]?=some y0:=⟨_,List.getElem?_eq_getElem (by omega)⟩
    have hyd:(bD t).1.getD 0 0=y0:=by rw[List.getD_eq_getElem?_getD,hy0];rfl
    rw[hyd] at hq1
    obtain rfl:=ko hAn (by intro h0;rw[h0] at h3;simp at h3)
    refine ab [4,7,12] (aJ (m:=0) rfl rfl rfl rfl rfl (by omega)) rfl ?_
    refine ab [4,7,12] (aD (v:=.int .i64 y0) 0 rfl rfl rfl (a9 hy0)) rfl ?_
    refine ah [4,7,12] rfl ?_
    by_cases h4:1≤y0
    case neg=>
     refine aw 63 (v':=.bool false) rfl (congrArg Value.bool (aA h4)) ?_
     refine ah [4,7,12,18] rfl ?_
     refine ai ⟨[0,1,2,3,4,5,6,7,8,9],⟨?_,rfl,rfl,rfl,rfl,rfl,rfl,rfl,rfl,rfl,rfl,trivial⟩,by decide,rfl⟩
     exact congrArg (fun z=>some (Value.bool z)) (hq1.trans (aA (fun n=>h4 n.2.2.2.1))).symm
    refine aw 63 (v':=.bool true) rfl (congrArg Value.bool (az h4)) ?_
    refine ah [4,7,12,18] rfl ?_
    refine ab [4,7,12,18] (aJ (m:=0) rfl rfl rfl rfl rfl (by omega)) rfl ?_
    refine ab [4,7,12,18] (aD (v:=.int .i64 y0) 0 rfl rfl rfl (a9 hy0)) rfl ?_
    refine ah [4,7,12,18] rfl ?_
    refine ai ⟨[0,1,2,3,4,5,6,7,8,9],⟨?_,rfl,rfl,rfl,rfl,rfl,rfl,rfl,rfl,rfl,rfl,trivial⟩,by decide,rfl⟩
    exact congrArg (fun z=>some (Value.bool z)) ((d8 ⟨fun n=>⟨h1,h2,h3,h4,n⟩,fun n=>n.2.2.2.2⟩).trans hq1.symm)
   cases q1 with
   |true=>
    obtain⟨h1,h2,h3,h4,h5⟩:=oJ hq1.symm
    obtain⟨y0,hy0⟩:∃ y0,(bD t).1[0]?=some y0:=⟨_,List.getElem?_eq_getElem (by omega)⟩
    obtain⟨y1,hy1⟩:∃ y1,(bD t).1[1]?=some y1:=⟨_,List.getElem?_eq_getElem (by omega)⟩
    have hyd:(bD t).1.getD 0 0=y0:=by rw[List.getD_eq_getElem?_getD,hy0];rfl
    have hyd1:(bD t).1.getD 1 0=y1:=by rw[List.getD_eq_getElem?_getD,hy1];rfl
    have e1:ef N.arcs.length (f,s) h t=(f.set (y0-1).toNat y1,s):=by unfold ef;rw[if_pos ⟨h1,h2,h3,h4,h5⟩,hyd,hyd1]
    rw[e1] at hnext k1 k2 k3 k4
    rw[hyd] at h4 h5
    obtain rfl:=ko hAn (by intro h0;rw[h0] at h3;simp at h3)
    refine bo rfl ?_
    refine bp 9 [(0,true),(1,true),(2,true),(3,true),(4,true),(5,true),(6,true),(7,true),(8,true)] [0] (by kernel_rfl) (by decide) rfl ?_
    refine aF [] rfl ?_
    refine aj [] rfl (aJ (m:=0) rfl rfl rfl rfl rfl (by omega)) rfl ?_
    refine aj [] rfl (aD (v:=.int .i64 y0) 0 rfl rfl rfl (a9 hy0)) rfl ?_
    refine aF [] rfl ?_
    refine cE 75 (v':=.int .i64 (((y0-1).toNat:Nat):Int)) rfl (congrArg (Value.int .i64) (by rw[bU (by omega)];omega)) ?_
    refine aj [] rfl (aJ (m:=1) rfl rfl rfl rfl rfl (by omega)) rfl ?_
    refine aj [] rfl (aD (v:=.int .i64 y1) 0 rfl rfl rfl (a9 hy1)) rfl ?_
    refine aj [] rfl (aJ rfl rfl rfl rfl rfl (show (y0-1).toNat<N.arcs.length by omega)) rfl ?_
    refine bv ?_
    refine aQ 2 rfl rfl rfl rfl (ep rfl (by omega)) [] rfl ?_
    refine ai ?_
    refine aa (ae [] rfl ?_)
    refine⟨⟨(k+1,(f.set (y0-1).toNat y1,s),As,cs),by simp only;omega,hnext,by simp only at*;omega,k1,k2,by simp only at*;omega⟩,⟨congrArg (fun z=>some (Value.int .i64 z)) (bU (by omega)),rfl,rfl,rfl,rfl,rfl,rfl,trivial⟩,aK.picks [2,3,4,5,6,7,8,9] (by decide) rfl,trivial,by simp only;omega⟩
   |false=>
    have hq1':=jI hq1.symm
    refine bI rfl ?_
    obtain⟨q2,hq2⟩:∃ q2:Bool,q2=dI (h=[120]∧gV t=true∧(bD t).1.length=1):=⟨_,rfl⟩
    refine d7 [(80,.bool q2),(29,.int .i64 (k:Int)),(28,.int .i64 (bc l).length),(27,.slice (some ⟨gL,0,none⟩) (bc l).length (bc l).length),(9,.slice As s.length cs),(8,.slice (some ⟨g8,0,none⟩) N.arcs.length N.arcs.length),(1,dy l),(2,.pointer (some ⟨p2,0,none⟩)),(12,.slice (some ⟨gw,0,none⟩) (h::t).length (h::t).length),(13,.slice An (bD t).1.length cn),(14,.bool (gV t))] ([.own (.slice An (bD t).1.length cn) 2 1 (bD t).1.length (ap (bD t).1),.own (.slice (some ⟨gw,0,none⟩) (h::t).length (h::t).length) 9 1 (h::t).length (dC (h::t)),.own (.slice (some ⟨g8,0,none⟩) N.arcs.length N.arcs.length) 2 1 N.arcs.length (ap f),.own (.slice As s.length cs) 3 1 s.length (ap s),.own (.slice (some ⟨gL,0,none⟩) (bc l).length (bc l).length) 9 1 (bc l).length (dC (bc l)),blk p2 27 (bG N A c),.seg b o (arcs N.arcs)]++V.heap) ?_ ?_
    ·skip
     refine aa (ah [] rfl ?_)
     refine ab [] (aJ (m:=0) rfl rfl rfl rfl rfl (by simp)) rfl ?_
     refine ab [] (aD (v:=dy h) 1 rfl rfl rfl rfl) rfl ?_
     refine ab [] (l5 (m:=[120]) rfl rfl rfl) rfl ?_
     refine ah [] rfl ?_
     by_cases h1:h=[120]
     case neg=>
      refine aw 85 (v':=.bool false) rfl (congrArg Value.bool (aA h1)) ?_
      refine ah [4,7] rfl ?_
      refine ai ⟨[0,1,2,3,4,5,6,7,8,9],⟨?_,rfl,rfl,rfl,rfl,rfl,rfl,rfl,rfl,rfl,rfl,trivial⟩,by decide,rfl⟩
      exact congrArg (fun z=>some (Value.bool z)) (hq2.trans (aA (fun n=>h1 n.1))).symm
     refine aw 85 (v':=.bool true) rfl (congrArg Value.bool (az h1)) ?_
     refine ah [4] rfl ?_
     cases h2:gV t with
     |false=>
      refine ah [4,7] rfl ?_
      refine ai ⟨[0,1,2,3,4,5,6,7,8,9],⟨?_,rfl,rfl,rfl,rfl,rfl,rfl,rfl,rfl,rfl,rfl,trivial⟩,by decide,rfl⟩
      exact congrArg (fun z=>some (Value.bool z)) (hq2.trans (aA (fun n=>by rw[h2] at n;exact Bool.noConfusion n.2.1))).symm
     |true=>
      refine ah [4,7] rfl ?_
      refine ai ⟨[0,1,2,3,4,5,6,7,8,9],⟨?_,rfl,rfl,rfl,rfl,rfl,rfl,rfl,rfl,rfl,rfl,trivial⟩,by decide,rfl⟩
      exact congrArg (fun z=>some (Value.bool z)) ((d8 ⟨fun n=>⟨h1,h2,by omega⟩,fun n=>by omega⟩).trans hq2.symm)
    cases q2 with
    |true=>
     have hq2':=oJ hq2.symm
     obtain⟨y0,hy0⟩:∃ y0,(bD t).1[0]?=some y0:=⟨_,List.getElem?_eq_getElem (by omega)⟩
     have hyd:(bD t).1.getD 0 0=y0:=by rw[List.getD_eq_getElem?_getD,hy0];rfl
     have e1:ef N.arcs.length (f,s) h t=(f,s++[y0]):=by unfold ef;rw[if_neg hq1',if_pos hq2',hyd]
     rw[e1] at hnext k1 k2 k3 k4
     obtain rfl:=ko hAn (by intro h0;have h3:=hq2'.2.2;rw[h0] at h3;simp at h3)
     refine bo rfl ?_
     refine aa (ah [] rfl ?_)
     refine ab [] (aJ (m:=0) rfl rfl rfl rfl rfl (by omega)) rfl ?_
     refine ab [] (aD (v:=.int .i64 y0) 0 rfl rfl rfl (a9 hy0)) rfl ?_
     refine ah [] rfl ?_
     refine bK rfl rfl rfl rfl rfl rfl rfl (fun _=>rfl) fun g2=>?_
     refine be (n:=s.length) (m:=1) (off:=0) (news:=ap [y0]) 4 0 rfl rfl rfl rfl rfl rfl (by decide) rfl rfl (aL g2 _ _ (0,0)) (fun _=>rfl) rfl rfl (by omega) (by omega) (fun _ _=>rfl) fun A3 c3=>?_
     rw[show s.length+1=(s++[y0]).length by simp,show ap s++ap [y0]=ap (s++[y0]) by simp[ap]]
     refine ae [] rfl ?_
     refine aa (ae [] rfl ?_)
     refine⟨⟨(k+1,(f,s++[y0]),A3,c3),by simp only;omega,hnext,by simp only at*;omega,k1,k2,by simp only at*;omega⟩,⟨congrArg (fun z=>some (Value.int .i64 z)) (bU (by omega)),rfl,rfl,rfl,rfl,rfl,rfl,trivial⟩,aK.picks [3,4,5,6,7,8,9,10] (by decide) rfl,trivial,by simp only;omega⟩
    |false=>
     have e1:ef N.arcs.length (f,s) h t=(f,s):=by unfold ef;rw[if_neg hq1',if_neg (jI hq2.symm)]
     rw[e1] at hnext k1 k2 k3 k4
     refine bI rfl (av ?_)
     refine aa (ae [] rfl ?_)
     refine⟨⟨(k+1,(f,s),As,cs),by simp only;omega,hnext,by simp only at*;omega,k1,k2,by simp only at*;omega⟩,⟨congrArg (fun z=>some (Value.int .i64 z)) (bU (by omega)),rfl,rfl,rfl,rfl,rfl,rfl,trivial⟩,aK.picks [2,3,4,5,6,7,8,9] (by decide) rfl,trivial,by simp only;omega⟩
 ·obtain rfl:k=(bc l).length:=by omega
  rw[List.take_length] at hfold
  refine bO (bh 1 rfl) fun ⟨_,_,hAs,hls⟩=>?_
  obtain⟨gs,hAs⟩:=cB hAs hls
  refine ad (ad (aa ?_))
  refine ab [] (v:=bu N A c) (af 3 rfl rfl rfl rfl) rfl ?_
  refine ah [] rfl ?_
  have TP:=jo V N hN hR A c b o hA f hfi (by omega) (some ⟨g8,0,none⟩) N.arcs.length g8 0 (fun _=>rfl) s hsi (by omega) As cs gs 0 (ko hAs)
  rw[hfl] at TP
  refine ax [] TP rfl rfl rfl rfl (by kernel_rfl) ⟨⟨4,_,by simp,rfl,aq _ _ _,ay⟩,⟨0,_,by simp,rfl,bX,.inr rfl⟩,⟨1,_,by simp,rfl,aY hAs,a7 hAs⟩,⟨5,by simp,rfl⟩,⟨6,by simp,rfl⟩,⟨7,by simp,rfl⟩,trivial⟩ (fun _=>rfl) ?_
  rintro v H' ⟨rfl,rfl⟩
  refine⟨rfl,?_⟩
  have hbadE:∀ (e:Int) (u:List UInt8),i8 N f s=.tuple #[dy u,.int .i64 e]→e≠0→¬ ∃ f' s',mG N l f' s':=by
   rintro e u hr he ⟨f',s',h1,h2,h3,h4⟩
   rw[hfold] at h1
   obtain⟨rfl,rfl⟩:=Prod.mk.inj (Option.some.inj h1)
   unfold i8 at hr
   rw[if_pos h2,if_pos h3] at hr
   injection hr with hr
   have:=congrArg (fun a:Array Value=>a[1]?) hr
   simp at this
   exact he this.symm
  by_cases hok:aH N f∧eq N s
  case neg=>
   obtain⟨e,he,hr⟩:∃ e:Int,e≠0∧i8 N f s=.tuple #[dy [],.int .i64 e]:=by
    unfold i8
    by_cases h1:aH N f
    ·rw[if_pos h1,if_neg (fun h=>hok ⟨h1,h⟩)]
     exact⟨_,fun h=>hok ⟨h1,oC.1 h⟩,rfl⟩
    ·rw[if_neg h1]
     exact⟨_,fun h=>h1 (cK.1 h),rfl⟩
   have hb:=hbadE e [] hr he
   rw[hr]
   refine ae [] rfl ?_
   refine ad (aa (ah [] rfl ?_))
   refine aw 109 (v':=.bool true) rfl (congrArg Value.bool (az he)) ?_
   refine ah [2] rfl ?_
   refine ai ?_
   refine bo rfl ?_
   refine ad (aa (ae [] rfl ?_))
   exact aE [] (by decide) rfl (aB ⟨_,rfl,.inr ⟨hb,rfl,rfl⟩⟩)
  have hr:i8 N f s=.tuple #[dy (ev f s (cY (N.arcs.zip f) N.snk) (ec s N.arcs)),.int .i64 0]:=by unfold i8;rw[if_pos hok.1,if_pos hok.2]
  rw[hr]
  refine ae [] rfl ?_
  refine ad (aa (ah [] rfl ?_))
  refine aw 109 (v':=.bool false) rfl (congrArg Value.bool (aA (fun h=>h rfl))) ?_
  refine ah [2] rfl ?_
  refine aw 113 (v':=.bool (dI (ev f s (cY (N.arcs.zip f) N.snk) (ec s N.arcs)≠l))) rfl (congrArg Value.bool (by
   rw[jZ]
   by_cases h:ev f s (cY (N.arcs.zip f) N.snk) (ec s N.arcs)=l
   ·rw[az h,aA (fun n=>n h)];rfl
   ·rw[aA h,az h];rfl)) ?_
  refine ai ?_
  refine aC rfl (fun hne=>?_) (fun heq=>av ?_)
  ·refine ad (aa (ae [] rfl ?_))
   refine aE [] (by decide) rfl (aB ⟨_,rfl,.inr ⟨fun ⟨f',s',h1,h2,h3,h4⟩=>?_,rfl,rfl⟩⟩)
   rw[hfold] at h1
   obtain⟨rfl,rfl⟩:=Prod.mk.inj (Option.some.inj h1)
   exact hne h4
  ·have heq:=Classical.not_not.1 heq
   refine ad (aa (ae [] rfl ?_))
   refine aE [0,1] (by decide) rfl (aB ⟨_,rfl,.inl ⟨f,s,some ⟨g8,0,none⟩,As,N.arcs.length,cs,⟨hfold,hok.1,hok.2,heq⟩,?_,?_⟩⟩)
   ·rw[hfl];rfl
   ·rw[hfl]
end Go.Proofs.YtpbmihpjgjbndaaGreatDoor
