/- The engine and the words that all chapters share: several texts in one. -/
import Derived.Test.YtpbmihpjgjbndaaGreatDoorSesF
import Derived.Laws.Pointers
import Derived.Test.YtpbmihpjgjbndaaGreatDoorQF
import Derived.Test.YtpbmihpjgjbndaaGreatDoorRightN
/- A session that has no network yet. -/
set_option linter.unusedVariables false
set_option linter.unusedSimpArgs false
namespace Go.Proofs.YtpbmihpjgjbndaaGreatDoor
open Go.RowKit
section
variable {X:Cx} {E:Env} {H:Heap}
theorem qG {o:Oper} {t t':Nat} {x y:Operand} {p:Addr} (ho:o.op=.binOp .eql t x y t') (hx:val E x=some (.pointer (some p))) (hy:val E y=some (.pointer none)) (h:Tryz.prog.underlying t=some (.pointer (Tryz.prog.pointee t))):ib X o E H (.bool false):=by
 intro a w hA hH
 have hg:(eqGuard .eql t x y (.pointer (some p)) (.pointer none)).run Tryz.prog w=.ok () w:=by simp[eqGuard]
 have hb:(binOp .eql t (.pointer (some p)) (.pointer none)).run Tryz.prog w=.ok (.bool false) w:=run_eql_pointer_nil w t (some p) h
 simp only[execOp,ho,hA.val hx,hA.val hy,Sem.run_bind,hg,hb,Result.andThen_ok]
 rfl
theorem yb {o:Oper} {t t':Nat} {x y:Operand} {p:Addr} (ho:o.op=.binOp .neq t x y t') (hx:val E x=some (.pointer (some p))) (hy:val E y=some (.pointer none)) (h:Tryz.prog.underlying t=some (.pointer (Tryz.prog.pointee t))):ib X o E H (.bool true):=by
 intro a w hA hH
 have hg:(eqGuard .neq t x y (.pointer (some p)) (.pointer none)).run Tryz.prog w=.ok () w:=by simp[eqGuard]
 have hb:(binOp .neq t (.pointer (some p)) (.pointer none)).run Tryz.prog w=.ok (.bool true) w:=run_neq_pointer_nil w t (some p) h
 simp only[execOp,ho,hA.val hx,hA.val hy,Sem.run_bind,hg,hb,Result.andThen_ok]
 rfl
end
theorem yn {m:cl} (h:m.a=false) (l:List Bool):m.lack l=9:=by unfold cl.lack;rw[if_pos h]
theorem tN (m:cl) (ha:m.a=false) (p:Nat) (sg:Int):Fn 28 [.pointer (some ⟨p,0,none⟩),.int .u8 sg] [] [.seg p 0 m.cells] fun v H'=>v=pv (0,9)∧H'=[]:=by
 refine aK Tryz.func28 rfl rfl fun w0=>?_
 refine ad (aa (ae [] rfl ?_))
 refine ad (ad (aa (ah [] rfl ?_)))
 refine ap (fst:=[]) (cap:=[]) [] (iR m p [] (by decide) none 0 0 0 0 (fun h=>absurd rfl h) rfl) rfl rfl rfl rfl (by kernel_rfl) ⟨⟨0,_,by simp,rfl,am _ _ _,aw⟩,⟨0,_,by simp,rfl,jA,.inl rfl⟩,trivial⟩ (fun _=>rfl) ?_
 rintro v H' ⟨rfl,rfl⟩
 refine⟨rfl,?_⟩
 rw[yn ha]
 refine ae [] rfl ?_
 refine ad (aa (ae [] rfl ?_))
 refine aD rfl (fun _=>?_) (fun h=>absurd (by decide) h)
 refine ad (aa (ae [] rfl ?_))
 exact aC [] (by decide) rfl (ay ⟨_,rfl,rfl,rfl⟩)
theorem uE (m:cl) (ha:m.a=false) (p:Nat):Fn 29 [.pointer (some ⟨p,0,none⟩)] [] [.seg p 0 m.cells] fun v H'=>v=.int .i64 9∧H'=[]:=by
 refine aK Tryz.func29 rfl rfl fun w0=>?_
 refine ad (aa (ae [] rfl ?_))
 refine ad (ad (aa (ah [] rfl ?_)))
 refine bS rfl rfl rfl rfl rfl rfl rfl (fun _=>rfl) fun g=>?_
 refine ap (fst:=[]) (cap:=[]) [] (iR m p [false,true] (by decide) (some ⟨g,0,none⟩) 2 2 g 0 (fun _=>rfl) rfl) rfl rfl rfl rfl (by kernel_rfl) ⟨⟨1,_,by simp,rfl,am _ _ _,aw⟩,⟨0,_,by simp,rfl,aF _ _ _ (0,0),.inr rfl⟩,trivial⟩ (fun _=>rfl) ?_
 rintro v H' ⟨rfl,rfl⟩
 refine⟨rfl,?_⟩
 rw[yn ha]
 refine ae [] rfl ?_
 refine ad (aa (ae [] rfl ?_))
 refine aD rfl (fun _=>?_) (fun h=>absurd (by decide) h)
 refine ad (aa (ae [] rfl ?_))
 exact aC [] (by decide) rfl (ay ⟨_,rfl,rfl,rfl⟩)
theorem q9:Fn 23 [] [] [] fun v H'=>v=.bool true∧H'=[]:=by
 refine aK Tryz.func23 rfl rfl fun w0=>?_
 refine ad (aa (ae [] rfl ?_))
 refine ad (aa (ah [] rfl ?_))
 refine ap [] sX rfl rfl rfl rfl (by kernel_rfl) trivial (fun _=>rfl) ?_
 rintro v H' ⟨p,rfl,rfl⟩
 refine⟨rfl,?_⟩
 refine ae [] rfl ?_
 refine ad (ad (aa (ah [] rfl ?_)))
 refine ab [] (v:=.bool false) (qG rfl rfl rfl (by kernel_rfl)) rfl ?_
 refine ae [] rfl ?_
 refine bq rfl (aq ?_)
 refine ad (aa (ah [] rfl ?_))
 refine ap [] (tN uw rfl p 112) rfl rfl rfl rfl (by kernel_rfl) ⟨⟨0,_,by simp,rfl,aF _ _ _ (0,0),.inr rfl⟩,trivial⟩ (fun _=>rfl) ?_
 rintro v H' ⟨rfl,rfl⟩
 refine⟨rfl,?_⟩
 refine ae [] rfl ?_
 refine ad (aa (ah [] rfl ?_))
 refine av 14 (v':=.bool true) rfl (congrArg Value.bool (aA rfl)) ?_
 refine ah [2] rfl ?_
 refine ap [2] (uE uw rfl p) rfl rfl rfl rfl (by kernel_rfl) ⟨⟨0,_,by simp,rfl,aF _ _ _ (0,0),.inr rfl⟩,trivial⟩ (fun _=>rfl) ?_
 rintro v H' ⟨rfl,rfl⟩
 refine⟨rfl,?_⟩
 refine ah [2] rfl ?_
 refine ai ?_
 exact aC [] (by decide) rfl (ay ⟨_,rfl,congrArg Value.bool (aA rfl),rfl⟩)
end Go.Proofs.YtpbmihpjgjbndaaGreatDoor
/- Chapter 14's flows of raw numbers. -/
set_option linter.unusedVariables false
set_option linter.unusedSimpArgs false
namespace Go.Proofs.YtpbmihpjgjbndaaGreatDoor
open Go.RowKit
end Go.Proofs.YtpbmihpjgjbndaaGreatDoor
/- Chapter 14's flows of raw numbers: the whole. -/
set_option linter.unusedVariables false
set_option linter.unusedSimpArgs false
namespace Go.Proofs.YtpbmihpjgjbndaaGreatDoor
open Go.RowKit
end Go.Proofs.YtpbmihpjgjbndaaGreatDoor
/- Whether a flow and a cut prove one another: of a right network, a flow and a cut. -/
set_option linter.unusedVariables false
set_option linter.unusedSimpArgs false
namespace Go.Proofs.YtpbmihpjgjbndaaGreatDoor
open Go.RowKit
set_option maxHeartbeats 1000000 in
theorem vH (N:bc) (hN:N.Fits) (hR:N.Right) (A:Option Addr) (c b o:Nat) (hA:N.arcs≠[]→A=some ⟨b,o,none⟩) (f:List Int) (hf:aN N f) (F:Option Addr) (cf bf of:Nat) (hF:f≠[]→F=some ⟨bf,of,none⟩)
 (s:List Int) (hs:eP N s) (hsl:s.length≤100000) (S:Option Addr) (cs bs os:Nat) (hS:s≠[]→S=some ⟨bs,os,none⟩):
 Fn 67 [bn N A c,.slice F f.length cf,.slice S s.length cs] [] [.seg b o (arcs N.arcs),.seg bf of (az f),.seg bs os (az s)] fun v H'=>v=.int .i64 (if dg (N.arcs.zip f) N.snk=gL s N.arcs then 0 else 8)∧H'=[]:=by
 have hl2:=hR.len
 have hfl:=hf.len
 refine aK Tryz.func67 rfl rfl fun w0=>?_
 refine ad (aa ?_)
 refine br (cs:=bQ N A c) rfl rfl rfl (fun _=>rfl) fun p=>?_
 refine ae [] rfl ?_
 refine ad (aa ?_)
 refine ab [] (v:=bn N A c) (af 0 rfl rfl rfl rfl) rfl ?_
 refine ah [] rfl ?_
 refine ap [] (js N hN hR A c b o hA f F cf bf of hF (aN.inB hR hf.toRanged) (by omega)) rfl rfl rfl rfl (by kernel_rfl) ⟨⟨1,_,by simp,rfl,am _ _ _,aw⟩,⟨2,_,by simp,rfl,am _ _ _,aw⟩,trivial⟩ (fun _=>rfl) ?_
 rintro v H' ⟨⟨rfl,_⟩|⟨_,h⟩,rfl⟩
 case inr=>exact absurd hf h
 refine⟨rfl,?_⟩
 refine ae [] rfl ?_
 refine ad (ad (aa (ae [] rfl ?_)))
 refine aD rfl (fun h=>absurd rfl h) (fun _=>aq ?_)
 refine ad (aa ?_)
 refine ab [] (v:=bn N A c) (af 0 rfl rfl rfl rfl) rfl ?_
 refine ah [] rfl ?_
 refine ap [] (lV N hN hR A c b o hA s hs hsl S cs bs os hS) rfl rfl rfl rfl (by kernel_rfl) ⟨⟨1,_,by simp,rfl,am _ _ _,aw⟩,⟨3,_,by simp,rfl,am _ _ _,aw⟩,trivial⟩ (fun _=>rfl) ?_
 rintro v H' ⟨rfl,rfl⟩
 refine⟨rfl,?_⟩
 refine ae [] rfl ?_
 refine ad (ax (ad (aa (ae [] rfl ?_))))
 refine aD rfl (fun h=>absurd rfl h) (fun _=>?_)
 refine ad (aa (ae [] rfl ?_))
 refine aD rfl (fun h=>?_) (fun h=>aq ?_)
 ·refine ad (aa (ae [] rfl ?_))
  refine aC [] (by decide) rfl (ay ⟨_,rfl,congrArg (Value.int .i64) (if_neg h).symm,rfl⟩)
 ·refine ad (aa (ae [] rfl ?_))
  refine aC [] (by decide) rfl (ay ⟨_,rfl,congrArg (Value.int .i64) (if_pos (Classical.not_not.1 h)).symm,rfl⟩)
end Go.Proofs.YtpbmihpjgjbndaaGreatDoor
/- Covers: nodes that meet all edges. -/
set_option linter.unusedVariables false
set_option linter.unusedSimpArgs false
namespace Go.Proofs.YtpbmihpjgjbndaaGreatDoor
open Go.RowKit
structure fy (m:Int) (l:List Int):Prop where
 rise:l.Pairwise (·<·)
 rng:∀ x∈l,1≤x∧x≤m
theorem fy.snoc {m:Int} {l:List Int} {x:Int}:fy m (l++[x])↔fy m l∧(∀ y∈l,y<x)∧1≤x∧x≤m:=by
 constructor
 ·intro h
  obtain⟨h1,_,h3⟩:=List.pairwise_append.1 h.rise
  have hx:=h.rng x (by simp)
  exact⟨⟨h1,fun y hy=>h.rng y (by simp[hy])⟩,fun y hy=>h3 y hy x (by simp),hx.1,hx.2⟩
 ·rintro⟨h,h1,h2,h3⟩
  refine⟨qd h.rise h1,fun y hy=>?_⟩
  rcases List.mem_append.1 hy with hy|hy
  ·exact h.rng y hy
  ·rw[List.mem_singleton.1 hy];exact⟨h2,h3⟩
end Go.Proofs.YtpbmihpjgjbndaaGreatDoor
