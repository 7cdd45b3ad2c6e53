/- The engine and the words that all chapters share: several texts in one. -/
import Derived.Test.YtpbmihpjgjbndaaGreatDoorQX42
/- Networks read line by line: a line of an arc. -/
set_option linter.unusedVariables false
set_option linter.unusedSimpArgs false
namespace Go.Proofs.YtpbmihpjgjbndaaGreatDoor
open Go.RowKit
theorem y9 (V:eb) (w:Ws) (hw:∀ x∈w,x.length≤10000000) (hn:w.length≤10000000) (B:Option Addr) (n bb ob:Nat) (hB:w≠[]→B=some ⟨bb,ob,none⟩) (hnl:n=w.length) (p:Nat) (r:Rd) (ok:r.OK) (A:Option Addr) (c:Nat):
 Fn 112 [.pointer (some ⟨p,0,none⟩),.slice B n n] (aO (kT p A c r)) ([.seg bb ob (du w)]++V.heap++kT p A c r) (gN p (r.arc w)):=by
 subst hnl
 have bad:(w.length≠4∨r.src=0∨r.snk=0)→gN p (r.arc w) (.int .i64 2) (kT p A c r):=fun h=>by
  unfold Rd.arc;rw[if_pos h];exact⟨rfl,A,c,rfl⟩
 have hlen:=ok.len
 have hsum:=ok.sum_ge
 have hml:=ok.most_le
 refine aK Tryz.func112 rfl rfl fun w0=>?_
 refine ad (aa (ae [] rfl ?_))
 refine ad (ad (aa (ah [] rfl ?_)))
 by_cases h1:w.length=4
 case neg=>
  refine av 11 (v':=.bool true) rfl (congrArg Value.bool (aA (by simp;omega))) ?_
  refine ah [3] rfl ?_
  refine av 19 (v':=.bool true) rfl rfl ?_
  refine ae [3,11] rfl ?_
  refine a8 rfl ?_
  refine ad (aa (ae [] rfl ?_))
  exact aC [4,5] (by decide) rfl (ay ⟨_,rfl,bad (.inl h1)⟩)
 obtain⟨x0,x1,x2,x3,rfl⟩:=zx h1
 obtain rfl:=hB (by simp)
 refine av 11 (v':=.bool false) rfl (congrArg Value.bool (aB (by simp))) ?_
 refine ah [3] rfl ?_
 refine ab [3] (af (i:=1) (v:=.int .i64 r.src) 4 rfl rfl rfl rfl) rfl ?_
 refine ah [3] rfl ?_
 by_cases h2:r.src=0
 ·refine av 19 (v':=.bool true) rfl (congrArg Value.bool (aA h2)) ?_
  refine ae [3,11] rfl ?_
  refine a8 rfl ?_
  refine ad (aa (ae [] rfl ?_))
  exact aC [4,5] (by decide) rfl (ay ⟨_,rfl,bad (.inr (.inl h2))⟩)
 refine av 19 (v':=.bool false) rfl (congrArg Value.bool (aB h2)) ?_
 refine ah [3,11] rfl ?_
 refine ab [3,11] (af (i:=2) (v:=.int .i64 r.snk) 4 rfl rfl rfl rfl) rfl ?_
 refine ae [3,11] rfl ?_
 refine aD rfl (fun h3=>?_) (fun h3=>aq ?_)
 ·refine ad (aa (ae [] rfl ?_))
  exact aC [4,5] (by decide) rfl (ay ⟨_,rfl,bad (.inr (.inr h3))⟩)
 refine ad (aa (ah [] rfl ?_))
 refine ab [] (el (i:=1) rfl rfl rfl rfl rfl (by simp)) rfl ?_
 refine ap [] (jN V [x1,x2,x3] (fun x hx=>hw x (List.mem_cons_of_mem _ hx)) (by simp) _ 3 _ bb (ob+1) (fun _=>rfl) rfl) rfl rfl rfl rfl (by kernel_rfl) ⟨⟨0,_,by simp,rfl,mE 1 (fun i=>by rw[Nat.add_comm];rfl),.inr rfl⟩,⟨1,by simp,rfl⟩,⟨2,by simp,rfl⟩,⟨3,by simp,rfl⟩,trivial⟩ (fun _=>rfl) ?_
 rintro v H' ⟨An,cn,rfl,rfl⟩
 refine⟨rfl,?_⟩
 generalize hq:bd [x1,x2,x3]=q
 have hql:=fun h=>(kU (ws:=[x1,x2,x3]) h).1
 have hqi:=oH (ws:=[x1,x2,x3])
 rw[hq] at hql hqi
 obtain⟨L,e⟩:=q
 have good:∀ z:Rd×Int,(if e≠0 then (r,e) else
  if ¬ (1≤L.getD 0 0∧L.getD 0 0≤r.nodes)∨¬ (1≤L.getD 1 0∧L.getD 1 0≤r.nodes) then (r,4) else
  if L.getD 2 0<0 then (r,3) else if (r.arcs.length:Int)=r.most then (r,6) else
  if 4611686018427387903<r.sum+L.getD 2 0 then (r,7) else
  ({ r with sum:=r.sum+L.getD 2 0,arcs:=r.arcs++[⟨L.getD 0 0,L.getD 1 0,L.getD 2 0⟩] },0))=z→r.arc [x0,x1,x2,x3]=z:=fun z hz=>by
  unfold Rd.arc
  rw[if_neg (by simp[h2,h3]),show List.drop 1 [x0,x1,x2,x3]=[x1,x2,x3] from rfl,hq]
  exact hz
 refine ae [] rfl ?_
 refine ad (ad (aa (ae [] rfl ?_)))
 refine aD rfl (fun he=>?_) (fun he=>aq ?_)
 ·refine ad (aa (ae [] rfl ?_))
  exact aC [5,6] (by decide) rfl (ay ⟨_,rfl,by rw[good _ (if_pos he)];exact⟨rfl,A,c,rfl⟩⟩)
 have he0:e=0:=Classical.not_not.1 he
 obtain⟨a,b,d,rfl⟩:∃ a b d,L=[a,b,d]:=by
  match L,hql he0 with
  |[a,b,d],_=>exact⟨a,b,d,rfl⟩
 refine bB (bg 0 rfl) (fun ho=>?_)
 obtain⟨g,rfl⟩:=ho.2.2.1 (by simp)
 have ha:cL a:=hqi a (by simp)
 have hb:cL b:=hqi b (by simp)
 have hd:cL d:=hqi d (by simp)
 have hsi:cL r.sum:=by unfold cL;omega
 simp only[List.getD_cons_zero,List.getD_cons_succ] at good
 rw[if_neg he] at good
 refine ad ?_
 refine bz 13 [(0,true),(1,true),(2,true),(3,true),(4,true),(5,true),(6,true),(7,false),(8,true),(9,true),(10,true),(11,true),(12,true)] [0,5] (by kernel_rfl) (by decide) rfl ?_
 refine aH [] rfl ?_
 refine aj [] rfl (af (i:=5) (v:=.int .i64 r.sum) 1 rfl rfl rfl rfl) rfl ?_
 refine aH [] rfl ?_
 refine aj [] rfl (dD rfl rfl rfl rfl rfl (by simp)) rfl ?_
 refine aj [] rfl (aG (i:=2) 0 rfl rfl rfl (bh rfl)) rfl ?_
 refine aH [] rfl ?_
 refine a7 rfl ?_
 refine ap [] (wa hsi hd) rfl rfl rfl rfl (by kernel_rfl) trivial (fun _=>rfl) ?_
 rintro v H' ⟨rfl,rfl⟩
 have hse:((fZ (r.sum+d)).2=0→(fZ (r.sum+d)).1=r.sum+d)∧((fZ (r.sum+d)).2≠0→0≤d→4611686018427387903<r.sum+d):=by
  unfold fZ
  split
  ·exact⟨fun _=>rfl,fun k=>absurd rfl k⟩
  ·rename_i hni
   refine⟨fun k=>by simp at k,fun _ h0=>?_⟩
   unfold cL at hni
   omega
 generalize fZ (r.sum+d)=oe at hse
 obtain⟨s,e2⟩:=oe
 refine⟨rfl,ai ⟨⟨[0,5],by decide,rfl⟩,?_⟩⟩
 refine dH [] rfl ?_
 refine ai ?_
 refine ad (ax ?_)
 refine ad (aa (ah [] rfl ?_))
 refine ab [] (dD rfl rfl rfl rfl rfl (by simp)) rfl ?_
 refine ab [] (aG (i:=0) 0 rfl rfl rfl (bh rfl)) rfl ?_
 refine ap [] (kW p r A c a) rfl rfl rfl rfl (by kernel_rfl) ⟨⟨5,_,by simp,rfl,aF _ _ _ (0,0),.inr rfl⟩,trivial⟩ (fun _=>rfl) ?_
 rintro v H' ⟨rfl,rfl⟩
 refine⟨rfl,?_⟩
 refine ah [] rfl ?_
 have h4bad:(¬ (1≤a∧a≤r.nodes)∨¬ (1≤b∧b≤r.nodes))→gN p (r.arc [x0,x1,x2,x3]) (.int .i64 4) (kT p A c r):=fun h=>by
  rw[good _ (if_pos h)];exact⟨rfl,A,c,rfl⟩
 by_cases h4:1≤a∧a≤r.nodes
 case neg=>
  refine av 54 (v':=.bool true) rfl (by rw[aB h4];rfl) ?_
  refine ae [6] rfl ?_
  refine a8 rfl ?_
  refine ad (aa (ae [] rfl ?_))
  exact aC [5,6] (by decide) rfl (ay ⟨_,rfl,h4bad (.inl h4)⟩)
 refine av 54 (v':=.bool false) rfl (by rw[aA h4];rfl) ?_
 refine ah [6] rfl ?_
 refine ab [6] (dD rfl rfl rfl rfl rfl (by simp)) rfl ?_
 refine ab [6] (aG (i:=1) 0 rfl rfl rfl (bh rfl)) rfl ?_
 refine ap [6] (kW p r A c b) rfl rfl rfl rfl (by kernel_rfl) ⟨⟨5,_,by simp,rfl,aF _ _ _ (0,0),.inr rfl⟩,trivial⟩ (fun _=>rfl) ?_
 rintro v H' ⟨rfl,rfl⟩
 refine⟨rfl,?_⟩
 refine ae [6] rfl ?_
 by_cases h5:1≤b∧b≤r.nodes
 case neg=>
  refine aM 47 (v':=.bool true) rfl (by rw[aB h5];rfl) ?_
  refine a8 rfl ?_
  refine ad (aa (ae [] rfl ?_))
  exact aC [5,6] (by decide) rfl (ay ⟨_,rfl,h4bad (.inr h5)⟩)
 refine aM 47 (v':=.bool false) rfl (by rw[aA h5];rfl) ?_
 refine bq rfl ?_
 rw[if_neg (fun k=>k.elim (fun k=>k h4) (fun k=>k h5))] at good
 refine ad (aa (ah [] rfl ?_))
 refine ab [] (dD rfl rfl rfl rfl rfl (by simp)) rfl ?_
 refine ab [] (aG (i:=2) 0 rfl rfl rfl (bh rfl)) rfl ?_
 refine ae [] rfl ?_
 refine aD rfl (fun h6=>?_) (fun h6=>?_)
 ·refine ad (aa (ae [] rfl ?_))
  exact aC [5,6] (by decide) rfl (ay ⟨_,rfl,by rw[good _ (if_pos h6)];exact⟨rfl,A,c,rfl⟩⟩)
 rw[if_neg h6] at good
 refine ad ?_
 refine bz 12 [(0,true),(1,true),(2,true),(3,true),(4,true),(5,true),(6,true),(7,true),(8,true),(9,true),(10,true),(11,true)] [5] (by kernel_rfl) (by decide) rfl ?_
 refine aH [] rfl ?_
 refine aj [] rfl (af (i:=3) (v:=.slice A r.arcs.length c) 0 rfl rfl rfl rfl) rfl ?_
 refine aH [] rfl ?_
 refine aj [] rfl (af (i:=4) (v:=.int .i64 r.most) 0 rfl rfl rfl rfl) rfl ?_
 refine dH [] rfl ?_
 refine ai ?_
 refine aD rfl (fun h7=>?_) (fun h7=>?_)
 ·refine ad (aa (ae [] rfl ?_))
  exact aC [5,6] (by decide) rfl (ay ⟨_,rfl,by rw[good _ (if_pos h7)];exact⟨rfl,A,c,rfl⟩⟩)
 rw[if_neg h7] at good
 have h8bad:4611686018427387903<r.sum+d→gN p (r.arc [x0,x1,x2,x3]) (.int .i64 7) (kT p A c r):=fun h=>by
  rw[good _ (if_pos h)];exact⟨rfl,A,c,rfl⟩
 refine ad (aa (ah [] rfl ?_))
 by_cases h8:e2=0
 case neg=>
  refine av 82 (v':=.bool true) rfl (congrArg Value.bool (aA h8)) ?_
  refine ae [2] rfl ?_
  refine a8 rfl ?_
  refine ad (aa (ae [] rfl ?_))
  exact aC [5,6] (by decide) rfl (ay ⟨_,rfl,h8bad (hse.2 h8 (by omega))⟩)
 refine av 82 (v':=.bool false) rfl (congrArg Value.bool (aB (fun k=>k h8))) ?_
 refine ae [2] rfl ?_
 have hs:s=r.sum+d:=hse.1 h8
 refine aD rfl (fun h9=>?_) (fun h9=>aq ?_)
 ·refine ad (aa (ae [] rfl ?_))
  exact aC [5,6] (by decide) rfl (ay ⟨_,rfl,h8bad (by rw[← hs];exact h9)⟩)
 have h9':¬ 4611686018427387903<s:=h9
 rw[if_neg (by omega)] at good
 refine ad (aa (ah [] rfl ?_))
 refine aE 5 rfl rfl rfl rfl rfl [] rfl ?_
 refine ae [] rfl ?_
 refine ad ?_
 refine bz 21 [(0,true),(1,true),(2,true),(3,true),(4,true),(5,true),(6,true),(7,true),(8,true),(9,true),(10,true),(11,true),(12,true),(13,true),(14,true),(15,true),(16,false),(17,false),(18,true),(19,true),(20,true)] [0,5] (by kernel_rfl) (by decide) rfl ?_
 refine aH [] rfl ?_
 refine aj [] rfl (af (i:=3) (v:=.slice A r.arcs.length c) 1 rfl rfl rfl rfl) rfl ?_
 refine aH [] rfl ?_
 refine aj [] rfl (dD rfl rfl rfl rfl rfl (by simp)) rfl ?_
 refine aj [] rfl (aG (i:=0) 0 rfl rfl rfl (bh rfl)) rfl ?_
 refine aH [] rfl ?_
 refine aj [] rfl (dD rfl rfl rfl rfl rfl (by simp)) rfl ?_
 refine aj [] rfl (aG (i:=1) 0 rfl rfl rfl (bh rfl)) rfl ?_
 refine aH [] rfl ?_
 refine aj [] rfl (dD rfl rfl rfl rfl rfl (by simp)) rfl ?_
 refine aj [] rfl (aG (i:=2) 0 rfl rfl rfl (bh rfl)) rfl ?_
 refine aH [] rfl ?_
 refine aj [] rfl (be rfl rfl rfl rfl rfl rfl) rfl ?_
 refine a7 rfl ?_
 refine bS rfl rfl rfl rfl rfl rfl rfl (fun _=>rfl) fun g2=>?_
 refine ai ⟨⟨[1,6],by decide,rfl⟩,?_⟩
 refine a7 rfl ?_
 refine bu (n:=r.arcs.length) (m:=1) (off:=0) (news:=arcs [dG.mk a b d]) 7 0 rfl rfl rfl rfl rfl rfl (by decide) rfl rfl (aF g2 _ _ (0,0)) (fun _=>rfl) rfl rfl (by omega) (by omega) (fun _ _=>rfl) fun A2 c2=>?_
 refine ai ⟨⟨[1,6],by decide,rfl⟩,?_⟩
 refine aH [] rfl ?_
 refine bC ?_
 refine aE 6 rfl rfl rfl rfl rfl [] rfl ?_
 refine ai ?_
 refine ad (aa (ae [] rfl ?_))
 refine aC [6,7] (by decide) rfl (ay ⟨_,rfl,?_⟩)
 rw[good _ rfl,← hs]
 refine⟨rfl,A2,c2,?_⟩
 rw[← qb,show r.arcs.length+1=(r.arcs++[dG.mk a b d]).length by simp]
 rfl
end Go.Proofs.YtpbmihpjgjbndaaGreatDoor
/- Networks read line by line: what a line is of. -/
set_option linter.unusedVariables false
set_option linter.unusedSimpArgs false
namespace Go.Proofs.YtpbmihpjgjbndaaGreatDoor
open Go.RowKit
variable {V:eb} {bb ob:Nat} {w:Ws}
theorem uo (S:Heap) (hS:S=[.seg bb ob (du w)]++V.heap) (B:Value) (p:Nat) (r:Rd) (A:Option Addr) (c:Nat):Fn 109 [.pointer (some ⟨p,0,none⟩),B] (aO (kT p A c r)) (S++kT p A c r) fun v H'=>v=.int .i64 0∧H'=kT p A c r:=by
 subst hS
 refine aK Tryz.func109 rfl rfl fun w0=>?_
 refine ad (aa (ae [] rfl ?_))
 refine ad (aa (ae [] rfl ?_))
 exact aC [4,5] (by decide) rfl (ay ⟨_,rfl,rfl,rfl⟩)
theorem we (S:Heap) (hS:S=[.seg bb ob (du w)]++V.heap) (B:Value) (p:Nat) (r:Rd) (A:Option Addr) (c:Nat):Fn 113 [.pointer (some ⟨p,0,none⟩),B] (aO (kT p A c r)) (S++kT p A c r) fun v H'=>v=.int .i64 2∧H'=kT p A c r:=by
 subst hS
 refine aK Tryz.func113 rfl rfl fun w0=>?_
 refine ad (aa (ae [] rfl ?_))
 refine ad (aa (ae [] rfl ?_))
 exact aC [4,5] (by decide) rfl (ay ⟨_,rfl,rfl,rfl⟩)
def zd (w:Ws):FuncId:=match w with
 |[]=>109
 |x::_=>if x=[99] then 109 else if x=[112] then 110 else if x=[110] then 111 else if x=[97] then 112 else 113
def yT (B:Option Addr) (n:Nat) (f:FuncId):Value:=.agg #[.slice B n n,.func (.func f) #[] #[]]
theorem yK (w:Ws) (hn:w.length≤10000000) (B:Option Addr) (bb ob:Nat) (hB:w≠[]→B=some ⟨bb,ob,none⟩):Fn 72 [.slice B w.length w.length] [] [.seg bb ob (du w)] fun v H'=>v=yT B w.length (zd w)∧H'=[]:=by
 refine iX Tryz.func72 rfl rfl fun w0=>?_
 refine ad (aa ?_)
 refine bA rfl rfl rfl (fun _=>rfl) fun p2=>?_
 refine ae [] rfl ?_
 refine ad (ad (aa (ae [] rfl ?_)))
 refine aD rfl (fun h=>?_) (fun h=>aq ?_)
 ·obtain rfl:w=[]:=List.eq_nil_of_length_eq_zero (by omega)
  refine ad (aa (ah [] rfl ?_))
  refine ab [] (v:=yT B 0 109) (be rfl rfl rfl rfl rfl rfl) rfl ?_
  refine aE 0 rfl rfl rfl rfl rfl [] rfl ?_
  refine ae [] rfl ?_
  refine ay ?_
  exact⟨[_],[],_,⟨⟨p2,0,_,_,rfl,rfl,rfl⟩,trivial⟩,by decide,rfl,rfl,rfl⟩
 obtain⟨x,r,rfl⟩:∃ x r,w=x::r:=by
  match w,h with
  |x::r,_=>exact⟨x,r,rfl⟩
 obtain rfl:=hB (by simp)
 refine ad (ad (aa (ah [] rfl ?_)))
 refine ab [] (dD rfl rfl rfl rfl rfl (by simp)) rfl ?_
 refine ab [] (bw (i:=0) 1 rfl rfl rfl rfl (fM (l:=x::r) (x:=x) rfl)) rfl ?_
 refine ae [] rfl ?_
 refine ax (ad (aa (ae [] rfl ?_)))
 refine aM 11 (v':=.bool (dv (x=[99]))) rfl (congrArg Value.bool (iO x [99])) ?_
 refine aD rfl (fun h1=>?_) (fun h1=>?_)
 ·refine ad (aa (ah [] rfl ?_))
  refine ab [] (v:=yT (some ⟨bb,ob,none⟩) (x::r).length (109)) (be rfl rfl rfl rfl rfl rfl) rfl ?_
  refine aE 0 rfl rfl rfl rfl rfl [] rfl ?_
  refine ae [] rfl ?_
  refine ay ?_
  refine⟨[_],[],_,⟨⟨p2,0,_,_,rfl,rfl,rfl⟩,trivial⟩,by decide,rfl,?_,rfl⟩
  subst h1
  rfl
 refine ad (aa (ae [] rfl ?_))
 refine aM 15 (v':=.bool (dv (x=[112]))) rfl (congrArg Value.bool (iO x [112])) ?_
 refine aD rfl (fun h2=>?_) (fun h2=>?_)
 ·refine ad (aa (ah [] rfl ?_))
  refine ab [] (v:=yT (some ⟨bb,ob,none⟩) (x::r).length (110)) (be rfl rfl rfl rfl rfl rfl) rfl ?_
  refine aE 0 rfl rfl rfl rfl rfl [] rfl ?_
  refine ae [] rfl ?_
  refine ay ?_
  refine⟨[_],[],_,⟨⟨p2,0,_,_,rfl,rfl,rfl⟩,trivial⟩,by decide,rfl,?_,rfl⟩
  subst h2
  rfl
 refine ad (aa (ae [] rfl ?_))
 refine aM 19 (v':=.bool (dv (x=[110]))) rfl (congrArg Value.bool (iO x [110])) ?_
 refine aD rfl (fun h3=>?_) (fun h3=>?_)
 ·refine ad (aa (ah [] rfl ?_))
  refine ab [] (v:=yT (some ⟨bb,ob,none⟩) (x::r).length (111)) (be rfl rfl rfl rfl rfl rfl) rfl ?_
  refine aE 0 rfl rfl rfl rfl rfl [] rfl ?_
  refine ae [] rfl ?_
  refine ay ?_
  refine⟨[_],[],_,⟨⟨p2,0,_,_,rfl,rfl,rfl⟩,trivial⟩,by decide,rfl,?_,rfl⟩
  subst h3
  rfl
 refine ad (aa (ae [] rfl ?_))
 refine aM 23 (v':=.bool (dv (x=[97]))) rfl (congrArg Value.bool (iO x [97])) ?_
 refine aD rfl (fun h4=>?_) (fun h4=>?_)
 ·refine ad (aa (ah [] rfl ?_))
  refine ab [] (v:=yT (some ⟨bb,ob,none⟩) (x::r).length (112)) (be rfl rfl rfl rfl rfl rfl) rfl ?_
  refine aE 0 rfl rfl rfl rfl rfl [] rfl ?_
  refine ae [] rfl ?_
  refine ay ?_
  refine⟨[_],[],_,⟨⟨p2,0,_,_,rfl,rfl,rfl⟩,trivial⟩,by decide,rfl,?_,rfl⟩
  subst h4
  rfl
 refine aq (ad (aa (ah [] rfl ?_)))
 refine ab [] (v:=yT (some ⟨bb,ob,none⟩) (x::r).length (113)) (be rfl rfl rfl rfl rfl rfl) rfl ?_
 refine aE 0 rfl rfl rfl rfl rfl [] rfl ?_
 refine ae [] rfl ?_
 refine ay ?_
 refine⟨[_],[],_,⟨⟨p2,0,_,_,rfl,rfl,rfl⟩,trivial⟩,by decide,rfl,?_,rfl⟩
 unfold zd
 simp only[if_neg h1,if_neg h2,if_neg h3,if_neg h4]
 rfl
theorem vV (w:Ws):dX (zd w)=true:=by
 unfold zd
 split
 ·kernel_rfl
 ·split
  ·kernel_rfl
  ·split
   ·kernel_rfl
   ·split
    ·kernel_rfl
    ·split<;>kernel_rfl
theorem xS (V:eb) (w:Ws) (hw:∀ x∈w,x.length≤10000000) (hn:w.length≤10000000) (B:Option Addr) (bb ob:Nat) (hB:w≠[]→B=some ⟨bb,ob,none⟩) (p:Nat) (r:Rd) (ok:r.OK) (A:Option Addr) (c:Nat):
 Fn (zd w) [.pointer (some ⟨p,0,none⟩),.slice B w.length w.length] (aO (kT p A c r)) ([.seg bb ob (du w)]++V.heap++kT p A c r) (gN p (r.line w)):=by
 have hs:Fn 109 [.pointer (some ⟨p,0,none⟩),.slice B w.length w.length] (aO (kT p A c r)) ([.seg bb ob (du w)]++V.heap++kT p A c r) (gN p (r,0)):=Fn.mono (uo _ rfl _ p r A c) fun v H' h=>⟨h.1,A,c,h.2⟩
 have hwr:Fn 113 [.pointer (some ⟨p,0,none⟩),.slice B w.length w.length] (aO (kT p A c r)) ([.seg bb ob (du w)]++V.heap++kT p A c r) (gN p (r,2)):=Fn.mono (we _ rfl _ p r A c) fun v H' h=>⟨h.1,A,c,h.2⟩
 unfold zd Rd.line
 cases w with
 |nil=>exact hs
 |cons x l=>
  simp only
  by_cases h1:x=[99]
  ·rw[if_pos h1,if_pos h1];exact hs
  rw[if_neg h1,if_neg h1]
  by_cases h2:x=[112]
  ·rw[if_pos h2,if_pos h2];exact ri V _ hw hn B _ bb ob hB rfl p r ok A c
  rw[if_neg h2,if_neg h2]
  by_cases h3:x=[110]
  ·rw[if_pos h3,if_pos h3];exact x9 V _ hw hn B _ bb ob hB rfl p r ok A c
  rw[if_neg h3,if_neg h3]
  by_cases h4:x=[97]
  ·rw[if_pos h4,if_pos h4];exact y9 V _ hw hn B _ bb ob hB rfl p r ok A c
  rw[if_neg h4,if_neg h4];exact hwr
end Go.Proofs.YtpbmihpjgjbndaaGreatDoor
