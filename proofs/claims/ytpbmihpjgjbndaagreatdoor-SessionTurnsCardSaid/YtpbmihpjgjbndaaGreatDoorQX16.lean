/- The engine and the words that all chapters share: several texts in one. -/
import Derived.Test.YtpbmihpjgjbndaaGreatDoorQX14
import Derived.Test.YtpbmihpjgjbndaaGreatDoorQB
import Derived.Laws.Cells
/- The engine by trees: a linked node is settled, step by step. -/
set_option linter.unusedVariables false
set_option linter.unusedSimpArgs false
namespace Go.Proofs.YtpbmihpjgjbndaaGreatDoor
open Go.RowKit
section
variable {P:EP} {L:Nat→List Nat} {lv:Nat→Int} {gv:Nat→Nat} {rm0 tr:List Int} {pos:List Nat} {par:OV} {val:Nat→Int} {row:Nat→List Nat}
theorem sw (hP:iw P L lv gv) {vals:List Value} (hV:uU P.rowsL gv pos vals) {v q r:Nat} (hv:v≤P.n) (hq:pos[v]?=some q) (hr:(L v)[q]?=some r):
 ∃ rw_ c',P.rowsL[v]?=some rw_∧vals[v]?=some (.slice (some ⟨gv v,q,none⟩) (rw_.l.length-q) c')∧rw_.l.length-q≤c'∧q<rw_.l.length∧rw_.l[q]?=some (r:Int)∧rw_.A=some ⟨gv v,0,none⟩∧rw_.l.length≤4000:=by
 have hrl:=hP.rl
 obtain⟨rw_,hrow⟩:∃ rw_,P.rowsL[v]?=some rw_:=⟨P.rowsL[v]'(by omega),List.getElem?_eq_getElem (by omega)⟩
 obtain⟨A',c',h1,h2,h3⟩:=hV.at_ v rw_ q hrow hq
 have hl:=hP.rows v rw_ hrow
 have hlt:q<rw_.l.length:=by rw[hl,List.length_map];exact (List.getElem?_eq_some_iff.1 hr).1
 obtain rfl:=h3 hlt
 refine⟨rw_,c',hrow,h1,h2,hlt,by rw[hl,List.getElem?_map,hr];rfl,hP.at_ v rw_ hrow (fun e=>?_),by rw[hl,List.length_map];exact hP.len v⟩
 have:rw_.l.length=0:=by rw[← bF,e];rfl
 omega
theorem tx {rw_:er} {g q e:Nat} (hA:rw_.A=some ⟨g,0,none⟩):(bJ e rw_).shows g q ((az rw_.l).drop q):=by
 have:=j7 (aS (e:=e) (sz:=1) (n:=rw_.l.length) (cap:=rw_.c) (fun _=>hA:az rw_.l≠[]→rw_.A=some ⟨g,0,none⟩)) q
 rw[Nat.zero_add] at this;exact this
theorem mp {X:Cx} {E:Env} {H:Heap} {o:Oper} {t q r i g:Nat} {xo:Operand} {rw_:er} (ho:o.op=.load t xo) (hx:Proofs.YtpbmihpjgjbndaaGreatDoor.val E xo=some (.pointer (some ⟨g,q,none⟩))) (hk:H[i]?=some (bJ 3 rw_)) {k':IntKind} {by':Nat} {z':Option Value} (ht:tab t=some ⟨.int k',1,by',z'⟩)
 (hA:rw_.A=some ⟨g,0,none⟩) (hl:rw_.l[q]?=some (r:Int)):ib X o E H (.int .i64 (r:Int)):=by
 refine dE (b:=g) (off:=q) (i:=0) (cs:=(az rw_.l).drop q) (c:=bJ 3 rw_) i ho hx hk (tx hA) ?_
 unfold em
 rw[ht]
 show ((az rw_.l).drop q)[0]?=_
 rw[List.getElem?_drop];exact cX hl
theorem wK {c0 c1 c2 c3 c4 c5 c6 c7 c8:aQ} {un:List er} {v:Nat} {rw_:er} (h:P.rowsL[v]?=some rw_):(c0::c1::c2::c3::c4::c5::c6::c7::c8::P.rows un)[9+v]?=some (bJ 3 rw_):=by
 show ([c0,c1,c2,c3,c4,c5,c6,c7,c8]++P.rows un)[9+v]?=_
 rw[List.getElem?_append_right (by simp)]
 show (P.rows un)[9+v-9]?=_
 rw[Nat.add_sub_cancel_left]
 unfold EP.rows
 rw[List.getElem?_map,List.getElem?_append_left (List.getElem?_eq_some_iff.1 h).1,h]
 rfl
theorem tk {c0 c1 c2 c3 c4 c5 c6 c7 c8:aQ} {un:List er} {v:Nat} {rw_:er} (h:un[v]?=some rw_):(c0::c1::c2::c3::c4::c5::c6::c7::c8::P.rows un)[9+(P.rowsL.length+v)]?=some (bJ 3 rw_):=by
 show ([c0,c1,c2,c3,c4,c5,c6,c7,c8]++P.rows un)[9+(P.rowsL.length+v)]?=_
 rw[List.getElem?_append_right (by simp)]
 show (P.rows un)[9+(P.rowsL.length+v)-9]?=_
 rw[Nat.add_sub_cancel_left]
 unfold EP.rows
 rw[List.getElem?_map,List.getElem?_append_right (by omega),Nat.add_sub_cancel_left,h]
 rfl
theorem nE (hP:iw P L lv gv) (s:ES) (hT:TA P L rm0 tr pos par val s.rm) (hF:eF (P.n+1) s.fs par val row) (hV:uU P.rowsL gv pos s.vals) {v w q r:Nat} (hv:v≤P.n) (hw:par v=some w) (hq:pos[v]?=some q) (hr:(L v)[q]?=some r) (hval:val v=tr.getD r 0):
 Fn 257 [.pointer (some ⟨P.pe,0,none⟩),.int .i64 (v:Int)] (aO (d8 P s)) ([P.sg]++d8 P s)
  fun _ H'=>∃ fs' row',H'=d8 P { s with fs:=fs',rm:=s.rm.set r (val v),k:=s.k+1 }∧eF (P.n+1) fs' (aV par v none) (eB val v (4611686018427387904-val v)) row'∧fs'.k≤s.fs.k+2*cE (P.n+1)+11*(P.n+1):=by
 have hN:=hP.small
 have hvN:v<P.n+1:=by omega
 obtain⟨rw_,c',hrow,hvv,hlc,hql,hrl,hrA,hrlen⟩:=sw hP hV hv hq hr
 have hvl:v<s.vals.length:=(List.getElem?_eq_some_iff.1 hvv).1
 have hrm:=List.mem_of_getElem? hr
 have hr2:=(eC hP hrm).1
 have htb:=hT.trb r
 generalize hM:aO _=M
 refine aK Tryz.func257 rfl rfl fun w0=>?_
 refine bG ju ?_
 refine ad (aa ?_)
 (repeat' (first
  |refine ak (gs:=[999]) rfl ?_
  |refine ab [999] (af 5 rfl rfl rfl rfl) rfl ?_))
 refine bO (aL.re (A:=P.fo s.fs++[P.sg,P.pc s.k s.w,P.rc s.rm,P.lc s.vals,P.uc s.un]) (R:=P.rows s.un) [5,0,1,2,3,4,6,7,8] rfl (by decide)) ?_
 refine au [999] (iv P s.k s.w) rfl rfl rfl rfl (by kernel_rfl) aL.refl trivial (fun _=>rfl) ?_
 rintro v0 H' rfl
 refine⟨rfl,?_⟩
 refine bO (aL.re (A:=[P.pc (s.k+1) s.w]++(P.fo s.fs++[P.sg,P.rc s.rm,P.lc s.vals,P.uc s.un])) (R:=P.rows s.un) [1,2,3,4,5,0,6,7,8] rfl (by decide)) ?_
 refine ai ?_
 refine ad (aa ?_)
 (repeat' (first
  |refine ak (gs:=[999]) rfl ?_
  |refine ab [999] (af 5 rfl rfl rfl rfl) rfl ?_))
 refine au [] (oX hF hN hvN) rfl rfl rfl rfl (by kernel_rfl) aL.refl trivial (fun _=>rfl) ?_
 rintro _ H' ⟨fs1,rfl,rfl,hF1,hk1⟩
 refine⟨rfl,?_⟩
 (repeat' (first
  |refine ak (gs:=[999]) rfl ?_
  |refine ab [999] (af 5 rfl rfl rfl rfl) rfl ?_))
 refine ai ?_
 refine ad ?_
 refine e7 16 [0,1,2,3,4,5,6,7,8,9,10,11,12,13,14] 15 [] (by kernel_rfl) ?_
 (repeat' (first
  |refine ft (gs:=[999]) rfl rfl ?_
  |refine bv [999] rfl rfl (af 5 rfl rfl rfl rfl) rfl ?_))
 refine b9 [999] rfl (aU rfl rfl rfl rfl rfl hvN) rfl ?_
 refine bv [999] rfl rfl (aG 7 rfl rfl rfl hvv) rfl ?_
 (repeat' (first
  |refine ft (gs:=[999]) rfl rfl ?_
  |refine bv [999] rfl rfl (af 5 rfl rfl rfl rfl) rfl ?_))
 refine b9 [999] rfl (dD rfl rfl rfl rfl rfl (m:=0) (by omega)) rfl ?_
 refine bv [999] rfl rfl (mp rfl rfl (wK hrow) rfl hrA hrl) rfl ?_
 (repeat' (first
  |refine ft (gs:=[999]) rfl rfl ?_
  |refine bv [999] rfl rfl (af 5 rfl rfl rfl rfl) rfl ?_))
 have hAr:=hP.room hr2
 refine b9 [999] rfl (aU (b:=P.gr) (n:=2*P.N.arcs.length) (c:=P.cr) rfl (congrArg (fun A=>some (Value.slice A (2*P.N.arcs.length) P.cr)) hAr) rfl rfl rfl hr2) rfl ?_
 refine ep rfl ?_
 refine aT (n:=2*P.N.arcs.length) (cap:=P.cr) 6 rfl rfl rfl (congrArg (fun A=>some (aQ.own (.slice A (2*P.N.arcs.length) P.cr) 2 1 (2*P.N.arcs.length) (az s.rm))) hAr) (dm rfl rfl rfl (by rw[bF,hT.rml];exact hr2)) [] rfl ?_
 rw[show (az s.rm).set r (.int .i64 (val v))=az (s.rm.set r (val v)) from by simp[az]]
 rw[← hAr]
 refine ai ⟨⟨[],by decide,rfl⟩,?_⟩
 refine bC ?_
 refine ai ?_
 refine ad (aa ?_)
 (repeat' (first
  |refine ak (gs:=[999]) rfl ?_
  |refine ab [999] (af 5 rfl rfl rfl rfl) rfl ?_))
 refine au [] (zk hF1 hN hvN hw) rfl rfl rfl rfl (by kernel_rfl) aL.refl trivial (fun _=>rfl) ?_
 rintro _ H' ⟨fs2,row2,rfl,hF2,hk2⟩
 refine⟨rfl,?_⟩
 (repeat' (first
  |refine ak (gs:=[999]) rfl ?_
  |refine ab [999] (af 5 rfl rfl rfl rfl) rfl ?_))
 refine ai ?_
 refine aa ?_
 (repeat' (first
  |refine ak (gs:=[999]) rfl ?_
  |refine ab [999] (af 5 rfl rfl rfl rfl) rfl ?_))
 refine av 40 (v':=.int .i64 (4611686018427387904-val v)) rfl (congrArg (Value.int .i64) (cj (by omega))) ?_
 refine au [] (sS hF2 hN hvN (p:=[v]) ⟨rfl,by simp[aV]⟩ (d:=4611686018427387904-val v) (by omega) (by intro y hy;rw[List.mem_singleton.1 hy];omega)) rfl rfl rfl rfl (by kernel_rfl) aL.refl trivial (fun _=>rfl) ?_
 rintro _ H' ⟨fs3,row3,rfl,hF3,hk3⟩
 refine⟨rfl,?_⟩
 (repeat' (first
  |refine ak (gs:=[999]) rfl ?_
  |refine ab [999] (af 5 rfl rfl rfl rfl) rfl ?_))
 refine bO (kS (s:={ s with fs:=fs3,rm:=s.rm.set r (val v),k:=s.k+1 })) ?_
 refine ai ?_
 refine⟨_,rfl,fs3,row3,rfl,hF3,?_⟩
 have h0:{ s with fs:=fs3,rm:=s.rm.set r (val v),k:=s.k+1 }.fs=fs3:=rfl
 omega
end
end Go.Proofs.YtpbmihpjgjbndaaGreatDoor
/- The engine: one cell of a row is cleared. -/
set_option linter.unusedVariables false
set_option linter.unusedSimpArgs false
namespace Go.Proofs.YtpbmihpjgjbndaaGreatDoor
open Go.RowKit
variable {X:Cx} {Q:dr} {E E':Env} {H:Heap}
theorem wC {e:Nat} {uk:UK} {s by_:Nat} {z:Value} (h:tab e=some ⟨uk,s,by_,some z⟩) (w:World):(zeroValue e).run Tryz.prog w=.ok z w:=by
 obtain⟨d,j,_,hi,_,_,_,hz⟩:=dh h
 simp[zeroValue,typeInfo,hi,hz z rfl]
theorem uf {ops l:List Oper} {o:Oper} {t e g i n cap c' sz e' sz' by' by2:Nat} {x:Operand} {z:Value} {z':Option Value} {uk:UK} {xs:List Value} (k:Nat) (ho:o.op=.call ⟨.builtin .clear,#[x],#[t]⟩) (hx:val E x=some (.slice (some ⟨g,i,none⟩) 1 c'))
 (hk:H[k]?=some (.own (.slice (some ⟨g,0,none⟩) n cap) e' sz n xs)) (ht:tab t=some ⟨.slice e,sz',by',z'⟩) (he:tab e=some ⟨uk,1,by2,some z⟩) (hz:z.cells.toList=[z]) (h1:one [z]=true) (hi:i<xs.length) (gs:List Nat) (hb:iK X.n ops gs E o (.tuple #[])=some E')
 (h:JL X ops l Q E' (H.set k (.own (.slice (some ⟨g,0,none⟩) n cap) e' sz n (xs.set i z)))):JL X ops (o::l) Q E H:=by
 intro a w hA hH
 obtain⟨hg,hp⟩:=cG hb
 unfold wpList
 rw[if_pos (bL hA hg)]
 left
 have hown:w.ownsRow 0 e' sz (.slice (some ⟨g,0,none⟩) n cap) n xs:=hH.holds _ (List.mem_of_getElem? hk)
 obtain⟨cur,hcur,hlen,htk⟩:∃ cur:Array Value,w.heap[g]?=some (.cells cur e' (0,0))∧n*sz≤cur.size∧cur.toList.take (n*sz)=xs:=by
  rcases hown.2 with ⟨h',_⟩|⟨g',cap',cur,h',h0,hg,h1,h2,h3,h4⟩
  ·simp at h'
  ·simp only[Value.slice.injEq,Option.some.injEq,Addr.mk.injEq,and_true,true_and] at h'
   obtain⟨rfl,rfl⟩:=h'
   exact⟨cur,hg,by rw[h3];exact Nat.mul_le_mul_right _ h1,h4⟩
 have hcur':w.heap[g]?=some (.cells cur.toList.toArray e' (0,0)):=hcur
 obtain⟨w',h2,h3,h4,h5,h6,h7,h8⟩:=dT (o:=i) [z] 0 w cur.toList hcur' (by have:=hown.1;simp only[Array.length_toList,List.length_singleton] at*;omega) h1
 show o.upon _ a _ _ ((execOp a.eval o).run _ w)
 have hzc:(Builtin.zeroCells z.cells 1).toList=[z]:=by
  have e0:z.cells=#[z]:=Array.ext' (by rw[hz])
  rw[e0]
  simp[Builtin.zeroCells]
 have:(execOp a.eval o).run Tryz.prog w=.ok (.value (.tuple #[])) w':=by
  simp[execOp,ho,resolve,invoke,builtin,Builtin.clear_,hA.val hx,run_underlying (dc ht),wC he,hzc,h2]
 rw[this]
 refine h _ _ (hA.putE hp) (hH.step k hk h4 h5 h6 (by omega) (fun j _ hj=>h8 j (fun x=>hj (by rw[x];rfl))) ?_ (fun b' hb'=>.inl hb'))
 show w'.ownsRow 0 e' sz _ n (wr xs i [z])
 refine kY hown (by simp only[List.length_singleton];omega) fun cs hcs=>?_
 rw[hcur] at hcs
 simp only[Option.some.injEq,Obj.cells.injEq,and_true] at hcs
 subst hcs
 exact h3
theorem mf {ops l:List Oper} {o:Oper} {t e g i n cap m1 c1 m2 cx b off sz e' sz' by' by2:Nat} {d s:Operand} {z z':Option Value} {uk:UK} {xs vs:List Value} {c2:aQ} (k k2:Nat) (ho:o.op=.call ⟨.builtin .copy,#[d,s],#[t,t]⟩) (hd:val E d=some (.slice (some ⟨g,i,none⟩) m1 c1)) (hs:val E s=some (.slice (some ⟨b,off,none⟩) m2 cx))
 (hk:H[k]?=some (.own (.slice (some ⟨g,0,none⟩) n cap) e' sz n xs)) (hk2:H[k2]?=some c2) (hc2:c2.shows b off vs) (ht:tab t=some ⟨.slice e,sz',by',z'⟩) (he:tab e=some ⟨uk,1,by2,z⟩) (hn:vs.length=Nat.min m2 m1) (h1:one vs=true) (hi:i+vs.length≤xs.length) (gs:List Nat) (hb:iK X.n ops gs E o (.int .i64 (vs.length:Int))=some E')
 (h:JL X ops l Q E' (H.set k (.own (.slice (some ⟨g,0,none⟩) n cap) e' sz n (wr xs i vs)))):JL X ops (o::l) Q E H:=by
 intro a w hA hH
 obtain⟨hg,hp⟩:=cG hb
 unfold wpList
 rw[if_pos (bL hA hg)]
 left
 have hown:w.ownsRow 0 e' sz (.slice (some ⟨g,0,none⟩) n cap) n xs:=hH.holds _ (List.mem_of_getElem? hk)
 have hshow:=hc2 w (hH.holds _ (List.mem_of_getElem? hk2))
 obtain⟨cur,hcur,hlen,htk⟩:∃ cur:Array Value,w.heap[g]?=some (.cells cur e' (0,0))∧n*sz≤cur.size∧cur.toList.take (n*sz)=xs:=by
  rcases hown.2 with ⟨h',_⟩|⟨g',cap',cur,h',h0,hg,h1,h2,h3,h4⟩
  ·simp at h'
  ·simp only[Value.slice.injEq,Option.some.injEq,Addr.mk.injEq,and_true,true_and] at h'
   obtain⟨rfl,rfl⟩:=h'
   exact⟨cur,hg,by rw[h3];exact Nat.mul_le_mul_right _ h1,h4⟩
 have hcur':w.heap[g]?=some (.cells cur.toList.toArray e' (0,0)):=hcur
 have hx0:xs.length=n*sz:=hown.1
 obtain⟨w',h2,h3,h4,h5,h6,h7,h8⟩:=dT (o:=i) vs 0 w cur.toList hcur' (by have:=Array.length_toList (xs:=cur);omega) h1
 have hld:=run_loadCells_list (P:=Tryz.prog) w ⟨b,off,none⟩ vs (fun j v hj=>by rw[Addr.add_at];exact hshow j v hj)
 show o.upon _ a _ _ ((execOp a.eval o).run _ w)
 have hsz:(sizeOf e).run Tryz.prog w=.ok 1 w:=cB he w
 have:(execOp a.eval o).run Tryz.prog w=.ok (.value (.int .i64 (vs.length:Int))) w':=by
  simp[execOp,ho,resolve,invoke,builtin,Builtin.copy_,hA.val hd,hA.val hs,run_underlying (dc ht),Builtin.lenOf,Builtin.firstCells,hsz,← hn,hld,h2,goInt]
 rw[this]
 refine h _ _ (hA.putE hp) (hH.step k hk h4 h5 h6 (by omega) (fun j _ hj=>h8 j (fun x=>hj (by rw[x];rfl))) ?_ (fun b' hb'=>.inl hb'))
 show w'.ownsRow 0 e' sz _ n (wr xs i vs)
 refine kY hown hi fun cs hcs=>?_
 rw[hcur] at hcs
 simp only[Option.some.injEq,Obj.cells.injEq,and_true] at hcs
 subst hcs
 exact h3
/-! ### A frame known by a fit -/
section
variable {Sf:Heap} {K:Env→Heap→Prop}
theorem x7 {id:Nat} {l:List Oper} (n:Nat) (order:List (Nat×Bool)) (hB:mG l.toArray n order=true) (hS:aL X H Sf) (h:JW X l order Sf (fun E' H'=>JL X l (l.drop n) Q E' H') E H):
 J X (.region id l.toArray true) Q E H:=by
 intro a w hA hH
 refine jc (S:=fun w=>ci X.w0 X.M w Sf) n order tV hB (hS _ hH.drew) ?_
 have:=h a _ hA hH.drew
 refine (?_:∀ (Q1 Q2:Act→World→Prop),(∀ a w,Q1 a w→Q2 a w)→∀ l a w,pz Tryz.prog _ _ Q1 l a w→pz Tryz.prog _ _ Q2 l a w) _ _ ?_ _ a _ this
 ·intro Q1 Q2 hq l
  induction l with
  |nil=>exact fun a w h=>hq a w h
  |cons o l ih=>
   intro a w h
   obtain⟨k,st⟩:=o
   cases st with
   |true=>obtain⟨o,v,h1,h2,h3⟩:=h;exact⟨o,v,h1,h2,ih _ _ h3⟩
   |false=>exact wpOp_mono (fun a' w' h'=>⟨h'.1,ih _ _ h'.2⟩) h
 ·rintro a w ⟨E',H',hA',hH',hq⟩
  exact hq a w hA' hH'
def yw (X:Cx) (ops:List Oper) (rest:List (Nat×Bool)) (Sf:Heap) (K:Env→Heap→Prop):dr:=fun e E' H'=>match e with
 |.normal=>aL X H' Sf∧JW X ops rest Sf K E' H'
 |_=>False
theorem xv {ops:List Oper} {rest:List (Nat×Bool)} {k:Nat} {o:Oper} (ho:ops[k]?=some o) (h:JL X ops [o] (yw X ops rest Sf K) E H):JW X ops ((k,false)::rest) Sf K E H:=by
 intro a w hA hH
 have h1:=h a w hA hH
 show wpOp _ _ _ _ _ _ _
 refine il (Q1:=jP X (yw X ops rest Sf K)) (fun e a w hne hq=>?_) ?_
 ·obtain⟨E1,H1,_,_,hq⟩:=hq
  cases e with
  |normal=>exact hne rfl
  |_=>exact hq
 ·unfold wpOp
  have ho':ops.toArray[k]?=some o:=by simpa using ho
  simp only[ho']
  unfold wpList at h1
  have hfin:∀ a' w',wpList Tryz.prog ops.toArray (jP X (yw X ops rest Sf K)) [] a' w'→ci X.w0 X.M w' Sf∧pz Tryz.prog ops.toArray (fun w=>ci X.w0 X.M w Sf) (fun a' w'=>∃ E' H',d6 X.n a' E'∧ci X.w0 X.M w' H'∧K E' H') rest a' w':=by
   rintro a' w' ⟨E1,H1,hA1,hH1,hf,hj⟩
   exact⟨hf _ hH1,hj a' w' hA1 hH1⟩
  split
  ·rename_i hw
   rw[if_pos hw] at h1
   exact h1.imp (Oper.wp_mono hfin) id
  ·rename_i hw
   rw[if_neg hw] at h1
   exact hfin _ _ h1
end
theorem aL.seg {b e off:Nat} {cs vs:List Value} (k:Nat) (hk:H[k]?=some (blk b e cs)) (hv:∀ i v,vs[i]?=some v→cs[off+i]?=some v):aL X H (H.set k (.seg b off vs)):=by
 intro w hH
 have hb:=hH.holds _ (List.mem_of_getElem? hk)
 refine hH.chunk k hk (fun i v hi=>?_) (fun _ h=>by cases h) (fun b' h=>?_)
 ·have h1:=hv i v hi
  have h2:w.heap[b]?=some (.cells cs.toArray e (0,0)):=hb
  show w.cell? ⟨b,off+i,none⟩=some v
  simp[World.cell?,h2,h1]
 ·simp only[aQ.at_] at h
  split at h
  ·cases h
  ·exact h
end Go.Proofs.YtpbmihpjgjbndaaGreatDoor
