/- The engine by trees: a linked node is cut off, step by step. -/
import Derived.Test.YtpbmihpjgjbndaaGreatDoorQX21
set_option linter.unusedVariables false
set_option linter.unusedSimpArgs false
namespace Go.Proofs.YtpbmihpjgjbndaaGreatDoor
open Go.RowKit
theorem qE {g c:Nat} {W:List Nat}:bJ 3 ⟨some ⟨g,0,none⟩,c,ga W⟩=jE g W.length c W:=by
 unfold bJ cD
 simp only[da]
 rfl
section
variable {P:EP} {L:Nat→List Nat} {lv:Nat→Int} {gv:Nat→Nat} {rm0 tr:List Int} {pos:List Nat} {par:OV} {val:Nat→Int}
def oy (P:EP) (s:ES) (bE bV v:Nat):Heap:=(P.fo s.fs++[P.sg,P.pc s.k s.w,P.rc s.rm,P.lc s.vals,P.uc s.un,blk bE 319 [.pointer (some ⟨P.pe,0,none⟩)],blk bV 3 [.int .i64 (v:Int)]])++P.rows s.un
theorem uZ {X:Cx} {s:ES} {bE bV v:Nat}:aL X (blk bV 3 [.int .i64 (v:Int)]::blk bE 319 [.pointer (some ⟨P.pe,0,none⟩)]::([P.sg]++d8 P s)) (oy P s bE bV v):=
 aL.re (A:=[blk bV 3 [.int .i64 (v:Int)],blk bE 319 [.pointer (some ⟨P.pe,0,none⟩)],P.sg]++(P.fo s.fs++[P.pc s.k s.w,P.rc s.rm,P.lc s.vals,P.uc s.un])) (R:=P.rows s.un) [3,4,5,6,2,7,8,9,10,1,0] rfl (by decide)
theorem sk {X:Cx} {s:ES} {bE bV v:Nat}:aL X (oy P s bE bV v) (d8 P s++[P.sg,blk bE 319 [.pointer (some ⟨P.pe,0,none⟩)],blk bV 3 [.int .i64 (v:Int)]]):=
 aL.mid (A:=P.fo s.fs++[P.sg,P.pc s.k s.w,P.rc s.rm,P.lc s.vals,P.uc s.un,blk bE 319 [.pointer (some ⟨P.pe,0,none⟩)],blk bV 3 [.int .i64 (v:Int)]]) (R:=P.rows s.un) [0,1,2,3,5,6,7,8] [4,9,10] rfl rfl (by decide)
theorem rV {X:Cx} {s:ES} {bE bV v:Nat}:aL X (d8 P s++[P.sg,blk bE 319 [.pointer (some ⟨P.pe,0,none⟩)],blk bV 3 [.int .i64 (v:Int)]]) (oy P s bE bV v):=by
 refine aL.trans (aL.swap (A:=P.fo s.fs++[P.pc s.k s.w,P.rc s.rm,P.lc s.vals,P.uc s.un]) (R:=P.rows s.un) (B:=[P.sg,blk bE 319 [.pointer (some ⟨P.pe,0,none⟩)],blk bV 3 [.int .i64 (v:Int)]])) ?_
 exact aL.re (A:=(P.fo s.fs++[P.pc s.k s.w,P.rc s.rm,P.lc s.vals,P.uc s.un])++[P.sg,blk bE 319 [.pointer (some ⟨P.pe,0,none⟩)],blk bV 3 [.int .i64 (v:Int)]]) (R:=P.rows s.un) [0,1,2,3,8,4,5,6,7,9,10] rfl (by decide)
theorem zW {A:Heap} {un:List er} {v:Nat} {rw_:er} (h:P.rowsL[v]?=some rw_):(A++P.rows un)[A.length+v]?=some (bJ 3 rw_):=by
 rw[List.getElem?_append_right (by omega),Nat.add_sub_cancel_left]
 unfold EP.rows
 rw[List.getElem?_map,List.getElem?_append_left (List.getElem?_eq_some_iff.1 h).1,h]
 rfl
theorem qa {un:List er} {w:Nat} {x:er}:(P.rows un).set (P.rowsL.length+w) (bJ 3 x)=P.rows (un.set w x):=by
 unfold EP.rows
 rw[← List.map_set,List.set_append_right _ _ (by omega),Nat.add_sub_cancel_left]
theorem tG {A A1:Heap} {un:List er} {v:Nat} {rw_:er} (ix:List Nat) (h:Proofs.YtpbmihpjgjbndaaGreatDoor.bI A ix=some A1) (hr:P.rowsL[v]?=some rw_):Proofs.YtpbmihpjgjbndaaGreatDoor.bI (A++P.rows un) (ix++[A.length+v])=some (A1++[bJ 3 rw_]):=
 jk (f7.2 ⟨_,[],zW hr,rfl,rfl⟩) (gY h).1
theorem tW {A A1:Heap} {v:Nat} (ix:List Nat) (h:Proofs.YtpbmihpjgjbndaaGreatDoor.bI A ix=some A1) (hn:ix.Nodup):(ix++[A.length+v]).Nodup:=
 List.nodup_append.2 ⟨hn,by simp,fun x hx y hy=>by have:=(gY (R:=[]) h).2 x hx;rw[List.mem_singleton.1 hy];omega⟩
theorem om (hP:iw P L lv gv) (s:ES) (hI:gI P L gv rm0 tr pos par val s) {v w q r:Nat} (hv:v≤P.n) (hw:par v=some w) (hq:pos[v]?=some q) (hr:(L v)[q]?=some r) (hto:d7 P.N r=w) (hval:val v=tr.getD r 0):
 Fn 269 [.pointer (some ⟨P.pe,0,none⟩),.int .i64 (v:Int)] (aO (d8 P s)) ([P.sg]++d8 P s)
  fun _ H'=>∃ s',H'=d8 P s'∧gI P L gv rm0 tr (pos.set v (q+1)) (aV par v none) (eB val v (4611686018427387904-val v)) s'∧s'.w=s.w∧s'.cost≤s.cost+2*cE (P.n+1)+12*(P.n+1)+1:=by
 have hN:=hP.small
 have hvN:v<P.n+1:=by omega
 obtain⟨row,hF⟩:=hI.fa
 obtain⟨rw_,c',hrow,hvv,hlc,hql,hrl,hrA,hrlen⟩:=sw hP hI.vo hv hq hr
 have hvl:v<s.vals.length:=(List.getElem?_eq_some_iff.1 hvv).1
 have hrm:=List.mem_of_getElem? hr
 have hr2:=(eC hP hrm).1
 have hte:=fu hP.right hr2
 rw[hto] at hte
 have hwn:w≤P.n:=by have:=hP.nodes;omega
 obtain⟨Aw,cw,W,hun,hWd,hWm,hWl⟩:=hI.tb.get hwn
 obtain⟨pre,post,rfl⟩:=List.append_of_mem ((hWm v).2 ⟨hv,hw⟩)
 generalize hM:aO _=M
 refine aK Tryz.func269 rfl rfl fun w0=>?_
 refine ad (aa ?_)
 refine br rfl rfl rfl (fun _=>rfl) fun bE=>?_
 refine br rfl rfl rfl (fun _=>rfl) fun bV=>?_
 refine ai ?_
 refine bG uZ ?_
 refine ad ?_
 have hpk:=tG (A:=P.fo s.fs++[P.sg,P.pc s.k s.w,P.rc s.rm,P.lc s.vals,P.uc s.un,blk bE 319 [.pointer (some ⟨P.pe,0,none⟩)],blk bV 3 [.int .i64 (v:Int)]]) (un:=s.un) [4,5,7,9,10] rfl hrow
 have hnd:=tW (A:=P.fo s.fs++[P.sg,P.pc s.k s.w,P.rc s.rm,P.lc s.vals,P.uc s.un,blk bE 319 [.pointer (some ⟨P.pe,0,none⟩)],blk bV 3 [.int .i64 (v:Int)]]) (v:=v) [4,5,7,9,10] rfl (by decide)
 refine bz 19 [(0,true),(1,true),(2,true),(3,true),(4,true),(5,true),(6,true),(7,true),(8,true),(9,true),(10,true),(11,true),(12,true),(13,false),(14,true),(15,true),(16,true),(17,true),(18,true)] _ (by kernel_rfl) hnd hpk ?_
 (repeat' (first
  |refine a9 (gs:=[999]) rfl rfl ?_
  |refine aj [999] rfl (af 1 rfl rfl rfl rfl) rfl ?_
  |refine aj [999] rfl (af 3 rfl rfl rfl rfl) rfl ?_
  |refine aj [999] rfl (af 4 rfl rfl rfl rfl) rfl ?_))
 refine aj [999] rfl (aU rfl rfl rfl rfl rfl hvN) rfl ?_
 refine aj [999] rfl (aG 2 rfl rfl rfl hvv) rfl ?_
 refine aj [999] rfl (dD rfl rfl rfl rfl rfl (m:=0) (by omega)) rfl ?_
 refine aj [999] rfl (mp rfl rfl (i:=5) rfl rfl hrA hrl) rfl ?_
 refine a7 rfl ?_
 refine ap [] (e6 P.N P.A P.c P.b P.o hP.arcs hP.right.len r hr2) rfl rfl rfl rfl (by kernel_rfl) ⟨⟨4,_,by simp[oy],rfl,am _ _ _,aw⟩,trivial⟩ (fun _=>rfl) ?_
 rintro _ H' ⟨rfl,rfl⟩
 refine⟨rfl,?_⟩
 refine ai ⟨⟨_,hnd,hpk⟩,?_⟩
 (repeat' (first
  |refine a9 (gs:=[999]) rfl rfl ?_
  |refine aj [999] rfl (af 1 rfl rfl rfl rfl) rfl ?_
  |refine aj [999] rfl (af 3 rfl rfl rfl rfl) rfl ?_
  |refine aj [999] rfl (af 4 rfl rfl rfl rfl) rfl ?_))
 refine bC ?_
 refine ai ?_
 refine aM 5 (v':=.int .i64 (w:Int)) rfl (congrArg (Value.int .i64) hte.1) ?_
 show J _ _ _ _ (oy P s bE bV v)
 refine ad (aa ?_)
 (repeat' (first
  |refine ak (gs:=[999]) rfl ?_
  |refine ab [999] (af 5 rfl rfl rfl rfl) rfl ?_
  |refine ab [999] (af 9 rfl rfl rfl rfl) rfl ?_
  |refine ab [999] (af 10 rfl rfl rfl rfl) rfl ?_))
 refine au [] (nE hP s hI.ta hF hI.vo hv hw hq hr hval) rfl rfl rfl rfl (by kernel_rfl) sk ⟨⟨0,_,by simp,rfl,am _ _ _,aw⟩,trivial⟩ (fun _=>rfl) ?_
 rintro _ H' ⟨fs',row',rfl,hF',hk'⟩
 refine⟨cS rfl (cK _ _),?_⟩
 refine bO rV ?_
 refine ai ?_
 refine ad ?_
 refine e7 15 [0,1,2,3,4,5,6,7,8,9,10,11,12,13] 14 [] (by kernel_rfl) ?_
 (repeat' (first
  |refine ft (gs:=[999]) rfl rfl ?_
  |refine bv [999] rfl rfl (af 5 rfl rfl rfl rfl) rfl ?_
  |refine bv [999] rfl rfl (af 9 rfl rfl rfl rfl) rfl ?_
  |refine bv [999] rfl rfl (af 10 rfl rfl rfl rfl) rfl ?_))
 refine b9 [999] rfl (aU rfl rfl rfl rfl rfl hvN) rfl ?_
 refine bv [999] rfl rfl (aG 7 rfl rfl rfl hvv) rfl ?_
 refine b9 [999] rfl (el (i:=1) rfl rfl rfl rfl rfl (by omega)) rfl ?_
 refine b9 [999] rfl (aU rfl rfl rfl rfl rfl hvN) rfl ?_
 refine ep rfl ?_
 refine aT 7 rfl rfl rfl rfl (dm rfl rfl rfl hvl) [] rfl ?_
 refine ai ⟨⟨[],by decide,rfl⟩,?_⟩
 refine bC ?_
 refine ai ?_
 obtain⟨vals',hvals'⟩:∃ x,x=s.vals.set v (.slice (i7 (some ⟨gv v,q,none⟩) c' 1 1) (rw_.l.length-q-1) (c'-1)):=⟨_,rfl⟩
 refine bG (K:=oy P { s with fs:=fs',rm:=s.rm.set r (val v),k:=s.k+1,vals:=vals' } bE bV v) (by rw[hvals'];exact aL.refl) ?_
 have hrl2:=hP.rl
 have hul:=hI.tb.len
 have hwu:w<s.un.length:=by omega
 refine bG (aL.front (A:=P.fo fs'++[P.sg,P.pc (s.k+1) s.w,P.rc (s.rm.set r (val v)),P.lc vals',P.uc s.un,blk bE 319 [.pointer (some ⟨P.pe,0,none⟩)],blk bV 3 [.int .i64 (v:Int)]]) (R:=P.rows s.un) (i:=P.rowsL.length+w) (c:=bJ 3 ⟨Aw,cw,ga (pre++v::post)⟩) (by unfold EP.rows;rw[List.getElem?_map,List.getElem?_append_right (by omega),Nat.add_sub_cancel_left,hun];rfl)) ?_
 refine bB (bg 0 rfl) fun ⟨_,hcw,hAw,_⟩=>?_
 obtain⟨gw,rfl⟩:=hAw (by rw[da];simp;omega)
 rw[qE]
 rw[da] at hcw
 obtain⟨R,hR⟩:∃ R,R=(P.rows s.un).eraseIdx (P.rowsL.length+w):=⟨_,rfl⟩
 rw[← hR]
 refine bG (K:=(P.fo fs'++[P.sg,P.pc (s.k+1) s.w,P.rc (s.rm.set r (val v)),P.lc vals',P.uc s.un,blk bE 319 [.pointer (some ⟨P.pe,0,none⟩)],blk bV 3 [.int .i64 (v:Int)],jE gw (pre++v::post).length cw (pre++v::post)])++R) (aL.re (A:=jE gw (pre++v::post).length cw (pre++v::post)::(P.fo fs'++[P.sg,P.pc (s.k+1) s.w,P.rc (s.rm.set r (val v)),P.lc vals',P.uc s.un,blk bE 319 [.pointer (some ⟨P.pe,0,none⟩)],blk bV 3 [.int .i64 (v:Int)]])) (R:=R) [1,2,3,4,5,6,7,8,9,10,11,0] rfl (by decide)) ?_
 have hfs:∀ {kk:Nat} {W:List Nat} {X:Cx},aL X ((P.fo fs'++[P.sg,P.pc kk s.w,P.rc (s.rm.set r (val v)),P.lc vals',P.uc s.un,blk bE 319 [.pointer (some ⟨P.pe,0,none⟩)],blk bV 3 [.int .i64 (v:Int)],jE gw W.length cw W])++R)
  ([.seg P.pe 0 ((y4 P 0 0).take 9),P.uc s.un,blk bE 319 [.pointer (some ⟨P.pe,0,none⟩)],blk bV 3 [.int .i64 (v:Int)]]++R):=by
  intro kk W X
  refine aL.trans (aL.re (A1:=[P.pc kk s.w,P.uc s.un,blk bE 319 [.pointer (some ⟨P.pe,0,none⟩)],blk bV 3 [.int .i64 (v:Int)]]) [5,8,9,10] rfl (by decide)) ?_
  refine aL.seg (off:=0) 0 rfl fun i v hi=>?_
  rw[Nat.zero_add]
  have hi9:i<9:=by have:=(List.getElem?_eq_some_iff.1 hi).1;simpa [y4] using this
  rw[List.getElem?_take,if_pos hi9] at hi
  rw[← hi]
  match i,hi9 with
  |0,_=>rfl
  |1,_=>rfl
  |2,_=>rfl
  |3,_=>rfl
  |4,_=>rfl
  |5,_=>rfl
  |6,_=>rfl
  |7,_=>rfl
  |8,_=>rfl
 refine x7 15 [(0,true),(1,true),(2,true),(3,true),(4,true),(5,true),(6,true),(7,true),(8,true),(9,true),(10,true),(11,true),(12,true),(13,false),(14,true)] (by kernel_rfl) (hfs (W:=pre++v::post)) ?_
 (repeat' (first
  |refine a9 (gs:=[999]) rfl rfl ?_
  |refine aj [999] rfl (bw (i:=7) 0 rfl rfl rfl rfl rfl) rfl ?_
  |refine aj [999] rfl (af 2 rfl rfl rfl rfl) rfl ?_
  |refine aj [999] rfl (aU rfl rfl rfl rfl rfl (show w<P.n+1 by omega)) rfl ?_))
 have hunv:(s.un.map cD)[w]?=some (.slice (some ⟨gw,0,none⟩) (pre++v::post).length cw):=by
  rw[List.getElem?_map,hun]
  show some (Value.slice _ (ga (pre++v::post)).length _)=_
  rw[da]
 refine aj [999] rfl (aG 1 rfl rfl rfl hunv) rfl ?_
 refine a9 (gs:=[999]) rfl rfl ?_
 refine xv rfl ?_
 have hvp:v∉pre∧v∉post:=by
  obtain⟨_,d2,d3⟩:=List.nodup_append.1 hWd
  exact⟨fun hx=>d3 v hx v (by simp) rfl,(List.nodup_cons.1 d2).1⟩
 refine au (K:=P.fo fs'++[P.sg,P.rc (s.rm.set r (val v)),P.lc vals',P.uc s.un,blk bE 319 [.pointer (some ⟨P.pe,0,none⟩)],blk bV 3 [.int .i64 (v:Int)]]++R) [999] (ux P (s.k+1) s.w bE bV v pre post hvp.1 hvp.2 gw (pre++v::post).length cw rfl (by omega) hcw) rfl rfl rfl rfl (by kernel_rfl)
  (aL.re (A:=P.fo fs'++[P.sg,P.pc (s.k+1) s.w,P.rc (s.rm.set r (val v)),P.lc vals',P.uc s.un,blk bE 319 [.pointer (some ⟨P.pe,0,none⟩)],blk bV 3 [.int .i64 (v:Int)],jE gw (pre++v::post).length cw (pre++v::post)]) (R:=R) [5,11,0,1,2,3,4,6,7,8,9,10] rfl (by decide)) ⟨⟨8,_,by simp,rfl,aF _ _ _ (0,0),.inr rfl⟩,⟨9,_,by simp,rfl,aF _ _ _ (0,0),.inr rfl⟩,trivial⟩ (fun _=>rfl) ?_
 rintro _ H' ⟨rfl,rfl⟩
 refine⟨rfl,?_⟩
 obtain⟨k2,hk2⟩:∃ x,x=s.k+1+(pre++v::post).length:=⟨_,rfl⟩
 rw[← hk2]
 refine bO (K:=(P.fo fs'++[P.sg,P.pc k2 s.w,P.rc (s.rm.set r (val v)),P.lc vals',P.uc s.un,blk bE 319 [.pointer (some ⟨P.pe,0,none⟩)],blk bV 3 [.int .i64 (v:Int)],jE gw (pre.length+post.length) cw (pre++post)])++R)
  (aL.re (A:=[P.pc k2 s.w,jE gw (pre.length+post.length) cw (pre++post)]++(P.fo fs'++[P.sg,P.rc (s.rm.set r (val v)),P.lc vals',P.uc s.un,blk bE 319 [.pointer (some ⟨P.pe,0,none⟩)],blk bV 3 [.int .i64 (v:Int)]])) (R:=R) [2,3,4,5,6,0,7,8,9,10,11,1] rfl (by decide)) ?_
 rw[show pre.length+post.length=(pre++post).length by simp]
 refine ai ⟨hfs (W:=pre++post),?_⟩
 refine aj [999] rfl (aU rfl rfl rfl rfl rfl (show w<P.n+1 by omega)) rfl ?_
 refine bC ?_
 refine aT 8 rfl rfl rfl rfl (dm rfl rfl rfl (by rw[List.length_map];exact hwu)) [] rfl ?_
 obtain⟨un',hun'⟩:∃ x,x=s.un.set w ⟨some ⟨gw,0,none⟩,cw,ga (pre++post)⟩:=⟨_,rfl⟩
 rw[show (s.un.map cD).set w (.slice (some ⟨gw,0,none⟩) (pre++post).length cw)=un'.map cD from by
  rw[hun',List.map_set];unfold cD;simp only[da]]
 have hfin:∀ {X:Cx},aL X ((P.fo fs'++[P.sg,P.pc k2 s.w,P.rc (s.rm.set r (val v)),P.lc vals',P.uc un',blk bE 319 [.pointer (some ⟨P.pe,0,none⟩)],blk bV 3 [.int .i64 (v:Int)],jE gw (pre++post).length cw (pre++post)])++R)
  (d8 P ⟨vals',un',fs',s.rm.set r (val v),k2,s.w⟩):=by
  intro X
  refine aL.trans (aL.re (A1:=jE gw (pre++post).length cw (pre++post)::(P.fo fs'++[P.pc k2 s.w,P.rc (s.rm.set r (val v)),P.lc vals',P.uc un'])) [11,0,1,2,3,5,6,7,8] rfl (by decide)) ?_
  rw[hR,← qE]
  refine aL.trans (aL.back (A:=P.fo fs'++[P.pc k2 s.w,P.rc (s.rm.set r (val v)),P.lc vals',P.uc un']) (by unfold EP.rows;rw[List.length_map,List.length_append];omega)) ?_
  rw[qa,← hun']
  exact aL.refl
 refine bO hfin ?_
 refine ai ?_
 refine⟨_,rfl,⟨vals',un',fs',s.rm.set r (val v),k2,s.w⟩,rfl,⟨⟨row',hF'⟩,(hI.ta.settle hP hv hw hq hr hval).bump (by simp[aV]),?_,?_⟩,rfl,?_⟩
 ·rw[hvals']
  exact hI.vo.bump hrow hq hql hlc
 ·rw[hun']
  exact hI.tb.del hun hWd hWm hw
 ·show k2+fs'.k≤s.k+s.fs.k+_+_+1
  omega
end
end Go.Proofs.YtpbmihpjgjbndaaGreatDoor
