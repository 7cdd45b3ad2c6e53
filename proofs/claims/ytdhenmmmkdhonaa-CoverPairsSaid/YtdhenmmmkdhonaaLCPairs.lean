
/- CoverPairs: as many pairs as there can be have a cover of as many nodes. No condition. -/
import Derived.Test.YtdhenmmmkdhonaaQX11
import Derived.Test.YtdhenmmmkdhonaaQX4
import Derived.Test.YtdhenmmmkdhonaaQX6
import Derived.Test.YtdhenmmmkdhonaaQF
import Derived.Test.YtdhenmmmkdhonaaQX9
import Derived.Test.YtdhenmmmkdhonaaRwM
set_option linter.unusedVariables false
set_option linter.unusedSimpArgs false
namespace Go.Proofs.Ytdhenmmmkdhonaa
open Go.RowKit
set_option maxHeartbeats 4000000 in
theorem coverPairs_fn (sides : Int) (hs : inB sides) (A : Option Addr) (c b o : Nat) (l : List Int) (hA : l ≠ [] → A = some ⟨b, o, none⟩) (hl : ∀ x ∈ l, inB x) (hsz : l.length * 8 ≤ 140737488351232) :
    Fn 5 [.int .i64 sides,.slice A l.length c] [] [.seg b o (ints l)] fun v _=>v = .bool true:=by
  refine Fn_of Try.func5 rfl rfl fun w0=>?_
  (repeat' (first | refine J_seq ?_ | refine J_skip ?_ | refine J_yes rfl ?_ | refine J_no rfl ?_))
  refine J_region ?_
  refine JL_all [] rfl ?_
  (repeat' (first | refine J_seq ?_ | refine J_skip ?_ | refine J_yes rfl ?_ | refine J_no rfl ?_))
  refine J_region ?_
  refine JL_callR [] (shown17_fn) rfl rfl rfl rfl (by kernel_rfl) trivial (fun _=>rfl) ?_
  rintro v H' ⟨rfl,rfl⟩
  refine ⟨rfl,?_⟩
  refine JL_all [] rfl ?_
  (repeat' (first | refine J_seq ?_ | refine J_skip ?_ | refine J_yes rfl ?_ | refine J_no rfl ?_))
  refine J_region ?_
  refine JL_all [] rfl ?_
  refine J_no rfl (J_skip ?_)
  (repeat' (first | refine J_seq ?_ | refine J_skip ?_ | refine J_yes rfl ?_ | refine J_no rfl ?_))
  refine J_region ?_
  refine JL_run [] rfl ?_
  refine JL_callR [] (drawn17_fn sides hs A c b o l hA hl (by omega)) rfl rfl rfl rfl (by kernel_rfl) ⟨⟨0,_,by simp,rfl,shows_seg _ _ _,seen_seg⟩,trivial⟩ (fun _=>rfl) ?_
  rintro v H' ⟨g,A1,c1,hg,hg7,hg7',hg24,rfl,rfl⟩
  refine ⟨rfl,?_⟩
  have h1:=hg.left
  have h2:=hg.right
  obtain ⟨nl,hnl⟩ : ∃ n : Nat,g.left = n:=⟨g.left.toNat,by omega⟩
  obtain ⟨nr,hnr⟩ : ∃ n : Nat,g.right = n:=⟨g.right.toNat,by omega⟩
  have hR:=gnet_right hg
  have hNl:=gnet_len g
  refine JL_know (own_is 0 rfl) fun ⟨_,_,hA1,hl1⟩=>?_
  obtain ⟨ge,hA1⟩:=own_at hA1 hl1
  have hA1':=edgs_at hA1
  refine JL_alloc rfl rfl rfl (fun _=>rfl) fun p6=>?_
  refine JL_store 0 rfl rfl rfl rfl rfl [] rfl ?_
  refine JL_nil ?_
  (repeat' (first | refine J_seq ?_ | refine J_skip ?_ | refine J_yes rfl ?_ | refine J_no rfl ?_))
  refine J_region ?_
  refine JL_val [] (v:=grV g A1 c1) (OpV_blk 0 rfl rfl rfl rfl) rfl ?_
  refine JL_callR [] (pairsG_fn 112 (.inl rfl) g hg A1 c1 ge 0 hA1' nl hnl) rfl rfl rfl rfl (by kernel_rfl) ⟨⟨1,_,by simp,rfl,shows_ownS hA1,seen_ownS hA1⟩,trivial⟩ (fun _=>rfl) ?_
  rintro v H' ⟨f,ph,wk,Ap,cp,hf,hdn,rfl,rfl⟩
  refine ⟨rfl,?_⟩
  have hpM:=flow_match hg hf.1 hnl hnr
  have hpN:=flow_no_more hg hf hnl hnr
  have hpl:=pairsL_length f nl g.edges.length
  have hpb:=(pairs_best hg hf hnl hnr).2
  have hsize : ∀ {sl sr s : List Int},IsSide g.left sl → IsSide g.right sr → _ → _ → _ → _ → _ → s.length + sl.length = 1 + nl + sr.length:=@first_size g nl nr f hg hf hnl hnr
  generalize pairsL f nl g.edges.length = pl at hpM hpN hpl hpb hsize
  have hprng:=hpM.rng
  have hpin : ∀ x ∈ pl,inB x:=fun x hx=>by have:=hprng x hx; unfold inB; omega
  refine JL_all [] rfl ?_
  (repeat' (first | refine J_seq ?_ | refine J_skip ?_ | refine J_yes rfl ?_ | refine J_no rfl ?_))
  refine J_region ?_
  refine JL_val [] (v:=grV g A1 c1) (OpV_blk 1 rfl rfl rfl rfl) rfl ?_
  refine JL_callR [] (pairsG_fn 116 (.inr rfl) g hg A1 c1 ge 0 hA1' nl hnl) rfl rfl rfl rfl (by kernel_rfl) ⟨⟨2,_,by simp,rfl,shows_ownS hA1,seen_ownS hA1⟩,trivial⟩ (fun _=>rfl) ?_
  rintro v H' ⟨f2,ph2,wk2,Aq,cq,hf2,hdn2,rfl,rfl⟩
  refine ⟨rfl,?_⟩
  have hqM:=flow_match hg hf2.1 hnl hnr
  have hqN:=flow_no_more hg hf2 hnl hnr
  have hql:=pairsL_length f2 nl g.edges.length
  have hqb:=(pairs_best hg hf2 hnl hnr).2
  generalize pairsL f2 nl g.edges.length = ql at hqM hqN hql hqb
  have hqrng:=hqM.rng
  have hqin : ∀ x ∈ ql,inB x:=fun x hx=>by have:=hqrng x hx; unfold inB; omega
  have hpq : ql.length = pl.length:=by
    have:=hpb ql hqM
    have:=hqb pl hpM
    omega
  refine JL_all [] rfl ?_
  refine J_know (own_is 0 rfl) fun ⟨_,_,hAq,hq1⟩=>?_
  obtain ⟨gq,hAq⟩:=own_at hAq hq1
  refine J_know (own_is 1 rfl) fun ⟨_,_,hAp,hp1⟩=>?_
  obtain ⟨gp,hAp⟩:=own_at hAp hp1
  (repeat' (first | refine J_seq ?_ | refine J_skip ?_ | refine J_yes rfl ?_ | refine J_no rfl ?_))
  refine J_region ?_
  refine JL_val [] (v:=grV g A1 c1) (OpV_blk 2 rfl rfl rfl rfl) rfl ?_
  refine JL_run [] rfl ?_
  refine JL_callR [] (cof_fn g hg A1 c1 ge 0 hA1' pl (by omega) hpin Ap cp gp 0 (ints_at hAp)) rfl rfl rfl rfl (by kernel_rfl) ⟨⟨3,_,by simp,rfl,shows_ownS hA1,seen_ownS hA1⟩,⟨1,_,by simp,rfl,shows_ownS hAp,seen_ownS hAp⟩,trivial⟩ (fun _=>rfl) ?_
  rintro v H' (⟨_,_,sl,sr,Al,Ar,cl,cr,i1,i2,i3,i4,rfl,rfl⟩ | ⟨_,⟨w,hw,hw'⟩,_,_⟩ | ⟨hMn,_,_⟩)
  rotate_left
  · exact absurd (hpN w hw) hw'
  · exact absurd hpM hMn
  obtain ⟨hC,hlen⟩:=of_cover hg hpM hpN i1 i2 i3 i4
  refine ⟨rfl,?_⟩
  refine JL_know (own_is 0 rfl) fun ⟨_,hcr,hAr,hr1⟩=>?_
  obtain ⟨gr,hAr⟩:=own_at hAr hr1
  refine JL_know (own_is 1 rfl) fun ⟨_,hcl,hAl,hl1⟩=>?_
  obtain ⟨gl,hAl⟩:=own_at hAl hl1
  refine JL_run [] rfl ?_
  refine JL_alloc rfl rfl rfl (fun _=>rfl) fun p11=>?_
  refine JL_store 0 rfl rfl rfl rfl rfl [] rfl ?_
  refine JL_all [] rfl ?_
  (repeat' (first | refine J_seq ?_ | refine J_skip ?_ | refine J_yes rfl ?_ | refine J_no rfl ?_))
  refine J_region ?_
  refine JL_val [] (v:=grV g A1 c1) (OpV_blk 5 rfl rfl rfl rfl) rfl ?_
  refine JL_run [] rfl ?_
  refine JL_callR [] (cof_fn g hg A1 c1 ge 0 hA1' ql (by omega) hqin Aq cq gq 0 (ints_at hAq)) rfl rfl rfl rfl (by kernel_rfl) ⟨⟨6,_,by simp,rfl,shows_ownS hA1,seen_ownS hA1⟩,⟨3,_,by simp,rfl,shows_ownS hAq,seen_ownS hAq⟩,trivial⟩ (fun _=>rfl) ?_
  rintro v H' (⟨_,_,tl,tr,Bl,Br,dl,dr,j1,j2,j3,j4,rfl,rfl⟩ | ⟨_,⟨w,hw,hw'⟩,_,_⟩ | ⟨hMn,_,_⟩)
  rotate_left
  · exact absurd (hqN w hw) hw'
  · exact absurd hqM hMn
  obtain ⟨hC2,hlen2⟩:=of_cover hg hqM hqN j1 j2 j3 j4
  refine ⟨rfl,?_⟩
  refine JL_know (own_is 0 rfl) fun ⟨_,hdr,hBr,hr2⟩=>?_
  obtain ⟨gr2,hBr⟩:=own_at hBr hr2
  refine JL_know (own_is 1 rfl) fun ⟨_,hdl,hBl,hl2⟩=>?_
  obtain ⟨gl2,hBl⟩:=own_at hBl hl2
  refine JL_run [] rfl ?_
  refine JL_alloc rfl rfl rfl (fun _=>rfl) fun p13=>?_
  refine JL_store 0 rfl rfl rfl rfl rfl [] rfl ?_
  refine JL_all [] rfl ?_
  (repeat' (first | refine J_seq ?_ | refine J_skip ?_ | refine J_yes rfl ?_ | refine J_no rfl ?_))
  refine J_region ?_
  refine JL_evO (gs:=[999]) rfl ?_
  refine JL_evO (gs:=[999]) rfl ?_
  refine JL_evO (gs:=[999]) rfl ?_
  refine JL_set 51 (v':=.bool false) rfl (congrArg Value.bool (cdec_no (fun h=>h rfl))) ?_
  refine JL_run [2] rfl ?_
  refine JL_set 55 (v':=.bool false) rfl (congrArg Value.bool (cdec_no (fun h=>h rfl))) ?_
  refine JL_run [2,6] rfl ?_
  refine JL_set 59 (v':=.bool false) rfl (congrArg Value.bool (cdec_no (fun h=>h rfl))) ?_
  refine JL_all [2,6,10] rfl ?_
  (repeat' (first | refine J_seq ?_ | refine J_skip ?_ | refine J_yes rfl ?_ | refine J_no rfl ?_))
  refine J_dec rfl (fun h=>absurd rfl h) (fun _=>J_skip ?_)
  (repeat' (first | refine J_seq ?_ | refine J_skip ?_ | refine J_yes rfl ?_ | refine J_no rfl ?_))
  refine J_region ?_
  refine JL_val [] (v:=grV g A1 c1) (OpV_blk 8 rfl rfl rfl rfl) rfl ?_
  refine JL_callR [] (gnet_fn g hg A1 c1 ge 0 hA1') rfl rfl rfl rfl (by kernel_rfl) ⟨⟨9,_,by simp,rfl,shows_ownS hA1,seen_ownS hA1⟩,trivial⟩ (fun _=>rfl) ?_
  rintro v H' ⟨An,cn,rfl,rfl⟩
  refine ⟨rfl,?_⟩
  refine JL_know (own_is 0 rfl) fun ⟨_,_,hAn,hn1⟩=>?_
  obtain ⟨gn,hAn⟩:=own_at hAn hn1
  have hAn' : (gnet g).arcs ≠ [] → An = some ⟨gn,0,none⟩:=fun h=>hAn (fun h0=>h (List.length_eq_zero_iff.1 (by have:=arcs_length (gnet g).arcs; rw [h0] at this; simp at this; omega)))
  refine JL_run [] rfl ?_
  refine JL_alloc rfl rfl rfl (fun _=>rfl) fun p15=>?_
  refine JL_store 0 rfl rfl rfl rfl rfl [] rfl ?_
  refine JL_all [] rfl ?_
  have hgnn : (gnet g).nodes = ((2 + nl + nr : Nat) : Int):=by show 2 + g.left + g.right = _; omega
  obtain ⟨N,hN⟩ : ∃ N,N = gnet g:=⟨_,rfl⟩
  rw [← hN] at hR hAn hAn' hf hdn hsize hgnn hNl ⊢
  (repeat' (first | refine J_seq ?_ | refine J_skip ?_ | refine J_yes rfl ?_ | refine J_no rfl ?_))
  refine J_region ?_
  refine JL_val [] (v:=netV N An cn) (OpV_blk 0 rfl rfl rfl rfl) rfl ?_
  refine JL_run [] rfl ?_
  refine JL_callR [] (maxG_fn N hR.fits' hR An cn gn 0 hAn' 112 (.inl rfl)) rfl rfl rfl rfl (by kernel_rfl) ⟨⟨1,_,by simp,rfl,shows_ownS hAn,seen_ownS hAn⟩,trivial⟩ (fun _=>rfl) ?_
  rintro v H' ⟨f3,ph3,wk3,st3,Af,cf,hdn3,_,_,_,_,_,rfl,rfl⟩
  obtain ⟨rfl,_,_⟩:=hdn3.uniq hR (by decide) hdn
  have hfl:=hf.1.len
  refine ⟨rfl,?_⟩
  refine JL_run [] rfl ?_
  refine JL_alloc rfl rfl rfl (fun _=>rfl) fun p17=>?_
  refine JL_store 0 rfl rfl rfl rfl rfl [] rfl ?_
  refine JL_all [] rfl ?_
  refine J_know (own_is 1 rfl) fun ⟨_,hcf,hAf,hlf⟩=>?_
  obtain ⟨gf,hAf⟩:=own_at hAf hlf
  (repeat' (first | refine J_seq ?_ | refine J_skip ?_ | refine J_yes rfl ?_ | refine J_no rfl ?_))
  refine J_region ?_
  refine JL_val [] (v:=netV N An cn) (OpV_blk 2 rfl rfl rfl rfl) rfl ?_
  refine JL_run [] rfl ?_
  refine JL_val [] (OpV_blk (v:=.slice Af f3.length cf) 0 rfl rfl rfl rfl) rfl ?_
  refine JL_callR [] (first_fn N hR.fits' hR An cn gn 0 hAn' f3 Af cf gf 0 (ints_at hAf) (IsFlow.inB hR hf.1.toRanged) (by omega) _ hgnn) rfl rfl rfl rfl (by kernel_rfl) ⟨⟨3,_,by simp,rfl,shows_ownS hAn,seen_ownS hAn⟩,⟨1,_,by simp,rfl,shows_ownS hAf,seen_ownS hAf⟩,trivial⟩ (fun _=>rfl) ?_
  rintro _ H' (⟨_,_,lb,Aa,ca,hll,hlr,rfl,rfl⟩ | ⟨hW,_,_⟩ | ⟨_,hr,_,_⟩)
  case inr.inl=>exact absurd hf.1 hW
  case inr.inr=>exact absurd hr hf.2
  obtain ⟨hca,hcla⟩:=first_cut hR hf.1 hgnn hf.2 hlr
  have hsz2:=hsize i1 i2 i3 i4 hca hcla fun x hx=>((mem_first hgnn hlr).1 hx).2.2
  generalize whereK lb true (2 + nl + nr + 1) = sa at hca hcla hsz2
  refine ⟨rfl,?_⟩
  refine JL_all [] rfl ?_
  have pOk:=proveZ_ok hpM hC hlen
  have pOk2:=proveZ_ok hqM hC2 hlen2
  have pOk3:=proveZ_ok hpM hC2 (by omega)
  (repeat' (first | refine J_seq ?_ | refine J_skip ?_ | refine J_yes rfl ?_ | refine J_no rfl ?_))
  refine J_region ?_
  refine JL_val [] (v:=grV g A1 c1) (OpV_blk 13 rfl rfl rfl rfl) rfl ?_
  refine JL_val [] (v:=setV sl sr Al Ar cl cr) (OpV_blk 8 rfl rfl rfl rfl) rfl ?_
  refine JL_callR [] (covers_fn g hg A1 c1 ge 0 hA1' sl (by omega) Al cl gl 0 (ints_at hAl) sr (by omega) Ar cr gr 0 (ints_at hAr)) rfl rfl rfl rfl (by kernel_rfl) ⟨⟨14,_,by simp,rfl,shows_ownS hA1,seen_ownS hA1⟩,⟨10,_,by simp,rfl,shows_ownS hAl,seen_ownS hAl⟩,⟨9,_,by simp,rfl,shows_ownS hAr,seen_ownS hAr⟩,trivial⟩ (fun _=>rfl) ?_
  rintro v H' ⟨rfl,rfl⟩
  refine ⟨rfl,?_⟩
  refine JL_evO (gs:=[999]) rfl ?_
  refine JL_set 83 (v':=.bool true) rfl (congrArg Value.bool (cdec_yes hC)) ?_
  refine JL_run [3] rfl ?_
  refine JL_val [3] (v:=.slice Al sl.length cl) (OpV_blk 8 rfl rfl rfl rfl) rfl ?_
  refine JL_run [3] rfl ?_
  refine JL_val [3] (v:=.slice Ar sr.length cr) (OpV_blk 8 rfl rfl rfl rfl) rfl ?_
  refine JL_run [3] rfl ?_
  refine JL_set 95 (v':=.bool true) rfl (congrArg Value.bool (cdec_yes (by rw [w64 (by omega)]; omega))) ?_
  refine JL_run [3,15] rfl ?_
  refine JL_val [3,15] (v:=grV g A1 c1) (OpV_blk 13 rfl rfl rfl rfl) rfl ?_
  refine JL_run [3,15] rfl ?_
  refine JL_val [3,15] (v:=setV sl sr Al Ar cl cr) (OpV_blk 8 rfl rfl rfl rfl) rfl ?_
  refine JL_callR [3,15] (cprove_fn g hg A1 c1 ge 0 hA1' pl (by omega) hpin Ap cp gp 0 (ints_at hAp) sl (by omega) Al cl gl 0 (ints_at hAl) sr (by omega) Ar cr gr 0 (ints_at hAr)) rfl rfl rfl rfl (by kernel_rfl) ⟨⟨14,_,by simp,rfl,shows_ownS hA1,seen_ownS hA1⟩,⟨12,_,by simp,rfl,shows_ownS hAp,seen_ownS hAp⟩,⟨10,_,by simp,rfl,shows_ownS hAl,seen_ownS hAl⟩,⟨9,_,by simp,rfl,shows_ownS hAr,seen_ownS hAr⟩,trivial⟩ (fun _=>rfl) ?_
  rintro v H' ⟨rfl,rfl⟩
  refine ⟨rfl,?_⟩
  refine JL_run [3,15] rfl ?_
  refine JL_set 102 (v':=.bool true) rfl (congrArg Value.bool (cdec_yes pOk)) ?_
  refine JL_run [3,15,22] rfl ?_
  refine JL_val [3,15,22] (v:=grV g A1 c1) (OpV_blk 13 rfl rfl rfl rfl) rfl ?_
  refine JL_run [3,15,22] rfl ?_
  refine JL_val [3,15,22] (v:=setV tl tr Bl Br dl dr) (OpV_blk 5 rfl rfl rfl rfl) rfl ?_
  refine JL_callR [3,15,22] (cprove_fn g hg A1 c1 ge 0 hA1' ql (by omega) hqin Aq cq gq 0 (ints_at hAq) tl (by omega) Bl dl gl2 0 (ints_at hBl) tr (by omega) Br dr gr2 0 (ints_at hBr)) rfl rfl rfl rfl (by kernel_rfl) ⟨⟨14,_,by simp,rfl,shows_ownS hA1,seen_ownS hA1⟩,⟨11,_,by simp,rfl,shows_ownS hAq,seen_ownS hAq⟩,⟨7,_,by simp,rfl,shows_ownS hBl,seen_ownS hBl⟩,⟨6,_,by simp,rfl,shows_ownS hBr,seen_ownS hBr⟩,trivial⟩ (fun _=>rfl) ?_
  rintro v H' ⟨rfl,rfl⟩
  refine ⟨rfl,?_⟩
  refine JL_run [3,15,22] rfl ?_
  refine JL_set 109 (v':=.bool true) rfl (congrArg Value.bool (cdec_yes pOk2)) ?_
  refine JL_run [3,15,22,29] rfl ?_
  refine JL_val [3,15,22,29] (v:=grV g A1 c1) (OpV_blk 13 rfl rfl rfl rfl) rfl ?_
  refine JL_run [3,15,22,29] rfl ?_
  refine JL_val [3,15,22,29] (v:=setV tl tr Bl Br dl dr) (OpV_blk 5 rfl rfl rfl rfl) rfl ?_
  refine JL_callR [3,15,22,29] (cprove_fn g hg A1 c1 ge 0 hA1' pl (by omega) hpin Ap cp gp 0 (ints_at hAp) tl (by omega) Bl dl gl2 0 (ints_at hBl) tr (by omega) Br dr gr2 0 (ints_at hBr)) rfl rfl rfl rfl (by kernel_rfl) ⟨⟨14,_,by simp,rfl,shows_ownS hA1,seen_ownS hA1⟩,⟨12,_,by simp,rfl,shows_ownS hAp,seen_ownS hAp⟩,⟨7,_,by simp,rfl,shows_ownS hBl,seen_ownS hBl⟩,⟨6,_,by simp,rfl,shows_ownS hBr,seen_ownS hBr⟩,trivial⟩ (fun _=>rfl) ?_
  rintro v H' ⟨rfl,rfl⟩
  refine ⟨rfl,?_⟩
  refine JL_run [3,15,22,29] rfl ?_
  refine JL_set 116 (v':=.bool true) rfl (congrArg Value.bool (cdec_yes pOk3)) ?_
  refine JL_run [3,15,22,29,36] rfl ?_
  refine JL_set 120 (v':=.bool true) rfl (congrArg Value.bool (cdec_yes rfl)) ?_
  refine JL_run [3,15,22,29,36,40] rfl ?_
  refine JL_val [3,15,22,29,36,40] (v:=.int .i64 g.left) (OpV_blk 13 rfl rfl rfl rfl) rfl ?_
  refine JL_run [3,15,22,29,36,40] rfl ?_
  refine JL_val [3,15,22,29,36,40] (v:=.slice Al sl.length cl) (OpV_blk 8 rfl rfl rfl rfl) rfl ?_
  refine JL_run [3,15,22,29,36,40] rfl ?_
  refine JL_val [3,15,22,29,36,40] (v:=.slice Ar sr.length cr) (OpV_blk 8 rfl rfl rfl rfl) rfl ?_
  refine JL_all [3,15,22,29,36,40] rfl ?_
  refine J_ret ⟨_,rfl,congrArg Value.bool (cdec_yes ?_)⟩
  rw [w64 (n:=1 + g.left) (by omega),w64 (n:=1 + g.left - sl.length) (by omega),w64 (n:=1 + g.left - sl.length + sr.length) (by omega)]
  omega
end Go.Proofs.Ytdhenmmmkdhonaa
