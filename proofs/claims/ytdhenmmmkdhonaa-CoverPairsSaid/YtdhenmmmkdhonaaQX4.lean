/- The engine and the words that all chapters share: several texts in one. -/
import Derived.Test.YtdhenmmmkdhonaaDinT
import Derived.Test.YtdhenmmmkdhonaaPairsN

/- Phases by either engine: From and Max with the sign as a number. -/
set_option linter.unusedVariables false
set_option linter.unusedSimpArgs false
namespace Go.Proofs.Ytdhenmmmkdhonaa
open Go.RowKit
theorem Dn.lev {N : Net} {least : Int} {f f' : List Int} {p k : Nat} (h : Dn N least f p k f') : ∃ lv,IsLev N (roomL (N.arcs.zip f)) least lv:=by
  cases h with
  | stop h1 _=>exact ⟨_,h1⟩
  | step h1 _ _ _=>exact ⟨_,h1⟩
theorem Dn.few0 {N : Net} (hR : N.Right) {least : Int} (hle : 1 ≤ least) {f f' : List Int} {p k : Nat} (h : Dn N least f p k f') : IsFlow N f → ∀ lv, IsLev N (roomL (N.arcs.zip f)) least lv →
    (lvZ lv N.snk.toNat < 0 → p = 0) ∧ (0 ≤ lvZ lv N.snk.toNat → (p : Int) + lvZ lv N.snk.toNat ≤ N.nodes):=by
  induction h with
  | stop h1 h2 =>
    intro hf lv hlv
    have:=lev_uniq hlv h1 N.snk.toNat
    exact ⟨fun _=>rfl,fun h=>by omega⟩
  | @step f f1 f' lv0 ws p k h1 h2 h3 h4 ih =>
    intro hf lv hlv
    have e:=lev_uniq hlv h1 N.snk.toNat
    obtain ⟨k1,_,_⟩:=h3.keeps hR hle hf h1
    obtain ⟨lv1,hl1⟩:=h4.lev
    obtain ⟨i1,i2⟩:=ih k1 lv1 hl1
    have hr:=h1.rng N.snk.toNat
    have hnn:=hR.nodes
    refine ⟨fun h=>by omega,fun h=>?_⟩
    by_cases hz : 0 ≤ lvZ lv1 N.snk.toNat
    · have h5:=(h3.rise hR hle hf h1 hl1 hz).2
      have h6:=i2 hz
      omega
    · have:=i1 (by omega)
      omega
theorem Dn.few {N : Net} (hR : N.Right) {least : Int} (hle : 1 ≤ least) {f f' : List Int} {p k : Nat} (h : Dn N least f p k f') (hf : IsFlow N f) : (p : Int) + 1 ≤ N.nodes:=by
  obtain ⟨lv,hlv⟩:=h.lev
  obtain ⟨h1,h2⟩:=h.few0 hR hle hf lv hlv
  have hnn:=hR.nodes
  have hd:=hR.diff
  have hs:=hR.src
  have hk:=hR.snk
  by_cases hz : 0 ≤ lvZ lv N.snk.toNat
  · have h3:=h2 hz
    have : lvZ lv N.snk.toNat ≠ 0:=fun h0=>by
      have:=hlv.zero _ h0
      omega
    omega
  · have:=h1 (by omega)
    omega
theorem maxG_fn (N : Net) (hN : N.Fits) (hR : N.Right) (A : Option Addr) (c b o : Nat) (hA : N.arcs ≠ [] → A = some ⟨b, o, none⟩) (sg : Int) (hsg : sg = 112 ∨ sg = 116) :
    Fn 19 [netV N A c,.int .u8 sg] [] [.seg b o (arcs N.arcs)] fun v H'=>∃ (f' : List Int) (p k s : Nat) (A' : Option Addr) (c' : Nat),Dn N 1 (List.replicate N.arcs.length 0) p k f' ∧ (k : Int) ≤ 9223372036854775806 ∧ (p : Int) + 1 ≤ N.nodes ∧ (sg = 112 → s = 0) ∧ (sg = 116 → 2 * N.arcs.length * p ≤ s) ∧ s ≤ costB N.nodes.toNat N.arcs.length * p ∧
      v = .tuple #[runV A' f'.length c' p k s,.int .i64 0] ∧ H' = [.own (.slice A' f'.length c') 2 1 f'.length (ints f')]:=by
  rcases hsg with rfl | rfl
  · refine (max_fn N hN hR A c b o hA).mono ?_
    rintro v H' ⟨f',p,k,A',c',hd,hk,rfl,rfl⟩
    exact ⟨f',p,k,0,A',c',hd,hk,hd.few hR (by decide) (zeroFlow N hR),fun _=>rfl,fun h=>absurd h (by decide),Nat.zero_le _,rfl,rfl⟩
  · refine (maxT_fn N hN hR A c b o hA).mono ?_
    rintro v H' ⟨f',p,k,s,A',c',hd,hk,hp,hs1,hs2,rfl,rfl⟩
    exact ⟨f',p,k,s,A',c',hd,hk,hp,fun h=>absurd h (by decide),fun _=>hs1,hs2,rfl,rfl⟩
end Go.Proofs.Ytdhenmmmkdhonaa


/- The pairs of a graph, by either engine. -/
set_option linter.unusedVariables false
set_option linter.unusedSimpArgs false
namespace Go.Proofs.Ytdhenmmmkdhonaa
open Go.RowKit
set_option maxHeartbeats 1000000 in
theorem pairsG_fn (sg : Int) (hsg : sg = 112 ∨ sg = 116) (g : Gr) (hg : g.Right) (A : Option Addr) (c b o : Nat) (hA : g.edges ≠ [] → A = some ⟨b, o, none⟩) (nl : Nat) (hnl : g.left = nl) : Fn 16 [grV g A c, .int .u8 sg] [] [.seg b o (edgs g.edges)] fun v H' => ∃ (f : List Int) (ph wk : Nat) (A' : Option Addr) (c' : Nat), MaxFlow (gnet g) f ∧ Dn (gnet g) 1 (List.replicate (gnet g).arcs.length 0) ph wk f ∧
    v = .tuple #[.slice A' (pairsL f nl g.edges.length).length c',.int .i64 0] ∧ H' = [.own (.slice A' (pairsL f nl g.edges.length).length c') 3 1 (pairsL f nl g.edges.length).length (ints (pairsL f nl g.edges.length))]:=by
  have h1:=hg.left
  have h2:=hg.right
  have h3:=hg.len
  have hR:=gnet_right hg
  have hNl:=gnet_len g
  refine Fn_of Try.func16 rfl rfl fun w0=>?_
  (repeat' (first | refine J_seq ?_ | refine J_skip ?_ | refine J_yes rfl ?_ | refine J_no rfl ?_))
  refine J_region ?_
  refine JL_box (cs:=grC g A c) rfl rfl rfl (fun _=>rfl) fun p2=>?_
  refine JL_all [] rfl ?_
  (repeat' (first | refine J_seq ?_ | refine J_skip ?_ | refine J_yes rfl ?_ | refine J_no rfl ?_))
  refine J_region ?_
  refine JL_val [] (v:=grV g A c) (OpV_blk 0 rfl rfl rfl rfl) rfl ?_
  refine JL_callR [] (gnet_fn g hg A c b o hA) rfl rfl rfl rfl (by kernel_rfl) ⟨⟨1,_,by simp,rfl,shows_seg _ _ _,seen_seg⟩,trivial⟩ (fun _=>rfl) ?_
  rintro v H' ⟨A1,c1,rfl,rfl⟩
  refine ⟨rfl,?_⟩
  refine JL_know (own_is 0 rfl) fun ⟨_,_,hA1,hl1⟩=>?_
  obtain ⟨g1,hA1⟩:=own_at hA1 hl1
  have hA1' : (gnet g).arcs ≠ [] → A1 = some ⟨g1,0,none⟩:=fun h=>hA1 (fun h0=>h (List.length_eq_zero_iff.1 (by have:=arcs_length (gnet g).arcs; rw [h0] at this; simp at this; omega)))
  refine JL_run [] rfl ?_
  refine JL_alloc rfl rfl rfl (fun _=>rfl) fun p6=>?_
  refine JL_store 0 rfl rfl rfl rfl rfl [] rfl ?_
  refine JL_all [] rfl ?_
  (repeat' (first | refine J_seq ?_ | refine J_skip ?_ | refine J_yes rfl ?_ | refine J_no rfl ?_))
  refine J_region ?_
  refine JL_all [] rfl ?_
  refine J_dec rfl (fun h=>absurd rfl h) (fun _=>J_skip ?_)
  (repeat' (first | refine J_seq ?_ | refine J_skip ?_ | refine J_yes rfl ?_ | refine J_no rfl ?_))
  refine J_region ?_
  refine JL_val [] (v:=netV (gnet g) A1 c1) (OpV_blk 0 rfl rfl rfl rfl) rfl ?_
  refine JL_run [] rfl ?_
  refine JL_callR [] (maxG_fn (gnet g) hR.fits' hR A1 c1 g1 0 hA1' sg hsg) rfl rfl rfl rfl (by kernel_rfl) ⟨⟨1,_,by simp,rfl,shows_ownS hA1,seen_ownS hA1⟩,trivial⟩ (fun _=>rfl) ?_
  rintro v H' ⟨f,ph,wk,st,Af,cf,hdn,_,_,_,_,_,rfl,rfl⟩
  obtain ⟨hf,_,_,lv,hlv,hlt⟩:=hdn.keeps hR (by decide) (zeroFlow _ hR)
  have hno:=no_reach hf.toRanged hlv hlt
  have hfl:=hf.len
  refine ⟨rfl,?_⟩
  refine JL_run [] rfl ?_
  refine JL_alloc rfl rfl rfl (fun _=>rfl) fun p8=>?_
  refine JL_store 0 rfl rfl rfl rfl rfl [] rfl ?_
  refine JL_all [] rfl ?_
  (repeat' (first | refine J_seq ?_ | refine J_skip ?_ | refine J_yes rfl ?_ | refine J_no rfl ?_))
  refine J_region ?_
  refine JL_all [] rfl ?_
  refine J_dec rfl (fun h=>absurd rfl h) (fun _=>J_skip ?_)
  refine J_know (own_is 1 rfl) fun ⟨_,hcf,hAf,hlf⟩=>?_
  obtain ⟨gf,hAf⟩:=own_at hAf hlf
  (repeat' (first | refine J_seq ?_ | refine J_skip ?_ | refine J_yes rfl ?_ | refine J_no rfl ?_))
  refine J_region ?_
  refine JL_all [] rfl ?_
  (repeat' (first | refine J_seq ?_ | refine J_skip ?_ | refine J_yes rfl ?_ | refine J_no rfl ?_))
  refine J_region ?_
  refine JL_run [] rfl ?_
  refine JL_val [] (OpV_blk (v:=.slice Af f.length cf) 0 rfl rfl rfl rfl) rfl ?_
  refine JL_run [] rfl ?_
  refine JL_val [] (OpV_blk (v:=.int .i64 g.left) 4 rfl rfl rfl rfl) rfl ?_
  refine JL_run [] rfl ?_
  refine JL_val [] (OpV_blk (v:=.int .i64 g.left) 4 rfl rfl rfl rfl) rfl ?_
  refine JL_run [] rfl ?_
  refine JL_val [] (OpV_blk (v:=.slice A g.edges.length c) 4 rfl rfl rfl rfl) rfl ?_
  refine JL_run [] rfl ?_
  refine JL_set 32 (v':=.int .i64 (nl : Int)) rfl (congrArg (Value.int .i64) hnl) ?_
  refine JL_set 38 (v':=.int .i64 ((nl + g.edges.length : Nat) : Int)) rfl (congrArg (Value.int .i64) ((w64 (by omega)).trans (by omega))) ?_
  refine JL_val [] (OpV_part rfl rfl rfl rfl rfl rfl (by omega) (by omega)) rfl ?_
  refine JL_set 39 (v':=.slice (cutA Af cf nl 1) g.edges.length (cf - nl)) rfl (by show Value.slice _ _ _ = _; congr 1; omega) ?_
  refine JL_all [] rfl ?_
  refine J_set 40 (v':=.int .i64 g.edges.length) rfl (congrArg (Value.int .i64) (by omega)) ?_
  refine J_addnil 3 1 ?_
  refine J_block ?_
  refine J_loop (σ:=Nat × Option Addr × Nat) (fun s=>[(41,.int .i64 s.1),(40,.int .i64 g.edges.length),(39,.slice (cutA Af cf nl 1) g.edges.length (cf - nl)),(9,.slice s.2.1 (pairsL f nl s.1).length s.2.2)])
    (fun s=>[.own (.slice s.2.1 (pairsL f nl s.1).length s.2.2) 3 1 (pairsL f nl s.1).length (ints (pairsL f nl s.1)),.own (.slice Af f.length cf) 2 1 f.length (ints f)]) (fun s=>s.1 ≤ g.edges.length) (fun s=>g.edges.length - s.1)
    (0,none,0) [0,2] ⟨rfl,rfl,rfl,rfl,trivial⟩ (by decide) rfl (Nat.zero_le _) ?_
  rintro ⟨k,A2,c2⟩ hk
  simp only at hk ⊢
  have hpl:=pairsL_length f nl k
  have hps:=pairsL_succ f nl k
  (repeat' (first | refine J_seq ?_ | refine J_skip ?_ | refine J_yes rfl ?_ | refine J_no rfl ?_))
  refine J_region ?_
  refine JL_all [] rfl ?_
  refine J_seq (J_dec rfl (fun hlt=>J_skip ?_) (fun hge=>J_exit ?_))
  · have hlt : k < g.edges.length:=by omega
    obtain ⟨x,hx⟩ : ∃ x,f[nl + k]? = some x:=⟨f[nl + k]'(by omega),List.getElem?_eq_getElem (by omega)⟩
    have hxd : f.getD (nl + k) 0 = x:=by rw [List.getD_eq_getElem?_getD,hx]; rfl
    have hfne : ints f ≠ []:=by
      intro h0
      have : f.length = 0:=by rw [← ints_length,h0]; rfl
      omega
    obtain rfl:=hAf hfne
    have hcut : cutA (some ⟨gf,0,none⟩) cf nl 1 = some ⟨gf,nl,none⟩:=by
      have:=cutA_at (A:=some ⟨gf,0,none⟩) (c:=cf) (l:=nl) (n:=f.length) (sz:=1) (fun _=>rfl) hcf (by omega)
      rw [this]; simp
    rw [hcut]
    have hq : IntKind.i64.wrap ((k : Int) + 1) = ((k + 1 : Nat) : Int):=w64 (by omega)
    refine J_seq (J_block ?_)
    (repeat' (first | refine J_seq ?_ | refine J_skip ?_ | refine J_yes rfl ?_ | refine J_no rfl ?_))
    refine J_region ?_
    refine JL_run [] rfl ?_
    refine JL_val [] (idx1 rfl rfl rfl rfl rfl hlt) rfl ?_
    refine JL_val [] (OpV_load_of (b:=gf) (off:=nl) (i:=k) (cs:=(ints f).drop nl) (v:=.int .i64 x) (c:=.own (.slice (some ⟨gf,0,none⟩) f.length cf) 2 1 f.length (ints f)) 1 rfl rfl rfl
      (by have:=shows_drop (shows_own (g:=gf) (e:=2) (sz:=1) (n:=f.length) (cap:=cf) (xs:=ints f)) nl; rw [Nat.zero_add] at this; exact this)
      (by show ((ints f).drop nl)[k]? = _; rw [List.getElem?_drop]; exact ints_get hx)) rfl ?_
    refine JL_all [] rfl ?_
    (repeat' (first | refine J_seq ?_ | refine J_skip ?_ | refine J_yes rfl ?_ | refine J_no rfl ?_))
    refine J_region ?_
    refine JL_all [] rfl ?_
    refine J_dec rfl (fun hgo=>?_) (fun hno2=>J_skip ?_)
    · rw [if_pos (by omega)] at hps
      refine J_region (JL_run [] rfl ?_)
      refine JL_lit rfl rfl rfl rfl rfl rfl rfl (fun _=>rfl) fun g2=>?_
      refine JL_appendS (n:=(pairsL f nl k).length) (m:=1) (off:=0) (news:=ints [(k : Int)]) 1 0 rfl rfl rfl rfl rfl rfl (by decide) rfl rfl (shows_blk g2 _ _ (0,0)) (fun _=>rfl) rfl rfl (by omega) (by omega) (fun _ _=>rfl) fun A3 c3=>?_
      rw [show (pairsL f nl k).length + 1 = (pairsL f nl (k + 1)).length by rw [hps]; simp,show ints (pairsL f nl k) ++ ints [(k : Int)] = ints (pairsL f nl (k + 1)) by rw [hps]; simp [ints]]
      refine JL_all [] rfl ?_
      (repeat' (first | refine J_seq ?_ | refine J_skip ?_ | refine J_yes rfl ?_ | refine J_no rfl ?_))
      refine J_region ?_
      refine JL_all [] rfl ?_
      exact ⟨(k + 1,A3,c3),[1,2],⟨congrArg some (congrArg (Value.int .i64) hq),rfl,rfl,rfl,trivial⟩,by decide,rfl,by simp only; omega,by simp only; omega⟩
    · rw [if_neg (by omega),List.append_nil] at hps
      (repeat' (first | refine J_seq ?_ | refine J_skip ?_ | refine J_yes rfl ?_ | refine J_no rfl ?_))
      refine J_region ?_
      refine JL_all [] rfl ?_
      exact ⟨(k + 1,A2,c2),[0,1],⟨congrArg some (congrArg (Value.int .i64) hq),rfl,rfl,by simp only [hps]; rfl,trivial⟩,by decide,by simp only [hps]; rfl,by simp only; omega,by simp only; omega⟩
  · obtain rfl : k = g.edges.length:=by omega
    (repeat' (first | refine J_seq ?_ | refine J_skip ?_ | refine J_yes rfl ?_ | refine J_no rfl ?_))
    refine J_region ?_
    refine JL_all [] rfl ?_
    exact J_drop [0] (by decide) rfl (J_ret ⟨_,rfl,f,ph,wk,A2,c2,⟨hf,hno⟩,hdn,rfl,rfl⟩)
end Go.Proofs.Ytdhenmmmkdhonaa
