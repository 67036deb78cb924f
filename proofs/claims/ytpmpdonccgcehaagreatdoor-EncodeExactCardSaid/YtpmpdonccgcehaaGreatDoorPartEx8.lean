/- Parts of one proof: RefBloomB, RefBloomC, RefGramPlain, RefGramA, RefGramB, RefSchF, RefRecD, RefRecE, Ref16D, Ref16E, Ref16C, RefBitsF, RefBitsG. -/
import Derived.Test.YtpmpdonccgcehaaGreatDoorPartEx7
set_option maxHeartbeats 16000000
set_option maxRecDepth 100000
open Go.Proofs.Tryz
set_option linter.unusedSimpArgs false
set_option linter.unusedVariables false
namespace Go.Proofs.YtpmpdonccgcehaaGreatDoor
section
open Go.RowKit
theorem itN_mul (len y x:Int) (hl:0 < len) (h0:0≤x) (h1:x < len):∀ n:Nat,itN len y n x = (x + n * y) % len
 | 0=>by simp [itN,Int.emod_eq_of_lt h0 h1]
 | n + 1=>by
  rw [itN_succ,itN_mul len y x hl h0 h1 n,Int.emod_add_emod];congr 1;rw [Int.natCast_succ,Int.add_mul,Int.one_mul]; omega
theorem rpartsx (ka kb:Int) (x g:List UInt8) (v:Value) (w:World) (h:Vec w zaw 1 za2 v [x,g]) (hg:g.length≤60000) (hx:x.length≤60000:=by simp) :
  Calls prog 150 #[.agg #[.int .u64 ka,.int .u64 kb],v] w fun e w'=>e = .returned (.int .u64 (zc8 ka kb [x,g]))∧Below w.heap.size w w' :=
 rsparts_any zaw ka kb v [x,g] w h (by intro t ht; simp at ht; rcases ht with rfl | rfl; exact hx; exact hg) (by simp)
theorem one_encI:∀ x:Int,∀ u∈encI x,u.oneCell' = true:=by intro x u hu; simp at hu; subst hu; rfl
theorem rpositions_yes (p:ParL) (k:Int × Int) (g:List UInt8) (w:World) (hp:ParOk p) (hg:g.length≤60000) :
  Calls prog 131 #[.agg (parC p),.agg #[.int .u64 k.1,.int .u64 k.2],zal g] w (PosPost p k g w):=by
 have hl1:=hp.len1; have hl2:=hp.len2; have hh1:=hp.h1; have hh2:=hp.h2;have hl0:p.len≠0:=by omega
 have hl3:p.len - 1≠0:=by omega
 obtain ⟨H,hH⟩:∃ H:Nat,p.hashes = H:=⟨p.hashes.toNat,by omega⟩;obtain ⟨h0,h1⟩:=zil k.1 k.2 [[49],g];obtain ⟨h2,h3⟩:=zil k.1 k.2 [[50],g];have hw1:IntKind.u64.wrap p.len = p.len:=by rw [IntKind.wrap_u64]; omega
 have hw2:IntKind.i64.wrap (p.len - 1) = p.len - 1:=by rw [IntKind.wrap_i64]; omega
 have hw3:IntKind.u64.wrap (p.len - 1) = p.len - 1:=by rw [IntKind.wrap_u64]; omega
 obtain ⟨X,hX⟩:∃ X,zga p k g = X:=⟨_,rfl⟩;obtain ⟨Y,hY⟩:∃ Y,(zc8 k.1 k.2 [[50],g]) % (p.len - 1) = Y:=⟨_,rfl⟩;have hm1:(zc8 k.1 k.2 [[49],g]).tmod p.len = X:=by rw [← hX,Int.tmod_eq_emod_of_nonneg h0]; rfl
 have hm2:(zc8 k.1 k.2 [[50],g]).tmod (p.len - 1) = Y:=by rw [← hY,Int.tmod_eq_emod_of_nonneg h2]
 have x0:0≤X:=by rw [← hX]; exact Int.emod_nonneg _ hl0
 have x1:X < p.len:=by rw [← hX]; exact Int.emod_lt_of_pos _ (by omega)
 have y0:0≤Y:=by rw [← hY]; exact Int.emod_nonneg _ hl3
 have y1:Y < p.len - 1:=by rw [← hY]; exact Int.emod_lt_of_pos _ (by omega)
 have hc1:IntKind.i64.wrap X = X:=by rw [IntKind.wrap_i64]; omega
 have hc2:IntKind.i64.wrap Y = Y:=by rw [IntKind.wrap_i64]; omega
 have hc3:IntKind.i64.wrap (1 + Y) = 1 + Y:=by rw [IntKind.wrap_i64]; omega
 have hpos:zbx p k g = posN p.len (1 + Y) H X:=by unfold zbx; rw [hX,hH,Int.toNat_natCast,← hY]; rfl
 unfold PosPost;rw [hpos];have hHb:H≤16:=by omega
 have hH1:1≤H:=by omega
 have HP:=zi5 hp; have HH:=zi5 hH;clear hX hY h0 h1 h2 h3 hp hH hpos hh1 hh2;go_enter func131,ntmps131
 go_wp2_with fail
 refine zae (fun W hW=>?_)
 have hb0:=xam hW
 have hp0:W.heap[w.heap.size]? = some (.cells (parC p) 49 (0,0)):=by rw [hW]; exact zaf (zac rfl)
 have hk0:W.heap[w.heap.size + 1]? = some (.cells #[.int .u64 k.1,.int .u64 k.2] 26 (0,0)):=by rw [hW]; exact zac (by simp)
 clear hW;have hi:InI p.len:=⟨by omega,by omega⟩;refine (zh3 p W hi).mono ?_;have hbn:zcv p = 0:=by unfold zcv; rw [if_pos HP.out.bloom]
 rw [hbn];rintro e w1 ⟨rfl,hb⟩;have HB1:=zi5 (hb0.trans (hb.mono hb0.size)); have HP1:=zi5 (zab hb (zaa hp0) hp0); have HK1:=zi5 (zab hb (zaa hk0) hk0);have hpW:=zaa HP1.out; have hkW:=zaa HK1.out;have dz:((0:Int) != 0) = false:=rfl;clear hb0 hp0 hk0 hb hbn hi
 have HC:=zi5 (show ∀ w',Below w1.heap.size w1 w'→w'.cell? ⟨w.heap.size + 1,0,none⟩ = some (.int .u64 k.1)∧w'.cell? ⟨w.heap.size + 1,1,none⟩ = some (.int .u64 k.2)∧w'.cell? ⟨w.heap.size,0,none⟩ = some (.int .i64 p.len) from fun w' hb =>
  ⟨(zak (zab hb hkW HK1.out)).1,(zak (zab hb hkW HK1.out)).2,(zai (zab hb hpW HP1.out)).1⟩)
 go_wp2_with fail
 have bD:Below w1.heap.size w1 w1.drew:=(Below.refl _ _).drew;go_cut [9] (fun s9 wx=>s9 = .int .i64 X∧Below w1.heap.size w1 wx)
 case first =>
  refine wp_region_noPanic ?_
  refine wp_region_held_drew (S:=(fun w'=>w'.cell? ⟨w.heap.size + 1,0,none⟩ = some (.int .u64 k.1)∧w'.cell? ⟨w.heap.size + 1,1,none⟩ = some (.int .u64 k.2)∧w'.cell? ⟨w.heap.size,0,none⟩ = some (.int .i64 p.len))) (by kernel_rfl) (HC.out _ bD) (fun hHeld=>?_)
  refine tH 0 (h:=?_);refine tH 1 (h:=?_);refine tH 4 (h:=?_);refine tH 5 (h:=?_);refine tH 6 (h:=?_);refine wpAnyH_ready (rs:=[2]) (by kernel_rfl) (by simp) ?_
  refine AllReadyH.cons rfl (fun K hK=>?_) AllReadyH.nil
  go_simp;skip
  refine hK.out _ _ (HC.out _ (bD.alloc bD.size _)) (fun hHeld=>?_)
  clear hK K
  refine zcw (fun W1 hW1=>?_)
  have b1:Below w1.heap.size w1 W1:=by rw [hW1]; exact bD.alloc bD.size (.cells #[zal [49],zal g] 9)
  have gs:W1.heap[w1.heap.size]? = some (.cells (([[49],g]:List (List UInt8)).flatMap za2).toArray 9 (0,0)):=by rw [hW1]; exact zac rfl
  have hvs:Vec W1 zaw 1 za2 (.slice (some ⟨w1.heap.size,0,none⟩) 2 2) [[49],g]:=zcn (k:=1) (enc:=za2) (fun _=>rfl) gs trivial 2 rfl
  clear hW1 hHeld;have hHeld:=HC.out _ b1;refine wpAnyH_ready (rs:=[3]) (by kernel_rfl) (by simp) ?_
  refine AllReadyH.cons rfl (fun K hK=>?_) AllReadyH.nil
  go_simp;refine (rpartsx k.1 k.2 [49] g _ _ hvs hg).mono ?_; rintro e W2 ⟨rfl,hb⟩; have b2:=b1.trans (hb.mono b1.size); clear hb
  refine hK.out _ _ (HC.out _ b2) (fun hHeld=>?_)
  clear hK K;refine tH 7 (h:=?_);refine tH 8 (h:=?_);refine tH 9 (h:=?_);refine wpAnyH_done (by kernel_rfl) ?_ _;refine NoPanic.normal ?_;go_wp2_with fail
  go_meet;exact ⟨rfl,b2⟩
 case rest =>
  obtain ⟨w2,hw2⟩:∃ u,u = wc:=⟨_,rfl⟩;subst hw2;obtain ⟨rfl,hb12⟩:=hcut;have HB12:=zi5 hb12;clear hb12 bD;have bD:Below w2.heap.size w2 w2.drew:=(Below.refl _ _).drew;have HC2:=zi5 (show ∀ w',Below w2.heap.size w2 w'→w'.cell? ⟨w.heap.size + 1,0,none⟩ = some (.int .u64 k.1)∧w'.cell? ⟨w.heap.size + 1,1,none⟩ = some (.int .u64 k.2)∧w'.cell? ⟨w.heap.size,0,none⟩ = some (.int .i64 p.len) from fun w' hb=>HC.out _ (HB12.out.trans (hb.mono HB12.out.size)))
  go_wp2_with fail
  go_cut [10] (fun s10 wx=>s10 = .int .i64 (1 + Y)∧Below w2.heap.size w2 wx)
  case first =>
   refine wp_region_noPanic ?_
   refine wp_region_held_drew (S:=(fun w'=>w'.cell? ⟨w.heap.size + 1,0,none⟩ = some (.int .u64 k.1)∧w'.cell? ⟨w.heap.size + 1,1,none⟩ = some (.int .u64 k.2)∧w'.cell? ⟨w.heap.size,0,none⟩ = some (.int .i64 p.len))) (by kernel_rfl) (HC2.out _ bD) (fun hHeld=>?_)
   refine tH 0 (h:=?_);refine tH 1 (h:=?_);refine tH 4 (h:=?_);refine tH 5 (h:=?_);refine tH 6 (h:=?_);refine tH 7 (h:=?_);refine wpAnyH_ready (rs:=[2]) (by kernel_rfl) (by simp) ?_
   refine AllReadyH.cons rfl (fun K hK=>?_) AllReadyH.nil
   go_simp;skip
   refine hK.out _ _ (HC2.out _ (bD.alloc bD.size _)) (fun hHeld=>?_)
   clear hK K
   refine zcw (fun W1 hW1=>?_)
   have b1:Below w2.heap.size w2 W1:=by rw [hW1]; exact bD.alloc bD.size (.cells #[zal [50],zal g] 9)
   have gs:W1.heap[w2.heap.size]? = some (.cells (([[50],g]:List (List UInt8)).flatMap za2).toArray 9 (0,0)):=by rw [hW1]; exact zac rfl
   have hvs:Vec W1 zaw 1 za2 (.slice (some ⟨w2.heap.size,0,none⟩) 2 2) [[50],g]:=zcn (k:=1) (enc:=za2) (fun _=>rfl) gs trivial 2 rfl
   clear hW1 hHeld;have hHeld:=HC2.out _ b1;refine wpAnyH_ready (rs:=[3]) (by kernel_rfl) (by simp) ?_
   refine AllReadyH.cons rfl (fun K hK=>?_) AllReadyH.nil
   go_simp;refine (rpartsx k.1 k.2 [50] g _ _ hvs hg).mono ?_; rintro e W2 ⟨rfl,hb⟩; have b2:=b1.trans (hb.mono b1.size); clear hb
   refine hK.out _ _ (HC2.out _ b2) (fun hHeld=>?_)
   clear hK K;refine tH 8 (h:=?_);refine tH 9 (h:=?_);refine tH 10 (h:=?_);refine tH 11 (h:=?_);refine wpAnyH_done (by kernel_rfl) ?_ _;refine NoPanic.normal ?_;go_wp2_with fail
   go_meet;exact ⟨rfl,b2⟩
  case rest =>
   obtain ⟨w3,hw3⟩:∃ u,u = wc:=⟨_,rfl⟩;subst hw3;obtain ⟨rfl,hb23⟩:=hcut;have HB3:=zi5 (HB12.out.trans (hb23.mono HB12.out.size));clear hb23 bD HC2 hm1 hm2 hw1 hw2 hw3;have HB03:=zi5 (HB1.out.trans (HB3.out.mono HB1.out.size));have HP3:=zi5 (zab HB3.out hpW HP1.out);have lp3:=zaa HP3.out;go_wp2_with fail
   go_loopw [11,12] (fun v i wr=>∃ n:Nat,n≤H∧i = .int .i64 n∧OwnV 3 1 encI w3 v (posN p.len (1 + Y) n X) wr) (fun _ i _=>H - (intOf i).toNat)
   case atStart=>exact ⟨0,by omega,rfl,OwnV.start _ _ _ _⟩
   case round =>
    obtain ⟨n,hn,rfl,ho⟩:=hrel;have HO:=zi5 ho;obtain ⟨q0,q1,q2⟩:=zai (zab ho.2 lp3 HP3.out);have lpr:=Nat.lt_of_lt_of_le lp3 ho.2.size;rw [HH.out] at q1;obtain ⟨av,cv,rfl⟩:=za1 ho.1;rw [zeb];clear ho;by_cases hlt:n < H
    ·have hq:decide ((n:Int) < (H:Int)) = true:=by simp; omega
     obtain ⟨Z,hZ⟩:∃ Z,(X + n * (1 + Y)) % p.len = Z:=⟨_,rfl⟩
     have hny:0≤(n:Int) * (1 + Y)∧(n:Int) * (1 + Y)≤16 * 1024:=by
      constructor
      ·exact Int.mul_nonneg (by omega) (by omega)
      ·exact Int.mul_le_mul (by omega) (by omega) (by omega) (by omega)
     have hwm:IntKind.i64.wrap ((n:Int) * (1 + Y)) = (n:Int) * (1 + Y):=by rw [IntKind.wrap_i64]; omega
     have hwa:IntKind.i64.wrap (X + (n:Int) * (1 + Y)) = X + (n:Int) * (1 + Y):=by rw [IntKind.wrap_i64]; omega
     have hwt:(X + (n:Int) * (1 + Y)).tmod p.len = Z:=by rw [Int.tmod_eq_emod_of_nonneg (by omega)]; exact hZ
     have hstep:posN p.len (1 + Y) (n + 1) X = posN p.len (1 + Y) n X ++ [Z]:=by rw [posN_snoc,itN_mul _ _ _ (by omega) x0 x1,hZ]
     have HSt:=zi5 hstep;have hb1:Below wr.heap.size wr (wr.alloc (.cells #[.int .i64 Z] 3)):=(Below.refl _ _).alloc xnl _;have HO1:=zi5 (HO.out.below hb1);have HR1:=zi5 (show zco (wr.alloc (.cells #[.int .i64 Z] 3)) 1 (.slice (some ⟨wr.heap.size,0,none⟩) 1 1) [Z].length ([Z].flatMap encI) from zav (xs:=[Z].flatMap encI) (fr:=(0,0)) (t:=3) (zac rfl) rfl);have hcn:(posN p.len (1 + Y) n X).length + [Z].length≤1000000000:=by rw [zeb]; simp; omega
     rw [zeb] at HO1;obtain ⟨PL,hPL⟩:∃ PL,posN p.len (1 + Y) n X = PL:=⟨_,rfl⟩;rw [hPL] at HO1 hcn HSt;have hny1:=hny.1; have hny2:=hny.2;obtain ⟨M,hMe⟩:∃ M,(n:Int) * (1 + Y) = M:=⟨_,rfl⟩;rw [hMe] at hwm hwa hwt hny1 hny2;clear hZ hb1 hstep hny HO;go_wp2_with (at_builtin; refine zch rfl (.tmp 44) (.tmp 53) 22 rfl 3 (.int .i64 0) 1 8 encI (fun _=>rfl) one_encI underlying22 infoI rfl (by decide) (by decide) (w0:=w3) (v:=.slice av n cv) (A:=PL) (B:=[Z]) rfl HO1.out rfl HR1.out hcn ?_; intro v5 w5 ho5 hk5 hz5)
     go_roundw
     case rel=>exact ⟨n + 1,by omega,by go_num,by rw [HSt.out]; exact ho5⟩
     case measure=>simp [intOf]; omega
    ·have hq:decide ((n:Int) < (H:Int)) = false:=by simp; omega
     obtain rfl:n = H:=by omega
     have hv:=zi5 ((OwnV.vec (size:=1) (enc:=encI) (fun _=>rfl) HO.out).move (S':=fun b=>w.heap.size≤b) xnl fun b _ hs=>⟨rfl,by have hs':w3.heap.size≤b:=hs; have:=HB03.out.size; omega⟩)
     have HBe:=zi5 (HB03.out.trans (HO.out.2.mono HB03.out.size));rw [zeb] at hv;go_wp2_with fail
     go_ret2;exact ⟨_,rfl,hv.out,HBe.out⟩
end
section
open Go.RowKit
structure EncR (w:World) (p:ParL) (k:Int × Int) (bx:Nat) (a:Option Addr) (cap:Nat) (W:List Int) (wr:World):Prop where
 hp:wr.heap[w.heap.size]? = some (.cells (parC p) 49 (0,0))
 hk:wr.heap[w.heap.size + 1]? = some (.cells #[.int .u64 k.1,.int .u64 k.2] 26 (0,0))
 hr:wr.heap[w.heap.size + 2]? = some (.cells #[.int .i64 0,.slice none 0 0] 78 (0,0))
 hb:wr.heap[bx]? = some (.cells #[.int .i64 p.len,.slice a W.length cap] 78 (0,0))
 hv:Vec wr (fun b=>b≠bx∧w.heap.size + 2 < b) 1 zfx (.slice a W.length cap) W
 ne:w.heap.size + 2 < bx
 b:Below w.heap.size w wr
theorem EncR.below {w:World} {p:ParL} {k:Int × Int} {bx:Nat} {a:Option Addr} {cap:Nat} {W:List Int} {wr wx:World} (h:EncR w p k bx a cap W wr) (hb:Below wr.heap.size wr wx):EncR w p k bx a cap W wx :=
 ⟨zab hb (zaa h.hp) h.hp,zab hb (zaa h.hk) h.hk,zab hb (zaa h.hr) h.hr,zab hb (zaa h.hb) h.hb,h.hv.below hb,h.ne,h.b.trans (hb.mono h.b.size)⟩
theorem EncR.step {w:World} {p:ParL} {k:Int × Int} {bx:Nat} {a a':Option Addr} {cap cap':Nat} {W W':List Int} {wr wx:World} (h:EncR w p k bx a cap W wr) (hb:Below wr.heap.size wr wx) (hv:Vec wx (fun b=>wr.heap.size≤b) 1 zfx (.slice a' W'.length cap') W') :
  EncR w p k bx a' cap' W' ((wx.setCell ⟨bx,0,none⟩ (.int .i64 p.len)).setCell ⟨bx,1,none⟩ (.slice a' W'.length cap')):=by
 have h':=h.below hb;have n:=h.ne;have l:=zaa h.hb;refine ⟨zam (zam h'.hp (by show w.heap.size≠bx; omega)) (by show w.heap.size≠bx; omega),zam (zam h'.hk (by show w.heap.size + 1≠bx; omega)) (by show w.heap.size + 1≠bx; omega),zam (zam h'.hr (by show w.heap.size + 2≠bx; omega)) (by show w.heap.size + 2≠bx; omega),zad (i:=1) (v:=.slice a' W'.length cap') (zad (i:=0) (v:=.int .i64 p.len) h'.hb),?_,n,(h'.b.setCell (p:=⟨bx,0,none⟩) (by show w.heap.size≤bx; omega) _).setCell (p:=⟨bx,1,none⟩) (by show w.heap.size≤bx; omega) _⟩;have hv':=hv.move (S':=fun b=>b≠bx∧w.heap.size + 2 < b) xnl fun b _ hs=>⟨rfl,by have hs':wr.heap.size≤b:=hs; omega,by have hs':wr.heap.size≤b:=hs; omega⟩
 exact (hv'.set1 (a:=⟨bx,0,none⟩) (fun b hb=>hb.1) _).set1 (a:=⟨bx,1,none⟩) (fun b hb=>hb.1) _
theorem rbencode_yes (S:Nat→Prop) (p:ParL) (k:Int × Int) (v:Value) (G:List (List UInt8)) (w:World) (hp:ParOk p) (hv:Vec w S 1 za2 v G) (hg:∀ g∈G,g.length≤60000) (hn:G.length≤80) :
  Calls prog 66 #[.agg (parC p),.agg #[.int .u64 k.1,.int .u64 k.2],v] w (EncodePost (zgq p k G).1 w):=by
 obtain ⟨a,cap,rfl⟩:=hv.slice;have hl1:=hp.len1; have hl2:=hp.len2;have hbm:(zgq p k G).1 = ⟨p.len,G.foldl (zec p k) (zej p.len)⟩:=by unfold zgq; rw [if_pos hp.bloom,if_pos hn]
 rw [hbm];have HP:=zi5 hp; have HV:=zi5 hv.any; have HGl:=zi5 hg;have hn80:decide ((80:Int) < G.length) = false:=by simp; omega
 clear hp hbm hv hg;go_enter func66,ntmps66
 go_wp2_with fail
 refine zae (fun W hW=>?_)
 have hb0:Below w.heap.size w W:=by rw [hW]; exact (((Below.refl _ _).alloc xnl _).alloc (by simp) _).alloc (by simp; omega) _
 have hp0:W.heap[w.heap.size]? = some (.cells (parC p) 49 (0,0)):=by rw [hW]; exact zaf (zaf (zac rfl))
 have hk0:W.heap[w.heap.size + 1]? = some (.cells #[.int .u64 k.1,.int .u64 k.2] 26 (0,0)):=by rw [hW]; exact zaf (zac (by simp))
 have hr0:W.heap[w.heap.size + 2]? = some (.cells #[.int .i64 0,.slice none 0 0] 78 (0,0)):=by rw [hW]; exact zac (by simp)
 clear hW;have hi:InI p.len:=⟨by omega,by omega⟩;have hbn:zcv p = 0:=by unfold zcv; rw [if_pos HP.out.bloom]
 refine (zh3 p W hi).mono ?_;rw [hbn];rintro e w1 ⟨rfl,hb⟩;have hp1:=zab hb (zaa hp0) hp0; have hk1:=zab hb (zaa hk0) hk0; have hr1:=zab hb (zaa hr0) hr0;have hb1:=hb0.trans (hb.mono hb0.size);have HB1:=zi5 hb1; have HP1:=zi5 hp1; have HK1:=zi5 hk1; have HR1:=zi5 hr1;obtain ⟨q0,q1,q2⟩:=zai hp1; obtain ⟨k0,k1⟩:=zak hk1;have lp1:=zaa hp1;clear hb0 hp0 hk0 hr0 hb hp1 hk1 hr1 hb1 hbn hi;go_wp2_with fail
 refine (zf4 p.len _ HP.out.right).mono ?_;rintro e w2 ⟨gw,m,rfl,hm,hgw,hw0,hb⟩;have hz0:=zaa HR1.out;have hzl:(zej p.len).length = m:=by unfold zej; rw [List.length_replicate]; omega
 have hm8:m≤8:=by omega
 have hE:EncR w p k w2.heap.size (some ⟨gw,0,none⟩) m (zej p.len) (w2.alloc (.cells #[.int .i64 p.len,.slice (some ⟨gw,0,none⟩) m m] 78)):=by
  have hz1:=zaa hw0;refine ⟨zaf (zab hb (zaa HP1.out) HP1.out),zaf (zab hb (zaa HK1.out) HK1.out),zaf (zab hb (zaa HR1.out) HR1.out),by rw [hzl]; exact zac rfl,?_,by have:=hb.size; omega,(HB1.out.trans (hb.mono HB1.out.size)).alloc (by have:=HB1.out.size; have:=hb.size; omega) _⟩;have h:=zcn (S:=fun b=>b≠w2.heap.size∧w.heap.size + 2 < b) (w:=w2.alloc (.cells #[.int .i64 p.len,.slice (some ⟨gw,0,none⟩) m m] 78)) (k:=1) (enc:=zfx) (fun _=>rfl) (zaf hw0) (show (fun b=>b≠w2.heap.size∧w.heap.size + 2 < b) gw from ⟨by omega,by omega⟩) m hzl.symm
  rw [hzl]; exact h
 have HM:=zi5 hm; have HZL:=zi5 hzl;have HE:=zi5 hE;have hlt2:w.heap.size + 2 < w2.heap.size:=by have:=hb.size; omega
 clear hE hm hgw hw0 hb q0 q1 q2 k0 k1 HB1 HP1 HK1 HR1 hz0 hzl;obtain ⟨bx,hbx⟩:∃ bx,w2.heap.size = bx:=⟨_,rfl⟩;go_wp2_with fail
 refine zao (fun W0 hW0=>?_)
 rw [← hW0] at HE;rw [hbx] at HE hlt2;try rw [hbx]
 clear hW0 hbx;go_loopw [11] (fun i wr=>∃ (j:Nat) (a:Option Addr) (cap:Nat),i = .int .i64 j∧j≤G.length∧EncR w p k bx a cap ((G.take j).foldl (zec p k) (zej p.len)) wr) (fun i _=>G.length - (intOf i).toNat)
 case atStart=>exact ⟨0,_,_,rfl,by omega,HE.out⟩
 case round =>
  obtain ⟨j,av,cv,rfl,hj,he⟩:=hrel;have HE2:=zi5 he; clear he HE;by_cases hlt:j < G.length
  ·have hq:decide ((j:Int) < G.length) = true:=by simp; omega
   have hji:(j:Int) < (G.length:Int):=by omega
   obtain ⟨g,hg⟩:∃ g,G[j] = g:=⟨_,rfl⟩;have hgl:g.length≤60000:=HGl.out g (by rw [← hg]; exact List.getElem_mem _);have hts:(G.take (j + 1)).foldl (zec p k) (zej p.len) = zec p k ((G.take j).foldl (zec p k) (zej p.len)) g:=by rw [List.take_succ_eq_append_getElem hlt,hg,List.foldl_append]; rfl
   have HTs:=zi5 hts; clear hts;obtain ⟨b,off,rfl,hbb,hc⟩:=(HV.out.below HE2.out.b).get j hlt;have c0:=hc 0 _ rfl;rw [Nat.mul_one,Nat.add_zero,hg] at c0;obtain ⟨q0,q1,q2⟩:=zai HE2.out.hp; obtain ⟨k0,k1⟩:=zak HE2.out.hk;obtain ⟨Wj,hWj⟩:∃ Wj,(G.take j).foldl (zec p k) (zej p.len) = Wj:=⟨_,rfl⟩;have hWl:Wj.length = m:=by rw [← hWj,orGrams_len,HZL.out]
   rw [hWj] at HE2 HTs;have HWl:=zi5 hWl;obtain ⟨WR,hWR⟩:∃ u,u = wr:=⟨_,rfl⟩;subst hWR;have lpr:=zaa HE2.out.hp; have lkr:=zaa HE2.out.hk;have bD:Below WR.heap.size WR WR.drew:=(Below.refl _ _).drew
   have HC:=zi5 (show ∀ w',Below WR.heap.size WR w'→(w'.cell? ⟨w.heap.size,0,none⟩ = some (.int .i64 p.len)∧w'.cell? ⟨w.heap.size,1,none⟩ = some (.int .i64 p.hashes)∧w'.cell? ⟨w.heap.size,2,none⟩ = some (.int .i64 p.salt))∧(w'.cell? ⟨w.heap.size + 1,0,none⟩ = some (.int .u64 k.1)∧w'.cell? ⟨w.heap.size + 1,1,none⟩ = some (.int .u64 k.2))∧w'.cell? ⟨b,off + j,none⟩ = some (zal g) from
    fun w' hb=>⟨zai (zab hb lpr HE2.out.hp),zak (zab hb lkr HE2.out.hk),(hb.cell (p:=⟨b,off + j,none⟩) hbb).trans c0⟩)
   clear hc hWj hg hWl;go_wp2_with fail
   refine wp_region_noPanic ?_
   refine wp_region_held_drew (S:=(fun w'=>(w'.cell? ⟨w.heap.size,0,none⟩ = some (.int .i64 p.len)∧w'.cell? ⟨w.heap.size,1,none⟩ = some (.int .i64 p.hashes)∧w'.cell? ⟨w.heap.size,2,none⟩ = some (.int .i64 p.salt))∧(w'.cell? ⟨w.heap.size + 1,0,none⟩ = some (.int .u64 k.1)∧w'.cell? ⟨w.heap.size + 1,1,none⟩ = some (.int .u64 k.2))∧w'.cell? ⟨b,off + j,none⟩ = some (zal g))) (by kernel_rfl) (HC.out _ bD) (fun hHeld=>?_)
   refine tH 0 (h:=?_);refine tH 1 (h:=?_);refine tH 2 (h:=?_);refine tH 3 (h:=?_);refine tH 4 (h:=?_);refine tH 5 (h:=?_);refine wpAnyH_ready (rs:=[6]) (by kernel_rfl) (by simp) ?_
   refine AllReadyH.cons rfl (fun K hK=>?_) AllReadyH.nil
   go_simp;refine (rpositions_yes p k g _ HP.out hgl).mono ?_; rintro e w4 ⟨v4,rfl,hv4,hb4⟩; obtain ⟨a4,c4,rfl⟩:=hv4.slice; have b4:=bD.trans (hb4.mono bD.size); have HV4:=zi5 hv4; clear hv4 hb4
   refine hK.out _ _ (HC.out _ b4) (fun hHeld=>?_)
   clear hK K;refine tH 7 (h:=?_);refine tH 8 (h:=?_);refine tH 9 (h:=?_);refine tH 10 (h:=?_);refine tH 11 (h:=?_);refine wpAnyH_done (by kernel_rfl) ?_ _;refine NoPanic.normal ?_;have HE4:=zi5 (HE2.out.below b4);have hbd:=posN_bd p.len (zhx p k g) (by omega) p.hashes.toNat (zga p k g) (Int.emod_nonneg _ (by omega)) (Int.emod_lt_of_pos _ (by omega));have hlenl:(zbx p k g).length≤16:=by unfold zbx; rw [zeb]; have:=HP.out.h2; omega
   have hog:zec p k Wj g = (zbx p k g).foldl zfk Wj:=rfl;have lbx:=zaa HE2.out.hb;have HV5:=zi5 (HV4.out.move (S':=fun b=>b≠bx) xnl fun b _ hs=>⟨rfl,by have hs':WR.drew.heap.size≤b:=hs; have:WR.drew.heap.size = WR.heap.size:=rfl; omega⟩)
   obtain ⟨l,hl⟩:∃ l,zbx p k g = l:=⟨_,rfl⟩;have hbd2:∀ i∈l,0≤i∧i < p.len:=by rw [← hl]; exact hbd
   rw [hl] at hlenl hog HV5 ⊢;have HBd:=zi5 hbd2; have HOG:=zi5 hog;clear hbd hl hbd2 hog HE2 q0 q1 q2 k0 k1 c0 HC bD b4 HV4 lbx;go_wp2_with fail
   go_loopw [14] (fun i wr=>∃ (n:Nat) (av:Option Addr) (cv:Nat),i = .int .i64 n∧n≤l.length∧EncR w p k bx av cv ((l.take n).foldl zfk Wj) wr∧Vec wr (fun b=>b≠bx) 1 encI (.slice a4 l.length c4) l) (fun i _=>l.length - (intOf i).toNat)
   case atStart=>exact ⟨0,_,_,rfl,by omega,HE4.out,HV5.out⟩
   case round =>
    obtain ⟨n,av,cv,rfl,hn,he,hv⟩:=hrel;have HE5:=zi5 he; have HV6:=zi5 hv; clear he hv HE4 HV5;by_cases hlt2:n < l.length
    ·have hq2:decide ((n:Int) < l.length) = true:=by simp; omega
     have hni:(n:Int) < (l.length:Int):=by omega
     obtain ⟨i,hi⟩:∃ i,l[n] = i:=⟨_,rfl⟩;obtain ⟨i0,i1⟩:=HBd.out i (by rw [← hi]; exact List.getElem_mem _);have hts2:(l.take (n + 1)).foldl zfk Wj = zfk ((l.take n).foldl zfk Wj) i:=by rw [List.take_succ_eq_append_getElem hlt2,hi,List.foldl_append]; rfl
     obtain ⟨Wn,hWn⟩:∃ Wn,(l.take n).foldl zfk Wj = Wn:=⟨_,rfl⟩;have hWnl:Wn.length = m:=by rw [← hWn,orBits_len,HWl.out]
     rw [hWn] at HE5 hts2;have HT2:=zi5 hts2
     have hvb:zbv ⟨p.len,Wn⟩ = true:=by
      unfold zbv;dsimp only;rw [HP.out.right,hWnl];have:=HM.out;simp; omega
     obtain ⟨b4,off4,rfl,hbb4,hc4⟩:=HV6.out.get n hlt2;have c5:=hc4 0 _ rfl;rw [Nat.mul_one,Nat.add_zero,hi] at c5;obtain ⟨d0,d1⟩:=zak HE5.out.hb;have f0:=frozen_of_row _ _ 0 _ _ HE5.out.hb; have f1:=frozen_of_row _ _ 1 _ _ HE5.out.hb;have lb:=zaa HE5.out.hb;obtain ⟨WN,hWN⟩:∃ u,u = wr:=⟨_,rfl⟩;subst hWN;have bD:Below WN.heap.size WN WN.drew:=(Below.refl _ _).drew
     have HC:=zi5 (show ∀ w',Below WN.heap.size WN w'→(w'.cell? ⟨bx,0,none⟩ = some (.int .i64 p.len)∧w'.cell? ⟨bx,1,none⟩ = some (.slice av Wn.length cv))∧w'.cell? ⟨b4,off4 + n,none⟩ = some (.int .i64 i) from
      fun w' hb=>⟨zak (zab hb lb HE5.out.hb),(hb.cell (p:=⟨b4,off4 + n,none⟩) hbb4).trans c5⟩)
     have HVb:=zi5 hvb; have HWnl:=zi5 hWnl;clear hc4 hWn hi hts2 hvb hWnl;go_wp2_with fail
     refine wp_region_noPanic ?_
     refine zat (by kernel_rfl) (fun w'=>(w'.cell? ⟨bx,0,none⟩ = some (.int .i64 p.len)∧w'.cell? ⟨bx,1,none⟩ = some (.slice av Wn.length cv))∧w'.cell? ⟨b4,off4 + n,none⟩ = some (.int .i64 i)) 9 (HC.out _ bD) (fun hHeld=>?_)
     refine tK 0 (h:=?_);refine tK 1 (h:=?_);refine tK 2 (h:=?_);refine tK 3 (h:=?_);refine tK 4 (h:=?_)
     refine xrK 5 rfl fun K hK=>?_
     go_simp;refine (rset9_yes zaw _ ⟨p.len,Wn⟩ i _ ⟨_,rfl,(HE5.out.hv.below bD).any⟩ HVb.out i0 i1).mono ?_; rintro e w6 ⟨_,rfl,⟨_,rfl,hv6⟩,hb6⟩; have b6:=bD.trans (hb6.mono bD.size); dsimp only at hv6; obtain ⟨a6,c6,rfl⟩:=hv6.slice; have HV7:=zi5 hv6; have hb60:=zab b6 lb HE5.out.hb; have g0:=frozen_of_row _ _ 0 _ _ hb60; have g1:=frozen_of_row _ _ 1 _ _ hb60; obtain ⟨dd0,dd1⟩:=zak hb60; have lb6:=zaa hb60; clear hv6 hb6
     refine za5 hK (HC.out _ b6) (fun hHeld=>?_)
     clear hK K;refine tK 6 (h:=?_);refine tK 7 (h:=?_);refine t0 8 (h:=?_)
     refine xrK 9 rfl fun K hK=>?_
     go_simp;refine zas hK (by decide) ?_;clear hK K;refine zap (by kernel_rfl) ?_ _;refine NoPanic.normal ?_;go_wp2_with fail
     go_roundw
     case rel =>
      have hst:=HE5.out.step b6 (HV7.out.move (S':=fun b=>WN.heap.size≤b) xnl fun b _ hs=>⟨rfl,hs⟩)
      refine ⟨n + 1,a6,c6,by go_num,by omega,by rw [HT2.out]; exact hst,?_⟩;exact ((HV6.out.below b6).set1 (a:=⟨bx,0,none⟩) (fun b hb=>hb) _).set1 (a:=⟨bx,1,none⟩) (fun b hb=>hb) _
     case measure=>simp [intOf]; omega
    ·have hq2:decide ((n:Int) < l.length) = false:=by simp; omega
     obtain rfl:n = l.length:=by omega
     rw [List.take_of_length_le xnl,← HOG.out,← HTs.out] at HE5;clear HV6;go_wp2_with fail
     go_roundw
     case rel=>exact ⟨j + 1,_,_,by go_num,by omega,HE5.out⟩
     case measure=>simp [intOf]; omega
  ·have hq:decide ((j:Int) < G.length) = false:=by simp; omega
   obtain rfl:j = G.length:=by omega
   rw [List.take_of_length_le xnl] at HE2;obtain ⟨d0,d1⟩:=zak HE2.out.hb;obtain ⟨r0,r1⟩:=zak HE2.out.hr;have f0:=frozen_of_row _ _ 0 _ _ HE2.out.hr; have f1:=frozen_of_row _ _ 1 _ _ HE2.out.hr;have zr:=zaa HE2.out.hr; have zb:=zaa HE2.out.hb;obtain ⟨WE,hWE⟩:∃ WE,G.foldl (zec p k) (zej p.len) = WE:=⟨_,rfl⟩;have HWE:=zi5 hWE;rw [hWE] at HE2 d1;clear hWE;go_wp2_with fail
   refine zag rfl rfl (zad (i:=1) (v:=.slice av WE.length cv) (zad (i:=0) (v:=.int .i64 p.len) HE2.out.hr)) underlying78 rfl (by kernel_rfl) ?_;have hv7:=HE2.out.hv.move (S':=fun b=>w.heap.size≤b∧b≠w.heap.size + 2) xnl fun b _ hs=>⟨rfl,by have:=hs.2; omega,by have:=hs.2; omega⟩
   have h8:=(hv7.set1 (a:=⟨w.heap.size + 2,0,none⟩) (fun b hb=>hb.2) (.int .i64 p.len)).set1 (a:=⟨w.heap.size + 2,1,none⟩) (fun b hb=>hb.2) (.slice av WE.length cv)
   have h9:=h8.move (S':=fun b=>w.heap.size≤b) xnl fun b _ hb=>⟨rfl,hb.1⟩
   refine ⟨_,rfl,⟨_,rfl,?_⟩,(HE2.out.b.setCell (p:=⟨w.heap.size + 2,0,none⟩) (by simp) _).setCell (p:=⟨w.heap.size + 2,1,none⟩) (by simp) _⟩;dsimp only;rw [HWE.out];exact h9
end
section
def insL (x:List UInt8):List (List UInt8)→List (List UInt8)
 | []=>[x]
 | y :: r=>if y < x then y :: insL x r else if y = x then y :: r else x :: y :: r
theorem insL_mem (x z:List UInt8) (L:List (List UInt8)):z∈insL x L ↔ z = x∨z∈L:=by
 induction L with
 | nil=>simp [insL]
 | cons y r ih =>
  unfold insL;by_cases h:y < x
  ·rw [if_pos h,List.mem_cons,ih,List.mem_cons]
   constructor
   ·rintro (h | h | h) <;> simp [h]
   ·rintro (h | h | h) <;> simp [h]
  ·rw [if_neg h]
   by_cases h2:y = x
   ·rw [if_pos h2,List.mem_cons]
    subst h2;constructor
    ·rintro (h | h) <;> simp [h]
    ·rintro (h | h | h) <;> simp [h]
   ·rw [if_neg h2,List.mem_cons,List.mem_cons]
theorem insL_asc (x:List UInt8) (L:List (List UInt8)) (h:L.Pairwise (· < ·)):(insL x L).Pairwise (· < ·):=by
 induction L with
 | nil=>simp [insL]
 | cons y r ih =>
  rw [List.pairwise_cons] at h;unfold insL;by_cases h1:y < x
  ·rw [if_pos h1,List.pairwise_cons]
   refine ⟨fun z hz=>?_,ih h.2⟩
   rcases (insL_mem x z r).1 hz with rfl | hz
   ·exact h1
   ·exact h.1 z hz
  ·rw [if_neg h1]
   by_cases h2:y = x
   ·rw [if_pos h2,List.pairwise_cons]; exact h
   ·rw [if_neg h2,List.pairwise_cons,List.pairwise_cons]
    have hxy:x < y:=by
     rcases List.le_iff_lt_or_eq.1 (List.not_lt.1 h1) with h3 | h3
     ·exact h3
     ·exact absurd h3.symm h2
    refine ⟨fun z hz=>?_,h⟩
    rcases List.mem_cons.1 hz with rfl | hz
    ·exact hxy
    ·exact List.lt_trans hxy (h.1 z hz)
def foldI (L:List (List UInt8)):List (List UInt8):=L.foldl (fun a x=>insL x a) []
theorem zht (L:List (List UInt8)) (k:Nat) (hk:k < L.length):foldI (L.take (k + 1)) = insL L[k] (foldI (L.take k)):=by
 unfold foldI;rw [List.take_succ_eq_append_getElem hk,List.foldl_append];rfl
theorem foldI_is (L:List (List UInt8)):∀ A:List (List UInt8),A.Pairwise (· < ·)→(L.foldl (fun a x=>insL x a) A).Pairwise (· < ·)∧∀ z,z∈L.foldl (fun a x=>insL x a) A ↔ z∈A∨z∈L:=by
 induction L with
 | nil=>intro A h; exact ⟨h,fun z=>by simp⟩
 | cons x L ih =>
  intro A h;obtain ⟨h1,h2⟩:=ih (insL x A) (insL_asc x A h)
  refine ⟨h1,fun z=>?_⟩
  show z∈L.foldl (fun a x=>insL x a) (insL x A) ↔ _
  rw [h2,insL_mem,List.mem_cons];constructor
  ·rintro ((h | h) | h) <;> simp [h]
  ·rintro (h | h | h) <;> simp [h]
theorem foldI_asc (L:List (List UInt8)):(foldI L).Pairwise (· < ·):=(foldI_is L [] List.Pairwise.nil).1
theorem foldI_set (L:List (List UInt8)):foldI L = setL L:=by
 have ha:=foldI_asc L;have hm:=(foldI_is L [] List.Pairwise.nil).2;have hn:(foldI L).Nodup:=ha.imp fun {a b} h e=>by subst e; exact List.lt_irrefl a h
 have hs:(foldI L).mergeSort leB = foldI L:=List.mergeSort_of_pairwise (ha.imp fun {a b} h=>by simpa [leB] using List.le_of_lt h)
 rw [← hs];exact set_of_perm hn fun z=>by rw [foldI,hm]; simp
theorem insL_split (x:List UInt8) (A B:List (List UInt8)) (hA:∀ y∈A,y < x) (hB:∀ y r,B = y :: r→¬ y < x) :
  insL x (A ++ B) = if B.head? = some x then A ++ B else A ++ x :: B:=by
 induction A with
 | nil =>
  cases B with
  | nil=>rfl
  | cons y r =>
   show insL x (y :: r) = _;unfold insL;rw [if_neg (hB y r rfl)];simp only [List.nil_append,List.head?_cons,Option.some.injEq]
 | cons a A ih =>
  show insL x (a :: (A ++ B)) = _;unfold insL;rw [if_pos (hA a (by simp)),ih (fun y hy=>hA y (by simp [hy]))]
  split <;> rfl
theorem insL_len (x:List UInt8) (L:List (List UInt8)):(insL x L).length≤L.length + 1:=by
 induction L with
 | nil=>simp [insL]
 | cons y r ih =>
  unfold insL;split
  ·simp; omega
  ·split <;> simp
end
section
open Go.RowKit
attribute [local go_sem] zah zaj
theorem foldI_len (L:List (List UInt8)):∀ A:List (List UInt8),(L.foldl (fun a x=>insL x a) A).length≤A.length + L.length:=by
 induction L with
 | nil=>intro A; simp
 | cons x L ih=>intro A; have:=ih (insL x A); have:=insL_len x A; simp only [List.foldl_cons,List.length_cons]; omega
theorem zdp:∀ x:List UInt8,∀ u∈za2 x,u.oneCell' = true:=by intro x u hu; simp [za2] at hu; subst hu; rfl
theorem r1_of {w w':World} {bo oo m co:Nat} {M:List (List UInt8)} (hm:m≤M.length) (h:Vec w zaw 1 za2 (.slice (some ⟨bo,oo,none⟩) M.length co) M) (hb:Below w.heap.size w w'):zco w' 1 (.slice (some ⟨bo,oo,none⟩) m co) (M.take m).length ((M.take m).flatMap za2):=by
 have:=Vec.reads_take (k:=1) (enc:=za2) (fun _=>rfl) (h.below hb) m hm
 rwa [List.length_take,Nat.min_eq_left hm]
theorem r2_of {w w':World} {bo oo m co:Nat} {M:List (List UInt8)} (hm:m≤M.length) (h:Vec w zaw 1 za2 (.slice (some ⟨bo,oo,none⟩) M.length co) M) (hb:Below w.heap.size w w'):zco w' 1 (.slice (if co = m then some ⟨bo,oo,none⟩ else some ⟨bo,oo + m,none⟩) (M.length - m) (co - m)) (M.drop m).length ((M.drop m).flatMap za2):=by
 have hc:=h.len.2;have:=Vec.reads_drop (enc:=za2) (fun _=>rfl) (h.below hb) m hm (co = m) (fun e=>by omega) (co - m)
 rwa [List.length_drop]
theorem r2_z {w w':World} {bo m co:Nat} {M:List (List UInt8)} (hm:m≤M.length) (h:Vec w zaw 1 za2 (.slice (some ⟨bo,0,none⟩) M.length co) M) (hb:Below w.heap.size w w'):zco w' 1 (.slice (if co = m then some ⟨bo,0,none⟩ else some ⟨bo,m,none⟩) (M.length - m) (co - m)) (M.drop m).length ((M.drop m).flatMap za2):=by
 have:=r2_of hm h hb;rwa [Nat.zero_add] at this
theorem r_nil {w w':World} (hb:Below w.heap.size w w'):zco w' 1 (.slice none 0 0) ([]:List (List UInt8)).length (([]:List (List UInt8)).flatMap za2):=⟨none,0,rfl,rfl,fun h=>by simp at h⟩
theorem insL_at {x:List UInt8} {M:List (List UInt8)} (m:Nat) (hm:m≤M.length) (hA:∀ q,q < m→M.getD q [] < x) (hB:m < M.length→¬ M.getD m [] < x∧M.getD m []≠x):insL x M = M.take m ++ x :: M.drop m:=by
 have h:=insL_split x (M.take m) (M.drop m) (fun y hy=>by
  obtain ⟨q,hq,rfl⟩:=List.mem_iff_getElem.1 hy;rw [List.length_take] at hq;have:=hA q (by omega);rw [List.getD,List.getElem?_eq_getElem (by omega)] at this
  rw [List.getElem_take]; exact this) (fun y r he=>by
  have hl:m < M.length:=by
   have:=congrArg List.length he; rw [List.length_drop,List.length_cons] at this; omega
  rw [List.drop_eq_getElem_cons hl] at he;have:=(hB hl).1;rw [List.getD,List.getElem?_eq_getElem hl] at this
  cases he; exact this)
 rw [List.take_append_drop] at h;rw [h];rw [if_neg];intro he
 rcases Nat.lt_or_ge m M.length with hl | hl
 ·rw [List.drop_eq_getElem_cons hl,List.head?_cons] at he
  have:=(hB hl).2;rw [List.getD,List.getElem?_eq_getElem hl] at this;exact this (Option.some.inj he)
 ·rw [List.drop_eq_nil_of_le hl] at he; simp at he
theorem insL_dup {x:List UInt8} {M:List (List UInt8)} (m:Nat) (hl:m < M.length) (hA:∀ q,q < m→M.getD q [] < x) (hB:M.getD m [] = x):insL x M = M:=by
 have h:=insL_split x (M.take m) (M.drop m) (fun y hy=>by
  obtain ⟨q,hq,rfl⟩:=List.mem_iff_getElem.1 hy;rw [List.length_take] at hq;have:=hA q (by omega);rw [List.getD,List.getElem?_eq_getElem (by omega)] at this
  rw [List.getElem_take]; exact this) (fun y r he=>by
  rw [List.drop_eq_getElem_cons hl] at he;rw [List.getD,List.getElem?_eq_getElem hl] at hB;cases he;have e:M[m] = x:=hB
  rw [e]; exact List.lt_irrefl x)
 rw [List.take_append_drop] at h;rw [h,if_pos];rw [List.drop_eq_getElem_cons hl,List.head?_cons];rw [List.getD,List.getElem?_eq_getElem hl] at hB;exact congrArg some hB
theorem rset_any (S:Nat→Prop) (v:Value) (L:List (List UInt8)) (w:World) (h:Vec w S 1 za2 v L) (hn:L.length≤1000000) :
  Calls prog 186 #[v] w fun e w'=>∃ u,e = .returned u∧OwnAt w u (foldI L) w':=by
 obtain ⟨a,cap,rfl⟩:=h.slice;have HV:=zi5 h; clear h;go_enter func186,ntmps186
 go_wp2_with fail
 go_loopw [3,4] (fun o i wr=>∃ k:Nat,k≤L.length∧i = .int .i64 k∧OwnAt w o (foldI (L.take k)) wr) (fun _ i _=>L.length - (intOf i).toNat)
 case atStart=>exact ⟨0,by omega,rfl,⟨rfl,.inl ⟨rfl,rfl⟩⟩,Below.refl _ _⟩
 case round =>
  obtain ⟨k,hk,rfl,hO⟩:=hrel;obtain ⟨wu,rfl⟩:∃ wu:World,wu = wr:=⟨_,rfl⟩;obtain ⟨M,hM⟩:∃ M,foldI (L.take k) = M:=⟨_,rfl⟩;rw [hM] at hO;have hml:M.length≤k:=by rw [← hM]; have:=foldI_len (L.take k) []; have:=List.length_take_le k L; simp only [List.length_nil] at *; unfold foldI; omega
  have HM:=zi5 hM; clear hM;have hvm:=Vec.owns (S:=zaw) (k:=1) (enc:=za2) (L:=M) (fun _=>rfl) hO.1 (fun _ _ _=>trivial)
  have hform:=OwnV.form hO;have HVM:=zi5 hvm; clear hvm;have HO:=zi5 hO; clear hO;by_cases hlt:k < L.length
  ·have hq:decide ((k:Int) < L.length) = true:=by simp; omega
   obtain ⟨b,off,rfl,_,hb,hc⟩:=zb9 HV.out (by omega);have cx:=(HO.out.2.cell (p:=⟨b,off + k,none⟩) hb).trans (hc k hlt);obtain ⟨x,hx⟩:∃ x,L.getD k [] = x:=⟨_,rfl⟩;rw [hx] at cx;have HX:=zi5 hx;have CXH:=zi5 (show w.cell? ⟨b,off + k,none⟩ = some (zal x) by rw [← hx]; exact hc k hlt);have hi:(k:Int) < (L.length:Int):=by omega
   clear hc hx
   rcases hform with ⟨rfl,rfl⟩ | ⟨bo,co,rfl,hco,hcm,hbo⟩
   ·go_wp2_with fail
    go_loopw [5] (fun j wr=>j = .int .i64 (0:Nat)∧Below wu.heap.size wu wr) (fun j _=>0)
    case atStart=>exact ⟨rfl,Below.refl _ _⟩
    case round =>
     obtain ⟨rfl,hbi⟩:=hrel;have HBI:=zi5 hbi;have zu:=HO.out.2.size;have cx2:=(hbi.cell (p:=⟨b,off + k,none⟩) (by show b < _; omega)).trans cx;clear hbi;go_wp2_with fail
     go_quiet (fail)
     go_wp2_with fail
     go_quiet (fail)
     go_wp2_with fail
     refine zao (fun wN hN=>?_)
     have HBu:=zi5 (show Below wu.heap.size wu wN by rw [hN]; first | exact below_drewN (below_drewN HBI.out _) _ | exact below_drewN HBI.out _ | exact below_drewN (below_drewN (below_drewN HBI.out _) _) _);have HBN:=zi5 (HO.out.2.trans (HBu.out.mono HO.out.2.size));have cx3:=(HBN.out.cell (p:=⟨b,off + k,none⟩) hb).trans CXH.out;have HVN:=zi5 (HVM.out.below HBu.out);have zb:b < wN.heap.size:=by have:=HBN.out.size; omega
     clear hN cx2 cx;refine wp_region_noPanic ?_
     refine zat (by kernel_rfl) (fun w'=>w'.cell? ⟨b,off + k,none⟩ = some (zal x)) 9 ((by simpa using cx3)) (fun hHeld=>?_)
     refine t0 0 (h:=?_);refine t0 1 (h:=?_);refine t0 10 (h:=?_);refine t0 11 (h:=?_);refine tK 4 (h:=?_);refine tK 5 (h:=?_);refine tK 6 (h:=?_);refine tK 7 (h:=?_);refine t0 2 (h:=?_);refine t0 12 (h:=?_);have bD:Below wN.heap.size wN wN.drew:=(Below.refl _ _).drew;refine za8 (rs:=[3,8]) (by kernel_rfl) (by simp) ?_
     refine AllReadyK.cons rfl (fun K hK=>?_) (AllReadyK.cons rfl (fun K hK=>?_) AllReadyK.nil)
     focus
      refine zbu (.const (.slice none 0 0)) (.tmp 46) 27 (by rfl) 9 (.string ⟨#[]⟩) 1 16 za2 (fun _=>rfl) zdp underlying27 zdi rfl (by decide) (by decide) (w0:=wN) (v:=.slice none 0 0) (A:=[]) (B:=([]:List (List UInt8))) (by rfl) (OwnV.nil bD) (by rfl) (r_nil bD) (by first | omega | (simp; done) | (simp; omega)) ?_
      intro v1 w3 ho1 _ hz1;rw [List.nil_append] at ho1
      refine za5 hK ((ho1.2.cell (p:=⟨b,off + k,none⟩) zb).trans cx3) (fun hHeld=>?_)
      clear hK K;have bB:=(Below.refl w3.heap.size w3).alloc xnl (.cells #[zal x] 9)
      refine xrK 8 rfl fun K hK=>?_
      go_simp;skip
      refine za5 hK (((ho1.2.trans (bB.mono ho1.2.size)).cell (p:=⟨b,off + k,none⟩) zb).trans cx3) (fun hHeld=>?_)
      clear hK K;have ho2:=OwnV.below ho1 bB;have hg2:(w3.alloc (.cells #[zal x] 9)).heap[w3.heap.size]? = some (.cells #[zal x] 9 (0,0)):=zac rfl;clear ho1 bB hz1
     rotate_left 1
     focus
      go_simp;have bB:=bD.alloc xnl (.cells #[zal x] 9);have hg0:(wN.drew.alloc (.cells #[zal x] 9)).heap[wN.heap.size]? = some (.cells #[zal x] 9 (0,0)):=zac rfl
      refine za5 hK ((bB.cell (p:=⟨b,off + k,none⟩) zb).trans cx3) (fun hHeld=>?_)
      clear hK K
      refine xrK 3 rfl fun K hK=>?_
      refine zbu (.const (.slice none 0 0)) (.tmp 46) 27 (by rfl) 9 (.string ⟨#[]⟩) 1 16 za2 (fun _=>rfl) zdp underlying27 zdi rfl (by decide) (by decide) (w0:=wN) (v:=.slice none 0 0) (A:=[]) (B:=([]:List (List UInt8))) (by rfl) (OwnV.nil bB) (by rfl) (r_nil bB) (by first | omega | (simp; done) | (simp; omega)) ?_; intro v1 w3 ho2 hk2 hz2; rw [List.nil_append] at ho2
      refine za5 hK ((ho2.2.cell (p:=⟨b,off + k,none⟩) zb).trans cx3) (fun hHeld=>?_)
      clear hK K;have hg2:=hk2 _ _ (by simp [Value.ownBlock]) hg0;clear hg0 bB hk2 hz2
     all_goals
      have hr2:zco _ 1 (.slice (some ⟨_,0,none⟩) 1 1) [x].length ([x].flatMap za2):=zav hg2 rfl
      refine xrK 9 rfl fun K hK=>?_
      refine zbu (.tmp 47) (.tmp 52) 27 (by rfl) 9 (.string ⟨#[]⟩) 1 16 za2 (fun _=>rfl) zdp underlying27 zdi rfl (by decide) (by decide) (w0:=wN) (v:=v1) (A:=([]:List (List UInt8))) (B:=[x]) (by rfl) (ho2) (by rfl) (hr2) (by first | omega | (simp; done) | (simp; omega)) ?_; intro v2 w5 ho3 _ _
      refine zas hK (by decide) ?_;clear hK K
      refine xrK 13 rfl fun K hK=>?_
      refine zbu (.tmp 53) (.tmp 56) 27 (by rfl) 9 (.string ⟨#[]⟩) 1 16 za2 (fun _=>rfl) zdp underlying27 zdi rfl (by decide) (by decide) (w0:=wN) (v:=v2) (A:=([]:List (List UInt8)) ++ [x]) (B:=([]:List (List UInt8))) (by rfl) (ho3) (by rfl) (r_nil ho3.2) (by first | omega | (simp; done) | (simp; omega)) ?_; intro v3 w6 ho4 _ _
      refine zas hK (by decide) ?_;clear hK K;have HF:=zi5 (ho4.rebase HBN.out);clear ho4 ho3 ho2 hg2 hr2 bD
      refine xrK 14 rfl fun K hK=>?_
      go_simp;skip;refine zas hK (by decide) ?_;clear hK K;refine zap (by kernel_rfl) ?_ _;refine NoPanic.normal ?_;go_wp2_with fail
      go_roundw
      case rel=>exact ⟨k + 1,by omega,by go_num,by
       have e:=zht L k hlt;have hx':L[k] = x:=by rw [← HX.out,List.getD,List.getElem?_eq_getElem hlt]; rfl
       rw [e,HM.out,hx',(show insL x [] = List.take 0 [] ++ x :: List.drop 0 [] from rfl),List.append_cons]
       exact HF.out⟩
      case measure=>simp [intOf]; omega
   ·have hcm':co≤9223372036854775807:=by unfold maxLen at hcm; omega
    clear hcm;go_wp2_with fail
    go_loopw [5] (fun j wr=>∃ m:Nat,m≤M.length∧j = .int .i64 m∧Below wu.heap.size wu wr∧Hid (∀ q,q < m→M.getD q [] < x)) (fun j _=>M.length - (intOf j).toNat)
    case atStart=>exact ⟨0,by omega,rfl,Below.refl _ _,zi5 fun q hq=>by omega⟩
    case round =>
     obtain ⟨m,hm,rfl,hbi,hA⟩:=hrel;have HBI:=zi5 hbi;have zu:=HO.out.2.size;have cx2:=(hbi.cell (p:=⟨b,off + k,none⟩) (by show b < _; omega)).trans cx;by_cases hml2:m < M.length
     ·have hq2:decide ((m:Int) < M.length) = true:=by simp; omega
      have hcy:wu.cell? ⟨bo,0 + m,none⟩ = some (zal (M.getD m [])):=by
       obtain ⟨bo',oo',he,_,_,hco⟩:=zb9 HVM.out (by omega);cases he; exact hco m hml2
      have cy:=(hbi.cell (p:=⟨bo,0 + m,none⟩) hbo).trans hcy;rw [Nat.zero_add] at cy;obtain ⟨y,hy⟩:∃ y,M.getD m [] = y:=⟨_,rfl⟩;rw [hy] at cy;have HY:=zi5 hy;have hi2:(m:Int) < (M.length:Int):=by omega
      have hlt3:Op.bytesLess y x = decide (y < x):=bytesLess_eq y x;clear hcy hy hbi;by_cases hyx:y < x
      ·have hd:Op.bytesLess y x = true:=by rw [hlt3]; simpa using hyx
       have HYX:=zi5 hyx;clear hlt3 hyx;go_wp2_with fail
       go_quiet (fail)
       go_wp2_with fail
       go_roundw
       case rel=>exact ⟨m + 1,by omega,by go_num,below_drewN HBI.out _,zi5 fun q hq=>by
        by_cases e:q = m
        ·subst e; rw [HY.out]; exact HYX.out
        ·exact hA.out q (by omega)⟩
       case measure=>simp [intOf]; omega
      ·have hd:Op.bytesLess y x = false:=by rw [hlt3]; simpa using hyx
       have HYX:=zi5 hyx;clear hlt3 hyx;go_wp2_with fail
       go_quiet (fail)
       go_wp2_with fail
       by_cases hxy:y = x
       ·have hd2:(y == x) = true:=by simpa using hxy
        have HXY:=zi5 hxy;clear hxy;go_quiet (fail)
        go_wp2_with fail
        go_roundw
        case rel=>exact ⟨k + 1,by omega,by go_num,by
         have e:=zht L k hlt;have hx':L[k] = x:=by rw [← HX.out,List.getD,List.getElem?_eq_getElem hlt]; rfl
         rw [e,HM.out,hx',insL_dup m hml2 hA.out (by rw [HY.out,HXY.out])]
         exact ⟨zg5 HO.out.1 (below_drewN HBI.out _),HO.out.2.trans ((below_drewN HBI.out _).mono HO.out.2.size)⟩⟩
        case measure=>simp [intOf]; omega
       ·have hd2:(y == x) = false:=by simpa using hxy
        have HXY:=zi5 hxy;clear hxy;go_quiet (fail)
        go_wp2_with fail
        refine zao (fun wN hN=>?_)
        have HBu:=zi5 (show Below wu.heap.size wu wN by rw [hN]; first | exact below_drewN (below_drewN HBI.out _) _ | exact below_drewN HBI.out _ | exact below_drewN (below_drewN (below_drewN HBI.out _) _) _);have HBN:=zi5 (HO.out.2.trans (HBu.out.mono HO.out.2.size));have cx3:=(HBN.out.cell (p:=⟨b,off + k,none⟩) hb).trans CXH.out;have HVN:=zi5 (HVM.out.below HBu.out);have zb:b < wN.heap.size:=by have:=HBN.out.size; omega
        clear hN cx2 cx;have hmc:(m:Int)≤(co:Int):=by omega
        refine wp_region_noPanic ?_
        refine zat (by kernel_rfl) (fun w'=>w'.cell? ⟨b,off + k,none⟩ = some (zal x)) 9 ((by simpa using cx3)) (fun hHeld=>?_)
        refine t0 0 (h:=?_);refine t0 1 (h:=?_);refine t0 10 (h:=?_);refine t0 11 (h:=?_);refine tK 4 (h:=?_);refine tK 5 (h:=?_);refine tK 6 (h:=?_);refine tK 7 (h:=?_);refine t0 2 (h:=?_);refine t0 12 (h:=?_);have bD:Below wN.heap.size wN wN.drew:=(Below.refl _ _).drew;refine za8 (rs:=[3,8]) (by kernel_rfl) (by simp) ?_
        refine AllReadyK.cons rfl (fun K hK=>?_) (AllReadyK.cons rfl (fun K hK=>?_) AllReadyK.nil)
        focus
         refine zbu (.const (.slice none 0 0)) (.tmp 46) 27 (by rfl) 9 (.string ⟨#[]⟩) 1 16 za2 (fun _=>rfl) zdp underlying27 zdi rfl (by decide) (by decide) (w0:=wN) (v:=.slice none 0 0) (A:=[]) (B:=M.take m) (by rfl) (OwnV.nil bD) (by rfl) (r1_of hm HVN.out bD) (by first | omega | (simp; done) | (simp; omega)) ?_
         intro v1 w3 ho1 _ hz1;rw [List.nil_append] at ho1
         refine za5 hK ((ho1.2.cell (p:=⟨b,off + k,none⟩) zb).trans cx3) (fun hHeld=>?_)
         clear hK K;have bB:=(Below.refl w3.heap.size w3).alloc xnl (.cells #[zal x] 9)
         refine xrK 8 rfl fun K hK=>?_
         go_simp;skip
         refine za5 hK (((ho1.2.trans (bB.mono ho1.2.size)).cell (p:=⟨b,off + k,none⟩) zb).trans cx3) (fun hHeld=>?_)
         clear hK K;have ho2:=OwnV.below ho1 bB;have hg2:(w3.alloc (.cells #[zal x] 9)).heap[w3.heap.size]? = some (.cells #[zal x] 9 (0,0)):=zac rfl;clear ho1 bB hz1
        rotate_left 1
        focus
         go_simp;have bB:=bD.alloc xnl (.cells #[zal x] 9);have hg0:(wN.drew.alloc (.cells #[zal x] 9)).heap[wN.heap.size]? = some (.cells #[zal x] 9 (0,0)):=zac rfl
         refine za5 hK ((bB.cell (p:=⟨b,off + k,none⟩) zb).trans cx3) (fun hHeld=>?_)
         clear hK K
         refine xrK 3 rfl fun K hK=>?_
         refine zbu (.const (.slice none 0 0)) (.tmp 46) 27 (by rfl) 9 (.string ⟨#[]⟩) 1 16 za2 (fun _=>rfl) zdp underlying27 zdi rfl (by decide) (by decide) (w0:=wN) (v:=.slice none 0 0) (A:=[]) (B:=M.take m) (by rfl) (OwnV.nil bB) (by rfl) (r1_of hm HVN.out bB) (by first | omega | (simp; done) | (simp; omega)) ?_; intro v1 w3 ho2 hk2 hz2; rw [List.nil_append] at ho2
         refine za5 hK ((ho2.2.cell (p:=⟨b,off + k,none⟩) zb).trans cx3) (fun hHeld=>?_)
         clear hK K;have hg2:=hk2 _ _ (by simp [Value.ownBlock]) hg0;clear hg0 bB hk2 hz2
        all_goals
         have hr2:zco _ 1 (.slice (some ⟨_,0,none⟩) 1 1) [x].length ([x].flatMap za2):=zav hg2 rfl
         refine xrK 9 rfl fun K hK=>?_
         refine zbu (.tmp 47) (.tmp 52) 27 (by rfl) 9 (.string ⟨#[]⟩) 1 16 za2 (fun _=>rfl) zdp underlying27 zdi rfl (by decide) (by decide) (w0:=wN) (v:=v1) (A:=M.take m) (B:=[x]) (by rfl) (ho2) (by rfl) (hr2) (by first | omega | (simp; done) | (simp; omega)) ?_; intro v2 w5 ho3 _ _
         refine zas hK (by decide) ?_;clear hK K
         refine xrK 13 rfl fun K hK=>?_
         refine zbu (.tmp 53) (.tmp 56) 27 (by rfl) 9 (.string ⟨#[]⟩) 1 16 za2 (fun _=>rfl) zdp underlying27 zdi rfl (by decide) (by decide) (w0:=wN) (v:=v2) (A:=M.take m ++ [x]) (B:=M.drop m) (by rfl) (ho3) (by rfl) (r2_z hm HVN.out ho3.2) (by first | omega | (simp; done) | (simp; omega)) ?_; intro v3 w6 ho4 _ _
         refine zas hK (by decide) ?_;clear hK K;have HF:=zi5 (ho4.rebase HBN.out);clear ho4 ho3 ho2 hg2 hr2 bD
         refine xrK 14 rfl fun K hK=>?_
         go_simp;skip;refine zas hK (by decide) ?_;clear hK K;refine zap (by kernel_rfl) ?_ _;refine NoPanic.normal ?_;go_wp2_with fail
         go_roundw
         case rel=>exact ⟨k + 1,by omega,by go_num,by
          have e:=zht L k hlt;have hx':L[k] = x:=by rw [← HX.out,List.getD,List.getElem?_eq_getElem hlt]; rfl
          rw [e,HM.out,hx',(insL_at m hm hA.out fun _=>⟨by rw [HY.out]; exact HYX.out,by rw [HY.out]; exact HXY.out⟩),List.append_cons]
          exact HF.out⟩
         case measure=>simp [intOf]; omega
     ·have hq2:decide ((m:Int) < M.length) = false:=by simp; omega
      clear hbi;go_wp2_with fail
      go_quiet (fail)
      go_wp2_with fail
      go_quiet (fail)
      go_wp2_with fail
      refine zao (fun wN hN=>?_)
      have HBu:=zi5 (show Below wu.heap.size wu wN by rw [hN]; first | exact below_drewN (below_drewN HBI.out _) _ | exact below_drewN HBI.out _ | exact below_drewN (below_drewN (below_drewN HBI.out _) _) _);have HBN:=zi5 (HO.out.2.trans (HBu.out.mono HO.out.2.size));have cx3:=(HBN.out.cell (p:=⟨b,off + k,none⟩) hb).trans CXH.out;have HVN:=zi5 (HVM.out.below HBu.out);have zb:b < wN.heap.size:=by have:=HBN.out.size; omega
      clear hN cx2 cx;have hmc:(m:Int)≤(co:Int):=by omega
      refine wp_region_noPanic ?_
      refine zat (by kernel_rfl) (fun w'=>w'.cell? ⟨b,off + k,none⟩ = some (zal x)) 9 ((by simpa using cx3)) (fun hHeld=>?_)
      refine t0 0 (h:=?_);refine t0 1 (h:=?_);refine t0 10 (h:=?_);refine t0 11 (h:=?_);refine tK 4 (h:=?_);refine tK 5 (h:=?_);refine tK 6 (h:=?_);refine tK 7 (h:=?_);refine t0 2 (h:=?_);refine t0 12 (h:=?_);have bD:Below wN.heap.size wN wN.drew:=(Below.refl _ _).drew;refine za8 (rs:=[3,8]) (by kernel_rfl) (by simp) ?_
      refine AllReadyK.cons rfl (fun K hK=>?_) (AllReadyK.cons rfl (fun K hK=>?_) AllReadyK.nil)
      focus
       refine zbu (.const (.slice none 0 0)) (.tmp 46) 27 (by rfl) 9 (.string ⟨#[]⟩) 1 16 za2 (fun _=>rfl) zdp underlying27 zdi rfl (by decide) (by decide) (w0:=wN) (v:=.slice none 0 0) (A:=[]) (B:=M.take m) (by rfl) (OwnV.nil bD) (by rfl) (r1_of hm HVN.out bD) (by first | omega | (simp; done) | (simp; omega)) ?_
       intro v1 w3 ho1 _ hz1;rw [List.nil_append] at ho1
       refine za5 hK ((ho1.2.cell (p:=⟨b,off + k,none⟩) zb).trans cx3) (fun hHeld=>?_)
       clear hK K;have bB:=(Below.refl w3.heap.size w3).alloc xnl (.cells #[zal x] 9)
       refine xrK 8 rfl fun K hK=>?_
       go_simp;skip
       refine za5 hK (((ho1.2.trans (bB.mono ho1.2.size)).cell (p:=⟨b,off + k,none⟩) zb).trans cx3) (fun hHeld=>?_)
       clear hK K;have ho2:=OwnV.below ho1 bB;have hg2:(w3.alloc (.cells #[zal x] 9)).heap[w3.heap.size]? = some (.cells #[zal x] 9 (0,0)):=zac rfl;clear ho1 bB hz1
      rotate_left 1
      focus
       go_simp;have bB:=bD.alloc xnl (.cells #[zal x] 9);have hg0:(wN.drew.alloc (.cells #[zal x] 9)).heap[wN.heap.size]? = some (.cells #[zal x] 9 (0,0)):=zac rfl
       refine za5 hK ((bB.cell (p:=⟨b,off + k,none⟩) zb).trans cx3) (fun hHeld=>?_)
       clear hK K
       refine xrK 3 rfl fun K hK=>?_
       refine zbu (.const (.slice none 0 0)) (.tmp 46) 27 (by rfl) 9 (.string ⟨#[]⟩) 1 16 za2 (fun _=>rfl) zdp underlying27 zdi rfl (by decide) (by decide) (w0:=wN) (v:=.slice none 0 0) (A:=[]) (B:=M.take m) (by rfl) (OwnV.nil bB) (by rfl) (r1_of hm HVN.out bB) (by first | omega | (simp; done) | (simp; omega)) ?_; intro v1 w3 ho2 hk2 hz2; rw [List.nil_append] at ho2
       refine za5 hK ((ho2.2.cell (p:=⟨b,off + k,none⟩) zb).trans cx3) (fun hHeld=>?_)
       clear hK K;have hg2:=hk2 _ _ (by simp [Value.ownBlock]) hg0;clear hg0 bB hk2 hz2
      all_goals
       have hr2:zco _ 1 (.slice (some ⟨_,0,none⟩) 1 1) [x].length ([x].flatMap za2):=zav hg2 rfl
       refine xrK 9 rfl fun K hK=>?_
       refine zbu (.tmp 47) (.tmp 52) 27 (by rfl) 9 (.string ⟨#[]⟩) 1 16 za2 (fun _=>rfl) zdp underlying27 zdi rfl (by decide) (by decide) (w0:=wN) (v:=v1) (A:=M.take m) (B:=[x]) (by rfl) (ho2) (by rfl) (hr2) (by first | omega | (simp; done) | (simp; omega)) ?_; intro v2 w5 ho3 _ _
       refine zas hK (by decide) ?_;clear hK K
       refine xrK 13 rfl fun K hK=>?_
       refine zbu (.tmp 53) (.tmp 56) 27 (by rfl) 9 (.string ⟨#[]⟩) 1 16 za2 (fun _=>rfl) zdp underlying27 zdi rfl (by decide) (by decide) (w0:=wN) (v:=v2) (A:=M.take m ++ [x]) (B:=M.drop m) (by rfl) (ho3) (by rfl) (r2_z hm HVN.out ho3.2) (by first | omega | (simp; done) | (simp; omega)) ?_; intro v3 w6 ho4 _ _
       refine zas hK (by decide) ?_;clear hK K;have HF:=zi5 (ho4.rebase HBN.out);clear ho4 ho3 ho2 hg2 hr2 bD
       refine xrK 14 rfl fun K hK=>?_
       go_simp;skip;refine zas hK (by decide) ?_;clear hK K;refine zap (by kernel_rfl) ?_ _;refine NoPanic.normal ?_;go_wp2_with fail
       go_roundw
       case rel=>exact ⟨k + 1,by omega,by go_num,by
        have e:=zht L k hlt;have hx':L[k] = x:=by rw [← HX.out,List.getD,List.getElem?_eq_getElem hlt]; rfl
        rw [e,HM.out,hx',(insL_at m hm hA.out fun h=>absurd h hml2),List.append_cons]
        exact HF.out⟩
       case measure=>simp [intOf]; omega
  ·have hq:decide ((k:Int) < L.length) = false:=by simp; omega
   rw [List.take_of_length_le (by omega)] at HM;go_wp2_with fail
   go_ret;exact ⟨_,rfl,by rw [HM.out]; exact HO.out⟩
end
section
open Go.RowKit
attribute [local go_sem] zah zaj zar
theorem rgrams_any (s:ByteArray) (w:World) (hs:s.size≤64) :
  Calls prog 130 #[.string s] w fun e w'=>∃ v,e = .returned v∧OwnAt w v (ze0 s.data.toList) w':=by
 have hl:s.data.toList.length = s.size:=by simp
 obtain ⟨hT1,hT2⟩:=toks_len s.data.toList (by omega);have hc:=zgf s w (by omega);obtain ⟨T,hT⟩:∃ T,zcl s.data.toList = T:=⟨_,rfl⟩;have hG:ze0 s.data.toList = setL (zbh T):=by unfold ze0; rw [hT]
 rw [hT] at hT1 hT2 hc;rw [hG];have HC:=zi5 hc; have HT2:=zi5 hT2;have d1:decide ((64:Int) < s.size) = false:=by simp; omega
 clear hl hc hT hG hT2;go_enter func130,ntmps130
 go_wp2_with fail
 refine HC.out.mono ?_;rintro e w1 ⟨vt,rfl,ho⟩;have HTV:=zi5 (OwnV.vec (enc:=za2) (fun _=>rfl) ho).any
 have HB1:=zi5 ho.2;obtain ⟨at',ct,rfl⟩:=HTV.out.slice;clear ho HC d1;go_wp2_with fail
 go_loopw [3,5] (fun v i wr=>∃ k:Nat,k≤T.length∧i = .int .i64 k∧OwnAt w1 v (zbh (T.take k)) wr) (fun _ i _=>T.length - (intOf i).toNat)
 case atStart=>exact ⟨0,by omega,rfl,OwnAt.start w1⟩
 case round =>
  obtain ⟨k,hk,rfl,ho⟩:=hrel;have HO:=zi5 ho; clear ho;by_cases hlt:k < T.length
  ·have hq:decide ((k:Int) < T.length) = true:=by simp; omega
   have hi0:(k:Int) < (T.length:Int):=by omega
   have hgl:=zeu (T.take k) (fun t ht=>HT2.out t (List.mem_of_mem_take ht))
   have htl:=List.length_take_le k T;have hx1:(T.getD k []).length≤64:=by rw [List.getD,List.getElem?_eq_getElem hlt]; exact HT2.out _ (List.getElem_mem hlt)
   obtain ⟨bt,ot,rfl,_,hbt,hct⟩:=zb9 HTV.out (by omega);have c1:=(HO.out.2.cell (p:=⟨bt,ot + k,none⟩) hbt).trans (hct k hlt);have HG:=zi5 (ziw T k hlt);obtain ⟨t,ht⟩:∃ t,T.getD k [] = t:=⟨_,rfl⟩;rw [ht] at c1 hx1 HG;clear ht hct;obtain ⟨wo,rfl⟩:∃ wo:World,wo = wr:=⟨_,rfl⟩;go_wp2_with fail
   go_loopw [3,7] (fun v i wr=>∃ j:Nat,j≤1 + t.length∧i = .int .i64 j∧OwnAt w1 v (zbh (T.take k) ++ (bigrA (zdq t)).take j) wr) (fun _ i _=>1 + t.length - (intOf i).toNat)
   case atStart=>exact ⟨0,by omega,rfl,by simpa using HO.out⟩
   case round =>
    obtain ⟨j,hj,rfl,ho2⟩:=hrel;have HO2:=zi5 ho2; clear ho2;have hwl:(zdq t).length = t.length + 2:=by simp [zdq]
    by_cases hlj:j < 1 + t.length
    ·have hq2:decide ((j:Int) < 1 + t.length) = true:=by simp; omega
     have hq3:decide ((j:Int) + 2≤t.length + 1 + 1) = true:=by simp; omega
     have hext:=take_two (zdq t) j (by omega);have hbg:=bigr_getD (zdq t) j (by omega);have hbl:j < (bigrA (zdq t)).length:=by rw [zhw]; omega
     have htk:=zfa (bigrA (zdq t)) j hbl;rw [show (default:List UInt8) = [] from rfl,hbg] at htk;obtain ⟨z,hz⟩:∃ z,[(zdq t).getD j 0,(zdq t).getD (j + 1) 0] = z:=⟨_,rfl⟩;rw [hz] at hext htk;rw [wrapT_cons] at hext;have HTK:=zi5 htk
     have hln:(zbh (T.take k) ++ (bigrA (zdq t)).take j).length < 1099511627776:=by
      have:=List.length_take_le j (bigrA (zdq t));simp only [List.length_append]; omega
     have hone:∀ u∈(#[zal z]:Array Value).toList,u.oneCell' = true:=by intro u hu; simp at hu; subst hu; rfl
     clear hbg hbl htk hz hwl;go_wp2_with (at_builtin; refine zbf rfl _ _ 27 rfl w1.heap.size 9 1 16 (.string ⟨#[]⟩) underlying27 zdi rfl (by decide) (by decide) _ _ _ rfl HO2.out.1 #[zal z] 1 rfl rfl hone hln HO2.out.2.size ?_; intro v2 w8 ho8 hw8)
     go_roundw
     case rel=>exact ⟨j + 1,by omega,by go_num,by rw [HTK.out,← List.append_assoc]; exact ⟨by rw [List.length_append,zdm]; exact ho8,hw8 _ HO2.out.2⟩⟩
     case measure=>simp [intOf]; omega
    ·have hq2:decide ((j:Int) < 1 + t.length) = false:=by simp; omega
     have hq3:decide ((j:Int) + 2≤t.length + 1 + 1) = false:=by simp; omega
     rw [show (bigrA (zdq t)).take j = bigrA (zdq t) from List.take_of_length_le (by rw [zhw]; omega),← HG.out] at HO2;go_wp2_with fail
     go_roundw
     case rel=>exact ⟨k + 1,by omega,by go_num,HO2.out⟩
     case measure=>simp [intOf]; omega
  ·have hq:decide ((k:Int) < T.length) = false:=by simp; omega
   rw [List.take_of_length_le (by omega)] at HO;have hgl:=zeu T HT2.out;have HV:=zi5 (Vec.owns (S:=zaw) (k:=1) (enc:=za2) (fun _=>rfl) HO.out.1 (fun _ _ _=>trivial))
   go_wp2_with fail
   refine (rset_any zaw _ (zbh T) _ HV.out (by omega)).mono ?_;rw [foldI_set];rintro e w3 ⟨v3,rfl,ho3⟩;have HB3:=zi5 (HB1.out.trans (HO.out.2.mono HB1.out.size));have HO3:=zi5 (OwnV.rebase ho3 HB3.out);clear ho3;go_wp2_with fail
   go_ret;exact ⟨v3,rfl,HO3.out⟩
theorem set_ascB {L:List (List UInt8)} (h:AscB L):setL L = L:=by
 have hp:L.Pairwise (· < ·):=by
  rw [List.pairwise_iff_getElem];intro i j hi hj hij
  have key:∀ d,∀ i,(hi:i + d + 1 < L.length)→L[i] < L[i + d + 1]:=by
   intro d;induction d with
   | zero =>
    intro i hi;have:=h i (by omega);rw [bytesLess_eq,decide_eq_true_iff,List.getD,List.getD,List.getElem?_eq_getElem (by omega),List.getElem?_eq_getElem (by omega)] at this;exact this
   | succ d ih =>
    intro i hi;have h1:=ih i (by omega);have h2:=h (i + d + 1) (by omega);rw [bytesLess_eq,decide_eq_true_iff,List.getD,List.getD,List.getElem?_eq_getElem (by omega),List.getElem?_eq_getElem (by omega)] at h2;exact List.lt_trans h1 h2
  have:=key (j - i - 1) i (by omega);simpa [show i + (j - i - 1) + 1 = j by omega] using this
 have hn:L.Nodup:=hp.imp fun {a b} h e=>by subst e; exact List.lt_irrefl a h
 have hs:L.mergeSort leB = L:=List.mergeSort_of_pairwise (hp.imp fun {a b} h=>by simpa [leB] using List.le_of_lt h)
 rw [← set_of_perm hn fun z=>Iff.rfl,hs]
theorem rpositional_any (s:ByteArray) (w:World) (hs:s.size≤26) :
  Calls prog 129 #[.string s] w fun e w'=>∃ v,e = .returned v∧OwnAt w v (posL 0 s.data.toList) w':=by
 have hl:s.data.toList.length = s.size:=by simp
 have HL:=zi5 hl; clear hl;have d1:decide ((26:Int) < s.size) = false:=by simp; omega
 go_enter func129,ntmps129
 go_wp2_with fail
 clear d1;go_loopw [3,4] (fun v i wr=>∃ k:Nat,k≤s.size∧i = .int .i64 k∧OwnAt w v (posL 0 (s.data.toList.take k)) wr) (fun _ i _=>s.size - (intOf i).toNat)
 case atStart=>exact ⟨0,by omega,rfl,OwnAt.start w⟩
 case round =>
  obtain ⟨k,hk,rfl,ho⟩:=hrel;have HO:=zi5 ho; clear ho;by_cases hlt:k < s.size
  ·have hq:decide ((k:Int) < s.size) = true:=by simp; omega
   have ht:=zem s k hlt;have hsn:=posL_snoc (s.data.toList.take k) s[k] 0;have htl:(s.data.toList.take k).length = k:=by rw [List.length_take,HL.out]; omega
   rw [htl,Nat.zero_add] at hsn;have HT:=zi5 ht; have HSn:=zi5 hsn;have hpl:(posL 0 (s.data.toList.take k)).length < 1099511627776:=by rw [zik,htl]; omega
   have hbz:=HO.out.2.size;have ha:((UInt8.ofNat (97 + k)).toNat:Int) = 97 + (k:Int):=by rw [UInt8.toNat_ofNat']; omega
   have hcv:=two_bytes wr (UInt8.ofNat (97 + k)) s[k];rw [ha] at hcv;obtain ⟨z,hz⟩:∃ z,[UInt8.ofNat (97 + k),s[k]] = z:=⟨_,rfl⟩;rw [hz] at hcv;have HZ:=zi5 hz;have hone:∀ u∈(#[zal z]:Array Value).toList,u.oneCell' = true:=by intro u hu; simp at hu; subst hu; rfl
   have HO2:=zi5 (HO.out.below (w':=wr.alloc (.cells #[.int .u8 (97 + (k:Int)),.int .u8 s[k].toNat] 5)) ((Below.refl _ _).alloc xnl _));have HK1:=zi5 (show wr.heap.size + 1 = (wr.alloc (.cells #[.int .u8 (97 + (k:Int)),.int .u8 s[k].toNat] 5)).heap.size by simp);clear ht hsn htl ha hz;go_wp2_with (at_builtin; refine zfn rfl _ _ 27 rfl w.heap.size 9 1 16 (.string ⟨#[]⟩) underlying27 zdi rfl (by decide) (by decide) _ _ _ rfl HO2.out.1 (wr.heap.size + 1) HK1.out #[zal z] 1 rfl rfl hone hpl HO2.out.2.size ?_; intro v2 w8 ho8 hw8)
   go_roundw
   case rel=>exact ⟨k + 1,by omega,by go_num,by rw [HT.out,HSn.out]; exact ⟨by rw [List.length_append,zdm,HZ.out]; exact ho8,hw8 _ HO2.out.2⟩⟩
   case measure=>simp [intOf]; omega
  ·have hq:decide ((k:Int) < s.size) = false:=by simp; omega
   rw [List.take_of_length_le (by rw [HL.out]; omega)] at HO;have hasc:=zi5 (set_ascB (pos_asc s.data.toList 0 (by rw [HL.out]; omega)));have hpl:(posL 0 s.data.toList).length≤1000000:=by rw [zik,HL.out]; omega
   have HV:=zi5 (Vec.owns (S:=zaw) (k:=1) (enc:=za2) (fun _=>rfl) HO.out.1 (fun _ _ _=>trivial))
   go_wp2_with fail
   refine (rset_any zaw _ (posL 0 s.data.toList) _ HV.out hpl).mono ?_;rw [foldI_set,hasc.out];rintro e w3 ⟨v3,rfl,ho3⟩;have HO3:=zi5 (OwnV.rebase ho3 HO.out.2);clear ho3;go_wp2_with fail
   go_ret;exact ⟨v3,rfl,HO3.out⟩
end
section
open Go.RowKit Cal
attribute [local go_sem] zah zaj zaq
theorem rsgrams_any (S:Nat→Prop) (vf vt vn vs:Value) (s:SchemaL) (f:Int) (x:List UInt8) (w:World) (h:SchemaAt w S vf vt vn vs s) (hx:x.length≤1000000) (p:List (List UInt8) × Int) (hp:p = zfh s f x) :
  Calls prog 65 #[.agg #[vf,vt,vn,vs],.int .i64 f,zal x] w (GramsIs p w):=by
 have HS:=zi5 h.any;obtain ⟨af,cf,rfl⟩:=h.1.slice;have HV1:=zi5 h.1.any;have hfn:zbt s f = if zax s = 0 then (if 0≤f∧f < s.fields.length then ((s.fields.getD f.toNat default).2,0) else (0,2)) else (0,zax s):=rfl
 have hval:zfh s f x = if (zbt s f).2 = 0 then (if zau s f x = true then (zfq (zbt s f).1 x,0) else ([],7)) else ([],(zbt s f).2):=rfl
 have hown:(zbt s f).2 = 0→x≠[]→zau s f x = ownK (zbt s f).1 s.rules x:=fun h0 h1=>by unfold zau; rw [if_pos h0,if_neg h1]
 have hnil:(zbt s f).2 = 0→x = []→zau s f x = true:=fun h0 h1=>by unfold zau; rw [if_pos h0,if_pos h1]
 have hkk:=zdz (s:=s) (f:=f);have hcf:=fun h=>(zcf (s:=s) h).1
 have K:=zds zaw (.slice af s.fields.length cf) vt vn vs s (w.alloc (.cells #[.slice af s.fields.length cf,vt,vn,vs] 44)) (HS.out.below ((Below.refl _ _).alloc xnl _));obtain ⟨c,hc⟩:∃ c,zax s = c:=⟨_,rfl⟩;rw [hc] at K hfn hcf;have HK:=zi5 K;clear K h;by_cases he:c = 0
 ·subst he
  have hlen:=(hcf rfl).2;clear hcf;rw [if_pos rfl] at hfn;by_cases hr:0≤f∧f < s.fields.length
  ·rw [if_pos hr] at hfn
   obtain ⟨r1,r2⟩:=hr;obtain ⟨k,rfl⟩:=Int.eq_ofNat_of_zero_le r1;rw [Int.toNat_natCast] at hfn;have hk:k < s.fields.length:=by omega
   obtain ⟨b,off,rfl,_,hb,hcell⟩:=zcm HV1.out (by omega);obtain ⟨y,hy⟩:∃ y,s.fields.getD k default = y:=⟨_,rfl⟩;have hck:=hcell k hk;rw [hy] at hck hfn;obtain ⟨nm,kd⟩:=y;have C1:=zi5 (show w.cell? ⟨b,off + k * 2 + 1,none⟩ = some (.int .i64 kd) from hck 1 _ rfl);rw [hfn] at hval hkk hown hnil;dsimp only at hval hkk hown hnil;have hkd:=hkk rfl;rw [if_pos rfl] at hval;have t1:decide ((k:Int) < 0) = false:=by simp
   have t2:decide ((s.fields.length:Int)≤k) = false:=by simp; omega
   have t3:(k:Int) < (s.fields.length:Int):=by omega
   have N0:=rsnormal_any zaw (.slice (some ⟨b,off,none⟩) s.fields.length cf) vt vn vs s (k:Int) ⟨x.toArray⟩;rw [show (⟨x.toArray⟩:ByteArray).data.toList = x by simp] at N0;obtain ⟨nb,hnb⟩:∃ nb,zau s (k:Int) x = nb:=⟨_,rfl⟩;rw [hnb] at N0 hval hown hnil;have HN:=zi5 N0;have HP:=zi5 (hp.trans hval);have HKD:=zi5 hkd;have HOwn:=zi5 (hown rfl);have HNil:=zi5 (hnil rfl);clear hck hcell hfn hkk hval hy r1 r2 N0 hp hnb hkd hown hnil;go_enter func65,ntmps65
   go_wp2_with fail
   refine HK.out.mono ?_;rintro e w1 ⟨rfl,hb1⟩;have HB1:=zi5 (xbt hb1);have HX1:=zi5 (xbn hb1);clear hb1 HK;have z0:=zaa HX1.out;obtain ⟨p0,p1,p2,p3⟩:=zbz HX1.out;go_wp2_with fail
   refine (HN.out _ (HS.out.below HB1.out) (by rw [zaj]; omega)).mono ?_;rintro e w2 ⟨rfl,hb2⟩;have HB2:=zi5 (HB1.out.trans (hb2.mono HB1.out.size));have HX2:=zi5 (zab hb2 z0 HX1.out);clear hb2 p0 p1 p2 p3 HX1 HB1 z0;have z0:=zaa HX2.out;obtain ⟨p0,p1,p2,p3⟩:=zbz HX2.out;cases nb
   ·have HE:=zi5 (show p = ([],7) by rw [HP.out,if_neg (by simp)])
    go_wp2_with fail
    go_ret2;exact ⟨_,by rw [HE.out]; rfl,by rw [HE.out]; exact Vec.nil _ _ _ _,HB2.out⟩
   ·have HG:=zi5 (show p = (zfq kd x,0) by rw [HP.out,if_pos rfl])
    by_cases hx0:x = []
    ·have HE:=zi5 (show p = ([],0) by rw [HG.out]; unfold zfq; rw [if_pos hx0])
     subst hx0;go_wp2_with fail
     go_ret2;exact ⟨_,by rw [HE.out]; rfl,by rw [HE.out]; exact Vec.nil _ _ _ _,HB2.out⟩
    ·have q1:(x == []) = false:=by simpa using hx0
     have q2:x.isEmpty = false:=by simpa using hx0
     obtain ⟨f1,f2,f3⟩:=zio (HOwn.out hx0).symm HKD.out;have HGK:=zi5 (show zfq kd x = if kd = 2 then posL 0 x else if kd = 3 then [61 :: x] else ze0 x by unfold zfq; rw [if_neg hx0]);have c1:w2.cell? ⟨b,off + k * 2 + 1,none⟩ = some (.int .i64 kd):=(HB2.out.cell (p:=⟨b,off + k * 2 + 1,none⟩) hb).trans C1.out;have zb:b < w2.heap.size:=Nat.lt_of_lt_of_le hb HB2.out.size;have hkd:=HKD.out;have F3:=zi5 f3;clear f2 f3 hx0
     rcases hkd with rfl | rfl | rfl | rfl
     ·have HE:=zi5 (show p = (ze0 x,0) by rw [HG.out,HGK.out]; rfl)
      go_wp2_with fail
      refine (rgrams_any ⟨x.toArray⟩ _ (by rw [zaj]; omega)).mono ?_;rw [show (⟨x.toArray⟩:ByteArray).data.toList = x by simp];rintro e w3 ⟨v,rfl,ho⟩;have HB3:=zi5 (HB2.out.trans (ho.2.mono HB2.out.size));have HV3:=zi5 (OwnV.vec (enc:=za2) (fun _=>rfl) ho).any
      clear ho p0 p1 p2 p3 c1;go_wp2_with fail
      go_ret2;exact ⟨v,by rw [HE.out]; rfl,by rw [HE.out]; exact HV3.out,HB3.out⟩
     ·have HE:=zi5 (show p = (posL 0 x,0) by rw [HG.out,HGK.out]; rfl)
      go_wp2_with fail
      refine (rpositional_any ⟨x.toArray⟩ _ (by rw [zaj]; have:=F3.out (by first | rfl | trivial); omega)).mono ?_;rw [show (⟨x.toArray⟩:ByteArray).data.toList = x by simp];rintro e w3 ⟨v,rfl,ho⟩;have HB3:=zi5 (HB2.out.trans (ho.2.mono HB2.out.size));have HV3:=zi5 (OwnV.vec (enc:=za2) (fun _=>rfl) ho).any
      clear ho p0 p1 p2 p3 c1;go_wp2_with fail
      go_ret2;exact ⟨v,by rw [HE.out]; rfl,by rw [HE.out]; exact HV3.out,HB3.out⟩
     ·have HE:=zi5 (show p = ([61 :: x],0) by rw [HG.out,HGK.out]; rfl)
      go_wp2_with fail
      go_ret2;exact ⟨_,by rw [HE.out]; rfl,by rw [HE.out]; exact vec_block (L:=[61 :: x]) (zac rfl) 1 rfl,HB2.out.alloc HB2.out.size _⟩
     ·have HE:=zi5 (show p = (ze0 x,0) by rw [HG.out,HGK.out]; rfl)
      go_wp2_with fail
      refine (rgrams_any ⟨x.toArray⟩ _ (by rw [zaj]; omega)).mono ?_;rw [show (⟨x.toArray⟩:ByteArray).data.toList = x by simp];rintro e w3 ⟨v,rfl,ho⟩;have HB3:=zi5 (HB2.out.trans (ho.2.mono HB2.out.size));have HV3:=zi5 (OwnV.vec (enc:=za2) (fun _=>rfl) ho).any
      clear ho p0 p1 p2 p3 c1;go_wp2_with fail
      go_ret2;exact ⟨v,by rw [HE.out]; rfl,by rw [HE.out]; exact HV3.out,HB3.out⟩
  ·have HE:=zi5 (show p = ([],2) by rw [hp,hval,hfn,if_neg hr]; rfl)
   have hr':f < 0∨(0≤f∧(s.fields.length:Int)≤f):=by omega
   clear hfn hval hkk hown hnil hp hr
   rcases hr' with hf | ⟨hf0,hf⟩
   all_goals
    go_enter func65,ntmps65
    go_wp2_with fail
    refine HK.out.mono ?_;rintro e w1 ⟨rfl,hb1⟩;have HB1:=zi5 (xbt hb1);have HX1:=zi5 (xbn hb1);clear hb1 HK;have z0:=zaa HX1.out;obtain ⟨p0,p1,p2,p3⟩:=zbz HX1.out;go_wp2_with fail
    go_ret2;exact ⟨_,by rw [HE.out]; rfl,by rw [HE.out]; exact Vec.nil _ _ _ _,HB1.out⟩
 ·have HE:=zi5 (show p = ([],c) by rw [hp,hval,hfn,if_neg he]; dsimp only; rw [if_neg he])
  have q1:(c != 0) = true:=by simpa using he
  clear hfn hval hkk hown hnil hp hcf he;go_enter func65,ntmps65
  go_wp2_with fail
  refine HK.out.mono ?_;rintro e w1 ⟨rfl,hb1⟩;have HB1:=zi5 (xbt hb1);clear hb1 HK;go_wp2_with fail
  go_ret2;exact ⟨_,by rw [HE.out]; rfl,by rw [HE.out]; exact Vec.nil _ _ _ _,HB1.out⟩
end
section
open Go.RowKit Cal
attribute [local go_sem] zah zaj
structure RcAt (b:Nat) (vf vt vn vs id ver sv:Value) (w:World):Prop where
 s:w.heap[b]? = some (.cells #[vf,vt,vn,vs] 44 (0,0))
 r:w.heap[b + 1]? = some (.cells #[id,ver,sv] 29 (0,0))
theorem RcAt.below {b:Nat} {vf vt vn vs id ver sv:Value} {w w':World} (h:RcAt b vf vt vn vs id ver sv w) (hb:Below w.heap.size w w'):RcAt b vf vt vn vs id ver sv w' :=
 ⟨zab hb (zaa h.s) h.s,zab hb (zaa h.r) h.r⟩
theorem checkI_no {s:SchemaL} {r:RecL} (h:¬ (1≤r.id∧r.id≤1048576∧1≤r.ver∧r.ver≤1048576∧r.vals.length = s.fields.length)):zd0 s r = 7:=by
 unfold zd0 zbo;rw [if_neg];simp only [Bool.and_eq_true,decide_eq_true_eq,beq_iff_eq];intro hh;exact h ⟨hh.1.1.1.1.1,hh.1.1.1.1.2,hh.1.1.1.2,hh.1.1.2,hh.1.2⟩
theorem checkI_norm {s:SchemaL} {r:RecL} (h:1≤r.id∧r.id≤1048576∧1≤r.ver∧r.ver≤1048576∧r.vals.length = s.fields.length):zd0 s r = if zex s 0 r.vals = true then 0 else 7:=by
 unfold zd0 zbo;simp [h]
theorem normA_no {s:SchemaL} {L:List (List UInt8)} {k:Nat} (hk:k < L.length) (h:zau s k L[k] = false):zex s 0 L = false:=by
 cases hh:zex s 0 L with
 | false=>rfl
 | true =>
  have:=ziq s L 0 hh k hk;rw [Nat.zero_add,show L.getD k [] = L[k] by simp [List.getD,hk],h] at this;cases this
theorem zh1 (S T:Nat→Prop) (vf vt vn vs:Value) (s:SchemaL) (r:RecL) (sv:Value) (w:World) (h:SchemaAt w S vf vt vn vs s) (hv:Vec w T 1 za2 sv r.vals) (hs:∀ x∈r.vals,x.length≤1000000) (hn:r.vals.length≤1000000) :
  Calls prog 64 #[.agg #[vf,vt,vn,vs],.agg #[.int .i64 r.id,.int .i64 r.ver,sv]] w fun e w'=>e = .returned (.int .i64 (zb7 s r))∧Below w.heap.size w w':=by
 obtain ⟨c,hc⟩:∃ c,zb7 s r = c:=⟨_,rfl⟩;obtain ⟨d,hd⟩:∃ d,zax s = d:=⟨_,rfl⟩;have hval:=hc;unfold zb7 at hval;rw [hd] at hval;rw [hc];obtain ⟨af,cf,rfl⟩:=h.1.slice;obtain ⟨a,cap,rfl⟩:=hv.slice;obtain ⟨id,ver,vals⟩:=r;dsimp only at hv hs hn ⊢;have HV:=zi5 hv.any; have HS:=zi5 h.any; have HVal:=zi5 hval; have HD:=zi5 hd; have HSh:=zi5 hs;clear hv h hval hc hd hs;go_enter func64,ntmps64
 go_wp2_with fail
 refine zae (fun W hW=>?_)
 have hb0:=xam hW
 have k0:RcAt w.heap.size (.slice af s.fields.length cf) vt vn vs (.int .i64 id) (.int .i64 ver) (.slice a vals.length cap) W:=by rw [hW]; exact ⟨zaf (zac rfl),zac (by simp)⟩
 clear hW;refine (zds zaw _ _ _ _ s _ (HS.out.below hb0)).mono ?_;rw [HD.out];rintro e w1 ⟨rfl,hb⟩;have K1:=zi5 (k0.below hb); have HB1:=zi5 (hb0.trans (hb.mono hb0.size));clear hb hb0 k0;obtain ⟨s0,s1,s2,s3⟩:=zan K1.out.s; obtain ⟨r0,r1,r2⟩:=zai K1.out.r;have ls:=zaa K1.out.s; have lr:=zaa K1.out.r;by_cases h0:d = 0
 ·subst h0
  have HV2:=HVal.out;rw [if_pos rfl] at HV2;have HI:=zi5 HV2;have dz:((0:Int) != 0) = false:=rfl;clear HV2 HVal;by_cases hin:1≤id∧id≤1048576∧1≤ver∧ver≤1048576∧vals.length = s.fields.length
  ·have hck:=checkI_norm (r:=⟨id,ver,vals⟩) hin
   rw [HI.out] at hck;have HCk:=zi5 hck;obtain ⟨i1,i2,i3,i4,i5⟩:=hin;have e1:decide (id < (1:Int)) = false:=by simp; omega
   have e2:decide ((1048576:Int) < id) = false:=by simp; omega
   have e3:decide (ver < (1:Int)) = false:=by simp; omega
   have e4:decide ((1048576:Int) < ver) = false:=by simp; omega
   have e5:((vals.length:Int) != (s.fields.length:Int)) = false:=by rw [i5]; simp
   clear i1 i2 i3 i4 i5 hck;go_wp2_with fail
   clear s0 s1 s2 s3 r0 r1 r2 e1 e2 e3 e4 e5;go_loopw [6] (fun t wr=>∃ k:Nat,k≤vals.length∧t = .int .i64 k∧Hid (∀ j (hj:j < k) (hl:j < vals.length),zau s j vals[j] = true)∧Below w1.heap.size w1 wr) (fun t _=>vals.length - (intOf t).toNat)
   case atStart=>exact ⟨0,by omega,rfl,zi5 fun j hj=>by omega,Below.refl _ _⟩
   case round =>
    obtain ⟨k,hk,rfl,HN,hbw⟩:=hrel;have Kw:=zi5 (K1.out.below hbw); have HBw:=zi5 (HB1.out.trans (hbw.mono HB1.out.size)); have Hbw:=zi5 hbw;clear hbw;obtain ⟨s0,s1,s2,s3⟩:=zan Kw.out.s; obtain ⟨r0,r1,r2⟩:=zai Kw.out.r;have ls:=zaa Kw.out.s; have lr:=zaa Kw.out.r;by_cases hlt:k < vals.length
    ·have hq:decide ((k:Int) < vals.length) = true:=by simp; omega
     have hki:(k:Int) < (vals.length:Int):=by omega
     obtain ⟨u,hu⟩:∃ u,vals[k] = u:=⟨_,rfl⟩;have hul:u.length≤1000000:=HSh.out u (by rw [← hu]; exact List.getElem_mem _);obtain ⟨b,off,rfl,hb,hcc⟩:=(HV.out.below HBw.out).get k hlt;have d0:=hcc 0 _ rfl;rw [Nat.mul_one,Nat.add_zero,hu] at d0;have lb:b < wr.heap.size:=hb;have HU:=zi5 hu;obtain ⟨nb,hnb⟩:∃ nb,zau s k u = nb:=⟨_,rfl⟩;have HNb:=zi5 hnb;have bD:Below wr.heap.size wr wr.drew:=(Below.refl _ _).drew;clear hcc hu hnb hb;go_wp2_with fail
     refine wp_region_noPanic ?_
     refine wp_region_held_drew (S:=(fun w'=>w'.cell? ⟨w.heap.size,0,none⟩ = some (.slice af s.fields.length cf)∧w'.cell? ⟨w.heap.size,1,none⟩ = some vt∧w'.cell? ⟨w.heap.size,2,none⟩ = some vn∧w'.cell? ⟨w.heap.size,3,none⟩ = some vs∧w'.cell? ⟨w.heap.size + 1,2,none⟩ = some (.slice (some ⟨b,off,none⟩) vals.length cap)∧w'.cell? ⟨b,off + k,none⟩ = some (zal u))) (by kernel_rfl) (⟨s0,s1,s2,s3,r2,d0⟩) (fun hHeld=>?_)
     refine tH 0 (h:=?_);refine tH 1 (h:=?_);refine tH 2 (h:=?_);refine tH 3 (h:=?_);refine tH 4 (h:=?_);refine tH 5 (h:=?_);refine tH 6 (h:=?_);refine wpAnyH_ready (rs:=[7]) (by kernel_rfl) (by simp) ?_
     refine AllReadyH.cons rfl (fun K hK=>?_) AllReadyH.nil
     go_simp;refine (rsnormal_any zaw _ vt vn vs s k ⟨u.toArray⟩ _ ((HS.out.below HBw.out).below bD) (by rw [zaj]; omega)).mono ?_; rw [show (⟨u.toArray⟩:ByteArray).data.toList = u by simp,HNb.out]; rintro e w2 ⟨rfl,hb2⟩; have b2:=bD.trans (hb2.mono bD.size); clear hb2
     refine hK.out _ _ (⟨(b2.cell (p:=⟨w.heap.size,0,none⟩) ls).trans s0,(b2.cell (p:=⟨w.heap.size,1,none⟩) ls).trans s1,(b2.cell (p:=⟨w.heap.size,2,none⟩) ls).trans s2,(b2.cell (p:=⟨w.heap.size,3,none⟩) ls).trans s3,(b2.cell (p:=⟨w.heap.size + 1,2,none⟩) lr).trans r2,(b2.cell (p:=⟨b,off + k,none⟩) lb).trans d0⟩) (fun hHeld=>?_)
     clear hK K;refine tH 8 (h:=?_);refine wpAnyH_done (by kernel_rfl) ?_ _;refine NoPanic.normal ?_;have HB2:=zi5 (Hbw.out.trans (b2.mono Hbw.out.size));have HBf:=zi5 (HBw.out.trans (b2.mono HBw.out.size));clear hHeld s0 s1 s2 s3 r0 r1 r2 d0 b2;cases nb with
     | true =>
      go_wp2_with fail
      go_roundw
      case rel =>
       refine ⟨k + 1,by omega,by go_num,zi5 fun j hj hl=>?_,HB2.out⟩
       by_cases hjk:j = k
       ·subst hjk; rw [HU.out]; exact HNb.out
       ·exact HN.out j (by omega) hl
      case measure=>simp [intOf]; omega
     | false =>
      have hc7:c = 7:=by rw [HCk.out,normA_no hlt (by rw [HU.out]; exact HNb.out)]; rfl
      subst hc7;go_wp2_with fail
      go_ret;exact ⟨rfl,HBf.out⟩
    ·have hq:decide ((k:Int) < vals.length) = false:=by simp; omega
     obtain rfl:k = vals.length:=by omega
     have hc0:c = 0:=by
      rw [HCk.out,normA_of s vals 0 fun j hj=>by rw [Nat.zero_add,show vals.getD j [] = vals[j] by simp [List.getD,hj]]; exact HN.out j hj hj]; rfl
     subst hc0;go_wp2_with fail
     go_ret;exact ⟨rfl,HBw.out⟩
  ·have hc7:c = 7:=by rw [← HI.out]; exact checkI_no hin
   subst hc7;clear HI;by_cases i1:id < 1
   ·have e1:decide (id < (1:Int)) = true:=by simpa using i1
    go_wp2_with fail
    go_ret;exact ⟨rfl,HB1.out⟩
   have e1:decide (id < (1:Int)) = false:=by simpa using i1
   by_cases i2:1048576 < id
   ·have e2:decide ((1048576:Int) < id) = true:=by simpa using i2
    go_wp2_with fail
    go_ret;exact ⟨rfl,HB1.out⟩
   have e2:decide ((1048576:Int) < id) = false:=by simpa using i2
   by_cases i3:ver < 1
   ·have e3:decide (ver < (1:Int)) = true:=by simpa using i3
    go_wp2_with fail
    go_ret;exact ⟨rfl,HB1.out⟩
   have e3:decide (ver < (1:Int)) = false:=by simpa using i3
   by_cases i4:1048576 < ver
   ·have e4:decide ((1048576:Int) < ver) = true:=by simpa using i4
    go_wp2_with fail
    go_ret;exact ⟨rfl,HB1.out⟩
   have e4:decide ((1048576:Int) < ver) = false:=by simpa using i4
   have e5:((vals.length:Int) != (s.fields.length:Int)) = true:=by simp; omega
   clear i1 i2 i3 i4 hin;go_wp2_with fail
   go_ret;exact ⟨rfl,HB1.out⟩
 ·have h1:d = c:=by have:=HVal.out; rwa [if_neg h0] at this
  subst h1;have hne:(d != 0) = true:=by simpa using h0
  clear h0;go_wp2_with fail
  go_ret;exact ⟨rfl,HB1.out⟩
end
section
open Go.RowKit Cal
attribute [local go_sem] zah zaj
theorem rrall_any (S T:Nat→Prop) (vf vt vn vs rv:Value) (s:SchemaL) (R:List RecL) (w:World) (h:SchemaAt w S vf vt vn vs s) (hr:RecsVec w T rv R) (hl:∀ r∈R,∀ x∈r.vals,x.length≤1000000) (hn:∀ r∈R,r.vals.length≤1000000) (hR:R.length≤1000000) :
  Calls prog 76 #[.agg #[vf,vt,vn,vs],rv] w fun e w'=>e = .returned (.int .i64 (allN s R))∧Below w.heap.size w w':=by
 obtain ⟨ar,cr,rfl⟩:=hr.slice;have HS:=zi5 h; have HR:=zi5 hr.any; have HL:=zi5 hl; have HN:=zi5 hn;obtain ⟨E,hE⟩:∃ E,allN s R = E:=⟨_,rfl⟩;rw [hE];have HE:=zi5 hE;clear h hr hl hn hE;go_enter func76,ntmps76
 go_wp2_with fail
 refine zae (fun W hW=>?_)
 have hb0:=xal hW
 have hs0:W.heap[w.heap.size]? = some (.cells #[vf,vt,vn,vs] 44 (0,0)):=by rw [hW]; exact zac rfl
 clear hW;refine (zds S _ _ _ _ s W (HS.out.below hb0)).mono ?_;rintro e w1 ⟨rfl,hb⟩;have hs1:=zab hb (zaa hs0) hs0;have HB1:=zi5 (hb0.trans (hb.mono hb0.size)); have HS1:=zi5 hs1;clear hb hb0 hs0 hs1;obtain ⟨c,hc⟩:∃ c,zax s = c:=⟨_,rfl⟩;rw [hc];by_cases hc0:c = 0
 ·subst hc0
  have dz:((0:Int) != 0) = false:=rfl;have HC:=zi5 hc;by_cases h64:R.length≤64
  ·have d64:decide ((64:Int) < (R.length:Int)) = false:=by simp; omega
   have HE2:=zi5 (show allA s none R = E by rw [← HE.out]; unfold allN; rw [if_pos hc,if_pos h64]);clear hc HE;go_wp2_with fail
   go_loopw [6] (fun t wr=>∃ j:Nat,t = .int .i64 j∧j≤R.length∧Hid (allA s (zgt R j) (R.drop j) = E)∧Below w1.heap.size w1 wr) (fun t _=>R.length - (intOf t).toNat)
   case atStart=>exact ⟨0,rfl,by omega,HE2,Below.refl _ _⟩
   case round =>
    obtain ⟨j,rfl,hj,HT,hbw⟩:=hrel;have HBW:=zi5 hbw;by_cases hlt:j < R.length
    ·have hq:decide ((j:Int) < (R.length:Int)) = true:=by simp; omega
     have hji:(j:Int) < (R.length:Int):=by omega
     have hbw0:=HB1.out.trans (hbw.mono HB1.out.size);obtain ⟨b,off,id,ver,aa,nn,cc,vals,rfl,lb,c0,c1,c2,hRj,hvv⟩:=(HR.out.below hbw0).at j hlt;obtain ⟨s0,s1,s2,s3⟩:=zan (zab hbw (zaa HS1.out) HS1.out);have lsr:w.heap.size < wr.heap.size:=by have:=zaa HS1.out; have:=hbw.size; omega
     have hT:=HT.out;rw [List.drop_eq_getElem_cons hlt,allA_cons] at hT;have hmem:R[j]∈R:=List.getElem_mem hlt;have HLv:=zi5 (HL.out _ hmem); have HNv:=HN.out _ hmem
     have HP:=zi5 (show j≠0→∃ pid:Int,zgt R j = some pid∧wr.cell? ⟨b,off + (j - 1) * 3,none⟩ = some (.int .i64 pid) from fun h0=>by
      obtain ⟨b',off',id',ver',aa',nn',cc',vals',he,_,d0,_,_,hR',_⟩:=(HR.out.below hbw0).at (j - 1) (by omega);cases he;refine ⟨id',?_,d0⟩;unfold zgt
      rw [if_neg h0,zbi _ _ (by omega),hR'])
     rw [hRj] at hT HLv HNv;have HRJ:=zi5 hRj; have HV:=zi5 hvv; have HT2:=zi5 hT;have HB0:=zi5 hbw0;clear hT hmem hRj hvv HT hbw hbw0;dsimp only at HLv HNv;have hvl:=HV.out.len.1;subst hvl;obtain ⟨ci,hci⟩:∃ ci,zd0 s ⟨id,ver,vals⟩ = ci:=⟨_,rfl⟩;have HCi:=zi5 (show zb7 s ⟨id,ver,vals⟩ = ci by unfold zb7; rw [if_pos HC.out,hci]);have HCI:=zi5 hci;have bD:Below wr.heap.size wr wr.drew:=(Below.refl _ _).drew;clear hci;go_wp2_with fail
     go_cut [7] (fun t7 wx=>t7 = .int .i64 ci∧Below wr.heap.size wr wx)
     case first =>
      refine wp_region_noPanic ?_
      refine wp_region_held_drew (S:=(fun w'=>w'.cell? ⟨w.heap.size,0,none⟩ = some vf∧w'.cell? ⟨w.heap.size,1,none⟩ = some vt∧w'.cell? ⟨w.heap.size,2,none⟩ = some vn∧w'.cell? ⟨w.heap.size,3,none⟩ = some vs∧w'.cell? ⟨b,off + j * 3,none⟩ = some (.int .i64 id)∧w'.cell? ⟨b,off + j * 3 + 1,none⟩ = some (.int .i64 ver)∧w'.cell? ⟨b,off + j * 3 + 2,none⟩ = some (.slice aa vals.length cc))) (by kernel_rfl) (⟨s0,s1,s2,s3,c0,c1,c2⟩) (fun hHeld=>?_)
      refine tH 0 (h:=?_);refine tH 1 (h:=?_);refine tH 2 (h:=?_);refine tH 3 (h:=?_);refine tH 4 (h:=?_);refine wpAnyH_ready (rs:=[5]) (by kernel_rfl) (by simp) ?_
      refine AllReadyH.cons rfl (fun K hK=>?_) AllReadyH.nil
      go_simp;refine (zh1 S zaw _ _ _ _ s ⟨id,ver,vals⟩ _ _ ((HS.out.below HB0.out).below bD) (HV.out.below bD) HLv.out HNv).mono ?_; rw [HCi.out]; rintro e w2 ⟨rfl,hb⟩; have b2:=bD.trans (hb.mono bD.size); clear hb
      refine hK.out _ _ (⟨(b2.cell (p:=⟨w.heap.size,0,none⟩) lsr).trans s0,(b2.cell (p:=⟨w.heap.size,1,none⟩) lsr).trans s1,(b2.cell (p:=⟨w.heap.size,2,none⟩) lsr).trans s2,(b2.cell (p:=⟨w.heap.size,3,none⟩) lsr).trans s3,(b2.cell (p:=⟨b,off + j * 3,none⟩) lb).trans c0,(b2.cell (p:=⟨b,off + j * 3 + 1,none⟩) lb).trans c1,(b2.cell (p:=⟨b,off + j * 3 + 2,none⟩) lb).trans c2⟩) (fun hHeld=>?_)
      clear hK K;refine tH 6 (h:=?_);refine wpAnyH_done (by kernel_rfl) ?_ _;refine NoPanic.normal ?_;go_wp2_with fail
      go_meet;exact ⟨rfl,b2⟩
     case rest =>
      obtain ⟨w2,hw2⟩:∃ u,u = wc:=⟨_,rfl⟩;subst hw2;obtain ⟨rfl,hbr⟩:=hcut;have HB2:=zi5 (HBW.out.trans (hbr.mono HBW.out.size));have HBR:=zi5 hbr;have r0:=(hbr.cell (p:=⟨b,off + j * 3,none⟩) lb).trans c0;clear hbr s0 s1 s2 s3 c0 c1 c2 bD;by_cases hci0:ci = 0
      ·subst hci0
       have hT3:=HT2.out;rw [HCI.out,if_pos rfl] at hT3;have HT3:=zi5 hT3;clear hT3 HT2;by_cases hj0:j = 0
       ·have dj:decide (0 < j) = false:=by simp; omega
        have HT4:=zi5 (show allA s (zgt R (j + 1)) (R.drop (j + 1)) = E by
         have:=HT3.out;rw [show zgt R j = none by unfold zgt; rw [if_pos hj0]] at this;rw [← this];unfold zgt
         rw [if_neg (by omega),show j + 1 - 1 = j by omega,zbi _ _ hlt,HRJ.out]; rfl)
        clear HT3 HP;go_wp2_with fail
        refine wp_region_noPanic ?_
        refine wp_region_held_drew (S:=(fun w'=>True)) (by kernel_rfl) (trivial) (fun hHeld=>?_)
        refine tH 0 (h:=?_);refine tH 1 (h:=?_);refine tH 2 (h:=?_);refine sH 3 (h:=?_);refine sH 4 (h:=?_);refine sH 5 (h:=?_);refine sH 6 (h:=?_);refine sH 7 (h:=?_);refine sH 8 (h:=?_);refine sH 9 (h:=?_);refine sH 10 (h:=?_);refine sH 11 (h:=?_);refine sH 12 (h:=?_);refine sH 13 (h:=?_);refine sH 14 (h:=?_);refine tH 15 (h:=?_);refine wpAnyH_done (by kernel_rfl) ?_ _;refine NoPanic.normal ?_;go_wp2_with fail
        go_roundw
        case rel=>exact ⟨j + 1,by go_num,by omega,HT4,HB2.out.drew⟩
        case measure=>simp [intOf]; omega
       ·have dj:decide (0 < j) = true:=by simp; omega
        obtain ⟨pid,hpr,hpc⟩:=HP.out hj0;have hpc2:=(HBR.out.cell (p:=⟨b,off + (j - 1) * 3,none⟩) lb).trans hpc;have hj1:(j:Int) - 1 < (R.length:Int):=by omega
        have hj2:(1:Int)≤(j:Int):=by omega
        have hj3:((j:Int) - 1).toNat = j - 1:=by omega
        have hwr:IntKind.i64.wrap ((j:Int) - 1) = (j:Int) - 1:=by rw [IntKind.wrap_i64]; omega
        have hT4:=HT3.out;rw [hpr] at hT4;clear HP hpc HT3;by_cases hle:id≤pid
        ·have dle:decide (id≤pid) = true:=by simpa using hle
         have hE12:E = 12:=by rw [← hT4]; unfold notB; dsimp only; rw [if_pos dle]
         subst hE12;clear hT4;go_wp2_with fail
         refine wp_region_noPanic ?_
         refine wp_region_held_drew (S:=(fun w'=>w'.cell? ⟨b,off + (j - 1) * 3,none⟩ = some (.int .i64 pid)∧w'.cell? ⟨b,off + j * 3,none⟩ = some (.int .i64 id))) (by kernel_rfl) (⟨hpc2,r0⟩) (fun hHeld=>?_)
         refine tH 0 (h:=?_);refine tH 1 (h:=?_);refine tH 2 (h:=?_);refine tH 3 (h:=?_);refine tH 4 (h:=?_);refine tH 5 (h:=?_);refine tH 6 (h:=?_);refine tH 7 (h:=?_);refine tH 8 (h:=?_);refine tH 9 (h:=?_);refine tH 10 (h:=?_);refine tH 11 (h:=?_);refine tH 12 (h:=?_);refine tH 13 (h:=?_);refine tH 14 (h:=?_);refine tH 15 (h:=?_);refine wpAnyH_done (by kernel_rfl) ?_ _;refine NoPanic.normal ?_;go_wp2_with fail
         go_ret;exact ⟨rfl,HB1.out.trans (HB2.out.drew.mono HB1.out.size)⟩
        ·have dle:decide (id≤pid) = false:=by simpa using hle
         have HT5:=zi5 (show allA s (zgt R (j + 1)) (R.drop (j + 1)) = E by
          rw [← hT4];unfold notB; dsimp only;rw [if_neg (by rw [dle]; decide)];unfold zgt
          rw [if_neg (by omega),show j + 1 - 1 = j by omega,zbi _ _ hlt,HRJ.out])
         clear hT4;go_wp2_with fail
         refine wp_region_noPanic ?_
         refine wp_region_held_drew (S:=(fun w'=>w'.cell? ⟨b,off + (j - 1) * 3,none⟩ = some (.int .i64 pid)∧w'.cell? ⟨b,off + j * 3,none⟩ = some (.int .i64 id))) (by kernel_rfl) (⟨hpc2,r0⟩) (fun hHeld=>?_)
         refine tH 0 (h:=?_);refine tH 1 (h:=?_);refine tH 2 (h:=?_);refine tH 3 (h:=?_);refine tH 4 (h:=?_);refine tH 5 (h:=?_);refine tH 6 (h:=?_);refine tH 7 (h:=?_);refine tH 8 (h:=?_);refine tH 9 (h:=?_);refine tH 10 (h:=?_);refine tH 11 (h:=?_);refine tH 12 (h:=?_);refine tH 13 (h:=?_);refine tH 14 (h:=?_);refine tH 15 (h:=?_);refine wpAnyH_done (by kernel_rfl) ?_ _;refine NoPanic.normal ?_;go_wp2_with fail
         go_roundw
         case rel=>exact ⟨j + 1,by go_num,by omega,HT5,HB2.out.drew⟩
         case measure=>simp [intOf]; omega
      ·have hE3:E = ci:=by rw [← HT2.out,HCI.out,if_neg hci0]
       have dne:(ci != (0:Int)) = true:=by simpa using hci0
       subst hE3;clear HT2 HE2 HP;go_wp2_with fail
       go_ret;exact ⟨rfl,HB1.out.trans (HB2.out.mono HB1.out.size)⟩
    ·have hq:decide ((j:Int) < (R.length:Int)) = false:=by simp; omega
     obtain rfl:j = R.length:=by omega
     have hE0:E = 0:=by rw [← HT.out,List.drop_length]; rfl
     subst hE0;go_wp2_with fail
     go_ret;exact ⟨rfl,HB1.out.trans (hbw.mono HB1.out.size)⟩
  ·have d64:decide ((64:Int) < (R.length:Int)) = true:=decide_eq_true (by omega)
   have hE1:E = 1:=by rw [← HE.out]; unfold allN; rw [if_pos hc,if_neg h64]
   subst hE1;clear hc HE;go_wp2_with fail
   go_ret;exact ⟨rfl,HB1.out⟩
 ·have dne:(c != (0:Int)) = true:=by simpa using hc0
  have hE1:E = c:=by rw [← HE.out]; unfold allN; rw [hc,if_neg hc0]
  subst hE1;clear HE;go_wp2_with fail
  go_ret;exact ⟨rfl,HB1.out⟩
end
section
open Go.RowKit Cal
attribute [local go_sem] zah zaj zaq
structure ReAt (w:World) (vf vt vn vs:Value) (k:Int × Int) (r:RecL) (sv:Value) (xb:Nat) (v:Value) (C:List BV) (L:List BitsL) (wr:World):Prop where
 sb:wr.heap[w.heap.size]? = some (.cells #[vf,vt,vn,vs] 44 (0,0))
 kb:wr.heap[w.heap.size + 1]? = some (.cells #[.int .u64 k.1,.int .u64 k.2] 26 (0,0))
 rb:wr.heap[w.heap.size + 2]? = some (.cells #[.int .i64 r.id,.int .i64 r.ver,sv] 29 (0,0))
 z:wr.heap[w.heap.size + 3]? = some (.cells #[.int .i64 0,.int .i64 0,.slice none 0 0] 32 (0,0))
 x:wr.heap[xb]? = some (.cells #[.int .i64 r.id,.int .i64 r.ver,v] 32 (0,0))
 own:OwnV 78 2 zbp w v C wr
 n:∀ g,v.ownBlock = some g→xb < g
 all:BitsAll wr (fun b=>some b≠v.ownBlock∧xb < b) C L
 xb4:w.heap.size + 3 < xb
theorem ReAt.below {w:World} {vf vt vn vs:Value} {k:Int × Int} {r:RecL} {sv:Value} {xb:Nat} {v:Value} {C:List BV} {L:List BitsL} {wr wy:World} (h:ReAt w vf vt vn vs k r sv xb v C L wr) (hb:Below wr.heap.size wr wy):ReAt w vf vt vn vs k r sv xb v C L wy :=
 ⟨zab hb (zaa h.1) h.1,zab hb (zaa h.2) h.2,zab hb (zaa h.3) h.3,zab hb (zaa h.4) h.4,zab hb (zaa h.5) h.5,h.own.below hb,h.n,h.all.below hb,h.xb4⟩
theorem own_keptB {w w':World} {B e size n:Nat} {v:Value} {xs:List Value} {r:Option Nat} (h:w.ownsRow B e size v n xs) (hk:∀ k o,some k≠r→w.heap[k]? = some o→w'.heap[k]? = some o) (hr:v.ownBlock = none∨v.ownBlock≠r):w'.ownsRow B e size v n xs:=own_keptR h hk hr
theorem ReAt.step {w:World} {vf vt vn vs:Value} {k:Int × Int} {r:RecL} {sv:Value} {xb:Nat} {v v':Value} {C:List BV} {L:List BitsL} {c:BV} {bt:BitsL} {wr wy w5:World} (h:ReAt w vf vt vn vs k r sv xb v C L wr) (hb:Below wr.heap.size wr wy) (hc:BitsAt wy (fun b=>wr.heap.size≤b) (.agg (zbp c).toArray) bt)
  (ho:OwnV 78 2 zbp w v' (C ++ [c]) w5) (hk:∀ q o,some q≠v.ownBlock→wy.heap[q]? = some o→w5.heap[q]? = some o) (hz:wy.heap.size≤w5.heap.size) (hat:v'.ownBlock = none∨v.ownBlock = v'.ownBlock∨∃ g,v'.ownBlock = some g∧wy.heap.size≤g) :
  ReAt w vf vt vn vs k r sv xb v' (C ++ [c]) (L ++ [bt]) (w5.setCell ⟨xb,2,none⟩ v'):=by
 have hy:=h.below hb;have l1:=zaa h.x; have l2:=zaa hy.x; have x4:=h.xb4;have hold:∀ q o,q≤xb→wy.heap[q]? = some o→w5.heap[q]? = some o:=fun q o hq ho'=>hk q o (fun e=>by have:=h.n q e.symm; omega) ho'
 have hfar:∀ q o,q < xb→wy.heap[q]? = some o→(w5.setCell ⟨xb,2,none⟩ v').heap[q]? = some o:=fun q o hq ho'=>zam (hold q o (by omega) ho') (by show q≠xb; omega)
 have hown:∀ g,v.ownBlock = some g→g < wr.heap.size:=fun g e=>(World.ownsRow.lt h.own.1 g e).2
 have hn':∀ g,v'.ownBlock = some g→xb < g:=by
  intro g e
  rcases hat with h1 | h1 | ⟨g',h1,h2⟩
  ·rw [h1] at e; cases e
  ·rw [← h1] at e; exact h.n g e
  ·rw [h1] at e; cases e; omega
 have hne':∀ b,b < wy.heap.size→some b≠v.ownBlock→some b≠v'.ownBlock:=by
  intro b hb' hne e
  rcases hat with h1 | h1 | ⟨g',h1,h2⟩
  ·rw [h1] at e; cases e
  ·rw [← h1] at e; exact hne e
  ·rw [h1] at e; cases e; omega
 have hS:∀ b,b < wy.heap.size→(some b≠v.ownBlock∧xb < b)→(w5.setCell ⟨xb,2,none⟩ v').heap[b]? = wy.heap[b]?∧(some b≠v'.ownBlock∧xb < b):=by
  intro b hb' hs;obtain ⟨ob,hob⟩:∃ ob,wy.heap[b]? = some ob:=⟨_,Array.getElem?_eq_getElem hb'⟩;rw [hob];exact ⟨zam (hk b ob hs.1 hob) (by show b≠xb; omega),hne' b hb' hs.1,hs.2⟩
 have hsz:wy.heap.size≤(w5.setCell ⟨xb,2,none⟩ v').heap.size:=by simpa [World.setCell] using hz
 have hwx:w.heap.size≤xb:=by omega
 refine ⟨hfar _ _ (by omega) hy.sb,hfar _ _ (by omega) hy.kb,hfar _ _ (by omega) hy.rb,hfar _ _ (by omega) hy.z,zad (i:=2) (v:=v') (hold xb _ xnl hy.x),⟨?_,ho.2.setCell (p:=⟨xb,2,none⟩) hwx _⟩,hn',?_,x4⟩
 ·refine own_keptB ho.1 (r:=some xb) (fun q o hne ho'=>zam ho' (fun e=>hne (by rw [e]))) ?_
  by_cases h0:v'.ownBlock = none
  ·exact .inl h0
  ·refine .inr fun e=>?_
   have:=hn' xb e; omega
 ·have h1:BitsAll (w5.setCell ⟨xb,2,none⟩ v') (fun b=>some b≠v'.ownBlock∧xb < b) C L:=hy.all.move hsz hS
  have h2:BitsAt (w5.setCell ⟨xb,2,none⟩ v') (fun b=>some b≠v'.ownBlock∧xb < b) (.agg (zbp c).toArray) bt:=by
   have h3:=hc.weaken (T:=fun b=>some b≠v.ownBlock∧xb < b) (fun b hb'=>⟨fun e=>by have:=hown b e.symm; omega,by omega⟩)
   have h4:=BitsAll.move (C:=[c]) (L:=[bt]) ⟨rfl,fun n h1 h2=>by simp at h1; subst h1; exact h3⟩ hsz hS
   exact h4.2 0 (by simp) (by simp)
  exact h1.snoc h2
theorem own_vecG {α:Type} {w:World} {B e k:Nat} {enc:α→List Value} (hk:∀ x,(enc x).length = k) {v:Value} {L:List α} (h:w.ownsRow B e k v L.length (L.flatMap enc)):Vec w (fun b=>B≤b∧v.ownBlock = some b) k enc v L:=by
 have hv:=Vec.owns (k:=k) (enc:=enc) hk h (S:=fun _=>True) fun _ _ _=>trivial
 rcases h.2 with ⟨rfl,h0⟩ | ⟨g,cap,cur,rfl,hg,hh,_⟩
 ·have:L = []:=List.length_eq_zero_iff.1 h0
  subst this;exact Vec.nil _ _ _ _
 ·obtain ⟨a,cap',e1,k1,k2⟩:=hv
  refine ⟨a,cap',e1,k1,fun h0=>?_⟩
  obtain ⟨b,off,q1,_,q3,q4⟩:=k2 h0;cases e1;cases q1;exact ⟨_,_,rfl,⟨hg,rfl⟩,q3,q4⟩
theorem key_false (k:Int × Int) (num a b:List UInt8):keyN k num false a = keyN k num false b:=by unfold keyN; simp only [cond_false]
theorem zgh (S:Nat→Prop) (vf vt vn vs:Value) (s:SchemaL) (P:List ParL) (pv:Value) (k:Int × Int) (r:RecL) (sv:Value) (w:World) (h:SchemaAt w S vf vt vn vs s) (hp:Vec w zaw 3 zbc pv P) (hv:Vec w zaw 1 za2 sv r.vals) (hc:zb0 s P = 0) (hcr:zb7 s r = 0) :
  Calls prog 20 #[.agg #[vf,vt,vn,vs],pv,.agg #[.int .u64 k.1,.int .u64 k.2],.agg #[.int .i64 r.id,.int .i64 r.ver,sv]] w (EncPair (ziz s P k r,0) w):=by
 have hin:=zij hc hcr;have he:=hin.enc;have h5:=he.five; have hlen:=he.len;obtain ⟨a,cap,rfl⟩:=hp.slice;obtain ⟨av,cv,rfl⟩:=hv.slice;obtain ⟨rid,rver,vals⟩:=r;dsimp only at hv hlen he ⊢
 have hII:∀ p∈P,InI p.len:=by
  intro p hp';obtain ⟨i,hi,rfl⟩:=List.mem_iff_getElem.1 hp';have:=(he.fld i hi).par;rw [zbi _ _ hi] at this;exact ⟨by have:=this.len1; omega,by have:=this.len2; omega⟩
 have HS:=zi5 h.any; have HP:=zi5 hp; have HV:=zi5 hv; have HC:=zi5 hc; have HCr:=zi5 hcr; have HE:=zi5 he; have HII:=zi5 hII;have HSh:=zi5 (show ∀ x∈vals,x.length≤1000000 from fun x hx=>by have:=hin.short x hx; omega)
 have HLen:=zi5 hlen;have hvl:vals.length≤5:=by omega
 clear h hp hv hc hcr he hII hin hlen;go_enter func20,ntmps20
 go_wp2_with fail
 refine zae (fun W hW=>?_)
 have hb0:Below w.heap.size w W:=by rw [hW]; exact ((((Below.refl w.heap.size w).alloc xnl _).alloc (by simp) _).alloc (by simp; omega) _).alloc (by simp; omega) _
 have hs0:W.heap[w.heap.size]? = some (.cells #[vf,vt,vn,vs] 44 (0,0)):=by rw [hW]; exact zaf (zaf (zaf (zac rfl)))
 have hk0:W.heap[w.heap.size + 1]? = some (.cells #[.int .u64 k.1,.int .u64 k.2] 26 (0,0)):=by rw [hW]; exact zaf (zaf (zac (by simp)))
 have hr0:W.heap[w.heap.size + 2]? = some (.cells #[.int .i64 rid,.int .i64 rver,.slice av vals.length cv] 29 (0,0)):=by rw [hW]; exact zaf (zac (by simp))
 have hz0:W.heap[w.heap.size + 3]? = some (.cells #[.int .i64 0,.int .i64 0,.slice none 0 0] 32 (0,0)):=by rw [hW]; exact zac (by simp)
 clear hW;refine (zew zaw _ _ _ _ s P _ _ (HS.out.below hb0) (HP.out.below hb0) HII.out (by omega)).mono ?_;rw [HC.out];rintro e w1 ⟨rfl,hb⟩;have HB1:=zi5 (hb0.trans (hb.mono hb0.size)); have HE1:=zi5 (⟨zab hb (zaa hs0) hs0,zab hb (zaa hk0) hk0,zab hb (zaa hr0) hr0,zab hb (zaa hz0) hz0⟩:_∧_∧_∧_);obtain ⟨s0,s1,s2,s3⟩:=zan HE1.out.1; obtain ⟨r0,r1,r2⟩:=zai HE1.out.2.2.1;have ls:=zaa HE1.out.1; have lr:=zaa HE1.out.2.2.1;have d0:((0:Int) != 0) = false:=rfl;clear hb hb0 hs0 hk0 hr0 hz0;go_wp2_with fail
 refine (zh1 zaw zaw _ _ _ _ s ⟨rid,rver,vals⟩ _ _ (HS.out.below HB1.out) (HV.out.below HB1.out) HSh.out (by dsimp only; omega)).mono ?_;rw [HCr.out];rintro e w2 ⟨rfl,hb⟩;have HB2:=zi5 (HB1.out.trans (hb.mono HB1.out.size)); have HE2:=zi5 (⟨zab hb (zaa HE1.out.1) HE1.out.1,zab hb (zaa HE1.out.2.1) HE1.out.2.1,zab hb (zaa HE1.out.2.2.1) HE1.out.2.2.1,zab hb (zaa HE1.out.2.2.2) HE1.out.2.2.2⟩:_∧_∧_∧_);clear hb s0 s1 s2 s3 r0 r1 r2 ls lr HE1 HB1;obtain ⟨r0,r1,r2⟩:=zai HE2.out.2.2.1;have lr:=zaa HE2.out.2.2.1; have lz:=zaa HE2.out.2.2.2;go_wp2_with fail
 refine zao (fun W3 hW3=>?_)
 have b3:=xal hW3
 have hx3:W3.heap[w2.heap.size]? = some (.cells #[.int .i64 rid,.int .i64 rver,.slice none 0 0] 32 (0,0)):=by rw [hW3]; exact zac rfl
 have HR0:=zi5 (show ReAt w vf vt vn vs k ⟨rid,rver,vals⟩ (.slice av vals.length cv) w2.heap.size (.slice none 0 0) [] [] W3 from
  ⟨zab b3 (zaa HE2.out.1) HE2.out.1,zab b3 (zaa HE2.out.2.1) HE2.out.2.1,zab b3 (zaa HE2.out.2.2.1) HE2.out.2.2.1,zab b3 (zaa HE2.out.2.2.2) HE2.out.2.2.2,hx3,OwnV.nil (HB2.out.trans (b3.mono HB2.out.size)),fun g e=>by simp [Value.ownBlock] at e,⟨rfl,fun n h1 _=>by simp at h1⟩,lz⟩)
 obtain ⟨xb,hxb⟩:∃ xb,w2.heap.size = xb:=⟨_,rfl⟩;rw [hxb] at HR0 ⊢;clear hW3 b3 hx3 hxb r0 r1 r2 lr lz HB2 HE2;go_loopw [13] (fun i wr=>∃ (j:Nat) (C:List BV) (va:Option Addr) (vc:Nat),i = .int .i64 j∧j≤P.length∧C.length = j∧ReAt w vf vt vn vs k ⟨rid,rver,vals⟩ (.slice av vals.length cv) xb (.slice va j vc) C (zeg s P k vals j) wr) (fun i _=>P.length - (intOf i).toNat)
 case atStart=>exact ⟨0,[],none,0,rfl,by omega,rfl,HR0.out⟩
 case round =>
  obtain ⟨j,C,va,vc,rfl,hj,hCl,hre⟩:=hrel;have HRe:=zi5 hre; have HCl:=zi5 hCl;clear hre hCl;obtain ⟨WR,hWR⟩:∃ u,u = wr:=⟨_,rfl⟩;subst hWR;have HBW:=zi5 HRe.out.own.2;obtain ⟨r0,r1,r2⟩:=zai HRe.out.rb; obtain ⟨x0,x1,x2⟩:=zai HRe.out.x;have lr:=zaa HRe.out.rb; have lx:=zaa HRe.out.x;by_cases hlt:j < P.length
  ·have hq:decide ((j:Int) < (P.length:Int)) = true:=by simp; omega
   have hjp:(j:Int) < (P.length:Int):=by omega
   have hjv:j < vals.length:=by have:=HLen.out; omega
   have hjvi:(j:Int) < (vals.length:Int):=by omega
   obtain ⟨p,hpe⟩:∃ p,P.getD j default = p:=⟨_,rfl⟩;have hfj:=HE.out.fld j hlt;have hsucc:=fieldsN_succ s P k vals j;rw [hpe] at hfj hsucc;obtain ⟨b,off,rfl,lb,cvx⟩:=zh0 (HV.out.below HBW.out) j hjv;obtain ⟨t,hte⟩:∃ t,vals.getD j [] = t:=⟨_,rfl⟩;have hnorm:=hfj.norm;rw [hte] at cvx hnorm;have HFJ:=zi5 hfj; have HSu:=zi5 hsucc; have HTe:=zi5 hte; have HNo:=zi5 hnorm;clear hfj hsucc hte hnorm;by_cases ht0:t = []
   ·have hfn:zeh s p k vals j = zba:=by unfold zeh; rw [HTe.out,if_pos ht0]
    have HFn:=zi5 hfn;subst ht0;clear hfn hpe;have hb1:Below WR.heap.size WR (WR.alloc (.cells (zbp ⟨0,none,0,0⟩).toArray 78)):=(Below.refl _ _).alloc xnl _;have HO1:=zi5 (HRe.out.own.below hb1);have HR1:=zi5 (show zco (WR.alloc (.cells (zbp ⟨0,none,0,0⟩).toArray 78)) 2 (.slice (some ⟨WR.heap.size,0,none⟩) 1 1) [(⟨0,none,0,0⟩:BV)].length ([(⟨0,none,0,0⟩:BV)].flatMap zbp) from zav (xs:=[(⟨0,none,0,0⟩:BV)].flatMap zbp) (fr:=(0,0)) (t:=78) (zac rfl) rfl);have hcn:C.length + [(⟨0,none,0,0⟩:BV)].length≤1000000000:=by rw [HCl.out]; simp only [List.length_cons,List.length_nil]; omega
    clear hb1;go_wp2_with (at_builtin; refine zbq rfl (.tmp 51) (.tmp 53) 30 rfl 78 (.agg #[.int .i64 0,.slice none 0 0]) 2 32 zbp (fun _=>rfl) zf7 underlying30 zhq rfl (by decide) (by decide) (w0:=w) (v:=.slice va j vc) (A:=C) (B:=[⟨0,none,0,0⟩]) rfl HO1.out rfl HR1.out hcn ?_; intro v5 w5 ho5 hk5 hz5 hat5; obtain ⟨a5,c5,e5⟩:=za1 ho5.1; have hl5:(C ++ [(⟨0,none,0,0⟩:BV)]).length = j + 1:=(by rw [List.length_append,HCl.out]; rfl); rw [hl5] at e5; subst e5; clear hl5; have hn1:=HRe.out.n; have hx6:=hk5 _ _ (fun e=>absurd (hn1 _ e.symm) (by omega)) (zaf HRe.out.x); have lx5:=zaa hx6; have fo:=frozen_of_row _ _ 2 _ _ hx6; obtain ⟨y0,y1,y2⟩:=zai hx6)
    go_roundw
    case rel =>
     refine ⟨j + 1,C ++ [⟨0,none,0,0⟩],a5,c5,by go_num,by omega,by rw [List.length_append,HCl.out]; rfl,?_⟩;rw [HSu.out,HFn.out]
     exact HRe.out.step (Below.refl _ _) (BitsAt.none _ _) ho5 (fun q o h1 h2=>hk5 q o h1 (zaf h2)) (Nat.le_trans (by simp) hz5) (by
      rcases hat5 with h1 | h1 | h1
      ·exact .inl h1
      ·exact .inr (.inl h1)
      ·exact .inr (.inr ⟨_,h1,by simp⟩))
    case measure=>simp [intOf]; omega
   ·have hex:t.isEmpty = false:=by simpa using ht0
    have hex2:(t == []) = false:=by simpa using ht0
    obtain ⟨G,hG⟩:∃ G,zfh s (j:Int) t = G:=⟨_,rfl⟩;obtain ⟨g1,g2,g3,g4⟩:=ziv HNo.out HFJ.out.kind;rw [hG] at g1 g2 g3;obtain ⟨KX,hK⟩:∃ KX,keyN k (Lib.decDigits j) (decide (0≤p.salt)) (saltOf p vals) = KX:=⟨_,rfl⟩;obtain ⟨B,hBN⟩:∃ B,(zgq p KX G.1).1 = B:=⟨_,rfl⟩;have hfn:zeh s p k vals j = B:=by unfold zeh; rw [HTe.out,if_neg ht0,hK,hG,hBN]
    have HFn:=zi5 hfn; have HG:=zi5 hG; have HK:=zi5 hK; have HBN:=zi5 hBN; have HG1:=zi5 g1; have HG2:=zi5 g2; have HG3:=zi5 g3;obtain ⟨k0,k1⟩:=zak HRe.out.kb;have lk:=zaa HRe.out.kb;clear hfn hG hK hBN g1 g2 g3 ht0;go_wp2_with fail
    obtain ⟨K1,hK1⟩:∃ K1,keyN k (Lib.itoa (j:Int)) false [] = K1:=⟨_,rfl⟩;have HK1:=zi5 hK1;refine (ze6 k (j:Int) false [] _ ⟨by omega,by omega⟩ (by simp)).mono ?_;rw [hK1];rintro e w4 ⟨rfl,hb⟩;have HB4:=zi5 hb; have HRe4:=zi5 (HRe.out.below hb);obtain ⟨b2,off2,rfl,lb2,hcp⟩:=(HP.out.below HBW.out).get j hlt;rw [show P[j] = p by rw [← zbi P default hlt]; exact hpe] at hcp;have p0:=hcp 0 _ rfl; have p1:=hcp 1 _ rfl; have p2:=hcp 2 _ rfl;rw [Nat.add_zero] at p0
    have HCells:=zi5 (show ∀ w',Below WR.heap.size WR w'→(w'.cell? ⟨b2,off2 + j * 3,none⟩ = some (.int .i64 p.len)∧w'.cell? ⟨b2,off2 + j * 3 + 1,none⟩ = some (.int .i64 p.hashes)∧w'.cell? ⟨b2,off2 + j * 3 + 2,none⟩ = some (.int .i64 p.salt))∧w'.cell? ⟨b,off + j,none⟩ = some (zal t) from fun w' hb =>
     ⟨⟨(hb.cell (p:=⟨b2,off2 + j * 3,none⟩) lb2).trans p0,(hb.cell (p:=⟨b2,off2 + j * 3 + 1,none⟩) lb2).trans p1,(hb.cell (p:=⟨b2,off2 + j * 3 + 2,none⟩) lb2).trans p2⟩,(hb.cell (p:=⟨b,off + j,none⟩) lb).trans cvx⟩)
    have c2:=(HCells.out w4 hb).1.2.2;have lb24:=Nat.lt_of_lt_of_le lb2 hb.size;obtain ⟨sb,hsb⟩:∃ sb,decide (0≤p.salt) = sb:=⟨_,rfl⟩;have HSb:=zi5 hsb;clear hb hcp hpe k0 k1 r0 r1 r2 x0 x1 x2 lk lr lx hK1 cvx p0 p1 p2;go_upto_if 64 with (fail)
    refine zao (fun W5 hW5=>?_)
    have b45:=xal hW5
    have hkb:W5.heap[w4.heap.size]? = some (.cells #[.int .u64 K1.1,.int .u64 K1.2] 26 (0,0)):=by rw [hW5]; exact zac rfl
    obtain ⟨kb,hkbe⟩:∃ kb,w4.heap.size = kb:=⟨_,rfl⟩;rw [hkbe] at hkb ⊢;have HKb:=zi5 hkb;have B5:=zi5 (HB4.out.trans (b45.mono HB4.out.size));have zkb:WR.heap.size≤kb:=by have:=HB4.out.size; omega
    have lkb:=zaa hkb;have HRe5:=zi5 (HRe.out.below B5.out);clear hW5 b45 hkb hkbe HB4 HRe4 c2;go_cut [] (fun wx=>wx.heap[kb]? = some (.cells #[.int .u64 KX.1,.int .u64 KX.2] 26 (0,0))∧Below WR.heap.size WR wx)
    case first =>
     cases sb
     ·have hKX:KX = K1:=by rw [← HK.out,HSb.out,← HK1.out,Lib.itoa_nonneg]; exact key_false _ _ _ _
      subst hKX;go_wp2_with fail
      go_meet;exact ⟨HKb.out,B5.out⟩
     ·have hs0:0≤p.salt:=of_decide_eq_true HSb.out
      obtain ⟨q,hqe⟩:∃ q:Nat,p.salt = q:=⟨p.salt.toNat,by omega⟩;have hqv:q < vals.length:=by have h1:=HFJ.out.salt; omega
      have hqvi:(q:Int) < (vals.length:Int):=by omega
      obtain ⟨bq,offq,eq,lbq,hcq⟩:=zh0 (HV.out.below (HBW.out.trans (B5.out.mono HBW.out.size))) q hqv;cases eq;obtain ⟨st,hst⟩:∃ st,vals.getD q [] = st:=⟨_,rfl⟩;have hstl:st.length≤64:=by rw [← hst]; exact HFJ.out.short _ (by rw [List.getD,List.getElem?_eq_getElem hqv]; exact List.getElem_mem _)
      rw [hst] at hcq;have hKX:keyN k (Lib.itoa (j:Int)) true st = KX:=by rw [← HK.out,HSb.out,Lib.itoa_nonneg]; unfold saltOf; rw [if_pos hs0,hqe,Int.toNat_natCast,hst]
      have HKX:=zi5 hKX;have lk5:=zaa HRe5.out.kb; have lr5:=zaa HRe5.out.rb
      have HT:=zi5 (show ∀ w',Below W5.heap.size W5 w'→(w'.cell? ⟨w.heap.size + 1,0,none⟩ = some (.int .u64 k.1)∧w'.cell? ⟨w.heap.size + 1,1,none⟩ = some (.int .u64 k.2))∧w'.cell? ⟨w.heap.size + 1 + 1,2,none⟩ = some (.slice (some ⟨b,off,none⟩) vals.length cv)∧w'.cell? ⟨b2,off2 + j * 3 + 2,none⟩ = some (.int .i64 (q:Int))∧w'.cell? ⟨b,off + q,none⟩ = some (zal st) from fun w' hb =>
       ⟨zak (zab hb lk5 HRe5.out.kb),(zai (zab hb lr5 HRe5.out.rb)).2.2,by rw [← hqe]; exact (HCells.out w' (B5.out.trans (hb.mono B5.out.size))).1.2.2,(hb.cell (p:=⟨b,off + q,none⟩) lbq).trans hcq⟩)
      have bD:Below W5.heap.size W5 W5.drew:=(Below.refl _ _).drew;clear hst hcq hKX hs0;go_wp2_with fail
      refine wp_region_noPanic ?_
      refine zat (by kernel_rfl) (fun w'=>(w'.cell? ⟨w.heap.size + 1,0,none⟩ = some (.int .u64 k.1)∧w'.cell? ⟨w.heap.size + 1,1,none⟩ = some (.int .u64 k.2))∧w'.cell? ⟨w.heap.size + 1 + 1,2,none⟩ = some (.slice (some ⟨b,off,none⟩) vals.length cv)∧w'.cell? ⟨b2,off2 + j * 3 + 2,none⟩ = some (.int .i64 (q:Int))∧w'.cell? ⟨b,off + q,none⟩ = some (zal st)) 12 (HT.out _ bD) (fun hHeld=>?_)
      refine tK 0 (h:=?_);refine tK 1 (h:=?_);refine tK 2 (h:=?_);refine tK 3 (h:=?_);refine tK 4 (h:=?_);refine tK 5 (h:=?_);refine tK 6 (h:=?_);refine tK 7 (h:=?_);refine tK 8 (h:=?_);refine tK 9 (h:=?_);refine tK 10 (h:=?_)
      refine xrK 11 rfl fun K hK=>?_
      go_simp;refine (ze6 k (j:Int) true st _ ⟨by omega,by omega⟩ (by omega)).mono ?_; rw [HKX.out]; rintro e w6 ⟨rfl,hb6⟩; have b6:=bD.trans (hb6.mono bD.size); clear hb6; have hkb6:=zab b6 lkb HKb.out; have g0:=frozen_of_row _ _ 0 _ _ hkb6; have g1:=frozen_of_row _ _ 1 _ _ hkb6; obtain ⟨e0,e1⟩:=zak hkb6; have lkb6:=zaa hkb6
      refine za5 hK (HT.out _ b6) (fun hHeld=>?_)
      clear hK K
      refine xrK 12 rfl fun K hK=>?_
      go_simp;refine zas hK (by decide) ?_;clear hK K;refine zap (by kernel_rfl) ?_ _;refine NoPanic.normal ?_;go_wp2_with fail
      go_meet;exact ⟨zad (i:=1) (v:=.int .u64 KX.2) (zad (i:=0) (v:=.int .u64 KX.1) hkb6),((B5.out.trans (b6.mono B5.out.size)).setCell (p:=⟨kb,0,none⟩) zkb _).setCell (p:=⟨kb,1,none⟩) zkb _⟩
    case rest =>
     obtain ⟨w6,hw6⟩:∃ u,u = wc:=⟨_,rfl⟩;subst hw6;obtain ⟨hkx,hbx⟩:=hcut;have HKx:=zi5 hkx; have B6:=zi5 hbx;have HRe6:=zi5 (HRe.out.below hbx);clear hkx hbx HKb;have ls6:=zaa HRe6.out.sb; have lr6:=zaa HRe6.out.rb; have lk6:=zaa HKx.out
     have HT:=zi5 (show ∀ w',Below w6.heap.size w6 w'→(w'.cell? ⟨w.heap.size,0,none⟩ = some vf∧w'.cell? ⟨w.heap.size,1,none⟩ = some vt∧w'.cell? ⟨w.heap.size,2,none⟩ = some vn∧w'.cell? ⟨w.heap.size,3,none⟩ = some vs)∧w'.cell? ⟨w.heap.size + 1 + 1,2,none⟩ = some (.slice (some ⟨b,off,none⟩) vals.length cv)∧w'.cell? ⟨b,off + j,none⟩ = some (zal t) from fun w' hb =>
      ⟨zan (zab hb ls6 HRe6.out.sb),(zai (zab hb lr6 HRe6.out.rb)).2.2,(HCells.out w' (B6.out.trans (hb.mono B6.out.size))).2⟩)
     have bD:Below w6.heap.size w6 w6.drew:=(Below.refl _ _).drew;have htl:t.length≤1000000:=by omega
     go_wp2_with fail
     refine wp_region_noPanic ?_
     refine wp_region_held_drew (S:=(fun w'=>(w'.cell? ⟨w.heap.size,0,none⟩ = some vf∧w'.cell? ⟨w.heap.size,1,none⟩ = some vt∧w'.cell? ⟨w.heap.size,2,none⟩ = some vn∧w'.cell? ⟨w.heap.size,3,none⟩ = some vs)∧w'.cell? ⟨w.heap.size + 1 + 1,2,none⟩ = some (.slice (some ⟨b,off,none⟩) vals.length cv)∧w'.cell? ⟨b,off + j,none⟩ = some (zal t))) (by kernel_rfl) (HT.out _ bD) (fun hHeld=>?_)
     refine tH 0 (h:=?_);refine tH 1 (h:=?_);refine tH 2 (h:=?_);refine tH 3 (h:=?_);refine tH 4 (h:=?_);refine tH 5 (h:=?_);refine tH 6 (h:=?_);refine wpAnyH_ready (rs:=[7]) (by kernel_rfl) (by simp) ?_
     refine AllReadyH.cons rfl (fun K hK=>?_) AllReadyH.nil
     go_simp;refine (rsgrams_any zaw _ _ _ _ s (j:Int) t _ (HS.out.below ((HBW.out.trans (B6.out.mono HBW.out.size)).trans (bD.mono (HBW.out.trans (B6.out.mono HBW.out.size)).size))) htl G HG.out.symm).mono ?_; rintro e w7 ⟨gv,rfl,hgv,hb7⟩; obtain ⟨ga,gc,rfl⟩:=hgv.slice; have HGv:=zi5 hgv; have b7:=bD.trans (hb7.mono bD.size); clear hgv hb7
     refine hK.out _ _ (HT.out _ b7) (fun hHeld=>?_)
     clear hK K;refine tH 8 (h:=?_);refine tH 9 (h:=?_);refine tH 10 (h:=?_);refine tH 11 (h:=?_);refine tH 12 (h:=?_);refine wpAnyH_done (by kernel_rfl) ?_ _;refine NoPanic.normal ?_;have B7:=zi5 (B6.out.trans (b7.mono B6.out.size)); have HKy:=zi5 (zab b7 lk6 HKx.out); have HRe7:=zi5 (HRe6.out.below b7);clear HT bD b7 HKx HRe6 HRe5 ls6 lr6;have lk7:=zaa HKy.out
     have HT:=zi5 (show ∀ w',Below w7.heap.size w7 w'→(w'.cell? ⟨b2,off2 + j * 3,none⟩ = some (.int .i64 p.len)∧w'.cell? ⟨b2,off2 + j * 3 + 1,none⟩ = some (.int .i64 p.hashes)∧w'.cell? ⟨b2,off2 + j * 3 + 2,none⟩ = some (.int .i64 p.salt))∧w'.cell? ⟨kb,0,none⟩ = some (.int .u64 KX.1)∧w'.cell? ⟨kb,1,none⟩ = some (.int .u64 KX.2) from fun w' hb =>
      ⟨(HCells.out w' (B7.out.trans (hb.mono B7.out.size))).1,zak (zab hb lk7 HKy.out)⟩)
     have bD:Below w7.heap.size w7 w7.drew:=(Below.refl _ _).drew;have hw7:Below w.heap.size w w7:=HBW.out.trans (B7.out.mono HBW.out.size);have zD:w7.drew.heap.size = w7.heap.size:=rfl;have hz7:=B7.out.size;go_wp2_with fail
     go_cut [17] (fun s17 wx=>∃ (bb:Nat) (c:BV),s17 = .pointer (some ⟨bb,0,none⟩)∧wx.heap[bb]? = some (.cells (zbp c).toArray 78 (0,0))∧BitsAt wx (fun x=>WR.heap.size≤x) (.agg (zbp c).toArray) B∧Below w7.heap.size w7 wx)
     case first =>
      refine wp_region_noPanic ?_
      refine zat (by kernel_rfl) (fun w'=>(w'.cell? ⟨b2,off2 + j * 3,none⟩ = some (.int .i64 p.len)∧w'.cell? ⟨b2,off2 + j * 3 + 1,none⟩ = some (.int .i64 p.hashes)∧w'.cell? ⟨b2,off2 + j * 3 + 2,none⟩ = some (.int .i64 p.salt))∧w'.cell? ⟨kb,0,none⟩ = some (.int .u64 KX.1)∧w'.cell? ⟨kb,1,none⟩ = some (.int .u64 KX.2)) 11 (HT.out _ bD) (fun hHeld=>?_)
      refine tK 0 (h:=?_);refine tK 1 (h:=?_);refine tK 2 (h:=?_);refine tK 3 (h:=?_);refine tK 4 (h:=?_);refine tK 5 (h:=?_);refine za8 (rs:=[6,10]) (by kernel_rfl) (by simp) ?_
      refine AllReadyK.cons rfl (fun K hK=>?_) (AllReadyK.cons rfl (fun K hK=>?_) AllReadyK.nil)
      focus
       go_simp
       refine (rbencode_yes zaw p KX _ G.1 _ HFJ.out.par (HGv.out.below bD) (fun g hg=>by have:=HG3.out g hg; omega) HG2.out).mono ?_
       rw [HBN.out];rintro e w8 ⟨_,rfl,hbv,hb8⟩;obtain ⟨⟨bl,ba,bn,bc⟩,rfl,hbv'⟩:=hbv.form;have b8:=bD.trans (hb8.mono bD.size)
       refine za5 hK (HT.out _ b8) (fun hHeld=>?_)
       clear hK K;refine tK 7 (h:=?_);refine tK 8 (h:=?_);refine t0 9 (h:=?_)
       refine xrK 10 rfl fun K hK=>?_
       go_simp;skip
       refine za5 hK (HT.out _ (b8.alloc b8.size _)) (fun hHeld=>?_)
       clear hK K
       refine zbb (fun W9 hW9=>?_)
       have b9:Below w7.heap.size w7 W9:=by rw [hW9]; exact b8.alloc b8.size _
       have z9:W9.heap[w8.heap.size]? = some (.cells #[.int .i64 0,.slice none 0 0] 78 (0,0)):=by rw [hW9]; exact zac rfl
       have k9:∀ x,x < w8.heap.size→W9.heap[x]? = w8.heap[x]?:=fun x hx=>by rw [hW9]; exact heap_alloc_old _ _ hx
       have s9:w8.heap.size≤W9.heap.size:=by rw [hW9]; simp
       clear hW9 hHeld;have hHeld:=HT.out _ b9;obtain ⟨e0,e1⟩:=zak z9; have l9:=zaa z9; have g0:=frozen_of_row _ _ 0 _ _ z9; have g1:=frozen_of_row _ _ 1 _ _ z9
       refine xrK 11 rfl fun K hK=>?_
       go_simp;refine zas hK (by decide) ?_;clear hK K;refine t0 12 (h:=?_);refine zap (by kernel_rfl) ?_ _;refine NoPanic.normal ?_;go_wp2_with fail
       go_meet;exact ⟨_,⟨bl,ba,bn,bc⟩,rfl,zad (i:=1) (v:=.slice ba bn bc) (zad (i:=0) (v:=.int .i64 bl) z9),(hbv'.move (by simpa [World.setCell] using s9) (fun x hx _=>by rw [heap_setCell_other _ _ _ _ (by show x≠w8.heap.size; omega),heap_setCell_other _ _ _ _ (by show x≠w8.heap.size; omega)]; exact k9 x hx)).weaken (fun x hx=>by have hx':w7.drew.heap.size≤x:=hx; omega),(b9.setCell (p:=⟨w8.heap.size,0,none⟩) b8.size _).setCell (p:=⟨w8.heap.size,1,none⟩) b8.size _⟩
      focus
       go_simp
       refine za5 hK (HT.out _ (bD.alloc bD.size _)) (fun hHeld=>?_)
       clear hK K
       refine zbb (fun W9 hW9=>?_)
       have b9:Below w7.heap.size w7 W9:=by rw [hW9]; exact bD.alloc bD.size _
       have z9:W9.heap[w7.heap.size]? = some (.cells #[.int .i64 0,.slice none 0 0] 78 (0,0)):=by rw [hW9]; exact zac rfl
       clear hW9 hHeld;have hHeld:=HT.out _ b9;have l9:=zaa z9
       refine xrK 6 rfl fun K hK=>?_
       go_simp
       refine (rbencode_yes zaw p KX _ G.1 _ HFJ.out.par (HGv.out.below b9) (fun g hg=>by have:=HG3.out g hg; omega) HG2.out).mono ?_; rw [HBN.out]; rintro e w8 ⟨_,rfl,hbv,hb8⟩; obtain ⟨⟨bl,ba,bn,bc⟩,rfl,hbv'⟩:=hbv.form; have b8:=b9.trans (hb8.mono b9.size); have z8:=zab hb8 l9 z9
       refine za5 hK (HT.out _ b8) (fun hHeld=>?_)
       clear hK K;refine tK 7 (h:=?_);refine tK 8 (h:=?_);refine t0 9 (h:=?_);obtain ⟨e0,e1⟩:=zak z8; have l8:=zaa z8; have g0:=frozen_of_row _ _ 0 _ _ z8; have g1:=frozen_of_row _ _ 1 _ _ z8
       refine xrK 11 rfl fun K hK=>?_
       go_simp;refine zas hK (by decide) ?_;clear hK K;refine t0 12 (h:=?_);refine zap (by kernel_rfl) ?_ _;refine NoPanic.normal ?_;go_wp2_with fail
       go_meet;exact ⟨_,⟨bl,ba,bn,bc⟩,rfl,zad (i:=1) (v:=.slice ba bn bc) (zad (i:=0) (v:=.int .i64 bl) z8),((hbv'.weaken (T:=fun x=>w7.heap.size < x) (fun x hx=>by have hx':W9.heap.size≤x:=hx; omega)).move (by simp [World.setCell]) (fun x hx hs=>by have hs':w7.heap.size < x:=hs; rw [heap_setCell_other _ _ _ _ (by show x≠w7.heap.size; omega),heap_setCell_other _ _ _ _ (by show x≠w7.heap.size; omega)])).weaken (fun x hx=>by have hx':w7.heap.size < x:=hx; omega),(b8.setCell (p:=⟨w7.heap.size,0,none⟩) xnl _).setCell (p:=⟨w7.heap.size,1,none⟩) xnl _⟩
     case rest =>
      obtain ⟨w8,hw8⟩:∃ u,u = wc:=⟨_,rfl⟩;subst hw8;obtain ⟨bb,⟨bl,ba,bn,bc⟩,rfl,hbb,hbt,hb8⟩:=hcut;have B8:=zi5 (B7.out.trans (hb8.mono B7.out.size)); have HRe8:=zi5 (HRe7.out.below hb8);obtain ⟨y0,y1⟩:=zak hbb;have lbb:=zaa hbb;obtain ⟨x0,x1,x2⟩:=zai HRe8.out.x;have lx:=zaa HRe8.out.x;have HBt:=zi5 hbt;have hb1:Below w8.heap.size w8 (w8.alloc (.cells (zbp ⟨bl,ba,bn,bc⟩).toArray 78)):=(Below.refl _ _).alloc xnl _;have HO1:=zi5 (HRe8.out.own.below hb1);have HR1:=zi5 (show zco (w8.alloc (.cells (zbp ⟨bl,ba,bn,bc⟩).toArray 78)) 2 (.slice (some ⟨w8.heap.size,0,none⟩) 1 1) [(⟨bl,ba,bn,bc⟩:BV)].length ([(⟨bl,ba,bn,bc⟩:BV)].flatMap zbp) from zav (xs:=[(⟨bl,ba,bn,bc⟩:BV)].flatMap zbp) (fr:=(0,0)) (t:=78) (zac rfl) rfl);have hcn:C.length + [(⟨bl,ba,bn,bc⟩:BV)].length≤1000000000:=by rw [HCl.out]; simp only [List.length_cons,List.length_nil]; omega
      clear hbb hbt hb8 hb1;go_wp2_with (at_builtin; refine zbq rfl (.tmp 99) (.tmp 101) 30 rfl 78 (.agg #[.int .i64 0,.slice none 0 0]) 2 32 zbp (fun _=>rfl) zf7 underlying30 zhq rfl (by decide) (by decide) (w0:=w) (v:=.slice va j vc) (A:=C) (B:=[⟨bl,ba,bn,bc⟩]) rfl HO1.out rfl HR1.out hcn ?_; intro v5 w5 ho5 hk5 hz5 hat5; obtain ⟨a5,c5,e5⟩:=za1 ho5.1; have hl5:(C ++ [(⟨bl,ba,bn,bc⟩:BV)]).length = j + 1:=(by rw [List.length_append,HCl.out]; rfl); rw [hl5] at e5; subst e5; clear hl5; have hn1:=HRe8.out.n; have hx6:=hk5 _ _ (fun e=>absurd (hn1 _ e.symm) (by omega)) (zaf HRe8.out.x); have lx5:=zaa hx6; have fo:=frozen_of_row _ _ 2 _ _ hx6; obtain ⟨yy0,yy1,yy2⟩:=zai hx6)
      go_roundw
      case rel =>
       refine ⟨j + 1,C ++ [⟨bl,ba,bn,bc⟩],a5,c5,by go_num,by omega,by rw [List.length_append,HCl.out]; rfl,?_⟩;rw [HSu.out,HFn.out]
       exact HRe.out.step B8.out HBt.out ho5 (fun q o h1 h2=>hk5 q o h1 (zaf h2)) (Nat.le_trans (by simp) hz5) (by
        rcases hat5 with h1 | h1 | h1
        ·exact .inl h1
        ·exact .inr (.inl h1)
        ·exact .inr (.inr ⟨_,h1,by simp⟩))
      case measure=>simp [intOf]; omega
  ·have hq:decide ((j:Int) < (P.length:Int)) = false:=by simp; omega
   obtain rfl:j = P.length:=by omega
   obtain ⟨z0,z1,z2⟩:=zai HRe.out.z;have lz:=zaa HRe.out.z;have f0:=frozen_of_row _ _ 0 _ _ HRe.out.z; have f1:=frozen_of_row _ _ 1 _ _ HRe.out.z; have f2:=frozen_of_row _ _ 2 _ _ HRe.out.z;go_wp2_with fail
   refine zag rfl rfl (zad (i:=2) (v:=.slice va P.length vc) (zad (i:=1) (v:=.int .i64 rver) (zad (i:=0) (v:=.int .i64 rid) HRe.out.z))) underlying32 rfl (by kernel_rfl) ?_;have hvo:=own_vecG (k:=2) (enc:=zbp) (fun _=>rfl) HRe.out.own.1
   have hxb:=HRe.out.xb4;have hn:=HRe.out.n
   have hkeep:∀ x,x < WR.heap.size→xb < x→((((WR.setCell ⟨w.heap.size + 3,0,none⟩ (.int .i64 rid)).setCell ⟨w.heap.size + 3,1,none⟩ (.int .i64 rver)).setCell ⟨w.heap.size + 3,2,none⟩ (.slice va P.length vc)).heap[x]? = WR.heap[x]?)∧w.heap.size≤x:=fun x _ hx=>by
    rw [heap_setCell_other _ _ _ _ (by show x≠w.heap.size + 3; omega),heap_setCell_other _ _ _ _ (by show x≠w.heap.size + 3; omega),heap_setCell_other _ _ _ _ (by show x≠w.heap.size + 3; omega)];exact ⟨rfl,by omega⟩
   have hz:WR.heap.size≤(((WR.setCell ⟨w.heap.size + 3,0,none⟩ (.int .i64 rid)).setCell ⟨w.heap.size + 3,1,none⟩ (.int .i64 rver)).setCell ⟨w.heap.size + 3,2,none⟩ (.slice va P.length vc)).heap.size:=by simp [World.setCell]
   refine ⟨_,rfl,⟨_,rfl,C,?_,?_⟩,((HRe.out.own.2.setCell (p:=⟨w.heap.size + 3,0,none⟩) (by simp) _).setCell (p:=⟨w.heap.size + 3,1,none⟩) (by simp) _).setCell (p:=⟨w.heap.size + 3,2,none⟩) (by simp) _⟩
   ·exact hvo.move hz fun x hx hs=>hkeep x hx (hn x hs.2)
   ·exact HRe.out.all.move hz fun x hx hs=>hkeep x hx hs.2
end
section
open Go.RowKit Cal
attribute [local go_sem] zah zaj zaq
theorem zdb (S:Nat→Prop) (vf vt vn vs:Value) (s:SchemaL) (P:List ParL) (pv:Value) (k:Int × Int) (r:RecL) (sv:Value) (w:World) (h:SchemaAt w S vf vt vn vs s) (hp:Vec w zaw 3 zbc pv P) (hv:Vec w zaw 1 za2 sv r.vals) (hi:∀ p∈P,InI p.len) (hn:P.length≤1000000)
  (hs:∀ x∈r.vals,x.length≤1000000) (hm:r.vals.length≤1000000) :
  Calls prog 20 #[.agg #[vf,vt,vn,vs],pv,.agg #[.int .u64 k.1,.int .u64 k.2],.agg #[.int .i64 r.id,.int .i64 r.ver,sv]] w (EncPair (zfj s P k r) w):=by
 by_cases hc:zb0 s P = 0
 ·by_cases hcr:zb7 s r = 0
  ·have:zfj s P k r = (ziz s P k r,0):=by unfold zfj; rw [if_pos hc,if_pos hcr]
   rw [this];exact zgh S vf vt vn vs s P pv k r sv w h hp hv hc hcr
  ·have hR:zfj s P k r = (zgp,zb7 s r):=by unfold zfj; rw [if_pos hc,if_neg hcr]
   rw [hR];obtain ⟨c,hcc⟩:∃ c,zb7 s r = c:=⟨_,rfl⟩;rw [hcc] at hcr ⊢;have dz:(c != 0) = true:=by simpa using hcr
   obtain ⟨a,cap,rfl⟩:=hp.slice;obtain ⟨av,cv,rfl⟩:=hv.slice;obtain ⟨rid,rver,vals⟩:=r;dsimp only at hv hs hm ⊢;have HP:=zi5 hp; have HV:=zi5 hv; have HS:=zi5 h.any; have HSh:=zi5 hs; have HC:=zi5 hc; have HCr:=zi5 hcc; have HI:=zi5 hi;clear hp hv h hs hc hcc hR hi hcr;go_enter func20,ntmps20
   go_wp2_with fail
   refine zae (fun W hW=>?_)
   have hb0:Below w.heap.size w W:=by rw [hW]; exact ((((Below.refl w.heap.size w).alloc xnl _).alloc (by simp) _).alloc (by simp; omega) _).alloc (by simp; omega) _
   have hs0:W.heap[w.heap.size]? = some (.cells #[vf,vt,vn,vs] 44 (0,0)):=by rw [hW]; exact zaf (zaf (zaf (zac rfl)))
   have hr0:W.heap[w.heap.size + 2]? = some (.cells #[.int .i64 rid,.int .i64 rver,.slice av vals.length cv] 29 (0,0)):=by rw [hW]; exact zaf (zac (by simp))
   have hz0:W.heap[w.heap.size + 3]? = some (.cells #[.int .i64 0,.int .i64 0,.slice none 0 0] 32 (0,0)):=by rw [hW]; exact zac (by simp)
   clear hW;refine (zew zaw _ _ _ _ s P _ _ (HS.out.below hb0) (HP.out.below hb0) HI.out hn).mono ?_;rw [HC.out];rintro e w1 ⟨rfl,hb⟩;have hs1:=zab hb (zaa hs0) hs0; have hr1:=zab hb (zaa hr0) hr0; have hz1:=zab hb (zaa hz0) hz0;have HB1:=zi5 (hb0.trans (hb.mono hb0.size)); have HZ1:=zi5 hz1;obtain ⟨s0,s1,s2,s3⟩:=zan hs1; obtain ⟨r0,r1,r2⟩:=zai hr1;clear hb hb0 hs0 hr0 hz0 hs1 hr1 hz1;have d0:((0:Int) != 0) = false:=rfl;go_wp2_with fail
   refine (zh1 zaw zaw _ _ _ _ s ⟨rid,rver,vals⟩ _ _ (HS.out.below HB1.out) (HV.out.below HB1.out) HSh.out hm).mono ?_;rw [HCr.out];rintro e w2 ⟨rfl,hb⟩;have HZ2:=zi5 (zab hb (zaa HZ1.out) HZ1.out); have HB2:=zi5 (HB1.out.trans (hb.mono HB1.out.size));have lz:=zaa HZ2.out;obtain ⟨z0,z1,z2⟩:=zai HZ2.out;have f0:=frozen_of_row _ _ 0 _ _ HZ2.out; have f1:=frozen_of_row _ _ 1 _ _ HZ2.out; have f2:=frozen_of_row _ _ 2 _ _ HZ2.out;clear hb s0 s1 s2 s3 r0 r1 r2;go_wp2_with fail
   exact zag rfl rfl (zad (i:=2) (v:=.slice none 0 0) (zad (i:=1) (v:=.int .i64 0) (zad (i:=0) (v:=.int .i64 0) HZ2.out))) underlying32 rfl (by kernel_rfl) (enc_bad (by omega) HB2.out)
 ·have hR:zfj s P k r = (zgp,zb0 s P):=by unfold zfj; rw [if_neg hc]
  rw [hR];obtain ⟨c,hcc⟩:∃ c,zb0 s P = c:=⟨_,rfl⟩;rw [hcc] at hc ⊢;have dz:(c != 0) = true:=by simpa using hc
  obtain ⟨a,cap,rfl⟩:=hp.slice;obtain ⟨av,cv,rfl⟩:=hv.slice;obtain ⟨rid,rver,vals⟩:=r;dsimp only at hv hs hm ⊢;have HP:=zi5 hp; have HS:=zi5 h.any; have HC:=zi5 hcc; have HI:=zi5 hi;clear hp hv h hs hcc hR hi hc;go_enter func20,ntmps20
  go_wp2_with fail
  refine zae (fun W hW=>?_)
  have hb0:Below w.heap.size w W:=by rw [hW]; exact ((((Below.refl w.heap.size w).alloc xnl _).alloc (by simp) _).alloc (by simp; omega) _).alloc (by simp; omega) _
  have hz0:W.heap[w.heap.size + 3]? = some (.cells #[.int .i64 0,.int .i64 0,.slice none 0 0] 32 (0,0)):=by rw [hW]; exact zac (by simp)
  clear hW;refine (zew zaw _ _ _ _ s P _ _ (HS.out.below hb0) (HP.out.below hb0) HI.out hn).mono ?_;rw [HC.out];rintro e w1 ⟨rfl,hb⟩;have HZ2:=zi5 (zab hb (zaa hz0) hz0); have HB2:=zi5 (hb0.trans (hb.mono hb0.size));have lz:=zaa HZ2.out;obtain ⟨z0,z1,z2⟩:=zai HZ2.out;have f0:=frozen_of_row _ _ 0 _ _ HZ2.out; have f1:=frozen_of_row _ _ 1 _ _ HZ2.out; have f2:=frozen_of_row _ _ 2 _ _ HZ2.out;clear hb hb0 hz0;go_wp2_with fail
  exact zag rfl rfl (zad (i:=2) (v:=.slice none 0 0) (zad (i:=1) (v:=.int .i64 0) (zad (i:=0) (v:=.int .i64 0) HZ2.out))) underlying32 rfl (by kernel_rfl) (enc_bad (by omega) HB2.out)
end
section
open Go.RowKit Cal
theorem zfu (S:Nat→Prop) (v:Value) (b:BitsL) (w:World) (h:BitsAt w S v b) :
  Calls prog 71 #[v] w fun e w'=>e = .returned (.bool (zgu b))∧Below w.heap.size w w':=by
 obtain ⟨s,rfl,hv⟩:=h;obtain ⟨a,cap,rfl⟩:=hv.slice;obtain ⟨len,ws⟩:=b;clear hv;obtain ⟨r,hr⟩:∃ r,zgu ⟨len,ws⟩ = r:=⟨_,rfl⟩;rw [hr];by_cases h1:len = 0
 ·by_cases h2:ws.length = 0
  ·have d1:(len == (0:Int)) = true:=by rw [h1]; rfl
   have d2:((ws.length:Int) == 0) = true:=by rw [h2]; rfl
   have hr2:r = true:=by rw [← hr]; unfold zgu; dsimp only; rw [decide_eq_true h1,decide_eq_true h2]; rfl
   subst hr2;clear h1 h2 hr;go_enter func71,ntmps71
   go_wp2_with fail
   go_ret;exact ⟨rfl,(Below.refl _ _).alloc xnl _⟩
  ·have d1:(len == (0:Int)) = true:=by rw [h1]; rfl
   have d2:((ws.length:Int) == 0) = false:=beq_eq_false_iff_ne.2 (by omega);have hr2:r = false:=by rw [← hr]; unfold zgu; dsimp only; rw [decide_eq_false h2]; simp
   subst hr2;clear h1 h2 hr;go_enter func71,ntmps71
   go_wp2_with fail
   go_ret;exact ⟨rfl,(Below.refl _ _).alloc xnl _⟩
 ·have d1:(len == (0:Int)) = false:=beq_eq_false_iff_ne.2 h1
  have hr2:r = false:=by rw [← hr]; unfold zgu; dsimp only; rw [decide_eq_false h1]; rfl
  subst hr2;clear h1 hr;go_enter func71,ntmps71
  go_wp2_with fail
  go_ret;exact ⟨rfl,(Below.refl _ _).alloc xnl _⟩
theorem evalid_no {x:EncL} (h:x.id < 1∨1048576 < x.id∨x.ver < 1∨1048576 < x.ver∨x.fields.length < 1∨5 < x.fields.length):zbd x = false:=by
 cases hv:zbd x with
 | false=>rfl
 | true =>
  unfold zbd at hv;simp only [Bool.and_eq_true,decide_eq_true_eq] at hv;omega
theorem zfo (S:Nat→Prop) (v:Value) (x:EncL) (w:World) (h:EncVal w S v x) (hi:∀ b∈x.fields,InI b.len) (hn:x.fields.length≤1000000) :
  Calls prog 23 #[v] w fun e w'=>e = .returned (.bool (zbd x))∧Below w.heap.size w w':=by
 obtain ⟨s,rfl,h⟩:=h;obtain ⟨a,cap,rfl⟩:=h.slice;obtain ⟨id,ver,F⟩:=x;dsimp only at h hi hn ⊢;have HV:=zi5 h; have HI:=zi5 hi; clear h hi;have hno:=@evalid_no ⟨id,ver,F⟩;dsimp only at hno;obtain ⟨r,hr⟩:∃ r,zbd ⟨id,ver,F⟩ = r:=⟨_,rfl⟩;rw [hr] at hno ⊢;have HNo:=zi5 hno; have HR:=zi5 hr;clear hno hr;by_cases c1:id < 1
 ·have d1:decide (id < (1:Int)) = true:=by simpa using c1
  have hr2:=HNo.out (.inl c1); subst hr2; clear HNo HR c1;go_enter func23,ntmps23
  go_wp2_with fail
  go_ret;exact ⟨rfl,(Below.refl _ _).alloc xnl _⟩
 have d1:decide (id < (1:Int)) = false:=by simpa using c1
 by_cases c2:1048576 < id
 ·have d2:decide ((1048576:Int) < id) = true:=by simpa using c2
  have hr2:=HNo.out (.inr (.inl c2)); subst hr2; clear HNo HR c1 c2;go_enter func23,ntmps23
  go_wp2_with fail
  go_ret;exact ⟨rfl,(Below.refl _ _).alloc xnl _⟩
 have d2:decide ((1048576:Int) < id) = false:=by simpa using c2
 by_cases c3:ver < 1
 ·have d3:decide (ver < (1:Int)) = true:=by simpa using c3
  have hr2:=HNo.out (.inr (.inr (.inl c3))); subst hr2; clear HNo HR c1 c2 c3;go_enter func23,ntmps23
  go_wp2_with fail
  go_ret;exact ⟨rfl,(Below.refl _ _).alloc xnl _⟩
 have d3:decide (ver < (1:Int)) = false:=by simpa using c3
 by_cases c4:1048576 < ver
 ·have d4:decide ((1048576:Int) < ver) = true:=by simpa using c4
  have hr2:=HNo.out (.inr (.inr (.inr (.inl c4)))); subst hr2; clear HNo HR c1 c2 c3 c4;go_enter func23,ntmps23
  go_wp2_with fail
  go_ret;exact ⟨rfl,(Below.refl _ _).alloc xnl _⟩
 have d4:decide ((1048576:Int) < ver) = false:=by simpa using c4
 by_cases c5:F.length < 1
 ·have d5:decide ((F.length:Int) < 1) = true:=by simp only [decide_eq_true_eq]; omega
  have hr2:=HNo.out (.inr (.inr (.inr (.inr (.inl c5))))); subst hr2; clear HNo HR c1 c2 c3 c4 c5;go_enter func23,ntmps23
  go_wp2_with fail
  go_ret;exact ⟨rfl,(Below.refl _ _).alloc xnl _⟩
 have d5:decide ((F.length:Int) < 1) = false:=by simp only [decide_eq_false_iff_not]; omega
 by_cases c6:5 < F.length
 ·have d6:decide ((5:Int) < (F.length:Int)) = true:=by simp only [decide_eq_true_eq]; omega
  have hr2:=HNo.out (.inr (.inr (.inr (.inr (.inr c6))))); subst hr2; clear HNo HR c1 c2 c3 c4 c5 c6;go_enter func23,ntmps23
  go_wp2_with fail
  go_ret;exact ⟨rfl,(Below.refl _ _).alloc xnl _⟩
 have d6:decide ((5:Int) < (F.length:Int)) = false:=by simp only [decide_eq_false_iff_not]; omega
 have HR2:=zi5 (show (!(F.any badB)) = r by
  rw [← HR.out]; unfold zbd
  rw [decide_eq_true (show 1≤id by omega),decide_eq_true (show id≤1048576 by omega),decide_eq_true (show 1≤ver by omega),decide_eq_true (show ver≤1048576 by omega),decide_eq_true (show 1≤F.length by omega),decide_eq_true (show F.length≤5 by omega)]; rfl)
 clear HNo HR c1 c2 c3 c4 c5 c6;go_enter func23,ntmps23
 go_wp2_with fail
 refine zao (fun W hW=>?_)
 have hb0:=xal hW
 have hx0:W.heap[w.heap.size]? = some (.cells #[.int .i64 id,.int .i64 ver,.slice a F.length cap] 32 (0,0)):=by rw [hW]; exact zac rfl
 have HB0:=zi5 hb0; have HX:=zi5 hx0;have lx:=zaa hx0;clear hW hb0 hx0;go_loopw [3] (fun i wr=>∃ k:Nat,k≤F.length∧i = .int .i64 k∧Below W.heap.size W wr∧Hid ((F.take k).any badB = false)) (fun i _=>F.length - (intOf i).toNat)
 case atStart=>exact ⟨0,by omega,rfl,Below.refl _ _,zi5 (by simp)⟩
 case round =>
  obtain ⟨k,hk,rfl,hbw,HA⟩:=hrel;have HB:=zi5 (HB0.out.trans (hbw.mono HB0.out.size)); have HW:=zi5 hbw;obtain ⟨x0,x1,x2⟩:=zai (zab hbw lx HX.out);have lxr:=Nat.lt_of_lt_of_le lx hbw.size;by_cases hlt:k < F.length
  ·have hq:decide ((k:Int) < (F.length:Int)) = true:=by simp; omega
   have hki:(k:Int) < (F.length:Int):=by omega
   obtain ⟨b,off,c,rfl,lb,c0,c1,hbt⟩:=(HV.out.below HB.out).at k hlt;obtain ⟨bt,hbe⟩:∃ bt,F.getD k zba = bt:=⟨_,rfl⟩;have hbi:InI bt.len:=by rw [← hbe,zbi _ _ hlt]; exact HI.out _ (List.getElem_mem hlt)
   have hts:(F.take (k + 1)).any badB = badB bt:=by rw [List.take_succ_eq_append_getElem hlt,List.any_append,HA.out,Bool.false_or,← hbe,zbi _ _ hlt]; simp
   have hmem:bt∈F:=by rw [← hbe,zbi _ _ hlt]; exact List.getElem_mem hlt
   rw [hbe] at hbt;have HBt:=zi5 hbt; have HTs:=zi5 hts; have HBi:=zi5 hbi; have HMem:=zi5 hmem;clear hbw hbt hbe hts hbi hmem;go_wp2_with fail
   refine (zfu S _ bt _ HBt.out).mono ?_;rintro e w2 ⟨rfl,hb⟩;have HBt2:=zi5 (HBt.out.below hb); have HW2:=zi5 (HW.out.trans (hb.mono HW.out.size));have y0:=(hb.cell (p:=⟨b,off + k * 2,none⟩) lb).trans c0; have y1:=(hb.cell (p:=⟨b,off + k * 2 + 1,none⟩) lb).trans c1;have lb2:=Nat.lt_of_lt_of_le lb hb.size;clear hb x0 x1 x2 c0 c1 lxr;obtain ⟨x0,x1,x2⟩:=zai (zab HW2.out lx HX.out);have lxr:=Nat.lt_of_lt_of_le lx HW2.out.size;by_cases hnone:zgu bt = true
   ·rw [hnone]
    have HT3:=zi5 (show (F.take (k + 1)).any badB = false by rw [HTs.out]; unfold badB; rw [hnone]; rfl);clear hnone;go_wp2_with fail
    go_roundw
    case rel=>exact ⟨k + 1,by omega,by go_num,HW2.out,HT3⟩
    case measure=>simp [intOf]; omega
   ·rw [Bool.eq_false_iff.2 hnone]
    go_wp2_with fail
    refine (zgk S _ bt _ HBt2.out HBi.out.1 HBi.out.2).mono ?_;rintro e w3 ⟨rfl,hb⟩;have HW3:=zi5 (HW2.out.trans (hb.mono HW2.out.size));clear hb x0 x1 x2 y0 y1;by_cases hvd:zbv bt = true
    ·rw [hvd]
     have HT3:=zi5 (show (F.take (k + 1)).any badB = false by rw [HTs.out]; unfold badB; rw [hvd]; simp);clear hnone hvd;go_wp2_with fail
     go_roundw
     case rel=>exact ⟨k + 1,by omega,by go_num,HW3.out,HT3⟩
     case measure=>simp [intOf]; omega
    ·rw [Bool.eq_false_iff.2 hvd]
     have hr2:r = false:=by
      rw [← HR2.out]
      have:F.any badB = true:=by
       rw [List.any_eq_true];exact ⟨bt,HMem.out,by unfold badB; rw [Bool.eq_false_iff.2 hnone,Bool.eq_false_iff.2 hvd]; rfl⟩
      rw [this]; rfl
     subst hr2;clear hnone hvd;go_wp2_with fail
     go_ret;exact ⟨rfl,HB0.out.trans (HW3.out.mono HB0.out.size)⟩
  ·have hq:decide ((k:Int) < (F.length:Int)) = false:=by simp; omega
   have hr2:r = true:=by
    rw [← HR2.out];have h:=HA.out;rw [List.take_of_length_le (by omega)] at h;rw [h]; rfl
   subst hr2;clear hbw;go_wp2_with fail
   go_ret;exact ⟨rfl,HB.out⟩
theorem same_no {a b:EncL} (h:a.id≠b.id∨a.ver≠b.ver∨a.fields.length≠b.fields.length):zif a b = false:=by
 cases hv:zif a b with
 | false=>rfl
 | true =>
  unfold zif sameF at hv;simp only [Bool.and_eq_true,decide_eq_true_eq] at hv;omega
theorem zgg (S T:Nat→Prop) (u v:Value) (a b:EncL) (w:World) (hu:EncVal w S u a) (hv:EncVal w T v b) (hn:a.fields.length≤1000000) (hww:∀ b∈a.fields,b.words.length≤1000000) :
  Calls prog 21 #[u,v] w fun e w'=>e = .returned (.bool (zif a b))∧Below w.heap.size w w':=by
 obtain ⟨s,rfl,hu⟩:=hu;obtain ⟨t,rfl,hv⟩:=hv;obtain ⟨aa,ca,rfl⟩:=hu.slice;obtain ⟨ab,cb,rfl⟩:=hv.slice;obtain ⟨i,n,F⟩:=a;obtain ⟨j,m,G⟩:=b;dsimp only at hu hv hn hww ⊢;have HU:=zi5 hu; have HV:=zi5 hv; have HWw:=zi5 hww;have hno:=@same_no ⟨i,n,F⟩ ⟨j,m,G⟩;dsimp only at hno;obtain ⟨r,hr⟩:∃ r,zif ⟨i,n,F⟩ ⟨j,m,G⟩ = r:=⟨_,rfl⟩;rw [hr] at hno ⊢;have HNo:=zi5 hno; have HR:=zi5 hr;clear hu hv hww hno hr;by_cases c1:i = j;rotate_left
 ·have d1:(i != j) = true:=by simpa using c1
  have hr2:=HNo.out (.inl c1); subst hr2; clear HNo HR c1;go_enter func21,ntmps21
  go_wp2_with fail
  go_ret;exact ⟨rfl,((Below.refl _ _).alloc xnl _).alloc (by simp) _⟩
 have d1:(i != j) = false:=by simpa using c1
 by_cases c2:n = m;rotate_left
 ·have d2:(n != m) = true:=by simpa using c2
  have hr2:=HNo.out (.inr (.inl c2)); subst hr2; clear HNo HR c1 c2;go_enter func21,ntmps21
  go_wp2_with fail
  go_ret;exact ⟨rfl,((Below.refl _ _).alloc xnl _).alloc (by simp) _⟩
 have d2:(n != m) = false:=by simpa using c2
 by_cases c3:F.length = G.length;rotate_left
 ·have d3:((F.length:Int) != (G.length:Int)) = true:=by rw [bne_iff_ne]; omega
  have hr2:=HNo.out (.inr (.inr c3)); subst hr2; clear HNo HR c1 c2 c3;go_enter func21,ntmps21
  go_wp2_with fail
  go_ret;exact ⟨rfl,((Below.refl _ _).alloc xnl _).alloc (by simp) _⟩
 have d3:((F.length:Int) != (G.length:Int)) = false:=by rw [c3]; simp
 have HR2:=zi5 (show (List.range F.length).all (zf1 F G) = r by
  rw [← HR.out]; unfold zif sameF; rw [decide_eq_true c1,decide_eq_true c2,decide_eq_true c3]; rfl)
 have HL:=zi5 c3;clear HNo HR c1 c2 c3;go_enter func21,ntmps21
 go_wp2_with fail
 refine zao (fun W hW=>?_)
 have hb0:=xam hW
 have hx0:W.heap[w.heap.size]? = some (.cells #[.int .i64 i,.int .i64 n,.slice aa F.length ca] 32 (0,0)):=by rw [hW]; exact zaf (zac rfl)
 have hy0:W.heap[w.heap.size + 1]? = some (.cells #[.int .i64 j,.int .i64 m,.slice ab G.length cb] 32 (0,0)):=by rw [hW]; exact zac (by simp)
 have HB0:=zi5 hb0; have HX:=zi5 hx0; have HY:=zi5 hy0;have lx:=zaa hx0; have ly:=zaa hy0;clear hW hb0 hx0 hy0 d1 d2 d3;go_loopw [5] (fun i wr=>∃ k:Nat,k≤F.length∧i = .int .i64 k∧Below W.heap.size W wr∧Hid ((List.range k).all (zf1 F G) = true)) (fun i _=>F.length - (intOf i).toNat)
 case atStart=>exact ⟨0,by omega,rfl,Below.refl _ _,zi5 (by simp)⟩
 case round =>
  obtain ⟨k,hk,rfl,hbw,HA⟩:=hrel;have HB:=zi5 (HB0.out.trans (hbw.mono HB0.out.size)); have HW:=zi5 hbw;obtain ⟨x0,x1,x2⟩:=zai (zab hbw lx HX.out); obtain ⟨y0,y1,y2⟩:=zai (zab hbw ly HY.out);have lxr:=Nat.lt_of_lt_of_le lx hbw.size; have lyr:=Nat.lt_of_lt_of_le ly hbw.size;by_cases hlt:k < F.length
  ·have hq:decide ((k:Int) < (F.length:Int)) = true:=by simp; omega
   have hki:(k:Int) < (F.length:Int):=by omega
   have hkg:k < G.length:=by have:=HL.out; omega
   have hkgi:(k:Int) < (G.length:Int):=by omega
   obtain ⟨b1,o1,cc1,rfl,lb1,p0,p1,hbt1⟩:=(HU.out.below HB.out).at k hlt;obtain ⟨b2,o2,cc2,rfl,lb2,q0,q1,hbt2⟩:=(HV.out.below HB.out).at k hkg;have hwl:(F.getD k zba).words.length≤1000000:=by rw [zbi _ _ hlt]; exact HWw.out _ (List.getElem_mem hlt)
   obtain ⟨ce,hce⟩:∃ ce,cmpB (F.getD k zba) (G.getD k zba) = ce:=⟨_,rfl⟩;have hts:(List.range (k + 1)).all (zf1 F G) = decide (ce = 0):=by rw [List.range_succ,List.all_append,HA.out,Bool.true_and,← hce]; simp [zf1]
   have hsk:zf1 F G k = decide (ce = 0):=by rw [← hce]; rfl
   have H1:=zi5 hbt1; have H2:=zi5 hbt2; have HTs:=zi5 hts; have HSk:=zi5 hsk;have cP:=zbl wr (fun W' hb=>by have h:=rcmpB_any S T _ _ _ _ W' (H1.out.below hb) (H2.out.below hb) hwl; rw [hce] at h; exact h)
   have g0:=cell_regrown x0; have g1:=cell_regrown x1; have g2:=cell_regrown x2; have k0:=cell_regrown y0; have k1:=cell_regrown y1; have k2:=cell_regrown y2;have r0:=cell_regrown p0; have r1:=cell_regrown p1; have r2:=cell_regrown q0; have r3:=cell_regrown q1;clear hbw hbt1 hbt2 hts hsk hce;go_wp2_with fail
   refine wp_region_quiet_below (by kernel_rfl) (by kernel_rfl) ?_;repeat (go_big_quiet_step (first | with_reducible exact cP _ _))
   refine wpQuiet_nil ?_;intro w2 hw'
   have hb2:Below wr.heap.size wr w2:=by
    obtain ⟨⟨dq,osq⟩,hw''⟩:=hw';rw [hw'']; exact below_regrown wr dq osq
   have HB2:=zi5 (HW.out.trans (hb2.mono HW.out.size));clear hw' hb2 cP g0 g1 g2 k0 k1 k2 r0 r1 r2 r3 p0 p1 q0 q1 x0 x1 x2 y0 y1 y2;by_cases hc0:ce = 0
   ·have dcc:(ce != 0) = false:=by rw [hc0]; rfl
    have HT3:=zi5 (show (List.range (k + 1)).all (zf1 F G) = true by rw [HTs.out,decide_eq_true hc0]);clear hc0;go_wp2_with fail
    go_roundw
    case rel=>exact ⟨k + 1,by omega,by go_num,HB2.out,HT3⟩
    case measure=>simp [intOf]; omega
   ·have dcc:(ce != 0) = true:=by simpa using hc0
    have hr2:r = false:=by
     rw [← HR2.out,List.all_eq_false];exact ⟨k,by simpa using hlt,by rw [HSk.out,decide_eq_false hc0]; simp⟩
    subst hr2;clear hc0;go_wp2_with fail
    go_ret;exact ⟨rfl,HB0.out.trans (HB2.out.mono HB0.out.size)⟩
  ·have hq:decide ((k:Int) < (F.length:Int)) = false:=by simp; omega
   have hr2:r = true:=by
    rw [← HR2.out];have h:=HA.out;rwa [show k = F.length by omega] at h
   subst hr2;clear hbw;go_wp2_with fail
   go_ret;exact ⟨rfl,HB.out⟩
end
section
open Go.RowKit Cal
attribute [local go_sem] zah zaj zar zaq
theorem rhex9_yes (S:Nat→Prop) (v:Value) (b:BitsL) (w:World) (h:BitsAt w S v b) (hvb:zbv b = true) (hw:∀ x∈b.words,0≤x∧x < 18446744073709551616) :
  Calls prog 81 #[v] w fun e w'=>e = .returned (.tuple #[zal (hexB b),.int .i64 0])∧Below w.heap.size w w':=by
 obtain ⟨s,rfl,hv⟩:=h;obtain ⟨a,cap,rfl⟩:=hv.slice;obtain ⟨len,ws⟩:=b;dsimp only at hv hw ⊢;have hvb0:=hvb;simp only [zbv,zb6,Bool.and_eq_true,decide_eq_true_iff,beq_iff_eq] at hvb0;obtain ⟨⟨⟨l1,l2⟩,l3⟩,l4⟩:=hvb0;have hm8:ws.length≤8:=by omega
 have hbx:hexB ⟨len,ws⟩ = (ws.map Int.toNat).flatMap (zgv 16):=rfl;rw [hbx];have HV:=zi5 hv.any; have HVb:=zi5 hvb; have HW:=zi5 hw;clear hv hvb l3 l4 hw hbx;go_enter func81,ntmps81
 go_wp2_with fail
 refine zae (fun W hW=>?_)
 have hb0:=xal hW
 have hx0:W.heap[w.heap.size]? = some (.cells #[.int .i64 len,.slice a ws.length cap] 78 (0,0)):=by rw [hW]; exact zac rfl
 clear hW;refine (zgk zaw _ ⟨len,ws⟩ W ⟨_,rfl,HV.out.below hb0⟩ (by dsimp only; omega) (by dsimp only; omega)).mono ?_;rw [HVb.out];rintro e w1 ⟨rfl,hb⟩;have HX1:=zi5 (zab hb (zaa hx0) hx0); have HB1:=zi5 (hb0.trans (hb.mono hb0.size));have lx:=zaa HX1.out;clear hb0 hx0 hb;go_wp2_with fail
 go_loopw [4,5] (fun sv i wr=>∃ k:Nat,k≤ws.length∧i = .int .i64 k∧sv = zal (((ws.take k).map Int.toNat).flatMap (zgv 16))∧Below w1.heap.size w1 wr) (fun _ i _=>ws.length - (intOf i).toNat)
 case atStart=>exact ⟨0,by omega,rfl,rfl,Below.refl _ _⟩
 case round =>
  obtain ⟨k,hk,rfl,rfl,hbw⟩:=hrel;have HB:=zi5 (HB1.out.trans (hbw.mono HB1.out.size));obtain ⟨x0,x1⟩:=zak (zab hbw lx HX1.out);have lxr:=Nat.lt_of_lt_of_le lx hbw.size;by_cases hlt:k < ws.length
  ·have hq:decide ((k:Int) < ws.length) = true:=by simp; omega
   have hki:(k:Int) < (ws.length:Int):=by omega
   obtain ⟨b,off,rfl,lb,hc⟩:=(HV.out.below HB.out).get k hlt;have c0:=hc 0 _ rfl;rw [Nat.mul_one,Nat.add_zero] at c0;have hrng:=HW.out _ (List.getElem_mem hlt);obtain ⟨n,hn⟩:∃ n:Nat,ws[k] = (n:Int):=⟨ws[k].toNat,by omega⟩;rw [hn] at c0 hrng;have hn64:n < 18446744073709551616:=by omega
   obtain ⟨P,hP⟩:∃ P,((ws.take k).map Int.toNat).flatMap (zgv 16) = P:=⟨_,rfl⟩;have hPl:P.length≤128:=by rw [← hP,flat16,List.length_map,List.length_take]; omega
   obtain ⟨z,hz⟩:∃ z,zgv 16 n = z:=⟨_,rfl⟩;have hzl:z.length≤16:=by rw [← hz,zet]; omega
   have hts:((ws.take (k + 1)).map Int.toNat).flatMap (zgv 16) = P ++ z:=by
    rw [List.take_succ_eq_append_getElem hlt,List.map_append,List.flatMap_append,hP,hn,← hz]; simp
   have hcat:¬ 9223372036854775807 < P.length + z.length:=by omega
   have hwd:=rword9_hex n;rw [hz] at hwd;rw [hP];have HWd:=zi5 hwd; have HTs:=zi5 hts; have HBW:=zi5 hbw;clear hc hn hP hz hts hbw hwd hrng;go_wp2_with fail
   refine (HWd.out _ hn64).mono ?_;rintro e w2 ⟨rfl,hb⟩;have HB2:=zi5 (HBW.out.trans (hb.mono HBW.out.size));clear hb x0 x1 c0;go_wp2_with fail
   go_roundw
   case rel=>exact ⟨k + 1,by omega,by go_num,by rw [HTs.out],HB2.out⟩
   case measure=>simp [intOf]; omega
  ·have hq:decide ((k:Int) < ws.length) = false:=by simp; omega
   obtain rfl:k = ws.length:=by omega
   rw [List.take_of_length_le xnl];clear hbw;go_wp2_with fail
   go_ret2;exact ⟨rfl,HB.out⟩
theorem rhex9_no (S:Nat→Prop) (v:Value) (b:BitsL) (w:World) (h:BitsAt w S v b) (hvb:zbv b = false) (hi:InI b.len) :
  Calls prog 81 #[v] w fun e w'=>e = .returned (.tuple #[zal [],.int .i64 8])∧Below w.heap.size w w':=by
 obtain ⟨s,rfl,hv⟩:=h;obtain ⟨a,cap,rfl⟩:=hv.slice;obtain ⟨len,ws⟩:=b;dsimp only at hv hi ⊢;have HV:=zi5 hv.any; have HVb:=zi5 hvb; have HI:=zi5 hi;clear hv hvb hi;go_enter func81,ntmps81
 go_wp2_with fail
 refine zae (fun W hW=>?_)
 have hb0:=xal hW
 clear hW;refine (zgk zaw _ ⟨len,ws⟩ W ⟨_,rfl,HV.out.below hb0⟩ HI.out.1 HI.out.2).mono ?_;rw [HVb.out];rintro e w1 ⟨rfl,hb⟩;have HB1:=zi5 (hb0.trans (hb.mono hb0.size));clear hb0 hb;go_wp2_with fail
 go_ret2;exact ⟨rfl,HB1.out⟩
end
section
open Go.RowKit Cal
attribute [local go_sem] zah zaj zar zaq
def chunkW (t:List UInt8) (j:Nat):Nat:=((t.drop (16 * j)).take 16).foldl zcu 0
def zcy (t:List UInt8) (k:Nat):List Nat:=(List.range k).map (chunkW t)
theorem zdv (t:List UInt8) (k:Nat):(zcy t k).length = k:=by simp [zcy]
theorem chunksW_succ (t:List UInt8) (k:Nat):zcy t (k + 1) = zcy t k ++ [chunkW t k]:=by simp [zcy,List.range_succ]
theorem layH_chunks (t:List UInt8) (m:Nat):∀ k,k≤m→16 * k≤t.length→layH (List.replicate m 0) 0 (t.take (16 * k)) = zcy t k ++ List.replicate (m - k) 0
 | 0,_,_=>by simp [layH,zcy]
 | k + 1,hk,hl=>by
  have ih:=layH_chunks t m k (by omega) (by omega);have h1:t.take (16 * (k + 1)) = t.take (16 * k) ++ (t.drop (16 * k)).take 16:=by rw [show 16 * (k + 1) = 16 * k + 16 by omega,List.take_add]
  have hlk:(t.take (16 * k)).length = 16 * k:=by rw [List.length_take]; omega
  have hl16:((t.drop (16 * k)).take 16).length = 16:=by rw [List.length_take,List.length_drop]; omega
  have hW:(zcy t k ++ List.replicate (m - k) 0).length = m:=by rw [List.length_append,zdv,List.length_replicate]; omega
  rw [h1,zh8,ih,hlk,show 0 + 16 * k = k * 16 + 0 by omega,layH_one _ _ _ _ (by rw [hW]; omega) (by rw [hl16]; omega)]
  have h0:(zcy t k ++ List.replicate (m - k) 0).getD k 0 = 0:=by
   rw [List.getD,List.getElem?_append_right (by rw [zdv]; omega),zdv,Nat.sub_self];rw [List.getElem?_replicate,if_pos (by omega)]; rfl
  rw [h0,List.set_append_right _ _ (by rw [zdv]; omega),zdv,Nat.sub_self,chunksW_succ,show m - k = (m - (k + 1)) + 1 by omega,List.replicate_succ,List.set_cons_zero,List.append_assoc];rfl
theorem parse_chunks {t:List UInt8} {m:Nat} (hm:t.length = 16 * m):zei (zd8 t t.length) = zei (zcy t m):=by
 have h:=layH_chunks t m m xnl (by omega);rw [← hm,List.take_length,Nat.sub_self] at h;unfold zd8;rw [List.take_length,show t.length / 16 = m by omega,h]; simp
theorem own_vecB {w:World} {B e:Nat} {v:Value} {L:List Int} (h:w.ownsRow B e 1 v L.length (L.flatMap zfx)):Vec w (fun b=>B≤b∧v.ownBlock = some b) 1 zfx v L:=by
 have hv:=Vec.owns (k:=1) (enc:=zfx) (fun _=>rfl) h (S:=fun _=>True) fun _ _ _=>trivial
 rcases h.2 with ⟨rfl,h0⟩ | ⟨g,cap,cur,rfl,hg,hh,_⟩
 ·have:L = []:=List.length_eq_zero_iff.1 h0
  subst this;exact Vec.nil _ _ _ _
 ·obtain ⟨a,cap',e1,k1,k2⟩:=hv
  refine ⟨a,cap',e1,k1,fun h0=>?_⟩
  obtain ⟨b,off,q1,_,q3,q4⟩:=k2 h0;cases e1;cases q1;exact ⟨_,_,rfl,⟨hg,rfl⟩,q3,q4⟩
structure PcAt (w:World) (bx:Nat) (n4:Int) (v:Value) (L:List Int) (wr:World):Prop where
 z:wr.heap[w.heap.size]? = some (.cells #[.int .i64 0,.slice none 0 0] 78 (0,0))
 o:wr.heap[bx]? = some (.cells #[.int .i64 n4,v] 78 (0,0))
 own:OwnV 24 1 zfx w v L wr
 n1:v.ownBlock≠some bx
 n2:v.ownBlock≠some w.heap.size
theorem PcAt.below {w:World} {bx:Nat} {n4:Int} {v:Value} {L:List Int} {wr wx:World} (h:PcAt w bx n4 v L wr) (hb:Below wr.heap.size wr wx):PcAt w bx n4 v L wx :=
 ⟨zab hb (zaa h.z) h.z,zab hb (zaa h.o) h.o,h.own.below hb,h.n1,h.n2⟩
theorem PcAt.step {w:World} {bx:Nat} {n4:Int} {v v':Value} {L:List Int} {x:Int} {wr wy w5:World} (h:PcAt w bx n4 v L wr) (hb:Below wr.heap.size wr wy) (ho:OwnV 24 1 zfx w v' (L ++ [x]) w5) (hk:∀ k o,some k≠v.ownBlock→wy.heap[k]? = some o→w5.heap[k]? = some o)
  (hat:v'.ownBlock = none∨v.ownBlock = v'.ownBlock∨v'.ownBlock = some wy.heap.size) (hbx:w.heap.size < bx):PcAt w bx n4 v' (L ++ [x]) (w5.setCell ⟨bx,1,none⟩ v'):=by
 have hy:=h.below hb;have l1:=zaa hy.z; have l2:=zaa hy.o
 have n1:v'.ownBlock≠some bx:=by
  rcases hat with h1 | h1 | h1
  ·rw [h1]; simp
  ·rw [← h1]; exact h.n1
  ·rw [h1]; simp; omega
 have n2:v'.ownBlock≠some w.heap.size:=by
  rcases hat with h1 | h1 | h1
  ·rw [h1]; simp
  ·rw [← h1]; exact h.n2
  ·rw [h1]; simp; omega
 refine ⟨zam (hk _ _ (fun e=>h.n2 e.symm) hy.z) (by show w.heap.size≠bx; omega),zad (i:=1) (v:=v') (hk _ _ (fun e=>h.n1 e.symm) hy.o),⟨?_,ho.2.setCell (p:=⟨bx,1,none⟩) (by show w.heap.size≤bx; omega) _⟩,n1,n2⟩
 refine own_keptR (r:=some bx) ho.1 (fun k o hne hk'=>zam hk' (fun e=>hne (by rw [e]))) ?_
 exact .inr n1
theorem rparse9_any (t:List UInt8) (w:World) (ht:t.length≤1000000000):Calls prog 92 #[zal t] w (zd6 t w):=by
 have hw4:IntKind.i64.wrap (4 * (t.length:Int)) = 4 * (t.length:Int):=by rw [IntKind.wrap_i64]; omega
 have htm:(t.length:Int).tmod 16 = (t.length:Int) % 16:=Int.tmod_eq_emod_of_nonneg (by omega);cases hr:zb6 (4 * (t.length:Int))
 ·have hp:zc0 t = none:=by unfold zc0; rw [hr]; rfl
  unfold zd6;rw [hp];have HR:=zi5 hr;clear hr hp;by_cases h16:(t.length:Int) % 16 = 0
  ·have d1:((t.length:Int) % 16 != 0) = false:=by rw [h16]; rfl
   go_enter func92,ntmps92
   go_wp2_with fail
   refine zae (fun W hW=>?_)
   have hb0:=xal hW
   have hz0:W.heap[w.heap.size]? = some (.cells #[.int .i64 0,.slice none 0 0] 78 (0,0)):=by rw [hW]; exact zac rfl
   clear hW;refine (zf3 _ _ (by omega) (by omega)).mono ?_;rw [HR.out];rintro e w1 ⟨rfl,rfl⟩;have HZ:=zi5 hz0; have HB:=zi5 hb0;obtain ⟨z0,z1⟩:=zak hz0;have f0:=frozen_of_row _ _ 0 _ _ hz0; have f1:=frozen_of_row _ _ 1 _ _ hz0;have lz:=zaa hz0;clear hz0 hb0;go_wp2_with fail
   exact zag rfl rfl (zad (i:=1) (v:=.slice none 0 0) (zad (i:=0) (v:=.int .i64 0) HZ.out)) underlying78 rfl (by kernel_rfl)
    ⟨_,rfl,BitsAt.none _ _,(HB.out.setCell (p:=⟨w.heap.size,0,none⟩) xnl _).setCell (p:=⟨w.heap.size,1,none⟩) xnl _⟩
  ·have d1:((t.length:Int) % 16 != 0) = true:=by rw [bne_iff_ne]; exact h16
   clear h16;go_enter func92,ntmps92
   go_wp2_with fail
   exact zag rfl rfl (zac (k:=w.heap.size) rfl) underlying78 rfl (by kernel_rfl)
    ⟨_,rfl,BitsAt.none _ _,(Below.refl w.heap.size w).alloc xnl _⟩
 ·have hr0:=hr
  unfold zb6 at hr0;simp only [Bool.and_eq_true,decide_eq_true_eq,beq_iff_eq] at hr0;obtain ⟨⟨r1,r2⟩,r3⟩:=hr0;obtain ⟨m,hm⟩:∃ m,t.length = 16 * m:=⟨t.length / 16,by omega⟩;have hm8:m≤8:=by omega
  have hP:zc0 t = if t.all zfw = true then some ⟨4 * (t.length:Int),zei (zcy t m)⟩ else none:=by
   rw [← parse_chunks hm]; unfold zc0; rw [if_pos hr]; unfold zd8; rw [List.take_length]; rfl
  have d1:((t.length:Int) % 16 != 0) = false:=by rw [show (t.length:Int) % 16 = 0 by omega]; rfl
  have HR:=zi5 hr; have HP:=zi5 hP; have HM:=zi5 hm;clear hr hP r3 hm;go_enter func92,ntmps92
  go_wp2_with fail
  refine zae (fun W hW=>?_)
  have hb0:=xal hW
  have hz0:W.heap[w.heap.size]? = some (.cells #[.int .i64 0,.slice none 0 0] 78 (0,0)):=by rw [hW]; exact zac rfl
  have zW:W.heap.size = w.heap.size + 1:=by rw [hW]; simp
  clear hW;refine (zf3 _ _ (by omega) (by omega)).mono ?_;rw [HR.out];rintro e w1 ⟨rfl,rfl⟩
  have HP0:=zi5 (show PcAt w W.heap.size (4 * (t.length:Int)) (.slice none 0 0) (zei (zcy t 0)) (W.alloc (.cells #[.int .i64 (4 * (t.length:Int)),.slice none 0 0] 78)) from
   ⟨zaf hz0,zac rfl,OwnV.nil (hb0.alloc hb0.size _),by simp [Value.ownBlock],by simp [Value.ownBlock]⟩)
  clear hz0 hb0;obtain ⟨bx,hbx⟩:∃ bx,W.heap.size = bx:=⟨_,rfl⟩;rw [hbx] at HP0 zW;have zb:w.heap.size < bx:=by omega
  clear zW;go_wp2_with fail
  refine zao (fun W1 hW1=>?_)
  rw [← hW1] at HP0;clear hW1 hbx;go_loopw [5] (fun i wr=>∃ (k q:Nat) (v:Value),k≤m∧Hid (q = 16 * k)∧i = .int .i64 (q:Int)∧PcAt w bx (4 * (t.length:Int)) v (zei (zcy t k)) wr∧Hid ((t.take q).all zfw = true)) (fun i _=>(t.length - (intOf i).toNat))
  case atStart=>exact ⟨0,0,_,by omega,zi5 rfl,rfl,HP0.out,zi5 (by simp)⟩
  case round =>
   obtain ⟨k,q,v,hk,HQ,rfl,hpc,HAll⟩:=hrel;have HPC:=zi5 hpc;obtain ⟨o0,o1⟩:=zak hpc.o; obtain ⟨z0,z1⟩:=zak hpc.z;have lo:=zaa hpc.o; have lz:=zaa hpc.z;clear hpc;by_cases hlt:q < t.length
   ·have hq:decide ((q:Int) < (t.length:Int)) = true:=by simp only [decide_eq_true_eq]; omega
    have e16:IntKind.i64.wrap ((q:Int) + 16) = (q:Int) + 16:=by rw [IntKind.wrap_i64]; omega
    have hle:q + 16≤t.length:=by have:=HM.out; have:=HQ.out; omega
    have hle2:(q:Int) + 16≤(t.length:Int):=by omega
    obtain ⟨C,hC⟩:∃ C,(t.drop q).take 16 = C:=⟨_,rfl⟩;have hCl:C.length = 16:=by rw [← hC,List.length_take,List.length_drop]; omega
    have hext:(⟨t.toArray⟩:ByteArray).extract q (q + 16) = ⟨C.toArray⟩:=by
     apply ByteArray.ext;rw [ByteArray.data_extract,← hC];simp
    have hts:t.take (q + 16) = t.take q ++ C:=by rw [List.take_add,hC]
    have hck:chunkW t k = C.foldl zcu 0:=by unfold chunkW; rw [← HQ.out,hC]
    have HTs:=zi5 hts; have HCk:=zi5 hck; have HCl:=zi5 hCl; have HC:=zi5 hC;have hCl6:C.length≤1000000:=by omega
    clear hC hts hck hCl;go_wp2_with fail
    refine (rread9_any C _ hCl6).mono ?_;rintro e w2 ⟨rfl,hb⟩;have HPC2:=zi5 (HPC.out.below hb);clear hb o0 o1 z0 z1 lo lz;obtain ⟨o0,o1⟩:=zak HPC2.out.o; obtain ⟨z0,z1⟩:=zak HPC2.out.z;have lo:=zaa HPC2.out.o; have lz:=zaa HPC2.out.z;by_cases hd:digW C = true
    ·rw [hd]
     have hval:valW C = ((chunkW t k:Nat):Int):=by unfold valW; rw [if_pos hd,HCk.out]
     rw [hval];obtain ⟨x,hx⟩:∃ x,chunkW t k = x:=⟨_,rfl⟩;rw [hx];have HX:=zi5 hx;obtain ⟨av,cv,ev⟩:=za1 HPC2.out.own.1;have hl0:(zei (zcy t k)).length = k:=by unfold zei; rw [List.length_map,zdv]
     have hb1:Below w2.heap.size w2 (w2.alloc (.cells #[.int .u64 (x:Int)] 24)):=(Below.refl _ _).alloc xnl _;have HO1:=zi5 (HPC2.out.own.below hb1);have HR1:=zi5 (show zco (w2.alloc (.cells #[.int .u64 (x:Int)] 24)) 1 (.slice (some ⟨w2.heap.size,0,none⟩) 1 1) [(x:Int)].length ([(x:Int)].flatMap zfx) from zav (xs:=[(x:Int)].flatMap zfx) (fr:=(0,0)) (t:=24) (zac rfl) rfl);have hcn:(zei (zcy t k)).length + [(x:Int)].length≤1000000000:=by rw [hl0]; simp; omega
     have HAll2:=zi5 (show (t.take (q + 16)).all zfw = true by
      rw [HTs.out,List.all_append,HAll.out,Bool.true_and];unfold digW at hd;simp only [Bool.and_eq_true] at hd
      exact hd.2)
     have HB1:=zi5 hb1;rw [hl0] at ev;subst ev;clear hd hval hx hb1;go_wp2_with (at_builtin; refine zbq rfl (.tmp 43) (.tmp 45) 76 rfl 24 (.int .u64 0) 1 8 zfx (fun _=>rfl) one_encU underlying76 infoU rfl (by decide) (by decide) (w0:=w) (v:=.slice av k cv) (A:=zei (zcy t k)) (B:=[(x:Int)]) rfl HO1.out rfl HR1.out hcn ?_; intro v5 w5 ho5 hk5 hz5 hat5; obtain ⟨a5,c5,e5⟩:=za1 ho5.1; obtain ⟨n5,hn5⟩:∃ n,(zei (zcy t k) ++ [(x:Int)]).length = n:=⟨_,rfl⟩; rw [hn5] at e5; subst e5; have hn1:=HPC2.out.n1; have ho6:=hk5 _ _ (fun e=>hn1 e.symm) (zaf HPC2.out.o); have lo5:=zaa ho6; have fo:=frozen_of_row _ _ 1 _ _ ho6; obtain ⟨y0,y1⟩:=zak ho6)
     go_roundw
     case rel =>
      have hst:=HPC2.out.step HB1.out ho5 hk5 hat5 zb;refine ⟨k + 1,q + 16,.slice a5 n5 c5,by have:=HM.out; have:=HQ.out; omega,zi5 (by have:=HQ.out; omega),by go_num,?_,HAll2⟩;rw [chunksW_succ,HX.out];unfold zei at hst ⊢;rw [List.map_append];exact hst
     case measure=>simp [intOf]; omega
    ·rw [Bool.eq_false_iff.2 hd]
     have hno:t.all zfw = false:=by
      rw [← List.take_append_drop (q + 16) t,HTs.out,List.all_append,List.all_append]
      have:C.all zfw = false:=by
       cases hc:C.all zfw with
       | false=>rfl
       | true=>exact absurd (by unfold digW; rw [hc,HCl.out]; rfl) hd
      rw [this]; simp
     have hPn:zc0 t = none:=by rw [HP.out,if_neg (by rw [hno]; decide)]
     have HPN:=zi5 hPn;have f0:=frozen_of_row _ _ 0 _ _ HPC2.out.z; have f1:=frozen_of_row _ _ 1 _ _ HPC2.out.z;clear hd hno hPn;go_wp2_with fail
     refine zag rfl rfl (zad (i:=1) (v:=.slice none 0 0) (zad (i:=0) (v:=.int .i64 0) HPC2.out.z)) underlying78 rfl (by kernel_rfl) ?_;unfold zd6;rw [HPN.out];exact ⟨_,rfl,BitsAt.none _ _,(HPC2.out.own.2.setCell (p:=⟨w.heap.size,0,none⟩) xnl _).setCell (p:=⟨w.heap.size,1,none⟩) xnl _⟩
   ·have hq:decide ((q:Int) < (t.length:Int)) = false:=by simp only [decide_eq_false_iff_not]; omega
    have hkm:k = m:=by have:=HM.out; have:=HQ.out; omega
    subst hkm
    have hyes:t.all zfw = true:=by
     have h:=HAll.out;rwa [List.take_of_length_le (by omega)] at h
    have hPs:zc0 t = some ⟨4 * (t.length:Int),zei (zcy t k)⟩:=by rw [HP.out,if_pos hyes]
    have HPS:=zi5 hPs;have f0:=frozen_of_row _ _ 0 _ _ HPC.out.z; have f1:=frozen_of_row _ _ 1 _ _ HPC.out.z;obtain ⟨av,cv,ev⟩:=za1 HPC.out.own.1;have hl0:(zei (zcy t k)).length = k:=by unfold zei; rw [List.length_map,zdv]
    rw [hl0] at ev;subst ev;clear hyes hPs;go_wp2_with fail
    refine zag rfl rfl (zad (i:=1) (v:=.slice av k cv) (zad (i:=0) (v:=.int .i64 (4 * (t.length:Int))) HPC.out.z)) underlying78 rfl (by kernel_rfl) ?_;unfold zd6;rw [HPS.out];have hn2:=HPC.out.n2;have hv:=(own_vecB HPC.out.own.1).move (S':=fun b=>w.heap.size≤b∧b≠w.heap.size) xnl fun b hb hs=>⟨rfl,hs.1,fun e=>hn2 (by rw [← e]; exact hs.2)⟩
    have h8:=(hv.set1 (a:=⟨w.heap.size,0,none⟩) (fun b hb=>hb.2) (.int .i64 (4 * (t.length:Int)))).set1 (a:=⟨w.heap.size,1,none⟩) (fun b hb=>hb.2) (.slice av k cv)
    exact ⟨_,rfl,⟨_,rfl,h8.move xnl fun b _ hb=>⟨rfl,hb.1⟩⟩,(HPC.out.own.2.setCell (p:=⟨w.heap.size,0,none⟩) xnl _).setCell (p:=⟨w.heap.size,1,none⟩) xnl _⟩
end
end Go.Proofs.YtpmpdonccgcehaaGreatDoor
