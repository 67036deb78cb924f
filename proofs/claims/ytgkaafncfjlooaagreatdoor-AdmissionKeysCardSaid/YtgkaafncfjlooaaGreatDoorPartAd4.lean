/- Parts of one proof: BloomC, MakeV, MakeX, MakeZ, PhonB, BitsB, Shelf2, EncA, EncB, EncC, EncD, EncF, HexA, HexB, RecA, EncE, DeckKey, RefTextA, RefTextB, FoldPlain, RefTextC, RefTextD, RefTextE, RefNameA, RefNameB. -/
import Derived.Test.YtgkaafncfjlooaaGreatDoorPartAd3
import Derived.Shelf.Strconv.Itoa1
import Derived.Shelf.LaysM
import Derived.Shelf.Strconv.Itoa2
import Derived.Shelf.Strconv.Itoa3
set_option maxHeartbeats 16000000
set_option maxRecDepth 100000
open Go.Proofs.Tryz
set_option linter.unusedSimpArgs false
set_option linter.unusedVariables false
namespace Go.Proofs.YtgkaafncfjlooaaGreatDoor
section
open Go.RowKit
theorem fl_u:∀ l:List Int,l.flatMap zc2 = l.map (Value.int .u64):=by
 intro l; induction l with
 | nil=>rfl
 | cons a l ih=>simp only [List.flatMap_cons,List.map_cons,ih]; rfl
theorem word_cell {w:World} {g:Nat} {t:TypeId} {fr:Nat × Nat} {W:List Int} (h:w.heap[g]? = some (.cells (W.flatMap zc2).toArray t fr)) (q:Nat) (hq:q < W.length):w.cell? ⟨g,q,none⟩ = some (.int .u64 (W.getD q 0)):=by
 rw [cell_of_row _ _ _ _ _ _ h,fl_u,List.getElem?_toArray,List.getElem?_map,List.getElem?_eq_getElem hq,List.getD,List.getElem?_eq_getElem hq]; rfl
theorem word_set (W:List Int) (q:Nat) (x:Int):((W.flatMap zc2).toArray).setIfInBounds q (.int .u64 x) = ((W.set q x).flatMap zc2).toArray:=by
 rw [fl_u,fl_u,List.setIfInBounds_toArray,List.map_set]
theorem fun_cellU {w:World} {gb:Nat} {t:TypeId} {fr:Nat × Nat} {L:List Int} (hr:w.heap[gb]? = some (.cells (L.flatMap zc2).toArray t fr)) {i:Nat} {x:Int} (hi:L[i]? = some x) {u:Nat} {v:Value} (hu:(zc2 x)[u]? = some v):w.cell? ⟨gb,0 + i * 1 + u,none⟩ = some v:=by
 rw [cell_of_row _ _ _ _ _ _ hr,Nat.zero_add,List.getElem?_toArray];have hul:u < 1:=(List.getElem?_eq_some_iff.1 hu).1;rw [zf8 (enc:=zc2) (fun _=>rfl) L i x hi u hul]; exact hu
structure EncAt (w:World) (p:ParL) (k:Int × Int) (gw c9 m:Nat) (W:List Int) (wr:World):Prop where
 hp:wr.heap[w.heap.size]? = some (.cells (parC p) 87 (0,0))
 hk:wr.heap[w.heap.size + 1]? = some (.cells #[.int .u64 k.1,.int .u64 k.2] 41 (0,0))
 hr:wr.heap[w.heap.size + 2]? = some (.cells #[.int .i64 0,.slice none 0 0] 56 (0,0))
 hc:wr.heap[c9]? = some (.cells #[.int .i64 p.len,.slice (some ⟨gw,0,none⟩) m m] 56 (0,0))
 hw:wr.heap[gw]? = some (.cells (W.flatMap zc2).toArray 39 (0,0))
 len:W.length = m
 ne:w.heap.size + 2 < gw∧w.heap.size + 2 < c9∧gw≠c9
 b:Below w.heap.size w wr
theorem EncAt.below {w:World} {p:ParL} {k:Int × Int} {gw c9 m:Nat} {W:List Int} {wr wx:World} (h:EncAt w p k gw c9 m W wr) (hb:Below wr.heap.size wr wx):EncAt w p k gw c9 m W wx :=
 ⟨zab hb (zaa h.hp) h.hp,zab hb (zaa h.hk) h.hk,zab hb (zaa h.hr) h.hr,zab hb (zaa h.hc) h.hc,zab hb (zaa h.hw) h.hw,h.len,h.ne,h.b.trans (hb.mono h.b.size)⟩
theorem EncAt.set {w:World} {p:ParL} {k:Int × Int} {gw c9 m:Nat} {W:List Int} {wr:World} (h:EncAt w p k gw c9 m W wr) (q:Nat) (x:Int):EncAt w p k gw c9 m (W.set q x) (wr.setCell ⟨gw,q,none⟩ (.int .u64 x)):=by
 obtain ⟨n1,n2,n3⟩:=h.ne;refine ⟨zan h.hp (by show w.heap.size≠gw; omega),zan h.hk (by show w.heap.size + 1≠gw; omega),zan h.hr (by show w.heap.size + 2≠gw; omega),zan h.hc (Ne.symm n3),?_,by rw [List.length_set]; exact h.len,h.ne,h.b.setCell (p:=⟨gw,q,none⟩) (by show w.heap.size≤gw; omega) _⟩;rw [← word_set]; exact zad h.hw
theorem EncAt.drew {w:World} {p:ParL} {k:Int × Int} {gw c9 m:Nat} {W:List Int} {wr:World} (h:EncAt w p k gw c9 m W wr):EncAt w p k gw c9 m W wr.drew:=⟨h.hp,h.hk,h.hr,h.hc,h.hw,h.len,h.ne,h.b.drew⟩
def EncodePost (b:BitsL) (w:World) (e:Ending) (w':World):Prop:=∃ v,e = .returned (.tuple #[v,.int .i64 0])∧BitsAt w' (fun x=>w.heap.size≤x) v b∧Below w.heap.size w w'
theorem bencode_yes (S:Nat→Prop) (p:ParL) (k:Int × Int) (v:Value) (G:List (List UInt8)) (w:World) (hp:ParOk p) (hv:Vec w S 1 zba v G) (hg:∀ g∈G,g.length≤60000) (hn:G.length≤80) :
  Calls prog 139 #[.agg (parC p),.agg #[.int .u64 k.1,.int .u64 k.2],v] w (EncodePost (zg3 p k G).1 w):=by
 obtain ⟨a,cap,rfl⟩:=hv.slice;have hl1:=hp.len1; have hl2:=hp.len2;have hbm:(zg3 p k G).1 = ⟨p.len,G.foldl (zek p k) (ze1 p.len)⟩:=by unfold zg3; rw [if_pos hp.bloom,if_pos hn]
 rw [hbm];have HP:=zjp hp; have HV:=zjp hv.any; have HGl:=zjp hg;have hn80:decide ((80:Int) < G.length) = false:=by simp; omega
 clear hp hbm hv hg;go_enter func139,ntmps139
 go_wp2_with fail
 refine zai (fun W hW=>?_)
 have hb0:Below w.heap.size w W:=by rw [hW]; exact (((Below.refl _ _).alloc xnl _).alloc (by simp) _).alloc (by simp; omega) _
 have hp0:W.heap[w.heap.size]? = some (.cells (parC p) 87 (0,0)):=by rw [hW]; exact zaf (zaf (zac rfl))
 have hk0:W.heap[w.heap.size + 1]? = some (.cells #[.int .u64 k.1,.int .u64 k.2] 41 (0,0)):=by rw [hW]; exact zaf (zac (by simp))
 have hr0:W.heap[w.heap.size + 2]? = some (.cells #[.int .i64 0,.slice none 0 0] 56 (0,0)):=by rw [hW]; exact zac (by simp)
 clear hW;refine (bcheck_yes p W HP.out).mono ?_;rintro e w1 ⟨rfl,hb⟩;have hp1:=zab hb (zaa hp0) hp0; have hk1:=zab hb (zaa hk0) hk0; have hr1:=zab hb (zaa hr0) hr0;have hb1:=hb0.trans (hb.mono hb0.size);have HB1:=zjp hb1; have HP1:=zjp hp1; have HK1:=zjp hk1; have HR1:=zjp hr1;obtain ⟨q0,q1,q2⟩:=zao hp1; obtain ⟨k0,k1⟩:=zae hk1;clear hb0 hp0 hk0 hr0 hb hp1 hk1 hr1 hb1;go_wp2_with fail
 refine (zg2 p.len _ HP.out.right).mono ?_;rintro e w2 ⟨gw,m,rfl,hm,hgw,hw0,hb⟩;have hz0:=zaa HR1.out
 have hE:EncAt w p k gw w2.heap.size m (ze1 p.len) (w2.alloc (.cells #[.int .i64 p.len,.slice (some ⟨gw,0,none⟩) m m] 56)):=by
  have hz1:=zaa hw0;exact ⟨zaf (zab hb (zaa HP1.out) HP1.out),zaf (zab hb (zaa HK1.out) HK1.out),zaf (zab hb (zaa HR1.out) HR1.out),zac rfl,zaf hw0,by unfold ze1; rw [List.length_replicate]; omega,⟨by omega,by omega,by omega⟩,((HB1.out.trans (hb.mono HB1.out.size)).alloc (by have:=HB1.out.size; have:=hb.size; omega) _)⟩
 have hm8:m≤8:=by omega
 have HM:=zjp hm;have HE:=zjp hE;clear hE hm hgw hw0 hb q0 q1 q2 k0 k1 HB1 HP1 HK1 HR1 hz0;go_wp2_with fail
 refine zam (fun W0 hW0=>?_)
 rw [← hW0] at HE;have HBW:=zjp HE.out.b;clear hW0;go_loopw [12,13,14,16,35] (fun _ _ _ _ i wr=>∃ j:Nat,i = .int .i64 j∧j≤G.length∧EncAt w p k gw w2.heap.size m ((G.take j).foldl (zek p k) (ze1 p.len)) wr) (fun _ _ _ _ i _=>G.length - (intOf i).toNat)
 case atStart=>exact ⟨0,rfl,by omega,HE.out⟩
 case round =>
  obtain ⟨j,rfl,hj,he⟩:=hrel;have HE2:=zjp he; clear he HE;by_cases hlt:j < G.length
  ·have hq:decide ((j:Int) < G.length) = true:=by simp; omega
   obtain ⟨g,hg⟩:∃ g,G[j] = g:=⟨_,rfl⟩;have hgl:g.length≤60000:=HGl.out g (by rw [← hg]; exact List.getElem_mem _);have hts:(G.take (j + 1)).foldl (zek p k) (ze1 p.len) = zek p k ((G.take j).foldl (zek p k) (ze1 p.len)) g:=by rw [List.take_succ_eq_append_getElem hlt,hg,List.foldl_append]; rfl
   have HTs:=zjp hts; clear hts;obtain ⟨b,off,rfl,hbb,hc⟩:=(HV.out.below HE2.out.b).get j hlt;have c0:=hc 0 _ rfl;rw [Nat.mul_one,Nat.add_zero,hg] at c0;obtain ⟨q0,q1,q2⟩:=zao HE2.out.hp; obtain ⟨k0,k1⟩:=zae HE2.out.hk;obtain ⟨Wj,hWj⟩:∃ Wj,(G.take j).foldl (zek p k) (ze1 p.len) = Wj:=⟨_,rfl⟩;rw [hWj] at HE2 HTs;clear hc hWj hg;go_wp2_with fail
   refine (positions_yes p k g _ HP.out hgl).mono ?_;rintro e w4 ⟨v4,rfl,hv4,hb4⟩;have hgz:=zaa HE2.out.hw;have HE4:=zjp (HE2.out.below hb4);have HV4:=zjp (hv4.move (w':=w4) (S':=fun b=>b≠gw) xnl fun b hb hs=>⟨rfl,by have hs':wr.heap.size≤b:=hs; omega⟩)
   obtain ⟨a4,c4,rfl⟩:=hv4.slice;have hbd:=posN_bd p.len (zh4 p k g) (by omega) p.hashes.toNat (zgm p k g) (Int.emod_nonneg _ (by omega)) (Int.emod_lt_of_pos _ (by omega));have hlenl:(zbt p k g).length≤16:=by unfold zbt; rw [zei]; have:=HP.out.h2; omega
   have hog:zek p k Wj g = (zbt p k g).foldl zfy Wj:=rfl;obtain ⟨l,hl⟩:∃ l,zbt p k g = l:=⟨_,rfl⟩;have hbd2:∀ i∈l,0≤i∧i < p.len:=by rw [← hl]; exact hbd
   rw [hl] at hlenl hog HV4 ⊢;have HBd:=zjp hbd2; have HOG:=zjp hog;clear hv4 hb4 hbd hl hbd2 hog HE2 q0 q1 q2 k0 k1 c0;go_wp2_with fail
   go_loopw [16,48] (fun _ i wr=>∃ n:Nat,i = .int .i64 n∧n≤l.length∧EncAt w p k gw w2.heap.size m ((l.take n).foldl zfy Wj) wr∧Vec wr (fun b=>b≠gw) 1 encI (.slice a4 l.length c4) l) (fun _ i _=>l.length - (intOf i).toNat)
   case atStart=>exact ⟨0,rfl,by omega,HE4.out,HV4.out⟩
   case round =>
    obtain ⟨n,rfl,hn,he,hv⟩:=hrel;have HE5:=zjp he; have HV5:=zjp hv; clear he hv HE4 HV4;by_cases hlt2:n < l.length
    ·have hq2:decide ((n:Int) < l.length) = true:=by simp; omega
     obtain ⟨i,hi⟩:∃ i,l[n] = i:=⟨_,rfl⟩;obtain ⟨i0,i1⟩:=HBd.out i (by rw [← hi]; exact List.getElem_mem _);have hts2:(l.take (n + 1)).foldl zfy Wj = zfy ((l.take n).foldl zfy Wj) i:=by rw [List.take_succ_eq_append_getElem hlt2,hi,List.foldl_append]; rfl
     obtain ⟨Wn,hWn⟩:∃ Wn,(l.take n).foldl zfy Wj = Wn:=⟨_,rfl⟩;rw [hWn] at HE5 hts2;have HT2:=zjp hts2;obtain ⟨b4,off4,rfl,hbb4,hc4⟩:=HV5.out.get n hlt2;have c5:=hc4 0 _ rfl;rw [Nat.mul_one,Nat.add_zero,hi] at c5;have hqn:(i / 64).toNat < Wn.length:=by rw [HE5.out.len]; have:=HM.out; omega
     have cw:=word_cell HE5.out.hw _ hqn;have fw:=frozen_of_row _ _ (i / 64).toNat _ _ HE5.out.hw;obtain ⟨d0,d1⟩:=zae HE5.out.hc;clear hc4 hWn hi hts2;have ht1:i.tdiv 64 = i / 64:=Int.tdiv_eq_ediv_of_nonneg i0;have ht2:i.tmod 64 = i % 64:=Int.tmod_eq_emod_of_nonneg i0;have hw1:IntKind.i64.wrap (i / 64) = i / 64:=by rw [IntKind.wrap_i64]; omega
     have j0:(0:Int)≤i / 64:=by omega
     have j1:i / 64 < (m:Int):=by have:=HM.out; omega
     have j2:(0:Int)≤i % 64:=by omega
     have j3:¬ (i % 64 < 0):=by omega
     obtain ⟨wd,hwd⟩:∃ wd,Wn.getD (i / 64).toNat 0 = wd:=⟨_,rfl⟩;rw [hwd] at cw;have HWD:=zjp hwd; clear hwd;go_wp2_with fail
     refine wp_region_noPanic ?_
     refine zat (by kernel_rfl) (fun w'=>w'.cell? ⟨w2.heap.size,1,none⟩ = some (.slice (some ⟨gw,0,none⟩) m m)∧w'.cell? ⟨gw,(i / 64).toNat,none⟩ = some (.int .u64 wd)) 11 (⟨d1,cw⟩) (fun hHeld=>?_)
     refine tK 0 (h:=?_);refine tK 1 (h:=?_);refine tK 2 (h:=?_);refine tK 3 (h:=?_);refine tK 4 (h:=?_);refine tK 5 (h:=?_);refine tK 6 (h:=?_);refine tK 7 (h:=?_);refine tK 8 (h:=?_);refine tK 9 (h:=?_);refine tK 10 (h:=?_)
     refine xrK 11 rfl fun K hK=>?_
     go_simp;refine zas hK (by decide) ?_;clear hK K;refine zar (by kernel_rfl) ?_ _;refine NoPanic.normal ?_;go_wp2_with fail
     go_roundw
     case rel =>
      refine ⟨n + 1,by go_num,by omega,?_,?_⟩
      ·rw [HT2.out]
       have e:zfy Wn i = Wn.set (i / 64).toNat (bits .or .u64 wd (IntKind.u64.wrap (2 ^ (i % 64).toNat))):=by rw [← HWD.out]; rfl
       rw [e]; exact (HE5.out.set _ _).drew
      ·exact (HV5.out.set1 (a:=⟨gw,(i / 64).toNat,none⟩) (fun b hb=>hb) _).below ((Below.refl _ _).drew)
     case measure=>simp [intOf]; omega
    ·have hq2:decide ((n:Int) < l.length) = false:=by simp; omega
     obtain rfl:n = l.length:=by omega
     rw [List.take_of_length_le xnl,← HOG.out,← HTs.out] at HE5;clear HV5;go_wp2_with fail
     go_roundw
     case rel=>exact ⟨j + 1,by go_num,by omega,HE5.out⟩
     case measure=>simp [intOf]; omega
  ·have hq:decide ((j:Int) < G.length) = false:=by simp; omega
   obtain rfl:j = G.length:=by omega
   rw [List.take_of_length_le xnl] at HE2;obtain ⟨d0,d1⟩:=zae HE2.out.hc;obtain ⟨r0,r1⟩:=zae HE2.out.hr;have f0:=frozen_of_row _ _ 0 _ _ HE2.out.hr; have f1:=frozen_of_row _ _ 1 _ _ HE2.out.hr;have zr:=zaa HE2.out.hr;go_wp2_with fail
   have hne:=HE2.out.ne;refine zah rfl rfl (zad (i:=1) (v:=.slice (some ⟨gw,0,none⟩) m m) (zad (i:=0) (v:=.int .i64 p.len) HE2.out.hr)) underlying56 rfl (by kernel_rfl) ⟨_,rfl,⟨_,rfl,?_⟩,(HE2.out.b.setCell (p:=⟨w.heap.size + 2,0,none⟩) (by show w.heap.size≤w.heap.size + 2; omega) _).setCell (p:=⟨w.heap.size + 2,1,none⟩) (by show w.heap.size≤w.heap.size + 2; omega) _⟩;have hgw:=zan (a:=⟨w.heap.size + 2,1,none⟩) (v:=.slice (some ⟨gw,0,none⟩) m m) (zan (a:=⟨w.heap.size + 2,0,none⟩) (v:=.int .i64 p.len) HE2.out.hw (by show gw≠w.heap.size + 2; omega)) (by show gw≠w.heap.size + 2; omega);have hl:=HE2.out.len;obtain ⟨WW,hWW⟩:∃ WW,G.foldl (zek p k) (ze1 p.len) = WW:=⟨_,rfl⟩;rw [hWW] at hgw hl ⊢;exact ⟨_,m,by rw [hl],by rw [hl]; exact Nat.le_refl _,fun _=>⟨gw,0,rfl,by show w.heap.size≤gw; omega,zaa hgw,fun i x hi u v hu=>fun_cellU hgw hi hu⟩⟩
end
section
open Go.RowKit
attribute [local go_sem] zag zaj za7
def DressPost (D:Nat) (l:List UInt8) (w:World) (e:Ending) (w':World):Prop:=∃ o:List UInt8,e = .returned (zal o)∧DressOf l o∧Moved D w w'
theorem zht (D:Nat) (w w0:World) (L:List (List UInt8)) (n:Nat) (hn:n = L.length) (h1:1≤n) (h2:n≤1000) (m:Moved D w0 w) :
  Calls prog 84 #[.pointer (some ⟨D,0,none⟩),.slice (some ⟨w.heap.size,0,none⟩) n n] (w.alloc (.cells (L.flatMap zba).toArray 9)) (PickPost D L w0):=by
 have hD:=m.deck.lt;have m2:=m.alloc (.cells (L.flatMap zba).toArray 9);exact (pick_any D _ _ L m2.deck (ze0 (k:=1) (enc:=zba) (L:=L) (S:=fun b=>b≠D) (A:=w.heap.size) (fun _=>rfl) (zac rfl) (by omega) n hn) (by omega) (by omega)).mono fun _ _ ⟨l,he,hl,hm⟩=>⟨l,he,hl,m2.trans hm⟩
theorem dressB_len {x:List UInt8} (h:x∈dressB):x.length≤2:=by
 simp [dressB] at h
 rcases h with rfl | rfl | rfl | rfl | rfl | rfl <;> simp
theorem dressC_len {x:List UInt8} (h:x∈dressC):x.length≤2:=by
 simp [dressC] at h
 rcases h with rfl | rfl | rfl <;> simp
def zjo (D:Nat) (w:World) (l:List UInt8) (k:Nat) (ol:List UInt8) (wr:World):Prop:=DressTo (l.take k) ol∧Moved D w wr
theorem dress_any (D:Nat) (s:ByteArray) (w:World) (h:DeckAt w D) (hs:∀ b∈s.data.toList,okB b = true) (hn:s.size≤1000) :
  Calls prog 85 #[.pointer (some ⟨D,0,none⟩),.string s] w (DressPost D s.data.toList w):=by
 have hl:s.data.toList.length = s.size:=by simp
 have HL:=zjp hl; clear hl;have HS:=zjp hs; clear hs;have M0:=zjp (Moved.start h); clear h;go_enter func85,ntmps85
 go_wp2_with fail
 refine (zht D _ w dressA 4 rfl (by omega) (by omega) M0.out).mono ?_;rintro e w1 ⟨o,rfl,ho,mv⟩;have K0:=zjp (show zjo D w s.data.toList 0 o w1 from ⟨DressTo.start ho,mv⟩);clear ho mv;go_wp2_with fail
 go_loopw [5,6] (fun v i wr=>∃ (k:Nat) (ol:List UInt8),v = zal ol∧i = .int .i64 k∧k≤s.size∧zjo D w s.data.toList k ol wr) (fun _ i _=>s.size - (intOf i).toNat)
 case atStart=>exact ⟨0,o,rfl,rfl,by omega,K0.out⟩
 case round =>
  obtain ⟨k,ol,rfl,rfl,hk,hm⟩:=hrel;have HT:=zjp hm.1; have M1:=zjp hm.2;have hol:ol.length≤2001:=by have:=hm.1.len; have:=List.length_take_le k s.data.toList; omega
  clear hm K0;by_cases hlt:k < s.size
  ·have hq:decide ((k:Int) < s.size) = true:=by simp; omega
   have ht:=zjp (zes s k hlt);have hok:=zjp (HS.out s[k] (by rw [show s[k] = s.data.toList[k]'(by rw [HL.out]; exact hlt) from rfl]; exact List.getElem_mem _));have hb:=s[k].toNat_lt;by_cases hsp:s[k] = 32
   ·have e1:((s[k].toNat:Int) == 32) = true:=by rw [hsp]; rfl
    have HSp:=zjp hsp; clear hsp;go_wp2_with fail
    refine (zht D _ w dressB 6 rfl (by omega) (by omega) M1.out).mono ?_;rintro e w2 ⟨x,rfl,hx,mv⟩;have hxl:=dressB_len hx;have K1:=zjp (show zjo D w s.data.toList (k + 1) (ol ++ x) w2 from ⟨by rw [ht.out,HSp.out]; exact HT.out.space hx,mv⟩);clear hx mv e1;go_wp2_with fail
    go_roundw
    case rel=>exact ⟨k + 1,ol ++ x,rfl,by go_num,by omega,K1.out⟩
    case measure=>simp [intOf]; omega
   ·have e1:((s[k].toNat:Int) == 32) = false:=by
     simp only [beq_eq_false_iff_ne,ne_eq]; intro e; apply hsp; rw [← UInt8.toNat_inj]; simp; omega
    clear hsp;go_upto_block 2 with (fail)
    go_cut [5,7] (fun s5 s7 wx=>∃ x:UInt8,s5 = zal ol∧s7 = .int .u8 x.toNat∧zff x = true∧zbo x = [s[k]]∧Moved D w wx)
    case first =>
     cases hlo:zf0 s[k]
     ·have hc:=hlo
      rw [zdu,decide_eq_false_iff_not] at hc;have hc':(97≤(s[k].toNat:Int)∧122 < (s[k].toNat:Int))∨(s[k].toNat:Int) < 97:=by omega
      clear hc hlo
      rcases hc' with ⟨g1,g2⟩ | g1
      all_goals
       go_wp2_with fail
       go_meet;exact ⟨s[k],rfl,rfl,(zhs hok.out).1,(zhs hok.out).2,M1.out⟩
     ·have hup:=zjp (plain_up hlo)
      have hc:=hlo;rw [zdu,decide_eq_true_iff] at hc;obtain ⟨g1,g2⟩:=hc
      have e2:((s[k] - 32).toNat:Int) = (s[k].toNat:Int) - 32:=by
       rw [UInt8.toNat_sub_of_le _ _ (by rw [UInt8.le_iff_toNat_le]; show 32≤_; omega)];show ((s[k].toNat - 32:Nat):Int) = _;omega
      have HE:=zjp e2; clear hlo e2;go_wp2_with fail
      refine (zfd D _ 3 M1.out.deck (by omega) (by omega)).mono ?_;rintro e w2 ⟨u,rfl,mv⟩;have M2:=zjp (M1.out.trans mv); clear mv;cases u
      ·go_wp2_with fail
       go_meet;exact ⟨s[k],rfl,rfl,(zhs hok.out).1,(zhs hok.out).2,M2.out⟩
      ·go_wp2_with fail
       go_meet;exact ⟨s[k] - 32,rfl,by rw [HE.out],hup.out.1,hup.out.2,M2.out⟩
    case rest =>
     obtain ⟨x,rfl,rfl,hx1,hx2,m3⟩:=hcut;have HX1:=zjp hx1; have HX2:=zjp hx2; have M3:=zjp m3;clear hx1 hx2 m3;have hcv:=one_byte wc x;go_wp2_with fail
     refine (zfd D _ 20 (M3.out.alloc _).deck (by omega) (by omega)).mono ?_;rintro e w2 ⟨u,rfl,mv⟩;have M4:=zjp ((M3.out.alloc _).trans mv);have K1:=zjp (show zjo D w s.data.toList (k + 1) (ol ++ [x]) w2 from ⟨by rw [ht.out]; exact HT.out.byte HX1.out HX2.out,M4.out⟩);have K2:=zjp (show zjo D w s.data.toList (k + 1) (ol ++ [x] ++ [39]) w2 from ⟨by rw [ht.out]; exact HT.out.mark HX1.out HX2.out,M4.out⟩);clear mv hcv;cases u
     ·go_wp2_with fail
      go_roundw
      case rel=>exact ⟨k + 1,ol ++ [x],rfl,by go_num,by omega,K1.out⟩
      case measure=>simp [intOf]; omega
     ·by_cases h2:k + 1 < s.size
      ·have e2:decide ((k:Int) + 1 < s.size) = true:=by simp; omega
       by_cases hs2:s[k + 1] = 32
       ·have e3:((s[k + 1].toNat:Int) != 32) = false:=by rw [hs2]; rfl
        clear hs2;go_wp2_with fail
        go_roundw
        case rel=>exact ⟨k + 1,ol ++ [x],rfl,by go_num,by omega,K1.out⟩
        case measure=>simp [intOf]; omega
       ·have e3:((s[k + 1].toNat:Int) != 32) = true:=by
         simp only [bne_iff_ne,ne_eq]; intro e; apply hs2; rw [← UInt8.toNat_inj]; simp; omega
        clear hs2;go_wp2_with fail
        go_roundw
        case rel=>exact ⟨k + 1,ol ++ [x] ++ [39],by simp,by go_num,by omega,K2.out⟩
        case measure=>simp [intOf]; omega
      ·have e2:decide ((k:Int) + 1 < s.size) = false:=by simp; omega
       go_wp2_with fail
       go_roundw
       case rel=>exact ⟨k + 1,ol ++ [x],rfl,by go_num,by omega,K1.out⟩
       case measure=>simp [intOf]; omega
  ·have hq:decide ((k:Int) < s.size) = false:=by simp; omega
   rw [List.take_of_length_le (by rw [HL.out]; omega)] at HT;go_wp2_with fail
   refine (zht D _ w dressC 4 rfl (by omega) (by omega) M1.out).mono ?_;rintro e w2 ⟨x,rfl,hx,mv⟩;have hxl:=dressC_len hx;have M2:=zjp mv; have HO:=zjp (HT.out.done hx);clear mv hx;go_wp2_with fail
   go_ret;exact ⟨ol ++ x,rfl,HO.out,M2.out⟩
end
section
open Go.RowKit
attribute [local go_sem] zag zaj za7
def codesD:List (List UInt8):=[[83,87,49,32,49,65,65],[56,48,48,49],[56,48,32,48,50],[97,45,49]]
def addrsD:List (List UInt8):=[[49,50,32,77,97,105,110,32,83,116,46],[77,97,105,110,32,83,116,32,49,50],[80,97,114,107,32,82,100,32,51,98],[77,97,105,110,32,83,116,114,101,101,116],[48,48,55,32,80,97,114,107,32,114,100]]
def peopleD:List (List UInt8):=[[114,111,98,101,114,116,32,115,109,105,116,104],[98,111,98,32,115,109,105,116,104],[114,117,112,101,114,116],[97,110,110,97,32,109,105,108,108,101,114],[97,110,110],[111,110,101,105,108,108],[109,97,114,105,97,32,118,97,110,32,115,109,105,116,104],[112,101,116,101,114]]
theorem pick_le {D N:Nat} {L:List (List UInt8)} {w w':World} {e:Ending} (h:PickPost D L w e w') (hL:(L.all fun t=>decide (t.length≤N)) = true):SomeText D N w e w':=by
 obtain ⟨l,he,hl,hm⟩:=h;exact ⟨l,he,by simpa using List.all_eq_true.1 hL l hl,hm⟩
theorem people_ok {x:List UInt8} (h:x∈peopleD):(∀ b∈x,okB b = true)∧x.length≤15:=by
 have:(peopleD.all fun t=>t.all okB && decide (t.length≤15)) = true:=by decide
 have:=List.all_eq_true.1 this x h;rw [Bool.and_eq_true,List.all_eq_true,decide_eq_true_iff] at this;exact this
theorem written_len (y m d f:Int):(writtenL y m d f).length = 10:=by
 unfold writtenL;split
 ·simp [zeq]
 ·split <;> simp [zeq]
theorem raw_deal (D:Nat) (k:Int) (w:World) (h:DeckAt w D) :
  Calls prog 60 #[.pointer (some ⟨D,0,none⟩),.int .i64 k] w (SomeText D 64 w):=by
 have M0:=zjp (Moved.start h); clear h;by_cases h2:k = 2
 ·subst h2
  go_enter func60,ntmps60
  go_wp2_with fail
  refine (zfd D _ 8 M0.out.deck (by omega) (by omega)).mono ?_;rintro e w1 ⟨u,rfl,mv⟩;have M1:=zjp (M0.out.trans mv); clear mv;cases u
  ·go_wp2_with fail
   refine (zc0 D _ 2 M1.out.deck (by omega) (by omega)).mono ?_;rintro e w2 ⟨y,rfl,y0,y1,mv⟩;have M2:=zjp (M1.out.trans mv); clear mv;go_wp2_with fail
   refine (zc0 D _ 3 M2.out.deck (by omega) (by omega)).mono ?_;rintro e w3 ⟨m,rfl,m0,m1,mv⟩;have M3:=zjp (M2.out.trans mv); clear mv;go_wp2_with fail
   refine (zc0 D _ 3 M3.out.deck (by omega) (by omega)).mono ?_;rintro e w4 ⟨d,rfl,d0,d1,mv⟩;have M4:=zjp (M3.out.trans mv); clear mv;go_wp2_with fail
   refine (zc0 D _ 3 M4.out.deck (by omega) (by omega)).mono ?_;rintro e w5 ⟨f,rfl,f0,f1,mv⟩;have M5:=zjp (M4.out.trans mv); clear mv;go_wp2_with fail
   refine (written_any (1980 + y) (1 + m) (1 + d) f _ (by omega) (by omega)).mono ?_;rintro e w6 ⟨rfl,hb⟩;have M6:=zjp (M5.out.below hb); clear hb;go_wp2_with fail
   go_ret;exact ⟨_,rfl,by rw [written_len]; omega,M6.out⟩
  ·go_wp2_with fail
   go_ret;exact ⟨[],rfl,by simp,M1.out⟩
 ·have e2:(k == 2) = false:=by simpa using h2
  by_cases h3:k = 3
  ·subst h3
   clear h2 e2;go_enter func60,ntmps60
   go_wp2_with fail
   refine (zfd D _ 8 M0.out.deck (by omega) (by omega)).mono ?_;rintro e w1 ⟨u,rfl,mv⟩;have M1:=zjp (M0.out.trans mv); clear mv;cases u
   ·go_wp2_with fail
    refine (zht D _ w codesD 4 rfl (by omega) (by omega) M1.out).mono ?_;intro e w2 hp;obtain ⟨x,rfl,hx,mv⟩:=pick_le (N:=64) hp (by decide);have HX:=zjp hx; have M2:=zjp mv;clear hx mv hp;go_wp2_with fail
    go_ret;exact ⟨x,rfl,HX.out,M2.out⟩
   ·go_wp2_with fail
    go_ret;exact ⟨[],rfl,by simp,M1.out⟩
  ·have e3:(k == 3) = false:=by simpa using h3
   by_cases h4:k = 4
   ·subst h4
    clear h2 e2 h3 e3;go_enter func60,ntmps60
    go_wp2_with fail
    refine (zfd D _ 8 M0.out.deck (by omega) (by omega)).mono ?_;rintro e w1 ⟨u,rfl,mv⟩;have M1:=zjp (M0.out.trans mv); clear mv;cases u
    ·go_wp2_with fail
     refine (zht D _ w addrsD 5 rfl (by omega) (by omega) M1.out).mono ?_;intro e w2 hp;obtain ⟨x,rfl,hx,mv⟩:=pick_le (N:=64) hp (by decide);have HX:=zjp hx; have M2:=zjp mv;clear hx mv hp;go_wp2_with fail
     go_ret;exact ⟨x,rfl,HX.out,M2.out⟩
    ·go_wp2_with fail
     go_ret;exact ⟨[],rfl,by simp,M1.out⟩
   ·have e4:(k == 4) = false:=by simpa using h4
    clear h2 h3 h4;go_enter func60,ntmps60
    go_wp2_with fail
    refine (zfd D _ 8 M0.out.deck (by omega) (by omega)).mono ?_;rintro e w1 ⟨u,rfl,mv⟩;have M1:=zjp (M0.out.trans mv); clear mv;cases u
    ·go_wp2_with fail
     refine (zht D _ w peopleD 8 rfl (by omega) (by omega) M1.out).mono ?_;rintro e w2 ⟨x,rfl,hx,mv⟩;obtain ⟨p1,p2⟩:=people_ok hx;have P1:=zjp p1; have M2:=zjp mv;clear hx mv p1;go_wp2_with fail
     refine (dress_any D ⟨x.toArray⟩ _ M2.out.deck (by simpa using P1.out) (by rw [zaj]; omega)).mono ?_;rintro e w3 ⟨o,rfl,ho,mv⟩;have M3:=zjp (M2.out.trans mv);have HO:=zjp (show o.length≤64 by have:=ho.len; simp at this; omega);clear mv ho;go_wp2_with fail
     go_ret;exact ⟨o,rfl,HO.out,M3.out⟩
    ·go_wp2_with fail
     go_ret;exact ⟨[],rfl,by simp,M1.out⟩
end
section
open Go.RowKit
attribute [local go_sem] zag zaj za7
theorem infoF:(prog.info? 85).map (fun i=>(i.zero,i.size,i.bytes)) = some (some (.agg #[.string ⟨#[]⟩,.int .i64 0]),2,24):=by kernel_rfl
structure SchemaD (s:SchemaL):Prop where
 fields:FieldsD s.fields
 some:1≤s.fields.length
 rules:RulesD s.rules
theorem SchemaD.check {s:SchemaL} (h:SchemaD s):zax s = 0:=h.fields.check h.some h.rules.check
def nil4:Array Value:=#[.slice none 0 0,.slice none 0 0,.slice none 0 0,.slice none 0 0]
structure SMid (D:Nat) (w:World) (y:Nat) (vt vn vs:Value) (r:RulesL) (vf:Value) (F:List F2) (wr:World):Prop where
 z:wr.heap[w.heap.size]? = some (.cells nil4 33 (0,0))
 s:wr.heap[y]? = some (.cells #[vf,vt,vn,vs] 33 (0,0))
 n:RowB wr (y + 1) namesD
 own:wr.ownsRow (y + 2) 85 2 vf F.length (F.flatMap encF)
 rules:RulesAt wr (fun b=>w.heap.size < b∧b < y) vt vn vs r
 fields:FieldsD F
 moved:Moved D w wr
 lt:w.heap.size < y
theorem own_same {w w':World} {B e size n:Nat} {v:Value} {xs:List Value} (h:w.ownsRow B e size v n xs) (hs:∀ g,B≤g→g < w.heap.size→w'.heap[g]? = w.heap[g]?):w'.ownsRow B e size v n xs:=by
 refine ⟨h.1,?_⟩
 rcases h.2 with h0 | ⟨g,cap,cur,hv,hg,hh,rest⟩
 ·exact .inl h0
 ·exact .inr ⟨g,cap,cur,hv,hg,(hs g hg (zaa hh)).trans hh,rest⟩
theorem zau {w:World} {B e size n:Nat} {v:Value} {xs:List Value} (h:w.ownsRow B e size v n xs):∃ a c,v = .slice a n c:=by
 rcases h.2 with ⟨rfl,rfl⟩ | ⟨g,cap,cur,hv,_⟩
 ·exact ⟨none,0,rfl⟩
 ·exact ⟨_,_,hv⟩
theorem own_far {w:World} {B e size n:Nat} {v:Value} {xs:List Value} (h:w.ownsRow B e size v n xs) {k:Nat} (hk:k < B):some k≠v.ownBlock:=by
 rcases h.2 with ⟨rfl,rfl⟩ | ⟨g,cap,cur,rfl,hg,_⟩
 ·simp [Value.ownBlock]
 ·simp [Value.ownBlock]; omega
theorem SMid.gone {D:Nat} {w:World} {y:Nat} {vt vn vs:Value} {r:RulesL} {vf:Value} {F:List F2} {wr wd:World} (h:SMid D w y vt vn vs r vf F wr) (hD:D < w.heap.size) (m:Moved D wr wd):SMid D w y vt vn vs r vf F wd:=by
 have hy:=h.lt;have hb:∀ b,b < wr.heap.size→w.heap.size≤b→wd.heap[b]? = wr.heap[b]?:=fun b hb hS=>m.grown.block b hb (by simp; omega)
 refine ⟨m.blk (by omega) h.z,m.blk (by omega) h.s,m.blk (by omega) h.n,own_same h.own fun g h1 h2=>hb g h2 (by omega),?_,h.fields,h.moved.trans m,h.lt⟩
 exact ⟨h.rules.1.move m.size fun b hb' hS=>⟨hb b hb' (by have:=hS.1; omega),hS⟩,h.rules.2.1.move m.size fun b hb' hS=>⟨hb b hb' (by have:=hS.1; omega),hS⟩,h.rules.2.2.move m.size fun b hb' hS=>⟨hb b hb' (by have:=hS.1; omega),hS⟩⟩
theorem SMid.step {D:Nat} {w:World} {y:Nat} {vt vn vs:Value} {r:RulesL} {vf v:Value} {F:List F2} {x:F2} {wr wA w2:World} (h:SMid D w y vt vn vs r vf F wr) (hD:D < w.heap.size) (hb:Below wr.heap.size wr wA) (hg:wA.grownBy w2 vf.ownBlock)
  (hown:w2.ownsRow (y + 2) 85 2 v (F.length + 1) (F.flatMap encF ++ encF x)) (hx:FieldsD (F ++ [x])):SMid D w y vt vn vs r v (F ++ [x]) (w2.setCell ⟨y,0,none⟩ v):=by
 have hy:=h.lt;have zn:y + 1 < wr.heap.size:=zaa h.n;have hz:=hb.size; have hz2:=hg.size;have k1:∀ k,k < y + 2→w2.heap[k]? = wr.heap[k]?:=fun k hk=>(hg.block k (by omega) (own_far h.own hk)).trans (hb.block k (by omega))
 have k2:∀ k,k < y + 2→k≠y→(w2.setCell ⟨y,0,none⟩ v).heap[k]? = wr.heap[k]?:=fun k hk hne=>(heap_setCell_other _ _ _ _ hne).trans (k1 k hk)
 have hs:(w2.setCell ⟨y,0,none⟩ v).heap.size = w2.heap.size:=by simp [World.setCell]
 refine ⟨(k2 _ (by omega) (by omega)).trans h.z,zad (i:=0) (v:=v) ((k1 y (by omega)).trans h.s),(k2 _ (by omega) (by omega)).trans h.n,?_,?_,hx,?_,hy⟩
 ·rw [List.length_append,List.flatMap_append,show [x].flatMap encF = encF x by simp]
  exact own_same hown fun g h1 h2=>heap_setCell_other _ _ _ _ (by simp; omega)
 ·have mv:∀ b,b < wr.heap.size→(w.heap.size < b∧b < y)→(w2.setCell ⟨y,0,none⟩ v).heap[b]? = wr.heap[b]?∧(w.heap.size < b∧b < y):=fun b _ hS=>⟨k2 b (by omega) (by omega),hS⟩
  exact ⟨h.rules.1.move (by omega) mv,h.rules.2.1.move (by omega) mv,h.rules.2.2.move (by omega) mv⟩
 ·have m:=h.moved
  refine ⟨⟨hg.os.trans (hb.os.trans m.grown.os),hg.tape.trans (hb.tape.trans m.grown.tape),hg.output.trans (hb.output.trans m.grown.output),by have:=m.size; omega,fun k hk hr=>?_⟩,m.deck.same fun k hk=>k2 k (by omega) (by omega),m.lt⟩
  exact (k2 k (by omega) (by omega)).trans (m.grown.block k hk hr)
def SchemaPost (D:Nat) (w:World) (e:Ending) (w':World):Prop:=∃ vf vt vn vs s,e = .returned (.agg #[vf,vt,vn,vs])∧SchemaAt w' (fun b=>w.heap.size≤b) vf vt vn vs s∧SchemaD s∧Moved D w w'
end
section
open Go.RowKit
attribute [local go_sem] zag zaj
@[local go_sem] theorem get_zeroP (c:UInt8) (l:List UInt8) (h:0 < (⟨(c :: l).toArray⟩:ByteArray).size):(⟨(c :: l).toArray⟩:ByteArray)[0]'h = c:=rfl
end
section
open Go.RowKit
theorem nanU_any (x:Int) (w:World):Calls prog 222 #[.int .u64 x] w fun e w'=>e = .returned (.bool false)∧w = w':=by
 have h1:(x != x) = false:=by simp
 go_enter func222,ntmps222
 go_wp2_with fail
 go_ret;exact ⟨by simp,rfl⟩
theorem nanI_any (x:Int) (w:World):Calls prog 184 #[.int .i64 x] w fun e w'=>e = .returned (.bool false)∧w = w':=by
 have h1:(x != x) = false:=by simp
 go_enter func184,ntmps184
 go_wp2_with fail
 go_ret;exact ⟨by simp,rfl⟩
theorem cmpU_any (x y:Int) (w:World):Calls prog 185 #[.int .u64 x,.int .u64 y] w fun e w'=>e = .returned (.int .i64 (zf1 x y))∧w = w':=by
 obtain ⟨c,hc⟩:∃ c,zf1 x y = c:=⟨_,rfl⟩;rw [hc];unfold zf1 at hc;go_enter func185,ntmps185
 go_wp2_with fail
 refine (nanU_any x _).mono ?_;rintro e w1 ⟨rfl,rfl⟩;go_wp2_with fail
 refine (nanU_any y _).mono ?_;rintro e w1 ⟨rfl,rfl⟩;by_cases h1:x < y
 ·have d1:decide (x < y) = true:=by simpa using h1
  rw [if_pos h1] at hc; subst hc;go_wp2_with fail
  go_ret;exact ⟨rfl,rfl⟩
 ·have d1:decide (x < y) = false:=by simpa using h1
  rw [if_neg h1] at hc;by_cases h2:y < x
  ·have d2:decide (y < x) = true:=by simpa using h2
   rw [if_pos h2] at hc; subst hc;go_wp2_with fail
   go_ret;exact ⟨rfl,rfl⟩
  ·have d2:decide (y < x) = false:=by simpa using h2
   rw [if_neg h2] at hc; subst hc;go_wp2_with fail
   go_ret;exact ⟨rfl,rfl⟩
theorem cmpI_any (x y:Int) (w:World):Calls prog 142 #[.int .i64 x,.int .i64 y] w fun e w'=>e = .returned (.int .i64 (zf1 x y))∧w = w':=by
 obtain ⟨c,hc⟩:∃ c,zf1 x y = c:=⟨_,rfl⟩;rw [hc];unfold zf1 at hc;go_enter func142,ntmps142
 go_wp2_with fail
 refine (nanI_any x _).mono ?_;rintro e w1 ⟨rfl,rfl⟩;go_wp2_with fail
 refine (nanI_any y _).mono ?_;rintro e w1 ⟨rfl,rfl⟩;by_cases h1:x < y
 ·have d1:decide (x < y) = true:=by simpa using h1
  rw [if_pos h1] at hc; subst hc;go_wp2_with fail
  go_ret;exact ⟨rfl,rfl⟩
 ·have d1:decide (x < y) = false:=by simpa using h1
  rw [if_neg h1] at hc;by_cases h2:y < x
  ·have d2:decide (y < x) = true:=by simpa using h2
   rw [if_pos h2] at hc; subst hc;go_wp2_with fail
   go_ret;exact ⟨rfl,rfl⟩
  ·have d2:decide (y < x) = false:=by simpa using h2
   rw [if_neg h2] at hc; subst hc;go_wp2_with fail
   go_ret;exact ⟨rfl,rfl⟩
abbrev zjh (x:Int):List Value:=[.int .i64 x]
theorem orI_any (v:Value) (L:List Int) (w:World) (h:Vec w zav 1 zjh v L) (hn:L.length≤1000000) :
  Calls prog 141 #[v] w fun e w'=>e = .returned (.int .i64 (orN L))∧w = w':=by
 obtain ⟨a,cap,rfl⟩:=h.slice;have HV:=zjp h; clear h;obtain ⟨r,hr⟩:∃ r,orN L = r:=⟨_,rfl⟩;rw [hr];have HR:=zjp hr; clear hr;go_enter func141,ntmps141
 go_wp2_with fail
 go_loopw [8] (fun i wr=>wr = w∧∃ k:Nat,i = .int .i64 k∧k≤L.length∧Hid (orN (L.drop k) = r)) (fun i _=>L.length - (intOf i).toNat)
 case atStart=>exact ⟨rfl,0,rfl,by omega,zjp HR.out⟩
 case round =>
  obtain ⟨rfl,k,rfl,hk,HT⟩:=hrel;by_cases hlt:k < L.length
  ·have hq:decide ((k:Int) < L.length) = true:=by simp; omega
   obtain ⟨b,off,rfl,hb,hc⟩:=HV.out.get k hlt;have c0:=hc 0 _ rfl;rw [Nat.mul_one,Nat.add_zero] at c0;have hd:=List.drop_eq_getElem_cons hlt;have ht:=HT.out;rw [hd] at ht;obtain ⟨x,hx⟩:∃ x,L[k] = x:=⟨_,rfl⟩;rw [hx] at c0 ht;clear HT hd hx hc;by_cases h0:x = 0
   ·subst h0
    unfold orN at ht;rw [if_pos rfl] at ht;have HT:=zjp ht; clear ht;have d0:((0:Int) != 0) = false:=rfl;go_wp2_with fail
    go_roundw
    case rel=>exact ⟨trivial,k + 1,by go_num,by omega,HT⟩
    case measure=>simp [intOf]; omega
   ·have d0:(x != (0:Int)) = true:=by simpa using h0
    unfold orN at ht;rw [if_neg h0] at ht;subst ht;go_wp2_with fail
    go_ret;exact ⟨rfl,rfl⟩
  ·have hq:decide ((k:Int) < L.length) = false:=by simp; omega
   have ht:=HT.out;rw [List.drop_eq_nil_of_le (by omega)] at ht;unfold orN at ht;subst ht;clear HT;go_wp2_with fail
   go_ret;exact ⟨rfl,rfl⟩
theorem cmpW_any (S T:Nat→Prop) (u v:Value) (A B:List Int) (w:World) (hu:Vec w S 1 zc2 u A) (hv:Vec w T 1 zc2 v B) (hn:A.length≤1000000) :
  Calls prog 143 #[u,v] w fun e w'=>e = .returned (.int .i64 (cmpW A B))∧w = w':=by
 obtain ⟨a,ca,rfl⟩:=hu.slice;obtain ⟨b,cb,rfl⟩:=hv.slice;have HU:=zjp hu; have HV:=zjp hv; clear hu hv;obtain ⟨r,hr⟩:∃ r,cmpW A B = r:=⟨_,rfl⟩;rw [hr];have HR:=zjp hr; clear hr;go_enter func143,ntmps143
 go_wp2_with fail
 go_loopw [11] (fun i wr=>wr = w∧∃ k:Nat,i = .int .i64 k∧k≤A.length∧k≤B.length∧Hid (cmpW (A.drop k) (B.drop k) = r)) (fun i _=>A.length - (intOf i).toNat)
 case atStart=>exact ⟨rfl,0,rfl,by omega,by omega,zjp HR.out⟩
 case round =>
  obtain ⟨rfl,k,rfl,hk,hk2,HT⟩:=hrel;by_cases hlt:k < A.length
  ·have hq:decide ((k:Int) < A.length) = true:=by simp; omega
   obtain ⟨ba,oa,rfl,hba,hca⟩:=HU.out.get k hlt;have c0:=hca 0 _ rfl;rw [Nat.mul_one,Nat.add_zero] at c0;by_cases hl2:k < B.length
   ·have hq2:decide ((B.length:Int)≤k) = false:=by simp; omega
    obtain ⟨bb,ob,rfl,hbb,hcb⟩:=HV.out.get k hl2;have e0:=hcb 0 _ rfl;rw [Nat.mul_one,Nat.add_zero] at e0;have ht:=HT.out;rw [cmpW_drop hlt hl2,za5 _ _ hlt,za5 _ _ hl2] at ht;obtain ⟨x,hx⟩:∃ x,A[k] = x:=⟨_,rfl⟩;obtain ⟨y,hy⟩:∃ y,B[k] = y:=⟨_,rfl⟩;rw [hx] at c0 ht; rw [hy] at e0 ht;obtain ⟨c,hc⟩:∃ c,zf1 x y = c:=⟨_,rfl⟩;rw [hc] at ht;have HC:=zjp hc; have HT:=zjp ht;clear hx hy hca hcb hc ht;go_wp2_with fail
    refine (cmpU_any x y _).mono ?_;rw [HC.out];rintro e w1 ⟨rfl,rfl⟩;have ht:=HT.out;clear HT;by_cases h0:c = 0
    ·subst h0
     rw [if_pos rfl] at ht;have HT:=zjp ht; clear ht;have d0:((0:Int) != 0) = false:=rfl;go_wp2_with fail
     go_roundw
     case rel=>exact ⟨trivial,k + 1,by go_num,by omega,by omega,HT⟩
     case measure=>simp [intOf]; omega
    ·have d0:(c != (0:Int)) = true:=by simpa using h0
     rw [if_neg h0] at ht;subst ht;go_wp2_with fail
     go_ret;exact ⟨rfl,rfl⟩
   ·have hq2:decide ((B.length:Int)≤k) = true:=by simp; omega
    have ht:=HT.out;rw [show B.drop k = [] from List.drop_eq_nil_of_le (by omega),cmpW_nilr,if_neg (by rw [List.length_drop]; omega)] at ht;subst ht;clear HT hca;go_wp2_with fail
    go_ret;exact ⟨rfl,rfl⟩
  ·have hq:decide ((k:Int) < A.length) = false:=by simp; omega
   have ht:=HT.out;rw [show A.drop k = [] from List.drop_eq_nil_of_le (by omega),cmpW_nill,List.length_drop] at ht;clear HT;by_cases h1:A.length < B.length
   ·have d1:decide ((A.length:Int) < B.length) = true:=by simp; omega
    rw [if_neg (by omega)] at ht;subst ht;go_wp2_with fail
    go_ret;exact ⟨rfl,rfl⟩
   ·have d1:decide ((A.length:Int) < B.length) = false:=by simp; omega
    rw [if_pos (by omega)] at ht;subst ht;go_wp2_with fail
    go_ret;exact ⟨rfl,rfl⟩
theorem cmpB_any (S T:Nat→Prop) (u v:Value) (a b:BitsL) (w:World) (hu:BitsAt w S u a) (hv:BitsAt w T v b) (hn:a.words.length≤1000000) :
  Calls prog 100 #[u,v] w fun e w'=>e = .returned (.int .i64 (zg1 a b))∧Below w.heap.size w w':=by
 obtain ⟨su,rfl,hu⟩:=hu;obtain ⟨sv,rfl,hv⟩:=hv;obtain ⟨aa,ca,rfl⟩:=hu.slice;obtain ⟨ab,cb,rfl⟩:=hv.slice;have HU:=zjp hu; have HV:=zjp hv; clear hu hv;obtain ⟨x,hx⟩:∃ x,zf1 a.len b.len = x:=⟨_,rfl⟩;obtain ⟨y,hy⟩:∃ y,zf1 a.words.length b.words.length = y:=⟨_,rfl⟩;obtain ⟨z,hz⟩:∃ z,cmpW a.words b.words = z:=⟨_,rfl⟩;obtain ⟨r,hr⟩:∃ r,zg1 a b = r:=⟨_,rfl⟩;have hr2:orN [x,y,z] = r:=by rw [← hr,← hx,← hy,← hz]; rfl
 rw [hr];have HX:=zjp hx; have HY:=zjp hy; have HZ:=zjp hz; have HR:=zjp hr2;clear hx hy hz hr hr2;go_enter func100,ntmps100
 go_wp2_with fail
 refine zam (fun W hW=>?_)
 have hb0:=xam hW
 have ha0:W.heap[w.heap.size]? = some (.cells #[.int .i64 a.len,.slice aa a.words.length ca] 56 (0,0)):=by rw [hW]; exact zaf (zac rfl)
 have he0:W.heap[w.heap.size + 1]? = some (.cells #[.int .i64 b.len,.slice ab b.words.length cb] 56 (0,0)):=by rw [hW]; exact zac (by simp)
 clear hW;have HB0:=zjp hb0;obtain ⟨a0,a1⟩:=zae ha0; obtain ⟨b0,b1⟩:=zae he0;have hwz:=zaa he0;clear ha0 he0 hb0;refine wp_region_noPanic ?_
 refine wp_region_held_drew (S:=(fun w'=>w'.cell? ⟨w.heap.size,0,none⟩ = some (.int .i64 a.len)∧w'.cell? ⟨w.heap.size,1,none⟩ = some (.slice aa a.words.length ca)∧w'.cell? ⟨w.heap.size + 1,0,none⟩ = some (.int .i64 b.len)∧w'.cell? ⟨w.heap.size + 1,1,none⟩ = some (.slice ab b.words.length cb))) (by kernel_rfl) (⟨a0,a1,b0,b1⟩) (fun hHeld=>?_)
 refine tH 0 (h:=?_);refine tH 1 (h:=?_);refine tH 2 (h:=?_);refine tH 3 (h:=?_);refine tH 5 (h:=?_);refine tH 6 (h:=?_);refine tH 7 (h:=?_);refine tH 8 (h:=?_);refine tH 9 (h:=?_);refine tH 10 (h:=?_);refine tH 12 (h:=?_);refine tH 13 (h:=?_);refine tH 14 (h:=?_);refine tH 15 (h:=?_);refine wpAnyH_ready (rs:=[4]) (by kernel_rfl) (by simp) ?_
 refine AllReadyH.cons rfl (fun K hK=>?_) AllReadyH.nil
 go_simp;refine (cmpI_any _ _ _).mono ?_; rw [HX.out]; rintro e w1 ⟨rfl,rfl⟩
 refine hK.out _ _ (⟨a0,a1,b0,b1⟩) (fun hHeld=>?_)
 clear hK K;refine wpAnyH_ready (rs:=[11]) (by kernel_rfl) (by simp) ?_
 refine AllReadyH.cons rfl (fun K hK=>?_) AllReadyH.nil
 go_simp;refine (cmpI_any _ _ _).mono ?_; rw [HY.out]; rintro e w1 ⟨rfl,rfl⟩
 refine hK.out _ _ (⟨a0,a1,b0,b1⟩) (fun hHeld=>?_)
 clear hK K;refine wpAnyH_ready (rs:=[16]) (by kernel_rfl) (by simp) ?_
 refine AllReadyH.cons rfl (fun K hK=>?_) AllReadyH.nil
 go_simp;refine (cmpW_any S T _ _ a.words b.words _ (HU.out.below HB0.out.drew) (HV.out.below HB0.out.drew) hn).mono ?_; rw [HZ.out]; rintro e w1 ⟨rfl,rfl⟩
 refine hK.out _ _ (⟨a0,a1,b0,b1⟩) (fun hHeld=>?_)
 clear hK K;refine wpAnyH_ready (rs:=[17]) (by kernel_rfl) (by simp) ?_
 refine AllReadyH.cons rfl (fun K hK=>?_) AllReadyH.nil
 go_simp
 refine hK.out _ _ (⟨((Below.refl W.heap.size W).drew.alloc xnl _).cell (p:=⟨w.heap.size,0,none⟩) (by show w.heap.size < _; omega) |>.trans a0,((Below.refl W.heap.size W).drew.alloc xnl _).cell (p:=⟨w.heap.size,1,none⟩) (by show w.heap.size < _; omega) |>.trans a1,((Below.refl W.heap.size W).drew.alloc xnl _).cell (p:=⟨w.heap.size + 1,0,none⟩) hwz |>.trans b0,((Below.refl W.heap.size W).drew.alloc xnl _).cell (p:=⟨w.heap.size + 1,1,none⟩) hwz |>.trans b1⟩) (fun hHeld=>?_)
 clear hK K
 refine zbr (fun W1 hW1=>?_)
 have hb1:Below w.heap.size w W1:=by rw [hW1]; exact HB0.out.drew.alloc (by have:=HB0.out.size; simpa using this) _
 have hv1:Vec W1 zav 1 zjh (.slice (some ⟨W.heap.size,0,none⟩) 3 3) [x,y,z]:=by rw [hW1]; exact ze0 (k:=1) (enc:=zjh) (L:=[x,y,z]) (S:=zav) (A:=W.heap.size) (fun _=>rfl) (zac rfl) trivial 3 rfl
 have hHeld2:=hHeld;rw [← hW1] at hHeld2;clear hHeld hW1;have hHeld:=hHeld2; clear hHeld2;have HV1:=zjp hv1; have HB1:=zjp hb1;clear hv1 hb1;refine wpAnyH_ready (rs:=[18]) (by kernel_rfl) (by simp) ?_
 refine AllReadyH.cons rfl (fun K hK=>?_) AllReadyH.nil
 go_simp;refine (orI_any _ [x,y,z] _ HV1.out (by simp)).mono ?_; rw [HR.out]; rintro e w1 ⟨rfl,rfl⟩
 refine hK.out _ _ (hHeld) (fun hHeld=>?_)
 clear hK K;refine tH 19 (h:=?_);refine wpAnyH_done (by kernel_rfl) ?_ _;refine NoPanic.normal ?_;go_wp2_with fail
 go_ret;exact ⟨rfl,HB1.out⟩
end
end Go.Proofs.YtgkaafncfjlooaaGreatDoor
section
namespace Go.Proofs
open Go.Shelf
def Tryz.lays171_ren:Go.Shelf.Ren:=⟨fun | 171=>183 | 243=>221 | 246=>244 | 283=>266 | 284=>267 | 285=>268 | 286=>269 | 129=>195 | 317=>282 | 318=>283 | 319=>284 | 320=>285 | 337=>294 | 338=>295 | n=>n,fun | 3=>3 | 9=>9 | 2=>2 | 4=>4 | 171=>280 | 0=>0 | 53=>39 | 37=>175 | 5=>5 | 173=>282 | 212=>298 | 51=>228 | 20=>20 | 213=>299 | 46=>119 | 232=>316 | 233=>317 | n=>n,fun | 17=>0 | 18=>2 | 19=>3 | n=>n⟩
theorem Tryz.lays171:Go.Proofs.Lays.n171 prog Tryz.lays171_ren:={
 mixed:=by kernel_rfl
 f129:=func195.trans (congrArg some (by kernel_rfl))
 f171:=func183.trans (congrArg some (by kernel_rfl))
 f243:=func221.trans (congrArg some (by kernel_rfl))
 f246:=func244.trans (congrArg some (by kernel_rfl))
 f283:=func266.trans (congrArg some (by kernel_rfl))
 f284:=func267.trans (congrArg some (by kernel_rfl))
 f285:=func268.trans (congrArg some (by kernel_rfl))
 f286:=func269.trans (congrArg some (by kernel_rfl))
 f317:=func282.trans (congrArg some (by kernel_rfl))
 f318:=func283.trans (congrArg some (by kernel_rfl))
 f319:=func284.trans (congrArg some (by kernel_rfl))
 f320:=func285.trans (congrArg some (by kernel_rfl))
 f337:=func294.trans (congrArg some (by kernel_rfl))
 f338:=func295.trans (congrArg some (by kernel_rfl))
 t0:=underlying0
 a0:=Tryz.isAgg0
 z0:=Tryz.sizeOf0
 v0:=Tryz.zeroValue0
 t2:=underlying2
 a2:=Tryz.isAgg2
 z2:=Tryz.sizeOf2
 v2:=Tryz.zeroValue2
 t3:=underlying3
 a3:=Tryz.isAgg3
 z3:=Tryz.sizeOf3
 v3:=Tryz.zeroValue3
 t4:=underlying4
 a4:=Tryz.isAgg4
 z4:=Tryz.sizeOf4
 v4:=Tryz.zeroValue4
 t5:=underlying5
 a5:=Tryz.isAgg5
 z5:=Tryz.sizeOf5
 v5:=Tryz.zeroValue5
 t9:=underlying9
 a9:=Tryz.isAgg9
 z9:=Tryz.sizeOf9
 v9:=Tryz.zeroValue9
 t20:=underlying20
 a20:=Tryz.isAgg20
 z20:=Tryz.sizeOf20
 v20:=Tryz.zeroValue20
 t37:=underlying175
 a37:=Tryz.isAgg175
 z37:=Tryz.sizeOf175
 v37:=Tryz.zeroValue175
 t46:=underlying119
 a46:=Tryz.isAgg119
 z46:=Tryz.sizeOf119
 v46:=Tryz.zeroValue119
 t51:=underlying228
 a51:=Tryz.isAgg228
 z51:=Tryz.sizeOf228
 v51:=Tryz.zeroValue228
 t53:=underlying39
 a53:=Tryz.isAgg39
 z53:=Tryz.sizeOf39
 v53:=Tryz.zeroValue39
 t171:=underlying280
 a171:=Tryz.isAgg280
 z171:=Tryz.sizeOf280
 v171:=Tryz.zeroValue280
 t173:=underlying282
 a173:=Tryz.isAgg282
 z173:=Tryz.sizeOf282
 v173:=Tryz.zeroValue282
 t212:=underlying298
 a212:=Tryz.isAgg298
 z212:=Tryz.sizeOf298
 v212:=Tryz.zeroValue298
 t213:=underlying299
 a213:=Tryz.isAgg299
 z213:=Tryz.sizeOf299
 t232:=underlying316
 a232:=Tryz.isAgg316
 z232:=Tryz.sizeOf316
 v232:=Tryz.zeroValue316
 t233:=underlying317
 a233:=Tryz.isAgg317
 z233:=Tryz.sizeOf317
 v233:=Tryz.zeroValue317
 g17:=by kernel_rfl
 g18:=by kernel_rfl
 g19:=by kernel_rfl }
open Go.RowKit Go.Sort Go.Lib in
theorem Tryz.strconv_Itoa_small (i:Nat) (hi:i < 100) (w:World) :
  Calls prog 183 #[.int .i64 i] w fun e w'=>e = .returned (.string ⟨(Lib.decDigits i).toArray⟩)∧w' = w:=Any.strconv_Itoa_small Tryz.lays171 i hi w
end Go.Proofs
end
namespace Go.Proofs.YtgkaafncfjlooaaGreatDoor
section
open Go.RowKit
attribute [local go_sem] zag zaj za7
theorem digs_len (i:Nat) (h:i < 100):(Lib.decDigits i).length≤2:=by
 have:∀ j:Fin 100,(Lib.decDigits j).length≤2:=by decide +kernel
 exact this ⟨i,h⟩
theorem derive_any (k:Int × Int) (i:Nat) (b:Bool) (s:List UInt8) (w:World) (hi:i < 100) (hs:s.length≤50000) :
  Calls prog 140 #[.agg #[.int .i64 i,.bool b,zal s],.agg #[.int .u64 k.1,.int .u64 k.2]] w fun e w'=>e = .returned (.agg #[.int .u64 (keyN k (Lib.decDigits i) b s).1,.int .u64 (keyN k (Lib.decDigits i) b s).2])∧Below w.heap.size w w':=by
 have hd:=digs_len i hi;have hit:=fun w=>Tryz.strconv_Itoa_small i hi w
 obtain ⟨t,ht⟩:∃ t,Lib.decDigits i = t:=⟨_,rfl⟩;rw [ht] at hd hit ⊢;have HIt:=zjp hit;obtain ⟨x,hx⟩:∃ x,zeo k.1 k.2 (zdp t) = x:=⟨_,rfl⟩;have hl1:¬ 9223372036854775807 < 5 + t.length:=by omega
 have hl2:¬ 9223372036854775807 < 5 + s.length:=by omega
 have hfl:(zdp t).length≤60000:=by simp [zdp]; omega
 have hsl:(zeh s).length≤60000:=by simp [zeh]; omega
 obtain ⟨ft,hft⟩:∃ ft,zdp t = ft:=⟨_,rfl⟩;obtain ⟨st,hst⟩:∃ st,zeh s = st:=⟨_,rfl⟩;rw [hft] at hx hfl; rw [hst] at hsl;have hf5:102 :: 105 :: 101 :: 108 :: 100 :: t = ft:=hft;have hs5:115 :: 97 :: 108 :: 116 :: 61 :: s = st:=hst;have HX:=zjp hx; have HFT:=zjp hft; have HST:=zjp hst;clear hit ht hx hft hst;obtain ⟨r,hr⟩:∃ r,keyN k t b s = r:=⟨_,rfl⟩;have hr2:(bif b then zeo x.1 x.2 (zeh s) else x) = r:=by rw [← hr,← HX.out,← HFT.out]; rfl
 rw [hr];have HR:=zjp hr2;clear hr hr2;go_enter func140,ntmps140
 go_wp2_with fail
 refine zam (fun W hW=>?_)
 have hb0:Below w.heap.size w W:=by rw [hW]; exact (((Below.refl _ _).alloc xnl _).alloc (by simp) _).alloc (by simp; omega) _
 have ho0:W.heap[w.heap.size]? = some (.cells #[.int .i64 i,.bool b,zal s] 192 (0,0)):=by rw [hW]; exact zaf (zaf (zac rfl))
 have hk0:W.heap[w.heap.size + 1]? = some (.cells #[.int .u64 k.1,.int .u64 k.2] 41 (0,0)):=by rw [hW]; exact zaf (zac (by simp))
 have hr0:W.heap[w.heap.size + 2]? = some (.cells #[.int .u64 0,.int .u64 0] 41 (0,0)):=by rw [hW]; exact zac (by simp)
 clear hW;have HB0:=zjp hb0; have HO0:=zjp ho0; have HK0:=zjp hk0; have HR0:=zjp hr0;obtain ⟨o0,o1,o2⟩:=zao ho0; obtain ⟨k0,k1⟩:=zae hk0;clear hb0 ho0 hk0 hr0;refine wp_region_noPanic ?_
 refine zat (by kernel_rfl) (fun w'=>w'.cell? ⟨w.heap.size + 1,0,none⟩ = some (.int .u64 k.1)∧w'.cell? ⟨w.heap.size + 1,1,none⟩ = some (.int .u64 k.2)∧w'.cell? ⟨w.heap.size,0,none⟩ = some (.int .i64 i)) 6 (⟨k0,k1,o0⟩) (fun hHeld=>?_)
 refine tK 0 (h:=?_);refine tK 1 (h:=?_);refine tK 2 (h:=?_)
 refine xrK 3 rfl fun K hK=>?_
 go_simp;refine (HIt.out _).mono ?_; rintro e w1 ⟨rfl,rfl⟩
 refine zbe hK (⟨k0,k1,o0⟩) (fun hHeld=>?_)
 clear hK K;refine tK 4 (h:=?_)
 refine xrK 5 rfl fun K hK=>?_
 go_simp;refine (sderive_any k.1 k.2 ft _ hfl).mono ?_; rw [HX.out]; rintro e w1 ⟨rfl,hb⟩; have hb1:=((Below.refl W.heap.size W).drew).trans hb; clear hb
 refine zbe hK (⟨(hb1.cell (p:=⟨w.heap.size + 1,0,none⟩) (zaa HK0.out)).trans k0,(hb1.cell (p:=⟨w.heap.size + 1,1,none⟩) (zaa HK0.out)).trans k1,(hb1.cell (p:=⟨w.heap.size,0,none⟩) (zaa HO0.out)).trans o0⟩) (fun hHeld=>?_)
 clear hK K;have hk1:=zab hb1 (zaa HK0.out) HK0.out;obtain ⟨k2,k3⟩:=zae hk1;have f0:=frozen_of_row _ _ 0 _ _ hk1; have f1:=frozen_of_row _ _ 1 _ _ hk1;have zk:=zaa hk1
 refine xrK 6 rfl fun K hK=>?_
 go_simp;refine zas hK (by decide) ?_;clear hK K;refine zar (by kernel_rfl) ?_ _;refine NoPanic.normal ?_;clear k2 k3 f0 f1 k0 k1 o0 o1 o2
 refine zcf (fun W2 hW2=>?_)
 have hk2:W2.heap[w.heap.size + 1]? = some (.cells #[.int .u64 x.1,.int .u64 x.2] 41 (0,0)):=by rw [hW2]; exact zad (i:=1) (v:=.int .u64 x.2) (zad (i:=0) (v:=.int .u64 x.1) hk1)
 have ho2:W2.heap[w.heap.size]? = some (.cells #[.int .i64 i,.bool b,zal s] 192 (0,0)):=by rw [hW2]; exact zan (zan (zab hb1 (zaa HO0.out) HO0.out) (by show w.heap.size≠w.heap.size + 1; omega)) (by show w.heap.size≠w.heap.size + 1; omega)
 have hr2:W2.heap[w.heap.size + 2]? = some (.cells #[.int .u64 0,.int .u64 0] 41 (0,0)):=by rw [hW2]; exact zan (zan (zab hb1 (zaa HR0.out) HR0.out) (by show w.heap.size + 2≠w.heap.size + 1; omega)) (by show w.heap.size + 2≠w.heap.size + 1; omega)
 have hb2:Below w.heap.size w W2:=by rw [hW2]; exact ((HB0.out.trans (hb1.mono HB0.out.size)).setCell (p:=⟨w.heap.size + 1,0,none⟩) (Nat.le_succ _) _).setCell (p:=⟨w.heap.size + 1,1,none⟩) (Nat.le_succ _) _
 clear hW2 hb1 hk1 zk hHeld HB0 HO0 HK0 HR0;have HB2:=zjp hb2; have HR2:=zjp hr2; have HK2:=zjp hk2;obtain ⟨o0,o1,o2⟩:=zao ho2; obtain ⟨k0,k1⟩:=zae hk2;have zo:=zaa ho2; have zk:=zaa hk2; have zr:=zaa hr2;clear hb2 hr2 hk2 ho2;cases b
 ·obtain ⟨r0,r1⟩:=zae HR2.out
  have f0:=frozen_of_row _ _ 0 _ _ HR2.out; have f1:=frozen_of_row _ _ 1 _ _ HR2.out;go_wp2_with fail
  rw [← show x = r from HR.out]
  exact za4 rfl rfl (zad (i:=1) (v:=.int .u64 x.2) (zad (i:=0) (v:=.int .u64 x.1) HR2.out)) underlying41 rfl (by kernel_rfl)
   ⟨rfl,(HB2.out.setCell (p:=⟨w.heap.size + 2,0,none⟩) (by show w.heap.size≤w.heap.size + 2; omega) _).setCell (p:=⟨w.heap.size + 2,1,none⟩) (by show w.heap.size≤w.heap.size + 2; omega) _⟩
 ·go_wp2_with fail
  refine (sderive_any x.1 x.2 st _ hsl).mono ?_;rw [show zeo x.1 x.2 st = r by rw [← HST.out]; exact HR.out];rintro e w3 ⟨rfl,hb⟩;have hk3:=zab hb (zaa HK2.out) HK2.out;have hr3:=zab hb (zaa HR2.out) HR2.out;have HB3:=zjp (HB2.out.trans (hb.mono HB2.out.size)); have HR3:=zjp hr3;obtain ⟨k2,k3⟩:=zae hk3;have f2:=frozen_of_row _ _ 0 _ _ hk3; have f3:=frozen_of_row _ _ 1 _ _ hk3;obtain ⟨r0,r1⟩:=zae hr3;have f0:=frozen_of_row _ _ 0 _ _ hr3; have f1:=frozen_of_row _ _ 1 _ _ hr3;have zk3:=zaa hk3; have zr3:=zaa hr3;clear hb hk3 hr3 o0 o1 o2 k0 k1;go_wp2_with fail
  exact za4 rfl rfl (zad (i:=1) (v:=.int .u64 r.2) (zad (i:=0) (v:=.int .u64 r.1) (zan (zan HR3.out (by show w.heap.size + 2≠w.heap.size + 1; omega)) (by show w.heap.size + 2≠w.heap.size + 1; omega)))) underlying41 rfl (by kernel_rfl)
   ⟨rfl,(((HB3.out.setCell (p:=⟨w.heap.size + 1,0,none⟩) (Nat.le_succ _) _).setCell (p:=⟨w.heap.size + 1,1,none⟩) (Nat.le_succ _) _).setCell (p:=⟨w.heap.size + 2,0,none⟩) (by show w.heap.size≤w.heap.size + 2; omega) _).setCell (p:=⟨w.heap.size + 2,1,none⟩) (by show w.heap.size≤w.heap.size + 2; omega) _⟩
end
section
open Go.RowKit Cal
attribute [local go_sem] zag zaj za7
theorem vec_str {w:World} {S:Nat→Prop} {a:Option Addr} {n cap:Nat} {L:List (List UInt8)} (h:Vec w S 1 zba (.slice a n cap) L) (j:Nat) (hj:j < L.length):∃ b off,a = some ⟨b,off,none⟩∧b < w.heap.size∧w.cell? ⟨b,off + j,none⟩ = some (zal (L.getD j [])):=by
 obtain ⟨b,off,e,hb,hc⟩:=h.get j hj;refine ⟨b,off,e,hb,?_⟩;have:=hc 0 _ rfl;rw [Nat.mul_one,Nat.add_zero] at this;rw [List.getD,List.getElem?_eq_getElem hj]; exact this
def FieldPost (b:BitsL) (w:World) (e:Ending) (w':World):Prop:=∃ v,e = .returned (.tuple #[v,.int .i64 0])∧BitsAt w' (fun x=>w.heap.size≤x) v b∧Below w.heap.size w w'
structure FieldIn (s:SchemaL) (p:ParL) (vals:List (List UInt8)) (i:Nat):Prop where
 par:ParOk p
 salt:p.salt < vals.length
 at_:i < vals.length
 five:vals.length≤5
 kind:(zbm s i).2 = 0
 norm:zaq s i (vals.getD i []) = true
 short:∀ v∈vals,v.length≤64
structure FldAt (w:World) (vf vt vn vs:Value) (p:ParL) (k:Int × Int) (id ver:Int) (sv:Value) (W:World):Prop where
 s:W.heap[w.heap.size]? = some (.cells #[vf,vt,vn,vs] 33 (0,0))
 p:W.heap[w.heap.size + 1]? = some (.cells (parC p) 87 (0,0))
 k:W.heap[w.heap.size + 2]? = some (.cells #[.int .u64 k.1,.int .u64 k.2] 41 (0,0))
 r:W.heap[w.heap.size + 3]? = some (.cells #[.int .i64 id,.int .i64 ver,sv] 68 (0,0))
 z:W.heap[w.heap.size + 4]? = some (.cells #[.int .i64 0,.slice none 0 0] 56 (0,0))
 b:Below w.heap.size w W
theorem FldAt.below {w:World} {vf vt vn vs:Value} {p:ParL} {k:Int × Int} {id ver:Int} {sv:Value} {W W':World} (h:FldAt w vf vt vn vs p k id ver sv W) (hb:Below W.heap.size W W'):FldAt w vf vt vn vs p k id ver sv W' :=
 ⟨zab hb (zaa h.1) h.1,zab hb (zaa h.2) h.2,zab hb (zaa h.3) h.3,zab hb (zaa h.4) h.4,zab hb (zaa h.5) h.5,h.6.trans (hb.mono h.6.size)⟩
theorem FldAt.start (w:World) (vf vt vn vs:Value) (p:ParL) (k:Int × Int) (id ver:Int) (sv:Value):FldAt w vf vt vn vs p k id ver sv (((((w.alloc (.cells #[vf,vt,vn,vs] 33)).alloc (.cells (parC p) 87)).alloc (.cells #[.int .u64 k.1,.int .u64 k.2] 41)).alloc (.cells #[.int .i64 id,.int .i64 ver,sv] 68)).alloc (.cells #[.int .i64 0,.slice none 0 0] 56)) :=
 ⟨zaf (zaf (zaf (zaf (zac rfl)))),zaf (zaf (zaf (zac (by simp)))),zaf (zaf (zac (by simp))),zaf (zac (by simp)),zac (by simp),
  (((((Below.refl w.heap.size w).alloc xnl _).alloc (by simp) _).alloc (by simp; omega) _).alloc (by simp; omega) _).alloc (by simp; omega) _⟩
theorem field_yes (S T:Nat→Prop) (vf vt vn vs:Value) (s:SchemaL) (p:ParL) (k:Int × Int) (id ver:Int) (sv:Value) (vals:List (List UInt8)) (i:Nat) (w:World) (h:SchemaAt w S vf vt vn vs s) (hv:Vec w T 1 zba sv vals) (hf:FieldIn s p vals i) :
  Calls prog 96 #[.agg #[vf,vt,vn,vs],.agg (parC p),.agg #[.int .u64 k.1,.int .u64 k.2],.agg #[.int .i64 id,.int .i64 ver,sv],.int .i64 i] w (FieldPost (zdh s p k vals i) w):=by
 obtain ⟨a,cap,rfl⟩:=hv.slice;obtain ⟨b,off,rfl,hb,hc⟩:=vec_str hv i hf.at_;obtain ⟨x,hx⟩:∃ x,vals.getD i [] = x:=⟨_,rfl⟩;have hnorm:=hf.norm; have hfi:=hf.at_; have h5:=hf.five;rw [hx] at hc hnorm;have HC:=zjp hc;have HB:=zjp hb;have hb0:=hb;by_cases hx0:x = []
 ·have hfn:zdh s p k vals i = zbg:=by unfold zdh; rw [hx,if_pos hx0]
  rw [hfn];subst hx0;clear hfn hx hnorm hf h hv hc;go_enter func96,ntmps96
  go_upto_region 1 with (fail)
  refine zam (fun W hW=>?_)
  have hF:FldAt w vf vt vn vs p k id ver (.slice (some ⟨b,off,none⟩) vals.length cap) W:=by rw [hW]; exact FldAt.start _ _ _ _ _ _ _ _ _ _
  clear hW;have HF:=zjp hF;have hc1:=(hF.b.cell (p:=⟨b,off + i,none⟩) hb).trans HC.out;obtain ⟨r0,r1,r2⟩:=zao hF.r;obtain ⟨z0,z1⟩:=zae hF.z;have f0:=frozen_of_row _ _ 0 _ _ hF.z; have f1:=frozen_of_row _ _ 1 _ _ hF.z;have y1:=zaa hF.z;clear hF;go_wp2_with fail
  exact zah rfl rfl (zad (i:=1) (v:=.slice none 0 0) (zad (i:=0) (v:=.int .i64 0) HF.out.z)) underlying56 rfl (by kernel_rfl)
   ⟨_,rfl,⟨_,rfl,Vec.nil _ _ _ _⟩,(HF.out.b.setCell (p:=⟨w.heap.size + 4,0,none⟩) (by show w.heap.size≤w.heap.size + 4; omega) _).setCell (p:=⟨w.heap.size + 4,1,none⟩) (by show w.heap.size≤w.heap.size + 4; omega) _⟩
 ·obtain ⟨G,hG⟩:∃ G,zfq s i x = G:=⟨_,rfl⟩
  obtain ⟨g1,g2,g3,g4⟩:=zjb hnorm hf.kind;rw [hG] at g1 g2 g3;have hex:x.isEmpty = false:=by simpa using hx0
  have hex2:(x == []) = false:=by simpa using hx0
  have HS:=zjp h.any;by_cases hsal:0≤p.salt
  ·obtain ⟨q,hq⟩:∃ q:Nat,p.salt = q:=⟨p.salt.toNat,by omega⟩
   have hqv:q < vals.length:=by have:=hf.salt; omega
   obtain ⟨bq,offq,eq,hbq,hcq⟩:=vec_str hv q hqv;cases eq;obtain ⟨st,hst⟩:∃ st,vals.getD q [] = st:=⟨_,rfl⟩;have hstl:st.length≤64:=by rw [← hst]; exact hf.short _ (by rw [List.getD,List.getElem?_eq_getElem hqv]; exact List.getElem_mem _)
   rw [hst] at hcq;have hso:saltOf p vals = st:=by unfold saltOf; rw [if_pos hsal,hq,Int.toNat_natCast,hst]
   have hdd:decide (0≤p.salt) = true:=by simpa using hsal
   have hql:(q:Int) < (vals.length:Int):=by omega
   have HCQ:=zjp hcq; have HQ:=zjp hq;clear hst hcq hbq;obtain ⟨KX,hK⟩:∃ KX,keyN k (Lib.decDigits i) true st = KX:=⟨_,rfl⟩;obtain ⟨B,hBN⟩:∃ B,(zg3 p KX G.1).1 = B:=⟨_,rfl⟩;have hfn:zdh s p k vals i = B:=by unfold zdh; rw [hx,if_neg hx0,hso,hdd,hK,hG,hBN]
   rw [hfn];have HBN:=zjp hBN; clear hBN;have HFI:=zjp hf; have HG:=zjp hG; have HKK:=zjp hK; have HG3:=zjp g3; have HG1:=zjp g1;clear hfn hx hnorm hf h hv hc hG hK hso hsal hx0 g1 g3 hdd hq;go_enter func96,ntmps96
   go_upto_region 1 with (fail)
   refine zam (fun W hW=>?_)
   have hF:FldAt w vf vt vn vs p k id ver (.slice (some ⟨b,off,none⟩) vals.length cap) W:=by rw [hW]; exact FldAt.start _ _ _ _ _ _ _ _ _ _
   clear hW;have HF:=zjp hF;have hc1:=(hF.b.cell (p:=⟨b,off + i,none⟩) hb).trans HC.out;obtain ⟨r0,r1,r2⟩:=zao hF.r;obtain ⟨p0,p1,p2⟩:=zao hF.p;rw [HQ.out] at p2;have hcq1:=(hF.b.cell (p:=⟨b,off + q,none⟩) hb0).trans HCQ.out;have y3:=zaa hF.r; have y5:=zaa hF.p; have hbW:b < W.heap.size:=Nat.lt_of_lt_of_le hb0 hF.b.size;obtain ⟨s0,s1,s2,s3⟩:=zak hF.s;have y1:=zaa hF.z;clear hF;go_wp2_with fail
   refine zam (fun W1 hW1=>?_)
   have ho1:W1.heap[W.heap.size]? = some (.cells #[.int .i64 i,.bool true,zal st] 192 (0,0)):=by rw [hW1]; exact zac rfl
   have hb1:=xal hW1
   have hc2:=(hb1.cell (p:=⟨b,off + i,none⟩) (by have:=HF.out.b.size; show b < _; omega)).trans hc1;have HF1:=zjp (HF.out.below hb1); have HO1:=zjp ho1;have HS1:=zjp (HS.out.below HF1.out.b);clear hW1 ho1 hb1 hc1 s0 s1 s2 s3 r0 r1 r2 p0 p1 p2 HF;obtain ⟨s0,s1,s2,s3⟩:=zak HF1.out.s;have r2:=(zao HF1.out.r).2.2;have y2:=zaa HO1.out;refine wp_region_noPanic ?_
   refine wp_region_held_drew (S:=(fun w'=>w'.cell? ⟨w.heap.size,0,none⟩ = some vf∧w'.cell? ⟨w.heap.size,1,none⟩ = some vt∧w'.cell? ⟨w.heap.size,2,none⟩ = some vn∧w'.cell? ⟨w.heap.size,3,none⟩ = some vs∧w'.cell? ⟨w.heap.size + 3,2,none⟩ = some (.slice (some ⟨b,off,none⟩) vals.length cap)∧w'.cell? ⟨b,off + i,none⟩ = some (zal x))) (by kernel_rfl) (⟨s0,s1,s2,s3,r2,hc2⟩) (fun hHeld=>?_)
   refine tH 0 (h:=?_);refine tH 1 (h:=?_);refine tH 2 (h:=?_);refine tH 3 (h:=?_);refine tH 4 (h:=?_);refine tH 5 (h:=?_);refine tH 6 (h:=?_);refine wpAnyH_ready (rs:=[7]) (by kernel_rfl) (by simp) ?_
   refine AllReadyH.cons rfl (fun K hK=>?_) AllReadyH.nil
   go_simp;refine (grams_s _ _ _ _ _ s i ⟨x.toArray⟩ _ (HS1.out.below (Below.refl _ _).drew) (by rw [zaj]; omega)).mono ?_; rw [show (⟨x.toArray⟩:ByteArray).data.toList = x by simp,HG.out]; rintro e w2 ⟨vg,rfl,hvg,hb2⟩; rw [HG1.out]; have b2:=((Below.refl W1.heap.size W1).drew).trans hb2; clear hb2
   refine hK.out _ _ (⟨(b2.cell (p:=⟨w.heap.size,0,none⟩) (zaa HF1.out.s)).trans s0,(b2.cell (p:=⟨w.heap.size,1,none⟩) (zaa HF1.out.s)).trans s1,(b2.cell (p:=⟨w.heap.size,2,none⟩) (zaa HF1.out.s)).trans s2,(b2.cell (p:=⟨w.heap.size,3,none⟩) (zaa HF1.out.s)).trans s3,(b2.cell (p:=⟨w.heap.size + 3,2,none⟩) (zaa HF1.out.r)).trans r2,(b2.cell (p:=⟨b,off + i,none⟩) (by have:=HF1.out.b.size; show b < _; omega)).trans hc2⟩) (fun hHeld=>?_)
   clear hK K;refine tH 8 (h:=?_);refine tH 9 (h:=?_);refine tH 10 (h:=?_);refine tH 11 (h:=?_);refine tH 12 (h:=?_);refine wpAnyH_done (by kernel_rfl) ?_ _;refine NoPanic.normal ?_;have HF2:=zjp (HF1.out.below b2);have HO2:=zjp (zab b2 (zaa HO1.out) HO1.out);have HVG:=zjp hvg;obtain ⟨ag,cg,rfl⟩:=hvg.slice;clear hHeld hc2 s0 s1 s2 s3 r2 y2 y1 b2 hvg HF1 HO1 HS1;go_wp2_with fail
   refine zam (fun W2 hW2=>?_)
   rw [← hW2] at HF2 HO2 HVG; clear hW2;obtain ⟨q0,q1,q2⟩:=zao HF2.out.p;obtain ⟨k0,k1⟩:=zae HF2.out.k;obtain ⟨o0,o1,o2⟩:=zao HO2.out;refine wp_region_noPanic ?_
   refine zat (by kernel_rfl) (fun w'=>w'.cell? ⟨w.heap.size + 1,0,none⟩ = some (.int .i64 p.len)∧w'.cell? ⟨w.heap.size + 1,1,none⟩ = some (.int .i64 p.hashes)∧w'.cell? ⟨w.heap.size + 1,2,none⟩ = some (.int .i64 p.salt)∧w'.cell? ⟨w.heap.size + 2,0,none⟩ = some (.int .u64 k.1)∧w'.cell? ⟨w.heap.size + 2,1,none⟩ = some (.int .u64 k.2)∧w'.cell? ⟨W.heap.size,0,none⟩ = some (.int .i64 i)∧w'.cell? ⟨W.heap.size,1,none⟩ = some (.bool true)∧w'.cell? ⟨W.heap.size,2,none⟩ = some (zal st)) 8 (⟨q0,q1,q2,k0,k1,o0,o1,o2⟩) (fun hHeld=>?_)
   refine tK 0 (h:=?_);refine tK 1 (h:=?_);refine tK 2 (h:=?_);refine tK 4 (h:=?_)
   refine xrK 3 rfl fun K hK=>?_
   go_simp;refine (derive_any k i true st _ (by omega) (by omega)).mono ?_; rw [HKK.out]; rintro e w3 ⟨rfl,hb3⟩; have b3:=((Below.refl W2.heap.size W2).drew).trans hb3; clear hb3
   refine zbe hK (⟨(b3.cell (p:=⟨w.heap.size + 1,0,none⟩) (zaa HF2.out.p)).trans q0,(b3.cell (p:=⟨w.heap.size + 1,1,none⟩) (zaa HF2.out.p)).trans q1,(b3.cell (p:=⟨w.heap.size + 1,2,none⟩) (zaa HF2.out.p)).trans q2,(b3.cell (p:=⟨w.heap.size + 2,0,none⟩) (zaa HF2.out.k)).trans k0,(b3.cell (p:=⟨w.heap.size + 2,1,none⟩) (zaa HF2.out.k)).trans k1,(b3.cell (p:=⟨W.heap.size,0,none⟩) (zaa HO2.out)).trans o0,(b3.cell (p:=⟨W.heap.size,1,none⟩) (zaa HO2.out)).trans o1,(b3.cell (p:=⟨W.heap.size,2,none⟩) (zaa HO2.out)).trans o2⟩) (fun hHeld=>?_)
   clear hK K
   refine xrK 5 rfl fun K hK=>?_
   go_simp
   refine (bencode_yes zav p KX _ G.1 _ HFI.out.par (HVG.out.below b3) (fun g hg=>Nat.le_trans (HG3.out g hg) (by decide)) g2).mono ?_; rw [HBN.out]; rintro e w4 ⟨_,rfl,⟨sb,rfl,hvb⟩,hb4⟩; have b4:=b3.trans (hb4.mono b3.size); have HVB:=zjp hvb; obtain ⟨ab,cb,rfl⟩:=hvb.slice; clear hb4 hvb
   refine zbe hK (⟨(b4.cell (p:=⟨w.heap.size + 1,0,none⟩) (zaa HF2.out.p)).trans q0,(b4.cell (p:=⟨w.heap.size + 1,1,none⟩) (zaa HF2.out.p)).trans q1,(b4.cell (p:=⟨w.heap.size + 1,2,none⟩) (zaa HF2.out.p)).trans q2,(b4.cell (p:=⟨w.heap.size + 2,0,none⟩) (zaa HF2.out.k)).trans k0,(b4.cell (p:=⟨w.heap.size + 2,1,none⟩) (zaa HF2.out.k)).trans k1,(b4.cell (p:=⟨W.heap.size,0,none⟩) (zaa HO2.out)).trans o0,(b4.cell (p:=⟨W.heap.size,1,none⟩) (zaa HO2.out)).trans o1,(b4.cell (p:=⟨W.heap.size,2,none⟩) (zaa HO2.out)).trans o2⟩) (fun hHeld=>?_)
   clear hK K;refine tK 6 (h:=?_);refine tK 7 (h:=?_);have hz4:=zab b4 (zaa HF2.out.z) HF2.out.z;obtain ⟨z0,z1⟩:=zae hz4;have f0:=frozen_of_row _ _ 0 _ _ hz4; have f1:=frozen_of_row _ _ 1 _ _ hz4;have y4:=zaa hz4
   refine xrK 8 rfl fun K hK=>?_
   go_simp;refine zas hK (by decide) ?_;clear hK K
   refine xrK 9 rfl fun K hK=>?_
   go_simp;refine zas hK (by decide) ?_;clear hK K;refine zar (by kernel_rfl) ?_ _;refine NoPanic.normal ?_;go_wp2_with fail
   refine zah rfl rfl (zad (i:=1) (v:=.slice ab B.words.length cb) (zad (i:=0) (v:=.int .i64 B.len) hz4)) underlying56 rfl (by kernel_rfl)
    ⟨_,rfl,⟨_,rfl,?_⟩,((HF2.out.b.trans (b4.mono HF2.out.b.size)).setCell (p:=⟨w.heap.size + 4,0,none⟩) (by show w.heap.size≤w.heap.size + 4; omega) _).setCell (p:=⟨w.heap.size + 4,1,none⟩) (by show w.heap.size≤w.heap.size + 4; omega) _⟩
   have hlz:=zaa HF2.out.z
   refine Vec.move HVB.out (by simp [World.setCell]) fun b hb hs=>?_
   have hs':w3.heap.size≤b:=hs;have hz3:=b3.size;exact ⟨(heap_setCell_other _ _ _ _ (by show b≠w.heap.size + 4; omega)).trans (heap_setCell_other _ _ _ _ (by show b≠w.heap.size + 4; omega)),by show w.heap.size≤b; omega⟩
  ·have hso:saltOf p vals = []:=by unfold saltOf; rw [if_neg hsal]
   have hdd:decide (0≤p.salt) = false:=by simpa using hsal
   obtain ⟨KX,hK⟩:∃ KX,keyN k (Lib.decDigits i) false [] = KX:=⟨_,rfl⟩;obtain ⟨B,hBN⟩:∃ B,(zg3 p KX G.1).1 = B:=⟨_,rfl⟩;have hfn:zdh s p k vals i = B:=by unfold zdh; rw [hx,if_neg hx0,hso,hdd,hK,hG,hBN]
   rw [hfn];have HBN:=zjp hBN; clear hBN;have hsl:¬ (0≤p.salt):=hsal;have HFI:=zjp hf; have HG:=zjp hG; have HKK:=zjp hK; have HG3:=zjp g3; have HG1:=zjp g1;clear hfn hx hnorm hf h hv hc hG hK hso hsal hx0 g1 g3;go_enter func96,ntmps96
   go_upto_region 1 with (fail)
   refine zam (fun W hW=>?_)
   have hF:FldAt w vf vt vn vs p k id ver (.slice (some ⟨b,off,none⟩) vals.length cap) W:=by rw [hW]; exact FldAt.start _ _ _ _ _ _ _ _ _ _
   clear hW;have HF:=zjp hF;have hc1:=(hF.b.cell (p:=⟨b,off + i,none⟩) hb).trans HC.out;obtain ⟨r0,r1,r2⟩:=zao hF.r;obtain ⟨p0,p1,p2⟩:=zao hF.p;obtain ⟨s0,s1,s2,s3⟩:=zak hF.s;have y1:=zaa hF.z;clear hF;go_wp2_with fail
   refine zam (fun W1 hW1=>?_)
   have ho1:W1.heap[W.heap.size]? = some (.cells #[.int .i64 i,.bool false,zal []] 192 (0,0)):=by rw [hW1]; exact zac rfl
   have hb1:=xal hW1
   have hc2:=(hb1.cell (p:=⟨b,off + i,none⟩) (by have:=HF.out.b.size; show b < _; omega)).trans hc1;have HF1:=zjp (HF.out.below hb1); have HO1:=zjp ho1;have HS1:=zjp (HS.out.below HF1.out.b);clear hW1 ho1 hb1 hc1 s0 s1 s2 s3 r0 r1 r2 p0 p1 p2 HF;obtain ⟨s0,s1,s2,s3⟩:=zak HF1.out.s;have r2:=(zao HF1.out.r).2.2;have y2:=zaa HO1.out;refine wp_region_noPanic ?_
   refine wp_region_held_drew (S:=(fun w'=>w'.cell? ⟨w.heap.size,0,none⟩ = some vf∧w'.cell? ⟨w.heap.size,1,none⟩ = some vt∧w'.cell? ⟨w.heap.size,2,none⟩ = some vn∧w'.cell? ⟨w.heap.size,3,none⟩ = some vs∧w'.cell? ⟨w.heap.size + 3,2,none⟩ = some (.slice (some ⟨b,off,none⟩) vals.length cap)∧w'.cell? ⟨b,off + i,none⟩ = some (zal x))) (by kernel_rfl) (⟨s0,s1,s2,s3,r2,hc2⟩) (fun hHeld=>?_)
   refine tH 0 (h:=?_);refine tH 1 (h:=?_);refine tH 2 (h:=?_);refine tH 3 (h:=?_);refine tH 4 (h:=?_);refine tH 5 (h:=?_);refine tH 6 (h:=?_);refine wpAnyH_ready (rs:=[7]) (by kernel_rfl) (by simp) ?_
   refine AllReadyH.cons rfl (fun K hK=>?_) AllReadyH.nil
   go_simp;refine (grams_s _ _ _ _ _ s i ⟨x.toArray⟩ _ (HS1.out.below (Below.refl _ _).drew) (by rw [zaj]; omega)).mono ?_; rw [show (⟨x.toArray⟩:ByteArray).data.toList = x by simp,HG.out]; rintro e w2 ⟨vg,rfl,hvg,hb2⟩; rw [HG1.out]; have b2:=((Below.refl W1.heap.size W1).drew).trans hb2; clear hb2
   refine hK.out _ _ (⟨(b2.cell (p:=⟨w.heap.size,0,none⟩) (zaa HF1.out.s)).trans s0,(b2.cell (p:=⟨w.heap.size,1,none⟩) (zaa HF1.out.s)).trans s1,(b2.cell (p:=⟨w.heap.size,2,none⟩) (zaa HF1.out.s)).trans s2,(b2.cell (p:=⟨w.heap.size,3,none⟩) (zaa HF1.out.s)).trans s3,(b2.cell (p:=⟨w.heap.size + 3,2,none⟩) (zaa HF1.out.r)).trans r2,(b2.cell (p:=⟨b,off + i,none⟩) (by have:=HF1.out.b.size; show b < _; omega)).trans hc2⟩) (fun hHeld=>?_)
   clear hK K;refine tH 8 (h:=?_);refine tH 9 (h:=?_);refine tH 10 (h:=?_);refine tH 11 (h:=?_);refine tH 12 (h:=?_);refine wpAnyH_done (by kernel_rfl) ?_ _;refine NoPanic.normal ?_;have HF2:=zjp (HF1.out.below b2);have HO2:=zjp (zab b2 (zaa HO1.out) HO1.out);have HVG:=zjp hvg;obtain ⟨ag,cg,rfl⟩:=hvg.slice;clear hHeld hc2 s0 s1 s2 s3 r2 y2 y1 b2 hvg HF1 HO1 HS1;go_wp2_with fail
   refine zam (fun W2 hW2=>?_)
   rw [← hW2] at HF2 HO2 HVG; clear hW2;obtain ⟨q0,q1,q2⟩:=zao HF2.out.p;obtain ⟨k0,k1⟩:=zae HF2.out.k;obtain ⟨o0,o1,o2⟩:=zao HO2.out;refine wp_region_noPanic ?_
   refine zat (by kernel_rfl) (fun w'=>w'.cell? ⟨w.heap.size + 1,0,none⟩ = some (.int .i64 p.len)∧w'.cell? ⟨w.heap.size + 1,1,none⟩ = some (.int .i64 p.hashes)∧w'.cell? ⟨w.heap.size + 1,2,none⟩ = some (.int .i64 p.salt)∧w'.cell? ⟨w.heap.size + 2,0,none⟩ = some (.int .u64 k.1)∧w'.cell? ⟨w.heap.size + 2,1,none⟩ = some (.int .u64 k.2)∧w'.cell? ⟨W.heap.size,0,none⟩ = some (.int .i64 i)∧w'.cell? ⟨W.heap.size,1,none⟩ = some (.bool false)∧w'.cell? ⟨W.heap.size,2,none⟩ = some (zal [])) 8 (⟨q0,q1,q2,k0,k1,o0,o1,o2⟩) (fun hHeld=>?_)
   refine tK 0 (h:=?_);refine tK 1 (h:=?_);refine tK 2 (h:=?_);refine tK 4 (h:=?_)
   refine xrK 3 rfl fun K hK=>?_
   go_simp;refine (derive_any k i false [] _ (by omega) (by simp)).mono ?_; rw [HKK.out]; rintro e w3 ⟨rfl,hb3⟩; have b3:=((Below.refl W2.heap.size W2).drew).trans hb3; clear hb3
   refine zbe hK (⟨(b3.cell (p:=⟨w.heap.size + 1,0,none⟩) (zaa HF2.out.p)).trans q0,(b3.cell (p:=⟨w.heap.size + 1,1,none⟩) (zaa HF2.out.p)).trans q1,(b3.cell (p:=⟨w.heap.size + 1,2,none⟩) (zaa HF2.out.p)).trans q2,(b3.cell (p:=⟨w.heap.size + 2,0,none⟩) (zaa HF2.out.k)).trans k0,(b3.cell (p:=⟨w.heap.size + 2,1,none⟩) (zaa HF2.out.k)).trans k1,(b3.cell (p:=⟨W.heap.size,0,none⟩) (zaa HO2.out)).trans o0,(b3.cell (p:=⟨W.heap.size,1,none⟩) (zaa HO2.out)).trans o1,(b3.cell (p:=⟨W.heap.size,2,none⟩) (zaa HO2.out)).trans o2⟩) (fun hHeld=>?_)
   clear hK K
   refine xrK 5 rfl fun K hK=>?_
   go_simp
   refine (bencode_yes zav p KX _ G.1 _ HFI.out.par (HVG.out.below b3) (fun g hg=>Nat.le_trans (HG3.out g hg) (by decide)) g2).mono ?_; rw [HBN.out]; rintro e w4 ⟨_,rfl,⟨sb,rfl,hvb⟩,hb4⟩; have b4:=b3.trans (hb4.mono b3.size); have HVB:=zjp hvb; obtain ⟨ab,cb,rfl⟩:=hvb.slice; clear hb4 hvb
   refine zbe hK (⟨(b4.cell (p:=⟨w.heap.size + 1,0,none⟩) (zaa HF2.out.p)).trans q0,(b4.cell (p:=⟨w.heap.size + 1,1,none⟩) (zaa HF2.out.p)).trans q1,(b4.cell (p:=⟨w.heap.size + 1,2,none⟩) (zaa HF2.out.p)).trans q2,(b4.cell (p:=⟨w.heap.size + 2,0,none⟩) (zaa HF2.out.k)).trans k0,(b4.cell (p:=⟨w.heap.size + 2,1,none⟩) (zaa HF2.out.k)).trans k1,(b4.cell (p:=⟨W.heap.size,0,none⟩) (zaa HO2.out)).trans o0,(b4.cell (p:=⟨W.heap.size,1,none⟩) (zaa HO2.out)).trans o1,(b4.cell (p:=⟨W.heap.size,2,none⟩) (zaa HO2.out)).trans o2⟩) (fun hHeld=>?_)
   clear hK K;refine tK 6 (h:=?_);refine tK 7 (h:=?_);have hz4:=zab b4 (zaa HF2.out.z) HF2.out.z;obtain ⟨z0,z1⟩:=zae hz4;have f0:=frozen_of_row _ _ 0 _ _ hz4; have f1:=frozen_of_row _ _ 1 _ _ hz4;have y4:=zaa hz4
   refine xrK 8 rfl fun K hK=>?_
   go_simp;refine zas hK (by decide) ?_;clear hK K
   refine xrK 9 rfl fun K hK=>?_
   go_simp;refine zas hK (by decide) ?_;clear hK K;refine zar (by kernel_rfl) ?_ _;refine NoPanic.normal ?_;go_wp2_with fail
   refine zah rfl rfl (zad (i:=1) (v:=.slice ab B.words.length cb) (zad (i:=0) (v:=.int .i64 B.len) hz4)) underlying56 rfl (by kernel_rfl)
    ⟨_,rfl,⟨_,rfl,?_⟩,((HF2.out.b.trans (b4.mono HF2.out.b.size)).setCell (p:=⟨w.heap.size + 4,0,none⟩) (by show w.heap.size≤w.heap.size + 4; omega) _).setCell (p:=⟨w.heap.size + 4,1,none⟩) (by show w.heap.size≤w.heap.size + 4; omega) _⟩
   have hlz:=zaa HF2.out.z
   refine Vec.move HVB.out (by simp [World.setCell]) fun b hb hs=>?_
   have hs':w3.heap.size≤b:=hs;have hz3:=b3.size;exact ⟨(heap_setCell_other _ _ _ _ (by show b≠w.heap.size + 4; omega)).trans (heap_setCell_other _ _ _ _ (by show b≠w.heap.size + 4; omega)),by show w.heap.size≤b; omega⟩
end
section
open Go.RowKit Cal
attribute [local go_sem] zag zaj za7
structure CapAt (sb kb rb:Nat) (vf vt vn vs:Value) (s:SchemaL) (k:Int × Int) (id ver:Int) (sv:Value) (vals:List (List UInt8)) (w:World):Prop where
 bs:w.heap[sb]? = some (.cells #[vf,vt,vn,vs] 33 (0,0))
 bk:w.heap[kb]? = some (.cells #[.int .u64 k.1,.int .u64 k.2] 41 (0,0))
 br:w.heap[rb]? = some (.cells #[.int .i64 id,.int .i64 ver,sv] 68 (0,0))
 sch:SchemaAt w zav vf vt vn vs s
 val:Vec w zav 1 zba sv vals
theorem CapAt.below {sb kb rb:Nat} {vf vt vn vs:Value} {s:SchemaL} {k:Int × Int} {id ver:Int} {sv:Value} {vals:List (List UInt8)} {w w':World} (h:CapAt sb kb rb vf vt vn vs s k id ver sv vals w) (hb:Below w.heap.size w w'):CapAt sb kb rb vf vt vn vs s k id ver sv vals w' :=
 ⟨zab hb (zaa h.bs) h.bs,zab hb (zaa h.bk) h.bk,zab hb (zaa h.br) h.br,h.sch.below hb,h.val.below hb⟩
theorem clos_yes (sb kb rb:Nat) (vf vt vn vs:Value) (s:SchemaL) (p:ParL) (k:Int × Int) (id ver:Int) (sv:Value) (vals:List (List UInt8)) (i:Nat) (w:World) (h:CapAt sb kb rb vf vt vn vs s k id ver sv vals w) (hf:FieldIn s p vals i) :
  Calls prog 95 #[.int .i64 i,.agg (parC p),.pointer (some ⟨sb,0,none⟩),.pointer (some ⟨kb,0,none⟩),.pointer (some ⟨rb,0,none⟩)] w (FieldPost (zdh s p k vals i) w):=by
 obtain ⟨a,cap,rfl⟩:=h.val.slice;obtain ⟨B,hB⟩:∃ B,zdh s p k vals i = B:=⟨_,rfl⟩;rw [hB];have HBF:=zjp hB; have HC:=zjp h; have HFI:=zjp hf;obtain ⟨s0,s1,s2,s3⟩:=zak h.bs; obtain ⟨k0,k1⟩:=zae h.bk; obtain ⟨r0,r1,r2⟩:=zao h.br;have ls:=zaa h.bs; have lk:=zaa h.bk; have lr:=zaa h.br;clear h hf hB;go_enter func95,ntmps95
 go_wp2_with fail
 refine zai (fun W hW=>?_)
 have hb0:=xam hW
 have hz0:W.heap[w.heap.size + 1]? = some (.cells #[.int .i64 0,.slice none 0 0] 56 (0,0)):=by rw [hW]; exact zac (by simp)
 clear hW;have HB0:=zjp hb0; have HZ0:=zjp hz0;clear hb0 hz0;refine (field_yes zav zav vf vt vn vs s p k id ver _ vals i W (HC.out.sch.below HB0.out) (HC.out.val.below HB0.out) HFI.out).mono ?_;rw [HBF.out];rintro e w1 ⟨_,rfl,⟨sw,rfl,hvw⟩,hb1⟩;have HVW:=zjp hvw;obtain ⟨aw,cw,rfl⟩:=hvw.slice;have hz1:=zab hb1 (zaa HZ0.out) HZ0.out;have HB1:=zjp (HB0.out.trans (hb1.mono HB0.out.size)); have HZ1:=zjp hz1;have hWz:=HB0.out.size; have hWz2:=hb1.size; have hWz3:=zaa HZ0.out;obtain ⟨z0,z1⟩:=zae hz1;have f0:=frozen_of_row _ _ 0 _ _ hz1; have f1:=frozen_of_row _ _ 1 _ _ hz1;have y1:=zaa hz1;clear hvw hz1 hb1 s0 s1 s2 s3 k0 k1 r0 r1 r2;go_wp2_with fail
 refine zah rfl rfl (zad (i:=1) (v:=.slice aw B.words.length cw) (zad (i:=0) (v:=.int .i64 B.len) HZ1.out)) underlying56 rfl (by kernel_rfl)
  ⟨_,rfl,⟨_,rfl,?_⟩,(HB1.out.setCell (p:=⟨w.heap.size + 1,0,none⟩) (Nat.le_succ _) _).setCell (p:=⟨w.heap.size + 1,1,none⟩) (Nat.le_succ _) _⟩
 refine Vec.move HVW.out (by simp [World.setCell]) fun b hb hs=>?_
 have hs':W.heap.size≤b:=hs;exact ⟨(heap_setCell_other _ _ _ _ (by show b≠w.heap.size + 1; omega)).trans (heap_setCell_other _ _ _ _ (by show b≠w.heap.size + 1; omega)),by show w.heap.size≤b; omega⟩
abbrev zdi (p:ParL):List Value:=[.int .i64 p.len,.int .i64 p.hashes,.int .i64 p.salt]
structure BV where
 len:Int
 a:Option Addr
 n:Nat
 c:Nat
abbrev za3 (x:BV):List Value:=[.int .i64 x.len,.slice x.a x.n x.c]
def BitsAll (w:World) (S:Nat→Prop) (C:List BV) (L:List BitsL):Prop:=C.length = L.length∧∀ n (h1:n < C.length) (h2:n < L.length),BitsAt w S (.agg (za3 C[n]).toArray) L[n]
theorem BitsAt.below {w w':World} {S:Nat→Prop} {v:Value} {b:BitsL} (h:BitsAt w S v b) (hb:Below w.heap.size w w'):BitsAt w' S v b:=by
 obtain ⟨s,rfl,hv⟩:=h; exact ⟨s,rfl,hv.below hb⟩
theorem BitsAll.below {w w':World} {S:Nat→Prop} {C:List BV} {L:List BitsL} (h:BitsAll w S C L) (hb:Below w.heap.size w w'):BitsAll w' S C L:=⟨h.1,fun n h1 h2=>(h.2 n h1 h2).below hb⟩
theorem BitsAll.snoc {w:World} {S:Nat→Prop} {C:List BV} {L:List BitsL} {c:BV} {b:BitsL} (h:BitsAll w S C L) (hc:BitsAt w S (.agg (za3 c).toArray) b):BitsAll w S (C ++ [c]) (L ++ [b]):=by
 refine ⟨by simp [h.1],fun n h1 h2=>?_⟩
 by_cases hn:n < C.length
 ·rw [List.getElem_append_left hn,List.getElem_append_left (by rw [← h.1]; exact hn)]; exact h.2 n _ _
 ·have:n = C.length:=by simp at h1; omega
  subst this;rw [List.getElem_append_right xnl,List.getElem_append_right (by rw [h.1]; exact Nat.le_refl _)];simpa using hc
theorem zf6:(prog.info? 56).map (fun i=>(i.zero,i.size,i.bytes)) = some (some (.agg #[.int .i64 0,.slice none 0 0]),2,32):=by kernel_rfl
theorem ze4:∀ (x:BV),∀ u∈za3 x,u.oneCell' = true:=by
 intro x u hu; simp at hu; rcases hu with rfl | rfl <;> rfl
theorem BitsAt.form {w:World} {S:Nat→Prop} {v:Value} {b:BitsL} (h:BitsAt w S v b):∃ c:BV,v = .agg (za3 c).toArray∧BitsAt w S (.agg (za3 c).toArray) b:=by
 obtain ⟨s,rfl,hv⟩:=h;obtain ⟨a,cap,rfl⟩:=hv.slice;exact ⟨⟨b.len,a,_,cap⟩,rfl,_,rfl,hv⟩
theorem BitsAt.weaken {w:World} {S T:Nat→Prop} {v:Value} {b:BitsL} (h:BitsAt w S v b) (hS:∀ x,S x→T x):BitsAt w T v b:=by
 obtain ⟨s,rfl,hv⟩:=h;exact ⟨s,rfl,hv.move xnl fun x _ hx=>⟨rfl,hS x hx⟩⟩
theorem BitsAt.move {w w':World} {S:Nat→Prop} {v:Value} {b:BitsL} (h:BitsAt w S v b) (hz:w.heap.size≤w'.heap.size) (hS:∀ x,x < w.heap.size→S x→w'.heap[x]? = w.heap[x]?):BitsAt w' S v b:=by
 obtain ⟨s,rfl,hv⟩:=h;exact ⟨s,rfl,hv.move hz fun x h1 h2=>⟨hS x h1 h2,h2⟩⟩
theorem BitsAll.weaken {w:World} {S T:Nat→Prop} {C:List BV} {L:List BitsL} (h:BitsAll w S C L) (hS:∀ x,S x→T x):BitsAll w T C L:=⟨h.1,fun n h1 h2=>(h.2 n h1 h2).weaken hS⟩
theorem BitsAll.move {w w':World} {S T:Nat→Prop} {C:List BV} {L:List BitsL} (h:BitsAll w S C L) (hz:w.heap.size≤w'.heap.size) (hS:∀ x,x < w.heap.size→S x→w'.heap[x]? = w.heap[x]?∧T x):BitsAll w' T C L :=
 ⟨h.1,fun n h1 h2=>by obtain ⟨s,e,hv⟩:=h.2 n h1 h2; exact ⟨s,e,hv.move hz hS⟩⟩
def zci (s:SchemaL) (P:List ParL) (k:Int × Int) (vals:List (List UInt8)) (n:Nat):List BitsL:=(List.range n).map fun i=>zdh s (P.getD i default) k vals i
theorem fieldsN_succ (s:SchemaL) (P:List ParL) (k:Int × Int) (vals:List (List UInt8)) (n:Nat):zci s P k vals (n + 1) = zci s P k vals n ++ [zdh s (P.getD n default) k vals n]:=by
 unfold zci; rw [List.range_succ,List.map_append]; rfl
def BitsVec (w:World) (S:Nat→Prop) (v:Value) (L:List BitsL):Prop:=∃ C,Vec w S 2 za3 v C∧BitsAll w S C L
def EachPost (L:List BitsL) (w:World) (e:Ending) (w':World):Prop:=∃ v,e = .returned (.tuple #[v,.int .i64 0])∧BitsVec w' (fun x=>w.heap.size≤x) v L∧Below w.heap.size w w'
theorem each_yes (S:Nat→Prop) (sb kb rb:Nat) (vf vt vn vs:Value) (s:SchemaL) (P:List ParL) (pv:Value) (k:Int × Int) (id ver:Int) (sv:Value) (vals:List (List UInt8)) (w:World) (h:CapAt sb kb rb vf vt vn vs s k id ver sv vals w)
  (hp:Vec w S 3 zdi pv P) (hf:∀ i,i < P.length→FieldIn s (P.getD i default) vals i) (h5:P.length≤5) :
  Calls prog 94 #[pv,.func (.func 95) #[] #[.pointer (some ⟨sb,0,none⟩),.pointer (some ⟨kb,0,none⟩),.pointer (some ⟨rb,0,none⟩)]] w (EachPost (zci s P k vals P.length) w):=by
 obtain ⟨a,cap,rfl⟩:=hp.slice;have HC:=zjp h; have HP:=zjp hp.any; have HF:=zjp hf;clear h hp hf;go_enter func94,ntmps94
 go_wp2_with fail
 go_loopw [6,7,8,9,10,13] (fun v _ _ _ _ i wr=>∃ (j:Nat) (C:List BV),i = .int .i64 j∧j≤P.length∧C.length = j∧OwnV 56 2 za3 w v C wr∧BitsAll wr (zfu w.heap.size v) C (zci s P k vals j)) (fun _ _ _ _ _ i _=>P.length - (intOf i).toNat)
 case atStart=>exact ⟨0,[],rfl,by omega,rfl,OwnV.start _ _ _ _,rfl,fun n h1 _=>by simp at h1⟩
 case round =>
  obtain ⟨j,C,rfl,hj,hCl,ho,hba⟩:=hrel;have HO:=zjp ho; have HBA:=zjp hba; have HCl:=zjp hCl;clear ho hba hCl;by_cases hlt:j < P.length
  ·have hq:decide ((j:Int) < P.length) = true:=by simp; omega
   have hfj:=HF.out j hlt;obtain ⟨p,hpj⟩:∃ p,P[j] = p:=⟨_,rfl⟩;have hgd:P.getD j default = p:=by rw [List.getD,List.getElem?_eq_getElem hlt]; exact hpj
   rw [hgd] at hfj;have hsucc:=fieldsN_succ s P k vals j;rw [hgd] at hsucc;obtain ⟨b,off,rfl,hb,hc⟩:=(HP.out.below HO.out.2).get j hlt;rw [hpj] at hc;have c0:=hc 0 _ rfl; have c1:=hc 1 _ rfl; have c2:=hc 2 _ rfl;rw [Nat.add_zero] at c0;have HFJ:=zjp hfj; have HSu:=zjp hsucc;clear hc hfj hsucc hgd hpj;go_wp2_with fail
   have hbA:Below w.heap.size w (wr.alloc (.cells (parC p) 87)):=HO.out.2.alloc HO.out.2.size _;refine (clos_yes sb kb rb vf vt vn vs s p k id ver sv vals j _ (HC.out.below hbA) HFJ.out).mono ?_;rintro e w1 ⟨vb,rfl,hvb,hb1⟩;obtain ⟨c,rfl,hcb⟩:=hvb.form;have hb2:Below wr.heap.size wr w1:=xbt hb1;have hwz:=HO.out.2.size;have hb3:Below wr.heap.size wr ((w1.alloc (.cells (za3 c).toArray 56)).alloc (.cells (za3 c).toArray 56)):=(hb2.alloc hb2.size _).alloc (by have:=hb2.size; simp; omega) _;have HO2:=zjp (HO.out.below hb3);have HR2:=zjp (show zcn ((w1.alloc (.cells (za3 c).toArray 56)).alloc (.cells (za3 c).toArray 56)) 2 (.slice (some ⟨w1.heap.size + 1,0,none⟩) 1 1) [c].length ([c].flatMap za3) from za2 (xs:=[c].flatMap za3) (fr:=(0,0)) (t:=56) (zac (by simp)) rfl)
   have hown6:∀ x,wr.heap.size≤x→some x≠u6.ownBlock:=by
    intro x hx
    rcases HO.out.1.2 with ⟨h0,_⟩ | ⟨g,cap,cur,h0,hg,hh,_⟩
    ·rw [h0]; simp [Value.ownBlock]
    ·rw [h0]; have:=zaa hh; simp [Value.ownBlock]; omega
   have HCB:=zjp (BitsAt.weaken (T:=fun x=>some x≠u6.ownBlock∧w.heap.size≤x) hcb (fun x hx=>by have hx':(wr.alloc (.cells (parC p) 87)).heap.size≤x:=hx; simp at hx'; exact ⟨hown6 x (by omega),by omega⟩))
   have HBA2:=zjp (HBA.out.below hb2);have hcn:C.length + [c].length≤1000000000:=by rw [HCl.out]; simp only [List.length_cons,List.length_nil]; omega
   have HB3:=zjp hb3;obtain ⟨cl,ca,cn,cc⟩:=c;clear hvb hb1 hb2 hb3 hcb hbA c0 c1 c2;go_wp2_with (at_builtin; refine zc4 rfl (.tmp 28) (.tmp 30) 57 rfl 56 (.agg #[.int .i64 0,.slice none 0 0]) 2 32 za3 (fun _=>rfl) ze4 underlying57 zf6 rfl (by decide) (by decide) (w0:=w) (v:=u6) (A:=C) (B:=[⟨cl,ca,cn,cc⟩]) rfl HO2.out rfl HR2.out hcn ?_; intro v2 w2 ho2 hk2 hz2 hat2)
   have hba:BitsAll w1 (fun x=>some x≠u6.ownBlock∧w.heap.size≤x) (C ++ [⟨cl,ca,cn,cc⟩]) (zci s P k vals (j + 1)):=by
    rw [HSu.out];exact (HBA2.out.weaken fun x hx=>⟨hx.2,hx.1⟩).snoc HCB.out
   go_roundw
   case rel =>
    refine ⟨j + 1,C ++ [⟨cl,ca,cn,cc⟩],by go_num,by omega,by rw [List.length_append,HCl.out]; rfl,ho2,hba.move ?_ ?_⟩
    ·simp at hz2; omega
    ·intro x hx hS
     obtain ⟨q1,q2⟩:=hS;have hlt1:=hx;refine ⟨?_,q2,?_⟩
     ·obtain ⟨ob,hob⟩:∃ ob,w1.heap[x]? = some ob:=⟨_,Array.getElem?_eq_getElem hx⟩
      rw [hob];exact hk2 x ob q1 (zaf (zaf hob))
     ·rcases hat2 with h1 | h1 | h1
      ·rw [h1]; simp
      ·rw [← h1]; exact q1
      ·rw [h1]; simp; omega
   case measure=>simp [intOf]; omega
  ·have hq:decide ((j:Int) < P.length) = false:=by simp; omega
   obtain rfl:j = P.length:=by omega
   go_wp2_with fail
   go_ret2;exact ⟨_,rfl,⟨C,(OwnV.vec (size:=2) (enc:=za3) (fun _=>rfl) HO.out),HBA.out.weaken fun x hx=>hx.1⟩,HO.out.2⟩
end
section
open Go.RowKit Cal
attribute [local go_sem] zag zaj za7
theorem BitsVec.slice {w:World} {S:Nat→Prop} {v:Value} {L:List BitsL} (h:BitsVec w S v L):∃ a cap,v = .slice a L.length cap:=by
 obtain ⟨C,hv,hc⟩:=h;obtain ⟨a,cap,rfl⟩:=hv.slice;exact ⟨a,cap,by rw [hc.1]⟩
theorem BitsVec.below {w w':World} {S:Nat→Prop} {v:Value} {L:List BitsL} (h:BitsVec w S v L) (hb:Below w.heap.size w w'):BitsVec w' S v L:=by
 obtain ⟨C,hv,hc⟩:=h; exact ⟨C,hv.below hb,hc.below hb⟩
theorem BitsVec.move {w w':World} {S T:Nat→Prop} {v:Value} {L:List BitsL} (h:BitsVec w S v L) (hz:w.heap.size≤w'.heap.size) (hS:∀ x,x < w.heap.size→S x→w'.heap[x]? = w.heap[x]?∧T x):BitsVec w' T v L:=by
 obtain ⟨C,hv,hc⟩:=h; exact ⟨C,hv.move hz hS,hc.move hz hS⟩
def EncVal (w:World) (S:Nat→Prop) (v:Value) (e:EncL):Prop:=∃ s,v = .agg #[.int .i64 e.id,.int .i64 e.ver,s]∧BitsVec w S s e.fields
def EncPost (x:EncL) (w:World) (e:Ending) (w':World):Prop:=∃ v,e = .returned (.tuple #[v,.int .i64 0])∧EncVal w' (fun b=>w.heap.size≤b) v x∧Below w.heap.size w w'
structure EncIn (s:SchemaL) (P:List ParL) (vals:List (List UInt8)):Prop where
 len:P.length = vals.length
 five:P.length≤5
 fld:∀ i,i < P.length→FieldIn s (P.getD i default) vals i
def zen (s:SchemaL) (P:List ParL) (k:Int × Int) (r:RecL):EncL:=⟨r.id,r.ver,zci s P k r.vals P.length⟩
theorem encoded_yes (S:Nat→Prop) (vf vt vn vs:Value) (s:SchemaL) (P:List ParL) (pv:Value) (k:Int × Int) (r:RecL) (sv:Value) (w:World) (h:SchemaAt w S vf vt vn vs s) (hp:Vec w zav 3 zdi pv P) (hv:Vec w zav 1 zba sv r.vals) (hf:EncIn s P r.vals) :
  Calls prog 67 #[.agg #[vf,vt,vn,vs],pv,.agg #[.int .u64 k.1,.int .u64 k.2],.agg #[.int .i64 r.id,.int .i64 r.ver,sv]] w (EncPost (zen s P k r) w):=by
 obtain ⟨a,cap,rfl⟩:=hp.slice;obtain ⟨rid,rver,vals⟩:=r;dsimp only at hv hf ⊢;obtain ⟨L,hL⟩:∃ L,zci s P k vals P.length = L:=⟨_,rfl⟩;have he:zen s P k ⟨rid,rver,vals⟩ = ⟨rid,rver,L⟩:=by unfold zen; rw [hL]
 rw [he];have HLL:=zjp hL; have HP:=zjp hp; have HV:=zjp hv; have HF:=zjp hf; have HS:=zjp h.any;clear he hL hp hv hf h;go_enter func67,ntmps67
 go_wp2_with fail
 refine zai (fun W hW=>?_)
 have hb0:Below w.heap.size w W:=by rw [hW]; exact ((((Below.refl w.heap.size w).alloc xnl _).alloc (by simp) _).alloc (by simp; omega) _).alloc (by simp; omega) _
 have hs0:W.heap[w.heap.size]? = some (.cells #[vf,vt,vn,vs] 33 (0,0)):=by rw [hW]; exact zaf (zaf (zaf (zac rfl)))
 have hk0:W.heap[w.heap.size + 1]? = some (.cells #[.int .u64 k.1,.int .u64 k.2] 41 (0,0)):=by rw [hW]; exact zaf (zaf (zac (by simp)))
 have hr0:W.heap[w.heap.size + 2]? = some (.cells #[.int .i64 rid,.int .i64 rver,sv] 68 (0,0)):=by rw [hW]; exact zaf (zac (by simp))
 have hz0:W.heap[w.heap.size + 3]? = some (.cells #[.int .i64 0,.int .i64 0,.slice none 0 0] 59 (0,0)):=by rw [hW]; exact zac (by simp)
 clear hW;have HC:=zjp (show CapAt w.heap.size (w.heap.size + 1) (w.heap.size + 2) vf vt vn vs s k rid rver sv vals W from ⟨hs0,hk0,hr0,HS.out.below hb0,HV.out.below hb0⟩);have HB0:=zjp hb0; have HZ0:=zjp hz0; have HR0:=zjp hr0;clear hs0 hk0 hr0 hz0 hb0;refine (each_yes zav _ _ _ vf vt vn vs s P _ k rid rver sv vals W HC.out (HP.out.below HB0.out) HF.out.fld HF.out.five).mono ?_;rw [HLL.out];rintro e w1 ⟨v1,rfl,hv1,hb1⟩;have HV1:=zjp hv1;obtain ⟨a1,c1,rfl⟩:=hv1.slice;have hz1:=zab hb1 (zaa HZ0.out) HZ0.out;have hr1:=zab hb1 (zaa HR0.out) HR0.out;have HB1:=zjp (HB0.out.trans (hb1.mono HB0.out.size)); have HZ1:=zjp hz1;have hWz:=HB0.out.size; have hWz2:=hb1.size; have hWz3:=zaa HZ0.out;obtain ⟨z0,z1,z2⟩:=zao hz1;obtain ⟨r0,r1,r2⟩:=zao hr1;have f0:=frozen_of_row _ _ 0 _ _ hz1; have f1:=frozen_of_row _ _ 1 _ _ hz1; have f2:=frozen_of_row _ _ 2 _ _ hz1;have y1:=zaa hz1; have y2:=zaa hr1;clear hv1 hz1 hr1 hb1;go_wp2_with fail
 refine zah rfl rfl (zad (i:=2) (v:=.slice a1 L.length c1) (zad (i:=1) (v:=.int .i64 rver) (zad (i:=0) (v:=.int .i64 rid) HZ1.out))) underlying59 rfl (by kernel_rfl)
  ⟨_,rfl,⟨_,rfl,?_⟩,((HB1.out.setCell (p:=⟨w.heap.size + 3,0,none⟩) (by show w.heap.size≤w.heap.size + 3; omega) _).setCell (p:=⟨w.heap.size + 3,1,none⟩) (by show w.heap.size≤w.heap.size + 3; omega) _).setCell (p:=⟨w.heap.size + 3,2,none⟩) (by show w.heap.size≤w.heap.size + 3; omega) _⟩
 refine HV1.out.move (by simp [World.setCell]) fun b hb hs=>?_
 have hs':W.heap.size≤b:=hs;exact ⟨((heap_setCell_other _ _ _ _ (by show b≠w.heap.size + 3; omega)).trans (heap_setCell_other _ _ _ _ (by show b≠w.heap.size + 3; omega))).trans (heap_setCell_other _ _ _ _ (by show b≠w.heap.size + 3; omega)),by show w.heap.size≤b; omega⟩
end
section
open Go.RowKit
def InI (n:Int):Prop:=-9223372036854775808≤n∧n≤9223372036854775807
theorem BitsVec.at {w:World} {S:Nat→Prop} {a:Option Addr} {n cap:Nat} {L:List BitsL} (h:BitsVec w S (.slice a n cap) L) (j:Nat) (hj:j < L.length) :
  ∃ (b off:Nat) (c:BV),a = some ⟨b,off,none⟩∧b < w.heap.size∧w.cell? ⟨b,off + j * 2,none⟩ = some (.int .i64 c.len)∧w.cell? ⟨b,off + j * 2 + 1,none⟩ = some (.slice c.a c.n c.c)∧BitsAt w S (.agg (za3 c).toArray) (L.getD j zbg):=by
 obtain ⟨C,hC,hA⟩:=h;have hj2:j < C.length:=by rw [hA.1]; exact hj
 obtain ⟨b,off,e,hb,hc⟩:=hC.get j hj2;refine ⟨b,off,C[j],e,hb,by have:=hc 0 _ rfl; simpa using this,by have:=hc 1 _ rfl; simpa using this,?_⟩;rw [za5 _ _ hj];exact hA.2 j hj2 hj
theorem BitsVec.len {w:World} {S:Nat→Prop} {a:Option Addr} {n cap:Nat} {L:List BitsL} (h:BitsVec w S (.slice a n cap) L):n = L.length∧n≤cap:=by
 obtain ⟨C,hC,hA⟩:=h;have:=hC.len; have:=hA.1; omega
end
section
open Go.RowKit
attribute [local go_sem] zag zaj
theorem valid_in {b:BitsL} (h:zap b = true):InI b.len:=by
 unfold zap zc6 at h;simp only [Bool.and_eq_true,beq_iff_eq,decide_eq_true_eq] at h;exact ⟨by omega,by omega⟩
theorem bits_range (op:BinOp) (x y:Int):0≤bits op .u64 x y∧bits op .u64 x y < 18446744073709551616:=by
 unfold bits;rw [IntKind.wrap_u64];constructor <;> omega
end
section
open Go.RowKit
attribute [local go_sem] zag zaj
theorem bnew_no (n:Int) (w:World) (h:zc6 n = false) (h1:-9223372036854775808≤n) (h2:n≤9223372036854775807) :
  Calls prog 91 #[.int .i64 n] w fun e w'=>e = .returned (.tuple #[.agg #[.int .i64 0,.slice none 0 0],.int .i64 2])∧Below w.heap.size w w':=by
 have HR:=zjp h;clear h;go_enter func91,ntmps91
 go_wp2_with fail
 refine (ziy n _ h1 h2).mono ?_;rw [HR.out];rintro e w1 ⟨rfl,rfl⟩;go_wp2_with fail
 exact zah rfl rfl (zac rfl) underlying56 rfl (by kernel_rfl)
  ⟨rfl,(Below.refl w.heap.size w).alloc xnl _⟩
theorem BitsAt.none (w:World) (S:Nat→Prop):BitsAt w S (.agg #[.int .i64 0,.slice none 0 0]) zbg:=⟨_,rfl,Vec.nil _ _ _ _⟩
end
section
open Go.RowKit Cal
attribute [local go_sem] zag zaj za7
theorem zhd (i v:Int) (w:World) :
  Calls prog 92 #[.int .i64 i,.int .i64 v] w fun e w'=>e = .returned (.bool (zbl i v))∧w = w':=by
 unfold zbl;cases e1:decide ((1:Int)≤i)
 ·go_enter func92,ntmps92
  go_wp2_with fail
  go_ret;exact ⟨rfl,rfl⟩
 ·cases e2:decide (i≤(1048576:Int))
  ·go_enter func92,ntmps92
   go_wp2_with fail
   go_ret;exact ⟨rfl,rfl⟩
  ·cases e3:decide ((1:Int)≤v)
   ·go_enter func92,ntmps92
    go_wp2_with fail
    go_ret;exact ⟨rfl,rfl⟩
   ·go_enter func92,ntmps92
    go_wp2_with fail
    go_ret;exact ⟨rfl,rfl⟩
theorem rchk_any (S:Nat→Prop) (vf vt vn vs:Value) (s:SchemaL) (r:RecL) (sv:Value) (w:World) (h:SchemaAt w S vf vt vn vs s) (hv:Vec w zav 1 zba sv r.vals) (hs:∀ x∈r.vals,x.length≤1000000) (hn:r.vals.length≤1000000) :
  Calls prog 64 #[.agg #[vf,vt,vn,vs],.agg #[.int .i64 r.id,.int .i64 r.ver,sv]] w fun e w'=>e = .returned (.int .i64 (zer s r))∧Below w.heap.size w w':=by
 obtain ⟨a,cap,rfl⟩:=hv.slice;obtain ⟨af,cf,rfl⟩:=h.1.slice;obtain ⟨id,ver,vals⟩:=r;dsimp only at hv hs hn ⊢;have hval:zer s ⟨id,ver,vals⟩ = if (zbl id ver && (vals.length == s.fields.length) && ze5 s 0 vals) = true then 0 else 7:=rfl
 obtain ⟨c,hc⟩:∃ c,zer s ⟨id,ver,vals⟩ = c:=⟨_,rfl⟩;rw [hc] at hval ⊢;have HV:=zjp hv; have HSh:=zjp hs; have HS:=zjp h.any; have HVal:=zjp hval;clear hv hs h hval hc;cases hnum:zbl id ver
 ·have h7:c = 7:=by rw [HVal.out,hnum]; rfl
  subst h7;have HN:=zjp hnum; clear hnum HVal;go_enter func64,ntmps64
  go_wp2_with fail
  refine (zhd _ _ _).mono ?_;rw [HN.out];rintro e w1 ⟨rfl,rfl⟩;go_wp2_with fail
  go_ret;exact ⟨rfl,((Below.refl w.heap.size w).alloc xnl _).alloc (by simp) _⟩
 ·have HN:=zjp hnum
  by_cases hlen:vals.length = s.fields.length
  ·have HVal2:=zjp (show c = if ze5 s 0 vals = true then 0 else 7 by rw [HVal.out,hnum,hlen]; simp)
   have hne:((vals.length:Int) != (s.fields.length:Int)) = false:=by rw [hlen]; simp
   have HL:=zjp hlen;clear hnum HVal hlen;go_enter func64,ntmps64
   go_wp2_with fail
   refine (zhd _ _ _).mono ?_;rw [HN.out];rintro e w1 ⟨rfl,rfl⟩;go_wp2_with fail
   refine zam (fun W hW=>?_)
   have hb0:=xam hW
   have hs0:W.heap[w.heap.size]? = some (.cells #[.slice af s.fields.length cf,vt,vn,vs] 33 (0,0)):=by rw [hW]; exact zaf (zac rfl)
   clear hW;have HB0:=zjp hb0; have HS0:=zjp hs0; clear hb0 hs0;go_loopw [5,6,25] (fun _ _ i wr=>∃ j:Nat,i = .int .i64 j∧j≤vals.length∧Hid (ze5 s j (vals.drop j) = ze5 s 0 vals)∧Below W.heap.size W wr) (fun _ _ i _=>vals.length - (intOf i).toNat)
   case atStart=>exact ⟨0,rfl,by omega,zjp rfl,Below.refl _ _⟩
   case round =>
    obtain ⟨j,rfl,hj,HT,hb⟩:=hrel;have HBr:=zjp hb; clear hb;by_cases hlt:j < vals.length
    ·have hq:decide ((j:Int) < vals.length) = true:=by simp; omega
     obtain ⟨x,hx⟩:∃ x,vals[j] = x:=⟨_,rfl⟩;have hxl:x.length≤1000000:=HSh.out x (by rw [← hx]; exact List.getElem_mem _);have hT:=HT.out;rw [List.drop_eq_getElem_cons hlt,hx,ze5] at hT;obtain ⟨b,off,rfl,hb,hc⟩:=(HV.out.below (HB0.out.trans (HBr.out.mono HB0.out.size))).get j hlt;have c0:=hc 0 _ rfl;rw [Nat.mul_one,Nat.add_zero,hx] at c0;have hsr:=zab HBr.out (zaa HS0.out) HS0.out;obtain ⟨s0,s1,s2,s3⟩:=zak hsr;have HT2:=zjp hT;clear hc hT hx hsr HT;go_wp2_with fail
     refine (zgv zav _ vt vn vs s j ⟨x.toArray⟩ _ (HS.out.below (HB0.out.trans (HBr.out.mono HB0.out.size))) (by rw [zaj]; omega)).mono ?_;rw [show (⟨x.toArray⟩:ByteArray).data.toList = x by simp];obtain ⟨nb,hnb⟩:∃ nb,zaq s j x = nb:=⟨_,rfl⟩;rw [hnb] at HT2 ⊢;rintro e w2 ⟨rfl,hb2⟩;have HB2:=zjp (HBr.out.trans (hb2.mono HBr.out.size));clear hb2 hnb s0 s1 s2 s3 c0;cases nb
     ·have h7:c = 7:=by rw [HVal2.out,← HT2.out]; rfl
      subst h7;go_wp2_with fail
      go_ret;exact ⟨rfl,HB0.out.trans (HB2.out.mono HB0.out.size)⟩
     ·go_wp2_with fail
      go_roundw
      case rel=>exact ⟨j + 1,by go_num,by omega,zjp (by rw [← HT2.out,Bool.true_and]),HB2.out⟩
      case measure=>simp [intOf]; omega
    ·have hq:decide ((j:Int) < vals.length) = false:=by simp; omega
     obtain rfl:j = vals.length:=by omega
     have h0:c = 0:=by rw [HVal2.out,← HT.out,List.drop_length]; rfl
     subst h0;go_wp2_with fail
     go_ret;exact ⟨rfl,HB0.out.trans (HBr.out.mono HB0.out.size)⟩
  ·have h7:c = 7:=by rw [HVal.out,hnum]; simp [hlen]
   have hne:((vals.length:Int) != (s.fields.length:Int)) = true:=by simp; omega
   subst h7;clear hnum HVal hlen;go_enter func64,ntmps64
   go_wp2_with fail
   refine (zhd _ _ _).mono ?_;rw [HN.out];rintro e w1 ⟨rfl,rfl⟩;go_wp2_with fail
   go_ret;exact ⟨rfl,((Below.refl w.heap.size w).alloc xnl _).alloc (by simp) _⟩
end
section
open Go.RowKit Cal
attribute [local go_sem] zag zaj za7
structure ParsOk (P:List ParL):Prop where
 par:∀ i,i < P.length→ParOk (P.getD i default)
 salt:∀ i,i < P.length→(P.getD i default).salt < P.length∧(P.getD i default).salt≠i
structure RecIn (s:SchemaL) (P:List ParL) (r:RecL):Prop where
 chk:zax s = 0
 rec_:zdj s r = 0
 len:P.length = s.fields.length
 pars:ParsOk P
 short:∀ v∈r.vals,v.length≤64
theorem RecIn.enc {s:SchemaL} {P:List ParL} {r:RecL} (h:RecIn s P r):EncIn s P r.vals:=by
 obtain ⟨_,hnum,hl,hno⟩:=zgp h.rec_;have h5:=(zcl h.chk).1.2;have hl2:=h.len
 refine ⟨by omega,by omega,fun i hi=>⟨h.pars.par i hi,by have:=(h.pars.salt i hi).1; omega,by omega,by omega,?_,?_,h.short⟩⟩
 ·rw [zjd h.chk (by omega)]
 ·have:=zhf s r.vals 0 hno i (by omega)
  rwa [Nat.zero_add] at this
end
section
open Go.RowKit
def KeyPost (D:Nat) (w:World) (e:Ending) (w':World):Prop:=∃ k:Int × Int,e = .returned (.agg #[.int .u64 k.1,.int .u64 k.2])∧Moved D w w'
theorem zhx (D:Nat) (w:World) (h:DeckAt w D) :
  Calls prog 12 #[.pointer (some ⟨D,0,none⟩)] w (KeyPost D w):=by
 have zD:=h.lt;have M0:=zjp (Moved.start h); clear h;go_enter func12,ntmps12
 go_wp2_with fail
 refine (word_any D _ (M0.out.alloc _).deck).mono ?_;rintro e w1 ⟨a,rfl,a0,a1,mv⟩;have M1:=zjp ((M0.out.alloc _).trans mv);have HZ1:=zjp (mv.blk (k:=w.heap.size) (by omega) (zac rfl));clear mv;go_wp2_with fail
 refine (word_any D _ M1.out.deck).mono ?_;rintro e w2 ⟨b,rfl,b0,b1,mv⟩;have M2:=zjp (M1.out.trans mv);have hz2:=mv.blk (k:=w.heap.size) (by omega) HZ1.out;have HZ2:=zjp hz2;obtain ⟨z0,z1⟩:=zae hz2;have f0:=frozen_of_row _ _ 0 _ _ hz2; have f1:=frozen_of_row _ _ 1 _ _ hz2;have y1:=zaa hz2;clear mv hz2 HZ1 M1;go_wp2_with fail
 exact za4 rfl rfl (zad (i:=1) (v:=.int .u64 b) (zad (i:=0) (v:=.int .u64 a) HZ2.out)) underlying41 rfl (by kernel_rfl)
  ⟨(a,b),rfl,(M2.out.set (a:=⟨w.heap.size,0,none⟩) xnl _).set (a:=⟨w.heap.size,1,none⟩) xnl _⟩
theorem infoPar:(prog.info? 87).map (fun i=>(i.zero,i.size,i.bytes)) = some (some (.agg #[.int .i64 0,.int .i64 0,.int .i64 0]),3,24):=by kernel_rfl
theorem one_encPar:∀ (x:ParL),∀ u∈zdi x,u.oneCell' = true:=by
 intro x u hu; simp at hu; rcases hu with rfl | rfl | rfl <;> rfl
structure ParsD (n j:Nat) (P:List ParL):Prop where
 len:P.length = j
 par:∀ i,i < j→ParOk (P.getD i default)∧(P.getD i default).salt < n∧(P.getD i default).salt≠i
theorem ParsD.nil (n:Nat):ParsD n 0 []:=⟨rfl,fun i hi=>by omega⟩
theorem ParsD.snoc {n j:Nat} {P:List ParL} {p:ParL} (h:ParsD n j P) (hp:ParOk p) (h1:p.salt < n) (h2:p.salt≠j):ParsD n (j + 1) (P ++ [p]):=by
 refine ⟨by simp [h.len],fun i hi=>?_⟩
 by_cases hij:i < j
 ·have e:(P ++ [p]).getD i default = P.getD i default:=by rw [List.getD,List.getD,List.getElem?_append_left (by rw [h.len]; exact hij)]
  rw [e]; exact h.par i hij
 ·have hij':i = j:=by omega
  subst hij';have e:(P ++ [p]).getD i default = p:=by rw [List.getD,List.getElem?_append_right (by rw [h.len]; exact Nat.le_refl _),h.len,Nat.sub_self]; rfl
  rw [e]; exact ⟨hp,h1,h2⟩
def ParsPost (D n:Nat) (w:World) (e:Ending) (w':World):Prop:=∃ v P,e = .returned v∧Vec w' (fun b=>w.heap.size≤b) 3 zdi v P∧ParsD n n P∧Moved D w w'
theorem OwnM.set2 {α:Type} {D e size:Nat} {enc:α→List Value} {wA w:World} {u:Value} {L:List α} (h:OwnM D e size enc wA u L w) {a:Addr} {v:Value} (ha:wA.heap.size≤a.block) (hn:∀ g cap,u = .slice (some ⟨g,0,none⟩) L.length cap→g < a.block):OwnM D e size enc wA u L (w.setCell a v):=by
 refine ⟨⟨h.1.1,?_⟩,h.2.set ha v⟩
 rcases h.1.2 with h0 | ⟨g,cap,cur,hv,hg,hh,rest⟩
 ·exact .inl h0
 ·exact .inr ⟨g,cap,cur,hv,hg,zan hh (by have:=hn g cap hv; omega),rest⟩
theorem pars_deal (D n:Nat) (w:World) (h:DeckAt w D) (hn:n≤5) :
  Calls prog 10 #[.pointer (some ⟨D,0,none⟩),.int .i64 n] w (ParsPost D n w):=by
 have zD:=h.lt;have M0:=zjp (Moved.start h); clear h;go_enter func10,ntmps10
 go_wp2_with fail
 go_loopw [5,6,7] (fun v i _ wr=>∃ (j:Nat) (P:List ParL),i = .int .i64 j∧j≤n∧OwnM D 87 3 zdi w v P wr∧ParsD n j P) (fun _ i _ _=>n - (intOf i).toNat)
 case atStart=>exact ⟨0,[],rfl,by omega,⟨⟨by simp,.inl ⟨rfl,rfl⟩⟩,M0.out⟩,ParsD.nil n⟩
 case round =>
  obtain ⟨j,P,rfl,hj,ho,hp⟩:=hrel;have HO:=zjp ho; have HPD:=zjp hp; clear ho hp;by_cases hlt:j < n
  ·have hq:decide ((j:Int) < n) = true:=by simp; omega
   go_wp2_with fail
   refine (zc0 D _ 3 HO.out.2.deck (by omega) (by omega)).mono ?_;rintro e w1 ⟨x,rfl,x0,x1,mv⟩;have HO1:=zjp (HO.out.moved mv); clear mv HO;go_wp2_with fail
   refine (zc0 D _ 6 HO1.out.2.deck (by omega) (by omega)).mono ?_;rintro e w2 ⟨y,rfl,y0,y1,mv⟩;have HO2:=zjp (HO1.out.moved mv); clear mv HO1;by_cases hn1:1 < n
   ·have hq1:decide ((1:Int) < n) = true:=by simp; omega
    go_wp2_with fail
    refine (zfd D _ 3 (HO2.out.2.alloc _).deck (by omega) (by omega)).mono ?_;rintro e w3 ⟨u,rfl,mv⟩;have hbx:=mv.blk (k:=w2.heap.size) (by have:=HO2.out.2.size; omega) (zac rfl);have HO3a:=zjp (HO2.out.moved (((Moved.start HO2.out.2.deck).alloc (.cells #[.int .i64 (64 * (1 + x)),.int .i64 (1 + y),.int .i64 (-1)] 87)).trans mv));have hz2:=HO2.out.2.size; have hz3:=zaa hbx; have hz4:=mv.size;clear mv;obtain ⟨x0',x1',x2'⟩:=zao hbx;have f2:=frozen_of_row _ _ 2 _ _ hbx
    have hz5:∀ g cap,u5 = .slice (some ⟨g,0,none⟩) P.length cap→g < w2.heap.size:=by
     intro g cap e
     rcases HO2.out.1.2 with ⟨h0,_⟩ | ⟨g',cap',cur,h0,hg,hh,_⟩
     ·rw [h0] at e; cases e
     ·rw [h0] at e; cases e; exact zaa hh
    cases u
    ·clear f2 hbx HO2
     have hpar:ParOk ⟨64 * (1 + x),1 + y,-1⟩:=⟨by dsimp only; omega,by dsimp only; omega,by dsimp only; omega,by dsimp only; omega,by dsimp only; omega,by dsimp only; omega,by dsimp only; omega⟩;have hpd:=HPD.out.snoc (p:=⟨64 * (1 + x),1 + y,-1⟩) hpar (by dsimp only; omega) (by dsimp only; omega);have HPD2:=zjp hpd;have HO3:=zjp (HO3a.out.moved ((Moved.start HO3a.out.2.deck).alloc (.cells #[.int .i64 (64 * (1 + x)),.int .i64 (1 + y),.int .i64 (-1)] 87)));have hpl:=HPD.out.len;have hcn:P.length + [(⟨64 * (1 + x),1 + y,-1⟩:ParL)].length≤1000000000:=by simp only [List.length_cons,List.length_nil]; omega
     clear hpl hpd hpar;have HR3:=zjp (show zcn _ 3 (.slice (some ⟨w3.heap.size,0,none⟩) 1 1) [(⟨64 * (1 + x),1 + y,-1⟩:ParL)].length ([(⟨64 * (1 + x),1 + y,-1⟩:ParL)].flatMap zdi) from za2 (w:=w3.alloc (.cells #[.int .i64 (64 * (1 + x)),.int .i64 (1 + y),.int .i64 (-1)] 87)) (t:=87) (fr:=(0,0)) (zac rfl) rfl);go_wp2_with (at_builtin; refine zeg rfl (.tmp 32) (.tmp 34) 35 rfl D 87 (.agg #[.int .i64 0,.int .i64 0,.int .i64 0]) 3 24 zdi (fun _=>rfl) one_encPar underlying35 infoPar rfl (by decide) (by decide) (wA:=w) (v:=u5) (A:=P) (B:=[⟨64 * (1 + x),1 + y,-1⟩]) rfl HO3.out rfl HR3.out hcn ?_; intro v4 w4 ho4 hk4)
     go_roundw
     case rel=>exact ⟨j + 1,P ++ [⟨64 * (1 + x),1 + y,-1⟩],by go_num,by omega,ho4,HPD2.out⟩
     case measure=>simp [intOf]; omega
    ·obtain ⟨q,hmod,hqn,hqj⟩:∃ q:Nat,((j:Int) + 1) % (n:Int) = q∧q < n∧q≠j:=by
      by_cases hjn:j + 1 = n
      ·exact ⟨0,by rw [show (j:Int) + 1 = (n:Int) by omega,Int.emod_self]; rfl,by omega,by omega⟩
      ·exact ⟨j + 1,by rw [Int.emod_eq_of_lt (by omega) (by omega)]; rfl,by omega,by omega⟩
     have hn0:(n:Int)≠0:=by omega
     have hset:=zad (i:=2) (v:=.int .i64 q) hbx;have HBX:=zjp hset;clear hset hbx HO2;have hpar:ParOk ⟨64 * (1 + x),1 + y,q⟩:=⟨by dsimp only; omega,by dsimp only; omega,by dsimp only; omega,by dsimp only; omega,by dsimp only; omega,by dsimp only; omega,by dsimp only; omega⟩;have hpd:=HPD.out.snoc (p:=⟨64 * (1 + x),1 + y,q⟩) hpar (by dsimp only; omega) (by dsimp only; omega);have HPD2:=zjp hpd;have HO3:=zjp (OwnM.set2 HO3a.out (a:=⟨w2.heap.size,2,none⟩) (v:=.int .i64 q) hz2 hz5);have hpl:=HPD.out.len;have hcn:P.length + [(⟨64 * (1 + x),1 + y,q⟩:ParL)].length≤1000000000:=by simp only [List.length_cons,List.length_nil]; omega
     clear hpl hpd hpar;have HO4:=zjp (HO3.out.moved ((Moved.start HO3.out.2.deck).alloc (.cells #[.int .i64 (64 * (1 + x)),.int .i64 (1 + y),.int .i64 (q:Int)] 87)));have HR3:=zjp (show zcn _ 3 (.slice (some ⟨w3.heap.size,0,none⟩) 1 1) [(⟨64 * (1 + x),1 + y,q⟩:ParL)].length ([(⟨64 * (1 + x),1 + y,q⟩:ParL)].flatMap zdi) from za2 (w:=(w3.setCell ⟨w2.heap.size,2,none⟩ (.int .i64 q)).alloc (.cells #[.int .i64 (64 * (1 + x)),.int .i64 (1 + y),.int .i64 (q:Int)] 87)) (t:=87) (fr:=(0,0)) (zac (by simp [World.setCell])) rfl);go_wp2_with (at_builtin; refine zeg rfl (.tmp 32) (.tmp 34) 35 rfl D 87 (.agg #[.int .i64 0,.int .i64 0,.int .i64 0]) 3 24 zdi (fun _=>rfl) one_encPar underlying35 infoPar rfl (by decide) (by decide) (wA:=w) (v:=u5) (A:=P) (B:=[⟨64 * (1 + x),1 + y,q⟩]) rfl HO4.out rfl HR3.out hcn ?_; intro v4 w4 ho4 hk4)
     go_roundw
     case rel=>exact ⟨j + 1,P ++ [⟨64 * (1 + x),1 + y,q⟩],by go_num,by omega,ho4,HPD2.out⟩
     case measure=>simp [intOf]; omega
   ·have hq1:decide ((1:Int) < n) = false:=by simp; omega
    have hz2:=HO2.out.2.size;have hpar:ParOk ⟨64 * (1 + x),1 + y,-1⟩:=⟨by dsimp only; omega,by dsimp only; omega,by dsimp only; omega,by dsimp only; omega,by dsimp only; omega,by dsimp only; omega,by dsimp only; omega⟩;have hpd:=HPD.out.snoc (p:=⟨64 * (1 + x),1 + y,-1⟩) hpar (by dsimp only; omega) (by dsimp only; omega);have HPD2:=zjp hpd;have HO3:=zjp (HO2.out.moved (((Moved.start HO2.out.2.deck).alloc (.cells #[.int .i64 (64 * (1 + x)),.int .i64 (1 + y),.int .i64 (-1)] 87)).alloc (.cells #[.int .i64 (64 * (1 + x)),.int .i64 (1 + y),.int .i64 (-1)] 87)));have hpl:=HPD.out.len;have hcn:P.length + [(⟨64 * (1 + x),1 + y,-1⟩:ParL)].length≤1000000000:=by simp only [List.length_cons,List.length_nil]; omega
    clear hpl hpd hpar;have HR3:=zjp (show zcn _ 3 (.slice (some ⟨w2.heap.size + 1,0,none⟩) 1 1) [(⟨64 * (1 + x),1 + y,-1⟩:ParL)].length ([(⟨64 * (1 + x),1 + y,-1⟩:ParL)].flatMap zdi) from za2 (w:=(w2.alloc (.cells #[.int .i64 (64 * (1 + x)),.int .i64 (1 + y),.int .i64 (-1)] 87)).alloc (.cells #[.int .i64 (64 * (1 + x)),.int .i64 (1 + y),.int .i64 (-1)] 87)) (t:=87) (fr:=(0,0)) (zac (by simp)) rfl);go_wp2_with (at_builtin; refine zeg rfl (.tmp 32) (.tmp 34) 35 rfl D 87 (.agg #[.int .i64 0,.int .i64 0,.int .i64 0]) 3 24 zdi (fun _=>rfl) one_encPar underlying35 infoPar rfl (by decide) (by decide) (wA:=w) (v:=u5) (A:=P) (B:=[⟨64 * (1 + x),1 + y,-1⟩]) rfl HO3.out rfl HR3.out hcn ?_; intro v4 w4 ho4 hk4)
    go_roundw
    case rel=>exact ⟨j + 1,P ++ [⟨64 * (1 + x),1 + y,-1⟩],by go_num,by omega,ho4,HPD2.out⟩
    case measure=>simp [intOf]; omega
  ·have hq:decide ((j:Int) < n) = false:=by simp; omega
   obtain rfl:j = n:=by omega
   go_wp2_with fail
   go_ret;exact ⟨_,P,rfl,Vec.owns (k:=3) (enc:=zdi) (fun _=>rfl) HO.out.1 (fun b hb _=>hb),HPD.out,HO.out.2⟩
end
section
open Go.RowKit
attribute [local go_sem] zag zaj zbb
theorem ext_one (s:ByteArray) (k:Nat) (h:k < s.size):s.extract k (k + 1) = ⟨[s[k]].toArray⟩:=by
 have hl:s.data.toList.length = s.size:=by simp
 have:=ext_mk s.data.toList k (k + 1) (by omega);unfold mkS at this;have e:(⟨s.data.toList.toArray⟩:ByteArray) = s:=by simp
 rw [e] at this;rw [this];congr 2;rw [zes s k h,List.drop_append_of_le_length (by rw [List.length_take]; omega),List.drop_eq_nil_of_le (by rw [List.length_take]; omega),List.nil_append]
theorem zhb (s:ByteArray) (w:World) (hs:s.size≤1000000) :
  Calls prog 152 #[.string s] w fun e w'=>e = .returned (zal (za8 s.data.toList))∧w = w':=by
 have hl:s.data.toList.length = s.size:=by simp
 have HL:=zjp hl; clear hl;go_enter func152,ntmps152
 go_wp2_with fail
 go_loop [3,4] (fun o i=>∃ k:Nat,k≤s.size∧i = .int .i64 k∧o = zal (za8 (s.data.toList.take k))) (fun _ i=>s.size - (intOf i).toNat)
 case atStart=>exact ⟨0,by omega,rfl,rfl⟩
 case round =>
  obtain ⟨k,hk,rfl,rfl⟩:=hrel;by_cases hlt:k < s.size
  ·have hq:decide ((k:Int) < s.size) = true:=by simp; omega
   have ht:=zjp (zes s k hlt);have hb:=s[k].toNat_lt;have hlen:(za8 (s.data.toList.take k)).length≤1000000:=by have:=zfo (s.data.toList.take k); have:=List.length_take_le k s.data.toList; omega
   have hext:=ext_one s k hlt;cases hlo:zf0 s[k]
   ·have HN:=zjp (letters_no (s.data.toList.take k) s[k] hlo)
    have hc:=hlo;rw [zdu,decide_eq_false_iff_not] at hc;have hc':(97≤(s[k].toNat:Int)∧122 < (s[k].toNat:Int))∨(s[k].toNat:Int) < 97:=by omega
    clear hc hlo hext
    rcases hc' with ⟨g1,g2⟩ | g1
    all_goals
     go_wp2_with fail
     go_round
     case rel=>exact ⟨k + 1,by omega,by go_num,by rw [ht.out,HN.out]⟩
     case measure=>simp [intOf]; omega
   ·have HY:=zjp (letters_yes (s.data.toList.take k) s[k] hlo)
    have hc:=hlo;rw [zdu,decide_eq_true_iff] at hc;obtain ⟨g1,g2⟩:=hc;clear hlo;go_wp2_with fail
    go_round
    case rel=>exact ⟨k + 1,by omega,by go_num,by rw [ht.out,HY.out]⟩
    case measure=>simp [intOf]; omega
  ·obtain rfl:k = s.size:=by omega
   have hq:decide ((s.size:Int) < s.size) = false:=by simp
   have HF:=zjp (List.take_of_length_le (by rw [HL.out]; exact Nat.le_refl _):s.data.toList.take s.size = s.data.toList);go_wp2_with fail
   go_ret;exact ⟨by show Ending.returned (zal (za8 (s.data.toList.take s.size))) = _; rw [HF.out],rfl⟩
theorem join_snoc (T:List (List UInt8)) (x:List UInt8):za0 (T ++ [x]) = if T = [] then x else za0 T ++ [32] ++ x:=by
 induction T with
 | nil=>rfl
 | cons t T ih =>
  rw [if_neg (by simp)];by_cases hT:T = []
  ·subst hT; simp [za0]
  ·rw [if_neg hT] at ih
   rw [List.cons_append,zbj _ _ (by simp),ih,zbj _ _ hT]; simp
theorem zi8 (L:List (List UInt8)):∀ k,(za0 (L.take k)).length≤(za0 L).length:=by
 induction L with
 | nil=>intro k; simp
 | cons a L ih =>
  intro k;cases k with
  | zero=>simp [za0]
  | succ k =>
   rw [List.take_succ_cons];by_cases hk:L.take k = []
   ·rw [hk]
    by_cases hL:L = []
    ·subst hL; simp [za0]
    ·rw [zbj _ _ hL]; simp [za0]
   ·have hL:L≠[]:=by intro e; subst e; simp at hk
    rw [zbj _ _ hk,zbj _ _ hL];have:=ih k; simp; omega
theorem rjoin_any (S:Nat→Prop) (v:Value) (L:List (List UInt8)) (w:World) (h:Vec w S 1 zba v L) (hn:L.length≤1000000) (hj:(za0 L).length≤1000000000) :
  Calls prog 168 #[v] w fun e w'=>e = .returned (zal (za0 L))∧w = w':=by
 obtain ⟨a,cap,rfl⟩:=h.slice;have HV:=zjp h; clear h;go_enter func168,ntmps168
 go_wp2_with fail
 go_loop [3,4] (fun o i=>∃ k:Nat,k≤L.length∧i = .int .i64 k∧o = zal (za0 (L.take k))) (fun _ i=>L.length - (intOf i).toNat)
 case atStart=>exact ⟨0,by omega,rfl,rfl⟩
 case round =>
  obtain ⟨k,hk,rfl,rfl⟩:=hrel;have hlen:=zi8 L k;by_cases hlt:k < L.length
  ·have hq:decide ((k:Int) < L.length) = true:=by simp; omega
   obtain ⟨b,off,rfl,_,hb,hc⟩:=zcc HV.out (by omega);have c1:=hc k hlt;have htk:=zfi L k hlt;rw [show (default:List UInt8) = [] from rfl] at htk;have hxl:=zi8 L (k + 1);have hsn:=join_snoc (L.take k) (L.getD k []);rw [← htk] at hsn;obtain ⟨x,hx⟩:∃ x,L.getD k [] = x:=⟨_,rfl⟩;rw [hx] at c1 htk hsn
   have hx1:x.length≤1000000000:=by
    rw [hsn] at hxl;split at hxl
    ·omega
    ·simp at hxl; omega
   have HSn:=zjp hsn;clear hc htk hsn hx hxl;by_cases hk0:k = 0
   ·subst hk0
    have e0:za0 ([]:List (List UInt8)) = []:=rfl;rw [Nat.add_zero] at c1;go_wp2_with fail
    go_round
    case rel=>exact ⟨1,by omega,by go_num,by rw [HSn.out,if_pos (by simp)]⟩
    case measure=>simp [intOf]; omega
   ·have hq0:decide ((0:Int) < k) = true:=by simp; omega
    have hk1:0 < k:=by omega
    have hne:L.take k≠[]:=by intro e; have:=congrArg List.length e; rw [List.length_take,List.length_nil] at this; omega
    have HNe:=zjp hne;clear hk0 hne;go_wp2_with fail
    go_round
    case rel=>exact ⟨k + 1,by omega,by go_num,by rw [HSn.out,if_neg HNe.out]; simp⟩
    case measure=>simp [intOf]; omega
  ·obtain rfl:k = L.length:=by omega
   have hq:decide ((L.length:Int) < L.length) = false:=by simp
   have HF:=zjp (List.take_of_length_le xnl:L.take L.length = L);go_wp2_with fail
   go_ret;exact ⟨rfl,rfl⟩
end
section
open Go.RowKit
attribute [local go_sem] zag zaj zbb
theorem zia (s:ByteArray) (w:World) (hs:s.size≤1000000) :
  Calls prog 164 #[.string s] w fun e w'=>∃ v,e = .returned v∧OwnAt w v (zcq s.data.toList) w':=by
 have hl:s.data.toList.length = s.size:=by simp
 have HL:=zjp hl; clear hl;obtain ⟨l,hl⟩:∃ l,s.data.toList = l:=⟨_,rfl⟩;rw [hl] at HL;have HLs:=zjp hl;rw [hl];clear hl;go_enter func164,ntmps164
 go_wp2_with fail
 go_loopw [3,4,5] (fun v t i wr=>∃ (k:Nat) (C:List (List UInt8)) (p:List UInt8),k≤s.size + 1∧i = .int .i64 k∧t = zal p∧OwnAt w v C wr∧p.length≤k∧C.length≤k∧(k = s.size + 1→p = [])∧Hid (zcq l = C ++ zbu p (l.drop k))) (fun _ _ i _=>s.size + 1 - (intOf i).toNat)
 case atStart=>exact ⟨0,[],[],by omega,rfl,rfl,OwnAt.start w,by simp,by simp,by omega,zjp rfl⟩
 case round =>
  obtain ⟨k,C,p,hk,rfl,rfl,ho,hp,hC,hpe,HT⟩:=hrel;have HO:=zjp ho; have HPe:=zjp hpe;clear ho hpe;by_cases hlt:k < s.size
  ·have hq:decide ((k:Int)≤s.size) = true:=by simp; omega
   have hq2:decide ((k:Int) < s.size) = true:=by simp; omega
   have hdr:=drop_one s k hlt;rw [HLs.out] at hdr;by_cases hsp:s[k] = 32
   ·have e1:((s[k].toNat:Int) != 32) = false:=by rw [hsp]; rfl
    rw [hsp] at hdr;have HD:=zjp hdr;clear hsp hdr;by_cases hp0:p = []
    ·subst hp0
     go_wp2_with fail
     go_roundw
     case rel=>exact ⟨k + 1,C,[],by omega,by go_num,rfl,HO.out,by simp,by omega,fun _=>rfl,zjp (by rw [HT.out,HD.out,zbn])⟩
     case measure=>simp [intOf]; try omega
    ·have f1:(p == []) = false:=by simpa using hp0
     have f2:p.isEmpty = false:=by simpa using hp0
     have f3:(p != []) = true:=by simpa using hp0
     have HP0:=zjp hp0; clear hp0;have hone:∀ u∈(#[zal p]:Array Value).toList,u.oneCell' = true:=by intro u hu; simp at hu; subst hu; rfl
     go_wp2_with (at_builtin; refine za6 rfl _ _ 28 rfl w.heap.size 9 1 16 (.string ⟨#[]⟩) underlying28 zdv rfl (by decide) (by decide) _ _ _ rfl HO.out.1 #[zal p] 1 rfl rfl hone (by omega) HO.out.2.size ?_; intro v2 w8 ho8 hw8)
     go_roundw
     case rel=>exact ⟨k + 1,C ++ [p],[],by omega,by go_num,rfl,⟨by rw [List.length_append,zdz]; exact ho8,hw8 _ HO.out.2⟩,by simp,by rw [List.length_append,List.length_singleton]; omega,fun _=>rfl,zjp (by rw [HT.out,HD.out,zb0 _ _ HP0.out]; simp)⟩
     case measure=>simp [intOf]; try omega
   ·have e1:((s[k].toNat:Int) != 32) = true:=by
     simp only [bne_iff_ne,ne_eq]; intro e; apply hsp; rw [← UInt8.toNat_inj]; simp; omega
    have hext:=ext_one s k hlt;have HD:=zjp hdr; have HSp:=zjp hsp;clear hsp hdr;go_wp2_with fail
    go_roundw
    case rel=>exact ⟨k + 1,C,p ++ [s[k]],by omega,by go_num,rfl,HO.out,by simp; omega,by omega,fun h=>by omega,zjp (by rw [HT.out,HD.out,zb4 _ _ _ HSp.out])⟩
    case measure=>simp [intOf]; omega
  ·by_cases hke:k = s.size
   ·subst hke
    have hq:decide ((s.size:Int)≤s.size) = true:=by simp
    have hq2:decide ((s.size:Int) < s.size) = false:=by simp
    have hdr:l.drop s.size = []:=List.drop_eq_nil_of_le (by rw [HL.out]; exact Nat.le_refl _);have hdr2:l.drop (s.size + 1) = []:=List.drop_eq_nil_of_le (by rw [HL.out]; omega);have HD:=zjp hdr; have HD2:=zjp hdr2;clear hdr hdr2;by_cases hp0:p = []
    ·subst hp0
     go_wp2_with fail
     go_roundw
     case rel=>exact ⟨s.size + 1,C,[],by omega,by go_num,rfl,HO.out,by simp,by omega,fun _=>rfl,zjp (by rw [HT.out,HD.out,HD2.out])⟩
     case measure=>simp [intOf]; try omega
    ·have f1:(p == []) = false:=by simpa using hp0
     have f2:p.isEmpty = false:=by simpa using hp0
     have f3:(p != []) = true:=by simpa using hp0
     have HP0:=zjp hp0; clear hp0;have hone:∀ u∈(#[zal p]:Array Value).toList,u.oneCell' = true:=by intro u hu; simp at hu; subst hu; rfl
     go_wp2_with (at_builtin; refine za6 rfl _ _ 28 rfl w.heap.size 9 1 16 (.string ⟨#[]⟩) underlying28 zdv rfl (by decide) (by decide) _ _ _ rfl HO.out.1 #[zal p] 1 rfl rfl hone (by omega) HO.out.2.size ?_; intro v2 w8 ho8 hw8)
     go_roundw
     case rel=>exact ⟨s.size + 1,C ++ [p],[],by omega,by go_num,rfl,⟨by rw [List.length_append,zdz]; exact ho8,hw8 _ HO.out.2⟩,by simp,by rw [List.length_append,List.length_singleton]; omega,fun _=>rfl,zjp (by rw [HT.out,HD.out,HD2.out,ze3 _ HP0.out]; simp [zbu])⟩
     case measure=>simp [intOf]; try omega
   ·have hq:decide ((k:Int)≤s.size) = false:=by simp; omega
    obtain rfl:k = s.size + 1:=by omega
    obtain rfl:p = []:=HPe.out rfl;have hdr2:l.drop (s.size + 1) = []:=List.drop_eq_nil_of_le (by rw [HL.out]; omega);have hT:=HT.out;rw [hdr2] at hT;have hT':zcq l = C:=by rw [hT]; simp [zbu]
    rw [← hT'] at HO;clear hT hT' hdr2 hke;go_wp2_with fail
    go_ret;exact ⟨_,rfl,HO.out⟩
end
section
open Go.RowKit
def zf9:List UInt8→Bool
 | []=>false
 | [c]=>c == 32
 | _ :: d :: r=>zf9 (d :: r)
theorem zhj (c:UInt8) {R:List UInt8} (h:R≠[]):zf9 (c :: R) = zf9 R:=by
 cases R with
 | nil=>exact absurd rfl h
 | cons d r=>rfl
theorem ends_snoc (R:List UInt8) (c:UInt8):zf9 (R ++ [c]) = (c == 32):=by
 induction R with
 | nil=>rfl
 | cons d R ih=>rw [List.cons_append,zhj _ (by simp),ih]
theorem ends_app (R:List UInt8) {x:List UInt8} (h:x≠[]) (h2:∀ b∈x,b≠32):zf9 (R ++ x) = false:=by
 obtain ⟨y,c,rfl⟩:∃ y c,x = y ++ [c]:=⟨_,_,(List.dropLast_concat_getLast h).symm⟩;rw [← List.append_assoc,ends_snoc];simpa using h2 c (by simp)
theorem toksA_only (x:List UInt8) (h2:∀ b∈x,b≠32):∀ p,p ++ x≠[]→zbu p x = [p ++ x]:=by
 induction x with
 | nil=>intro p h; rw [List.append_nil] at h; rw [ze3 _ h,List.append_nil]
 | cons c x ih =>
  intro p _;rw [zb4 _ _ _ (h2 c List.mem_cons_self),ih (fun b hb=>h2 b (List.mem_cons_of_mem _ hb)) _ (by simp)]
  simp
theorem join_nil {T:List (List UInt8)} (h:∀ t∈T,t≠[]) (e:za0 T = []):T = []:=by
 cases T with
 | nil=>rfl
 | cons t T =>
  exfalso;by_cases hT:T = []
  ·subst hT; exact h t List.mem_cons_self (by simpa [za0] using e)
  ·rw [zbj _ _ hT] at e; simp at e
theorem spaces_end (R:List UInt8):zbu [] R = []→zf9 (32 :: R) = true:=by
 induction R with
 | nil=>intro _; rfl
 | cons c R ih =>
  intro h;rw [zhj _ (by simp)];by_cases hc:c = 32
  ·subst hc
   rw [zbn] at h;exact ih h
  ·exfalso
   rw [zb4 _ _ _ hc] at h;have:=(zdy R ([] ++ [c])).2
   have h3:∀ (R:List UInt8) p,p≠[]→zbu p R≠[]:=by
    intro R;induction R with
    | nil=>intro p hp; rw [ze3 _ hp]; simp
    | cons d R ih2 =>
     intro p hp;by_cases hd:d = 32
     ·subst hd; rw [zb0 _ _ hp]; simp
     ·rw [zb4 _ _ _ hd]; exact ih2 _ (by simp)
   exact h3 R _ (by simp) h
theorem toksA_more (R:List UInt8) {x:List UInt8} (h:x≠[]) (h2:∀ b∈x,b≠32):∀ p,zbu p (R ++ x)≠[]:=by
 induction R with
 | nil=>intro p; rw [List.nil_append,toksA_only x h2 p (by simp [h])]; simp
 | cons c R ih =>
  intro p;rw [List.cons_append];by_cases hc:c = 32
  ·subst hc
   by_cases hp:p = []
   ·subst hp; rw [zbn]; exact ih []
   ·rw [zb0 _ _ hp]; simp
  ·rw [zb4 _ _ _ hc]; exact ih _
theorem join_more {x:List UInt8} (h:x≠[]) (h2:∀ b∈x,b≠32) (R:List UInt8):∀ p,za0 (zbu p (R ++ x)) = za0 (zbu p R) ++ (if zf9 R = true∧za0 (zbu p R)≠[] then [32] else []) ++ x:=by
 induction R with
 | nil =>
  intro p;rw [List.nil_append,toksA_only x h2 p (by simp [h]),if_neg (by simp [zf9])];by_cases hp:p = []
  ·subst hp; simp [zbu,za0]
  ·rw [ze3 _ hp]; simp [za0]
 | cons c R ih =>
  intro p;rw [List.cons_append];by_cases hc:c = 32
  ·subst hc
   by_cases hp:p = []
   ·subst hp
    rw [zbn,zbn,ih []];by_cases hR:R = []
    ·subst hR; simp [zf9,zbu,za0]
    ·rw [zhj _ hR]
   ·rw [zb0 _ _ hp,zb0 _ _ hp,zbj _ _ (toksA_more R h h2 []),ih []]
    by_cases hT:zbu [] R = []
    ·rw [hT]
     have he:=spaces_end R hT;rw [if_neg (by simp [za0]),if_pos ⟨he,by simpa [za0] using hp⟩];simp [za0]
    ·have hR:R≠[]:=by intro e; subst e; exact hT rfl
     have hj:za0 (zbu [] R)≠[]:=fun e=>hT (join_nil (toksA_ne R []) e)
     rw [zbj _ _ hT,zhj _ hR];by_cases he:zf9 R = true
     ·rw [if_pos ⟨he,hj⟩,if_pos ⟨he,by simp⟩]; simp
     ·rw [if_neg (fun h=>he h.1),if_neg (fun h=>he h.1)]; simp
  ·rw [zb4 _ _ _ hc,zb4 _ _ _ hc,ih]
   by_cases hR:R = []
   ·subst hR
    rw [if_neg (by simp [zf9]),if_neg (by simp [zf9,hc])]
   ·rw [zhj _ hR]
theorem fold_more {x:List UInt8} (h:x≠[]) (h2:∀ b∈x,b≠32) (R:List UInt8):za0 (zcq (R ++ x)) = za0 (zcq R) ++ (if zf9 R = true∧za0 (zcq R)≠[] then [32] else []) ++ x:=join_more h h2 R []
theorem fold_space (R:List UInt8):zcq (R ++ [32]) = zcq R:=toksA_last R []
end
section
open Go.RowKit
attribute [local go_sem] zag zaj zbb
theorem ok_not_pair (s:ByteArray) (k:Nat) (hk:k < s.size) (h:zff s[k] = true):zdr (s.data.toList.drop k) = false:=by
 by_cases h2:k + 1 < s.size
 ·rw [zfh s k h2]; exact byte_pair h
 ·rw [zhk s k (by omega)]; rfl
theorem zif (s:ByteArray) (k:Nat) (h2:k + 1 < s.size) (h:zdr (s.data.toList.drop k) = true):s[k] = 195∧128≤(s[k + 1].toNat:Int)∧(s[k + 1].toNat:Int)≤191:=by
 rw [zfh s k h2] at h;have h':zi9 s[k] s[k + 1] = true:=h;rw [zhu,decide_eq_true_iff] at h';exact ⟨by rw [← UInt8.toNat_inj]; simp; omega,h'.2⟩
theorem rvalid_text (s:ByteArray) (w:World) (hs:s.size≤9223372036854775000) :
  Calls prog 198 #[.string s] w fun e w'=>e = .returned (.bool (zdd s.data.toList))∧w = w':=by
 have hl:s.data.toList.length = s.size:=by simp
 have HL:=zjp hl; clear hl;unfold zdd;by_cases h64:s.size≤64
 ·have d1:decide ((64:Int) < s.size) = false:=by simp; omega
  go_enter func198,ntmps198
  go_wp2_with fail
  clear d1;go_loop [3] (fun i=>∃ k:Nat,k≤s.size∧i = .int .i64 k∧Hid (zct s.data.toList = zct (s.data.toList.drop k))) (fun i=>s.size - (intOf i).toNat)
  case atStart=>exact ⟨0,by omega,rfl,zjp rfl⟩
  case round =>
   obtain ⟨k,hk,rfl,HV⟩:=hrel;by_cases hlt:k < s.size
   ·have hq:decide ((k:Int) < s.size) = true:=by simp; omega
    have hb:=s[k].toNat_lt;cases hok:zff s[k]
    ·cases hp:zdr (s.data.toList.drop k)
     ·have hv:=zjp (zgd s k hlt hp)
      have HOk:=zjp hok;rw [ok_iff,decide_eq_false_iff_not] at hok;have hc:(s[k].toNat:Int) < 32∨(32≤(s[k].toNat:Int)∧126 < (s[k].toNat:Int)):=by omega
      clear hok;have hfalse:zct s.data.toList = false:=by rw [HV.out,hv.out,HOk.out]; rfl
      have HF:=zjp hfalse;clear hfalse;by_cases h195:s[k] = 195
      ·have e1:((s[k].toNat:Int) != 195) = false:=by rw [h195]; rfl
       by_cases h2:k + 1 < s.size
       ·have e2:((k:Int) + 1 == (s.size:Int)) = false:=by simp only [beq_eq_false_iff_ne,ne_eq]; omega
        rw [zfh s k h2] at hp;have hp':zi9 s[k] s[k + 1] = false:=hp;rw [zhu,decide_eq_false_iff_not] at hp';have h195':(s[k].toNat:Int) = 195:=by rw [h195]; rfl
        have hc2:(s[k + 1].toNat:Int) < 128∨(128≤(s[k + 1].toNat:Int)∧191 < (s[k + 1].toNat:Int)):=by omega
        clear hp hp' h195 h195'
        rcases hc with g1 | ⟨g1,g2⟩ <;> rcases hc2 with g3 | ⟨g3,g4⟩
        all_goals
         go_wp2_with fail
         go_ret;exact ⟨zaw (by rw [HF.out]; try rfl),rfl⟩
       ·have e2:((k:Int) + 1 == (s.size:Int)) = true:=by simp only [beq_iff_eq]; omega
        clear hp h195
        rcases hc with g1 | ⟨g1,g2⟩
        all_goals
         go_wp2_with fail
         go_ret;exact ⟨zaw (by rw [HF.out]; try rfl),rfl⟩
      ·have e1:((s[k].toNat:Int) != 195) = true:=by
        simp only [bne_iff_ne,ne_eq]; intro e; apply h195; rw [← UInt8.toNat_inj]; simp; omega
       clear hp h195
       rcases hc with g1 | ⟨g1,g2⟩
       all_goals
        go_wp2_with fail
        go_ret;exact ⟨zaw (by rw [HF.out]; try rfl),rfl⟩
     ·have h2:=zhc s k hlt hp
      have hv:=zjp (valid_two s k hlt hp);obtain ⟨g0,g3,g4⟩:=zif s k h2 hp;have e1:((s[k].toNat:Int) != 195) = false:=by rw [g0]; rfl
      have e2:((k:Int) + 1 == (s.size:Int)) = false:=by simp only [beq_eq_false_iff_ne,ne_eq]; omega
      have g1:32≤(s[k].toNat:Int):=by rw [g0]; decide
      have g2:126 < (s[k].toNat:Int):=by rw [g0]; decide
      clear hok hp g0;go_wp2_with fail
      go_round
      case rel=>exact ⟨k + 2,by omega,by go_num,zjp (HV.out.trans hv.out)⟩
      case measure=>simp [intOf]; omega
    ·have hp:=ok_not_pair s k hlt hok
     have hv:=zjp (zgd s k hlt hp);have HOk:=zjp hok;rw [ok_iff,decide_eq_true_iff] at hok;obtain ⟨g1,g2⟩:=hok;clear hp;go_wp2_with fail
     go_round
     case rel=>exact ⟨k + 1,by omega,by go_num,zjp (HV.out.trans (by rw [hv.out,HOk.out]; rfl))⟩
     case measure=>simp [intOf]; omega
   ·have hq:decide ((k:Int) < s.size) = false:=by simp; omega
    have hd:s.data.toList.drop k = []:=List.drop_eq_nil_of_le (by rw [HL.out]; omega);have HD:=zjp hd; clear hd;go_wp2_with fail
    go_ret;refine ⟨zaw ?_,rfl⟩;rw [HV.out,HD.out];first | rfl | (rw [HL.out,decide_eq_true (by omega)]; rfl)
 ·have d1:decide ((64:Int) < s.size) = true:=by simp; omega
  go_enter func198,ntmps198
  go_wp2_with fail
  go_ret;exact ⟨zaw (by rw [HL.out,decide_eq_false (by omega)]; simp),rfl⟩
end
section
open Go.RowKit
attribute [local go_sem] zag zaj zbb
def tabR:List UInt8:=[97,97,97,97,97,97,63,63,101,101,101,101,105,105,105,105,100,110,111,111,111,111,111,63,111,117,117,117,117,121,63,63]
def replR (n:Nat):List UInt8:=if n % 32 = 6 then [97,101] else if n % 32 = 7 then [99] else if n % 32 = 23 then [] else if n % 32 = 30 then [116,104] else if n = 31 then [115,115] else if n = 63 then [121] else [tabR.getD (n % 32) 0]
theorem replB_is:∀ n:Fin 64,zh5 (UInt8.ofNat (128 + n)) = replR n:=by decide
theorem and_31:((List.range 64).all fun n=>bits .and .u8 ((128 + n:Nat):Int) 31 == ((n % 32:Nat):Int)) = true:=by kernel_rfl
theorem tab_ext (r:Nat) (h:r < 32):(⟨#[97,97,97,97,97,97,63,63,101,101,101,101,105,105,105,105,100,110,111,111,111,111,111,63,111,117,117,117,117,121,63,63]⟩:ByteArray).extract r (r + 1) = ⟨[tabR.getD r 0].toArray⟩:=by
 have h':r < (⟨tabR.toArray⟩:ByteArray).size:=h;have:=ext_one ⟨tabR.toArray⟩ r h';refine this.trans ?_;congr 3;rw [List.getD,List.getElem?_eq_getElem (show r < tabR.length from h)]; rfl
theorem rrepl_any (x:UInt8) (w:World) (h1:128≤(x.toNat:Int)) (h2:(x.toNat:Int)≤191) :
  Calls prog 199 #[.int .u8 x.toNat] w fun e w'=>e = .returned (zal (zh5 x))∧w = w':=by
 obtain ⟨n,hn⟩:∃ n:Nat,x.toNat = 128 + n:=⟨x.toNat - 128,by omega⟩;have hn64:n < 64:=by omega
 have hx:x = UInt8.ofNat (128 + n):=by rw [← hn]; simp
 have hR:zh5 x = replR n:=by rw [hx]; exact replB_is ⟨n,hn64⟩
 have hand:bits .and .u8 (x.toNat:Int) 31 = ((n % 32:Nat):Int):=by
  have:=List.all_eq_true.1 and_31 n (List.mem_range.2 hn64);rw [hn]; simpa using this
 obtain ⟨r,hr⟩:∃ r,n % 32 = r:=⟨_,rfl⟩;have hr32:r < 32:=by omega
 have hRr:replR n = if r = 6 then [97,101] else if r = 7 then [99] else if r = 23 then [] else if r = 30 then [116,104] else if n = 31 then [115,115] else if n = 63 then [121] else [tabR.getD r 0]:=by unfold replR; rw [hr]
 rw [hR,hRr];rw [hr] at hand;have hn1:(x.toNat:Int) = 128 + (n:Int):=by omega
 have hb:=x.toNat_lt;have HR:=zjp hr; have HN:=zjp hn1;clear hx hR hRr hr hn hn1;by_cases c6:r = 6
 ·subst c6
  go_enter func199,ntmps199
  go_wp2_with fail
  go_ret;exact ⟨rfl,rfl⟩
 ·have e6:((r:Int) == 6) = false:=by simp only [beq_eq_false_iff_ne,ne_eq]; omega
  rw [if_neg c6];by_cases c7:r = 7
  ·subst c7
   clear c6;go_enter func199,ntmps199
   go_wp2_with fail
   go_ret;exact ⟨rfl,rfl⟩
  ·have e7:((r:Int) == 7) = false:=by simp only [beq_eq_false_iff_ne,ne_eq]; omega
   rw [if_neg c7];by_cases c23:r = 23
   ·subst c23
    clear c6 c7;go_enter func199,ntmps199
    go_wp2_with fail
    go_ret;exact ⟨rfl,rfl⟩
   ·have e23:((r:Int) == 23) = false:=by simp only [beq_eq_false_iff_ne,ne_eq]; omega
    rw [if_neg c23];by_cases c30:r = 30
    ·subst c30
     clear c6 c7 c23;go_enter func199,ntmps199
     go_wp2_with fail
     go_ret;exact ⟨rfl,rfl⟩
    ·have e30:((r:Int) == 30) = false:=by simp only [beq_eq_false_iff_ne,ne_eq]; omega
     rw [if_neg c30];by_cases n31:n = 31
     ·have e31:((x.toNat:Int) == 159) = true:=by simp only [beq_iff_eq]; rw [HN.out]; omega
      rw [if_pos n31];clear c6 c7 c23 c30 n31;go_enter func199,ntmps199
      go_wp2_with fail
      go_ret;exact ⟨rfl,rfl⟩
     ·have e31:((x.toNat:Int) == 159) = false:=by simp only [beq_eq_false_iff_ne,ne_eq]; rw [HN.out]; omega
      rw [if_neg n31];by_cases n63:n = 63
      ·have e63:((x.toNat:Int) == 191) = true:=by simp only [beq_iff_eq]; rw [HN.out]; omega
       rw [if_pos n63];clear c6 c7 c23 c30 n31 n63;go_enter func199,ntmps199
       go_wp2_with fail
       go_ret;exact ⟨rfl,rfl⟩
      ·have e63:((x.toNat:Int) == 191) = false:=by simp only [beq_eq_false_iff_ne,ne_eq]; rw [HN.out]; omega
       rw [if_neg n63];have hext:=tab_ext r hr32;clear c6 c7 c23 c30 n31 n63;go_enter func199,ntmps199
       go_wp2_with fail
       go_ret;exact ⟨rfl,rfl⟩
end
section
open Go.RowKit
attribute [local go_sem] zag zaj zbb
structure FoldSt (s:ByteArray) (k:Nat) (b:Bool) (k':Nat) (b':Bool) (x y:List UInt8):Prop where
 raw:rawL (s.data.toList.drop k) = y ++ rawL (s.data.toList.drop (k' + 1))
 val:zct (s.data.toList.drop (k' + 1)) = true
 lo:k≤k'
 hi:k' < s.size
 len:x.length≤2
 way:(x = y∧b' = b∧∀ c∈x,c≠32)∨(x = []∧y = [32]∧b' = true)
theorem replB_sp:∀ n:Fin 64,((zh5 (UInt8.ofNat (128 + n))).all fun c=>c != 32) = true:=by decide
theorem FoldSt.pair {s:ByteArray} {k:Nat} {b:Bool} (h2:k + 1 < s.size) (hp:zdr (s.data.toList.drop k) = true) (hv:zct (s.data.toList.drop k) = true):FoldSt s k b (k + 1) b (zh5 s[k + 1]) (zh5 s[k + 1]):=by
 obtain ⟨_,g1,g2⟩:=zif s k h2 hp
 refine ⟨raw_two s k h2 hp,by rw [← valid_two s k (by omega) hp]; exact hv,by omega,h2,(replB_ok _).2,.inl ⟨rfl,rfl,fun c hc=>?_⟩⟩
 obtain ⟨n,hn⟩:∃ n:Nat,s[k + 1].toNat = 128 + n:=⟨s[k + 1].toNat - 128,by omega⟩;have hx:s[k + 1] = UInt8.ofNat (128 + n):=by rw [← hn]; simp
 have:=replB_sp ⟨n,by omega⟩;rw [hx] at hc;simpa using List.all_eq_true.1 this c hc
theorem FoldSt.one {s:ByteArray} {k:Nat} {b:Bool} (hk:k < s.size) (hp:zdr (s.data.toList.drop k) = false) (hv:zct (s.data.toList.drop k) = true) {x:List UInt8} (hx:zbo s[k] = x) (h32:∀ c∈x,c≠32):FoldSt s k b k b x x:=by
 have h1:=zgd s k hk hp;rw [h1,Bool.and_eq_true] at hv;exact ⟨by rw [raw_one s k hk hp,hx],hv.2,Nat.le_refl _,hk,by rw [← hx]; have:=(zgi s[k]).2; omega,.inl ⟨rfl,rfl,h32⟩⟩
theorem FoldSt.sep {s:ByteArray} {k:Nat} {b:Bool} (hk:k < s.size) (hp:zdr (s.data.toList.drop k) = false) (hv:zct (s.data.toList.drop k) = true) (hx:zbo s[k] = [32]):FoldSt s k b k true [] [32]:=by
 have h1:=zgd s k hk hp;rw [h1,Bool.and_eq_true] at hv;exact ⟨by rw [raw_one s k hk hp,hx],hv.2,Nat.le_refl _,hk,by simp,.inr ⟨rfl,rfl,rfl⟩⟩
theorem plain_no32 {c:UInt8} (h:isUp c = true∨zf0 c = true∨isDgt c = true):∀ d∈zbo c,d≠32:=by
 intro d hd;unfold zbo at hd;split at hd
 ·rename_i hu
  simp at hd; subst hd;rw [up_iff,decide_eq_true_iff] at hu;intro e;have:(c + 32).toNat = 32:=by rw [e]; rfl
  rw [UInt8.toNat_add] at this;simp at this; omega
 ·split at hd
  ·rename_i h1 h2
   simp at hd; subst hd;simp only [Bool.or_eq_true] at h2;intro e; subst e
   rcases h2 with h2 | h2
   ·rw [zdu] at h2; simp at h2
   ·rw [zew] at h2; simp at h2
  ·rename_i h1 h2
   exfalso
   rcases h with h | h | h
   ·exact h1 h
   ·exact h2 (by simp [h])
   ·exact h2 (by simp [h])
structure FoldIn (s:ByteArray) (w:World) (k:Nat) (R:List UInt8) (b:Bool) (wr:World):Prop where
 raw:R ++ rawL (s.data.toList.drop k) = rawL s.data.toList
 sep:b = zf9 R
 val:zct (s.data.toList.drop k) = true
 bel:Below w.heap.size w wr
theorem FoldIn.len {s:ByteArray} {w:World} {k:Nat} {R:List UInt8} {b:Bool} {wr:World} (h:FoldIn s w k R b wr) (hs:s.size≤64):(za0 (zcq R)).length≤64:=by
 have h1:=congrArg List.length h.raw;have h2:=(raw_ok s.data.toList).2;have h3:=(zdy R []).1;have hl:s.data.toList.length = s.size:=by simp
 unfold zcq;simp at h1 h3; omega
theorem rfold_yes (s:ByteArray) (w:World) (hv:zdd s.data.toList = true) :
  Calls prog 165 #[.string s] w fun e w'=>e = .returned (.tuple #[zal (zbv s.data.toList),.int .i64 0])∧Below w.heap.size w w':=by
 have hl:s.data.toList.length = s.size:=by simp
 have hv':=hv;unfold zdd at hv';rw [Bool.and_eq_true,decide_eq_true_iff,hl] at hv';obtain ⟨hval,hs⟩:=hv';have HL:=zjp hl; have HV:=zjp hv;have K0:=zjp (show FoldIn s w 0 [] false w from ⟨rfl,rfl,hval,Below.refl _ _⟩);clear hl hv hval;go_enter func165,ntmps165
 go_wp2_with fail
 refine (rvalid_text s _ (by omega)).mono ?_;rw [HV.out];rintro e w' ⟨rfl,rfl⟩;go_wp2_with fail
 go_loopw [4,5,6] (fun o t i wr=>∃ (k:Nat) (R:List UInt8) (b:Bool),k≤s.size∧o = zal (za0 (zcq R))∧t = .bool b∧i = .int .i64 k∧FoldIn s w k R b wr) (fun _ _ i _=>s.size - (intOf i).toNat)
 case atStart=>exact ⟨0,[],false,by omega,rfl,rfl,rfl,K0.out⟩
 case round =>
  obtain ⟨k,R,b,hk,rfl,rfl,rfl,hin⟩:=hrel;have hO:=hin.len hs;have HI:=zjp hin;clear hin K0;obtain ⟨O,hOe⟩:∃ O,za0 (zcq R) = O:=⟨_,rfl⟩;have HOe:=zjp hOe;rw [hOe] at hO ⊢;clear hOe;by_cases hlt:k < s.size
  ·have hq:decide ((k:Int) < s.size) = true:=by simp; omega
   have hb:=s[k].toNat_lt;go_upto_block 2 with (fail)
   go_cut [5,6,8] (fun s5 s6 s8 wx=>∃ (k':Nat) (b':Bool) (x y:List UInt8),s5 = .bool b'∧s6 = .int .i64 k'∧s8 = zal x∧FoldSt s k b k' b' x y∧Below w.heap.size w wx)
   case first =>
    cases hp:zdr (s.data.toList.drop k)
    ·have hval:=HI.out.val
     have hval2:=hval;rw [zgd s k hlt hp,Bool.and_eq_true] at hval2;have hok:=hval2.1;rw [ok_iff,decide_eq_true_iff] at hok;have e195:((s[k].toNat:Int) == 195) = false:=by simp only [beq_eq_false_iff_ne,ne_eq]; omega
     have HP:=zjp hp; have HVl:=zjp hval;clear hp hval hval2;cases hu:isUp s[k]
     ·have hu':=hu
      rw [up_iff,decide_eq_false_iff_not] at hu';have hcu:(65≤(s[k].toNat:Int)∧90 < (s[k].toNat:Int))∨(s[k].toNat:Int) < 65:=by omega
      cases hlo:zf0 s[k]
      ·have hlo':=hlo
       rw [zdu,decide_eq_false_iff_not] at hlo';have hcl:(97≤(s[k].toNat:Int)∧122 < (s[k].toNat:Int))∨(s[k].toNat:Int) < 97:=by omega
       cases hdi:isDgt s[k]
       ·have hdi':=hdi
        rw [zew,decide_eq_false_iff_not] at hdi';have hcd:(48≤(s[k].toNat:Int)∧57 < (s[k].toNat:Int))∨(s[k].toNat:Int) < 48:=by omega
        cases ha:((s[k].toNat:Int) == 39)
        ·have this:(s[k] == 39) = false:=by simp at ha ⊢; intro h; rw [h] at ha; simp at ha
         have hpl:zbo s[k] = [32]:=by simp [zbo,hu,hlo,hdi,this]
         have ha2:((s[k].toNat:Int) != 39) = true:=by simpa using ha
         have HS:=zjp (FoldSt.sep (b:=b) hlt HP.out HVl.out hpl);clear hu hu' hlo hlo' hdi hdi' this hpl hok
         rcases hcu with ⟨g1,g2⟩ | g1 <;> rcases hcl with ⟨g3,g4⟩ | g3 <;> rcases hcd with ⟨g5,g6⟩ | g5
         all_goals first
          | (exfalso; omega)
          | (go_wp2_with fail; go_meet; exact ⟨k,true,[],[32],rfl,rfl,rfl,HS.out,HI.out.bel⟩)
        ·have this:(s[k] == 39) = true:=by simp [← UInt8.toNat_inj] at ha ⊢; omega
         have hpl:zbo s[k] = []:=by simp [zbo,hu,hlo,hdi,this]
         have ha2:((s[k].toNat:Int) != 39) = false:=by simpa using ha
         have HS:=zjp (FoldSt.one (b:=b) hlt HP.out HVl.out hpl (by simp));clear hu hu' hlo hlo' hdi hdi' this hpl hok
         rcases hcu with ⟨g1,g2⟩ | g1 <;> rcases hcl with ⟨g3,g4⟩ | g3 <;> rcases hcd with ⟨g5,g6⟩ | g5
         all_goals first
          | (exfalso; simp at ha; omega)
          | (go_wp2_with fail; go_meet; exact ⟨k,b,[],[],rfl,rfl,rfl,HS.out,HI.out.bel⟩)
       ·have hdi':=hdi
        rw [zew,decide_eq_true_iff] at hdi';obtain ⟨g5,g6⟩:=hdi';have hpl:zbo s[k] = [s[k]]:=by simp [zbo,hu,hlo,hdi]
        have HS:=zjp (FoldSt.one (b:=b) hlt HP.out HVl.out hpl (by rw [← hpl]; exact plain_no32 (.inr (.inr hdi))));have hcv:=one_byte wr s[k];have g1:(s[k].toNat:Int) < 65:=by omega
        have g3:(s[k].toNat:Int) < 97:=by omega
        clear hu hu' hlo hlo' hdi hpl hok hcu hcl;go_wp2_with fail
        go_meet;exact ⟨k,b,[s[k]],[s[k]],rfl,rfl,rfl,HS.out,HI.out.bel.alloc HI.out.bel.size _⟩
      ·have hlo':=hlo
       rw [zdu,decide_eq_true_iff] at hlo';obtain ⟨g3,g4⟩:=hlo';have hpl:zbo s[k] = [s[k]]:=by simp [zbo,hu,hlo]
       have HS:=zjp (FoldSt.one (b:=b) hlt HP.out HVl.out hpl (by rw [← hpl]; exact plain_no32 (.inr (.inl hlo))));have hcv:=one_byte wr s[k];have g1:65≤(s[k].toNat:Int):=by omega
       have g2:90 < (s[k].toNat:Int):=by omega
       clear hu hu' hlo hpl hok hcu;go_wp2_with fail
       go_meet;exact ⟨k,b,[s[k]],[s[k]],rfl,rfl,rfl,HS.out,HI.out.bel.alloc HI.out.bel.size _⟩
     ·have hu':=hu
      rw [up_iff,decide_eq_true_iff] at hu';obtain ⟨g1,g2⟩:=hu';have hpl:zbo s[k] = [s[k] + 32]:=by simp [zbo,hu]
      have HS:=zjp (FoldSt.one (b:=b) hlt HP.out HVl.out hpl (by rw [← hpl]; exact plain_no32 (.inl hu)));have hcv:=one_byte wr (s[k] + 32);have e2:((s[k] + 32).toNat:Int) = (s[k].toNat:Int) + 32:=by rw [UInt8.toNat_add]; simp; omega
      rw [e2] at hcv;clear hu hpl hok e2;go_wp2_with fail
      go_meet;exact ⟨k,b,[s[k] + 32],[s[k] + 32],rfl,rfl,rfl,HS.out,HI.out.bel.alloc HI.out.bel.size _⟩
    ·have h2:=zhc s k hlt hp
     obtain ⟨g0,g1,g2⟩:=zif s k h2 hp;have HS:=zjp (FoldSt.pair (b:=b) h2 hp HI.out.val);have e195:((s[k].toNat:Int) == 195) = true:=by rw [g0]; rfl
     clear hp g0;go_wp2_with fail
     refine (rrepl_any s[k + 1] _ g1 g2).mono ?_;rintro e w' ⟨rfl,rfl⟩;go_wp2_with fail
     go_meet;exact ⟨k + 1,b,zh5 s[k + 1],zh5 s[k + 1],rfl,by go_num,rfl,HS.out,HI.out.bel⟩
   case rest =>
    obtain ⟨k',b',x,y,rfl,rfl,rfl,hst,hbl⟩:=hcut;have HS:=zjp hst; have HB:=zjp hbl;have hk1:=hst.lo;have hk2:=hst.hi;have hxl:=hst.len;clear hst hbl;by_cases hx:x = []
    ·subst hx
     have KN:∃ R',FoldIn s w (k' + 1) R' b' wc∧za0 (zcq R') = O:=by
      have hi:=HI.out;have hst:=HS.out
      rcases hst.way with ⟨h1,h2,_⟩ | ⟨_,h1,h2⟩
      ·subst h1; subst h2
       exact ⟨R,⟨by have:=hst.raw; simp only [List.nil_append] at this; rw [← this]; exact hi.raw,hi.sep,hst.val,HB.out⟩,HOe.out⟩
      ·subst h1; subst h2
       exact ⟨R ++ [32],⟨by rw [List.append_assoc,← hst.raw]; exact hi.raw,(ends_snoc R 32).symm,hst.val,HB.out⟩,by rw [fold_space,HOe.out]⟩
     obtain ⟨R',hR1,hR2⟩:=KN;have HR1:=zjp hR1; have HR2:=zjp hR2;clear hR1 hR2;go_wp2_with fail
     go_roundw
     case rel=>exact ⟨k' + 1,R',b',by omega,by rw [HR2.out],rfl,by go_num,HR1.out⟩
     case measure=>simp [intOf]; omega
    ·have f1:(x == []) = false:=by simpa using hx
     have f2:x.isEmpty = false:=by simpa using hx
     have hst:=HS.out;obtain ⟨h1,h2,h3⟩:=hst.way.resolve_right (fun h=>hx h.1)
     subst h1 h2;have hmore:=fold_more hx h3 R;have hends:=ends_app R hx h3;have KN:=zjp (show FoldIn s w (k' + 1) (R ++ x) false wc from ⟨by rw [List.append_assoc,← hst.raw]; exact HI.out.raw,hends.symm,hst.val,HB.out⟩);rw [← HI.out.sep,HOe.out] at hmore;have HMore:=zjp hmore;clear hst hmore hends h3 hx;cases b'
     ·go_wp2_with fail
      go_roundw
      case rel=>exact ⟨k' + 1,R ++ x,false,by omega,by rw [HMore.out]; simp,rfl,by go_num,KN.out⟩
      case measure=>simp [intOf]; omega
     ·by_cases hO0:O = []
      ·have f3:(O == []) = true:=by rw [hO0]; rfl
       have f4:(O != []) = false:=by rw [hO0]; rfl
       have HO0:=zjp hO0;clear hO0;go_wp2_with fail
       go_roundw
       case rel=>exact ⟨k' + 1,R ++ x,false,by omega,by rw [HMore.out,HO0.out]; simp,rfl,by go_num,KN.out⟩
       case measure=>simp [intOf]; omega
      ·have f3:(O == []) = false:=by simpa using hO0
       have f4:(O != []) = true:=by simpa using hO0
       have f5:O.isEmpty = false:=by simpa using hO0
       have HO0:=zjp hO0;clear hO0;go_wp2_with fail
       go_roundw
       case rel=>exact ⟨k' + 1,R ++ x,false,by omega,by rw [HMore.out,if_pos ⟨rfl,HO0.out⟩]; simp,rfl,by go_num,KN.out⟩
       case measure=>simp [intOf]; omega
  ·have hq:decide ((k:Int) < s.size) = false:=by simp; omega
   have hfin:zbv s.data.toList = O:=by
    have hi:=HI.out;have hd:s.data.toList.drop k = []:=List.drop_eq_nil_of_le (by rw [HL.out]; omega);have hr:=hi.raw;rw [hd,show rawL [] = [] from rfl,List.append_nil] at hr;unfold zbv;rw [← hr]; exact HOe.out
   have HF:=zjp hfin;clear hfin;go_wp2_with fail
   go_ret2;exact ⟨by show Ending.returned (.tuple #[zal O,.int .i64 0]) = _; rw [HF.out],HI.out.bel⟩
theorem rfold_no (s:ByteArray) (w:World) (hs:s.size≤9223372036854775000) (hv:zdd s.data.toList = false) :
  Calls prog 165 #[.string s] w fun e w'=>e = .returned (.tuple #[zal [],.int .i64 3])∧Below w.heap.size w w':=by
 have HV:=zjp hv; clear hv;go_enter func165,ntmps165
 go_wp2_with fail
 refine (rvalid_text s _ hs).mono ?_; rw [HV.out]; rintro e w' ⟨rfl,rfl⟩;go_wp2_with fail
 go_ret2;exact ⟨rfl,Below.refl _ _⟩
end
section
open Go.RowKit
attribute [local go_sem] zag zaj zbb
theorem rtoken_any (l:List UInt8) (w:World) :
  Calls prog 153 #[zal l] w fun e w'=>e = .returned (.bool (zb6 l))∧w = w':=by
 unfold zb6;by_cases h0:l = []
 ·subst h0
  go_enter func153,ntmps153
  go_wp2
  go_ret;exact ⟨rfl,rfl⟩
 ·have h1:l.isEmpty = false:=by simpa using h0
  have h2:(l == []) = false:=by simpa using h0
  have h2':(l != []) = true:=by simpa using h0
  rw [h1];by_cases h3:l.length≤64
  ·have h4:decide (l.length≤64) = true:=by simpa using h3
   have h5:decide ((l.length:Int)≤64) = true:=by simp; omega
   rw [h4];clear h0 h4;go_enter func153,ntmps153
   go_wp2_with fail
   refine (zhb ⟨l.toArray⟩ _ (by rw [zaj]; omega)).mono ?_;rw [show (⟨l.toArray⟩:ByteArray).data.toList = l by simp];rintro e w1 ⟨rfl,rfl⟩;go_wp2_with fail
   go_ret;exact ⟨rfl,rfl⟩
  ·have h4:decide (l.length≤64) = false:=by simpa using h3
   have h5:decide ((l.length:Int)≤64) = false:=by simp; omega
   rw [h4];clear h0 h4;go_enter func153,ntmps153
   go_wp2_with fail
   go_ret;exact ⟨rfl,rfl⟩
def ascAt (L:List (List UInt8)) (j:Nat):Bool:=decide (j = 0) || ltB (L.getD (j - 1) []) (L.getD j [])
def ascL (L:List (List UInt8)):Bool:=(List.range L.length).all (ascAt L)
theorem leq_less (x y:List UInt8):(Op.bytesLess x y || x == y) = !Op.bytesLess y x:=by
 rw [bytesLess_eq,bytesLess_eq,Bool.eq_iff_iff];simp only [Bool.or_eq_true,decide_eq_true_eq,beq_iff_eq,Bool.not_eq_true',decide_eq_false_iff_not];exact List.le_iff_lt_or_eq.symm
theorem rasc_any (S:Nat→Prop) (v:Value) (L:List (List UInt8)) (w:World) (h:Vec w S 1 zba v L) (hn:L.length≤1000000) :
  Calls prog 154 #[v] w fun e w'=>e = .returned (.bool (ascL L))∧Below w.heap.size w w':=by
 obtain ⟨a,cap,rfl⟩:=h.slice;have HV:=zjp h; clear h;go_enter func154,ntmps154
 go_wp2_with fail
 go_loopw [3] (fun i wr=>∃ m:Nat,i = .int .i64 (m + 1)∧m≤L.length∧Below w.heap.size w wr∧Hid (∀ j,j < m + 1→j < L.length→ascAt L j = true)) (fun i _=>L.length + 1 - (intOf i).toNat)
 case atStart=>exact ⟨0,rfl,by omega,Below.refl _ _,zjp fun j hj _=>by (obtain rfl:j = 0:=by omega); rfl⟩
 case round =>
  obtain ⟨m,rfl,hm,hbw,HA⟩:=hrel;have HW:=zjp hbw;by_cases hlt:m + 1 < L.length
  ·have hq:decide ((m:Int) + 1 < L.length) = true:=by simp; omega
   obtain ⟨b,off,rfl,_,hb,hc⟩:=zcc HV.out (by omega);have c1:=(hbw.cell (p:=⟨b,off + (m + 1),none⟩) hb).trans (hc (m + 1) hlt);have c2:=(hbw.cell (p:=⟨b,off + m,none⟩) hb).trans (hc m (by omega));have hat:ascAt L (m + 1) = Op.bytesLess (L.getD m []) (L.getD (m + 1) []):=by simp [ascAt,ltB]
   obtain ⟨x,hx⟩:∃ x,L.getD (m + 1) [] = x:=⟨_,rfl⟩;obtain ⟨y,hy⟩:∃ y,L.getD m [] = y:=⟨_,rfl⟩;rw [hx] at c1 hat;rw [hy] at c2 hat;have hi1:(m:Int) + 1 < (L.length:Int):=by omega
   have hi2:(m:Int) < (L.length:Int):=by omega
   have hi3:(0:Int)≤(m:Int) + 1:=by omega
   have hleq:=leq_less x y;clear hc hx hy hbw;cases hl:Op.bytesLess y x
   ·rw [hl] at hat hleq
    have HAt:=zjp hat; clear hat hl;have hleq':(Op.bytesLess x y || x == y) = true:=hleq;clear hleq;go_wp2_with fail
    go_quiet (fail)
    go_wp2_with fail
    go_ret;exact ⟨zaw (by rw [ascL,zb7 hlt HAt.out]),below_drewN HW.out _⟩
   ·rw [hl] at hat hleq
    have HAt:=zjp hat; clear hat hl;have hleq':(Op.bytesLess x y || x == y) = false:=hleq;have g1:Op.bytesLess x y = false:=(Bool.or_eq_false_iff.1 hleq').1;have g2:(x == y) = false:=(Bool.or_eq_false_iff.1 hleq').2;clear hleq hleq';go_wp2_with fail
    go_quiet (fail)
    go_wp2_with fail
    go_roundw
    case rel=>exact ⟨m + 1,by go_num,by omega,below_drewN HW.out _,zjp fun j hj hjl=>by
     by_cases e:j = m + 1
     ·subst e; exact HAt.out
     ·exact HA.out j (by omega) hjl⟩
    case measure=>simp [intOf]; omega
  ·have hq:decide ((m:Int) + 1 < L.length) = false:=by simp; omega
   go_wp2_with fail
   go_ret;exact ⟨zaw (by rw [ascL,zjn fun j hj=>HA.out j (by omega) hj]),HW.out⟩
theorem rhas_any (S:Nat→Prop) (v:Value) (L:List (List UInt8)) (x:List UInt8) (w:World) (h:Vec w S 1 zba v L) (hn:L.length≤1000000) :
  Calls prog 156 #[v,zal x] w fun e w'=>e = .returned (.bool (zhh L x))∧w = w':=by
 obtain ⟨a,cap,rfl⟩:=h.slice;have HV:=zjp h; clear h;go_enter func156,ntmps156
 go_wp2_with fail
 go_loop [5] (fun i=>∃ k:Nat,k≤L.length∧i = .int .i64 k∧Hid (∀ j,j < k→L.getD j []≠x)) (fun i=>L.length - (intOf i).toNat)
 case atStart=>exact ⟨0,by omega,rfl,zjp fun j hj=>by omega⟩
 case round =>
  obtain ⟨k,hk,rfl,HA⟩:=hrel;by_cases hlt:k < L.length
  ·have hq:decide ((k:Int) < L.length) = true:=by simp; omega
   obtain ⟨b,off,rfl,_,hb,hc⟩:=zcc HV.out (by omega);have c1:=hc k hlt;have hm:L.getD k []∈L:=by rw [List.getD,List.getElem?_eq_getElem hlt]; exact List.getElem_mem hlt
   obtain ⟨y,hy⟩:∃ y,L.getD k [] = y:=⟨_,rfl⟩;rw [hy] at c1 hm;have HY:=zjp hy; have HM:=zjp hm;clear hc hy hm;by_cases he:y = x
   ·subst he
    go_wp2_with fail
    go_ret;exact ⟨zaw (by unfold zhh; rw [List.any_eq_true.2 ⟨y,HM.out,by simp⟩]),rfl⟩
   ·have e1:(y == x) = false:=by simpa using he
    have HE:=zjp he; clear he;go_wp2_with fail
    go_round
    case rel=>exact ⟨k + 1,by omega,by go_num,zjp fun j hj=>by
     by_cases e:j = k
     ·subst e; rw [HY.out]; exact HE.out
     ·exact HA.out j (by omega)⟩
    case measure=>simp [intOf]; omega
  ·have hq:decide ((k:Int) < L.length) = false:=by simp; omega
   go_wp2_with fail
   go_ret;refine ⟨zaw ?_,rfl⟩;symm;unfold zhh;rw [List.any_eq_false];intro y hy;obtain ⟨j,hj,rfl⟩:=List.getElem_of_mem hy;have:=HA.out j (by omega);rw [List.getD,List.getElem?_eq_getElem hj] at this;simpa using this
end
section
open Go.RowKit
attribute [local go_sem] zag zaj zbb
theorem canon_drop {L:List P2} {s:List UInt8} (k:Nat) (hk:k < L.length):zbd (L.drop k) s = if (L.getD k default).1 = s then (L.getD k default).2 else zbd (L.drop (k + 1)) s:=by
 rw [List.drop_eq_getElem_cons hk,List.getD,List.getElem?_eq_getElem hk];simp only [Option.getD_some,zbd,beq_iff_eq]
theorem rreplace_any (S:Nat→Prop) (v:Value) (L:List P2) (x:List UInt8) (w:World) (h:Vec w S 2 encP v L) (hn:L.length≤1000000) :
  Calls prog 170 #[v,zal x] w fun e w'=>e = .returned (zal (zbd L x))∧w = w':=by
 obtain ⟨a,cap,rfl⟩:=h.slice;have HV:=zjp h; clear h;go_enter func170,ntmps170
 go_wp2_with fail
 go_loop [5] (fun i=>∃ k:Nat,k≤L.length∧i = .int .i64 k∧Hid (zbd L x = zbd (L.drop k) x)) (fun i=>L.length - (intOf i).toNat)
 case atStart=>exact ⟨0,by omega,rfl,zjp rfl⟩
 case round =>
  obtain ⟨k,hk,rfl,HA⟩:=hrel;by_cases hlt:k < L.length
  ·have hq:decide ((k:Int) < L.length) = true:=by simp; omega
   obtain ⟨b,off,rfl,_,hb,hc⟩:=zck HV.out (by omega);have c0:=hc k hlt 0 _ rfl;have c1:=hc k hlt 1 _ rfl;rw [Nat.add_zero] at c0;have hd:=canon_drop (s:=x) k hlt;obtain ⟨⟨y,z⟩,hy⟩:∃ y,L.getD k default = y:=⟨_,rfl⟩;rw [hy] at c0 c1 hd;dsimp only at c0 c1 hd;have HD:=zjp hd;clear hc hy hd;by_cases he:y = x
   ·subst he
    go_wp2_with fail
    go_ret;exact ⟨by show Ending.returned (zal z) = .returned (zal (zbd L y)); rw [HA.out,HD.out]; simp,rfl⟩
   ·have e1:(y == x) = false:=by simpa using he
    have HE:=zjp he; clear he;go_wp2_with fail
    go_round
    case rel=>exact ⟨k + 1,by omega,by go_num,zjp (by rw [HA.out,HD.out,if_neg HE.out])⟩
    case measure=>simp [intOf]; omega
  ·have hq:decide ((k:Int) < L.length) = false:=by simp; omega
   have hfin:zbd L x = x:=by rw [HA.out,List.drop_eq_nil_of_le (by omega)]; rfl
   have HF:=zjp hfin; clear hfin;go_wp2_with fail
   go_ret;exact ⟨by show Ending.returned (zal x) = .returned (zal (zbd L x)); rw [HF.out],rfl⟩
theorem rcanonical_any (S:Nat→Prop) (vt vn vs:Value) (L:List P2) (x:List UInt8) (w:World) (h:Vec w S 2 encP vn L) (hn:L.length≤1000000) :
  Calls prog 167 #[.agg #[vt,vn,vs],zal x] w fun e w'=>e = .returned (zal (zbd L x))∧Below w.heap.size w w':=by
 have HV:=zjp h; clear h;go_enter func167,ntmps167
 go_wp2_with fail
 refine (rreplace_any S vn L x _ (HV.out.below ((Below.refl _ _).alloc xnl _)) hn).mono ?_;rintro e w' ⟨rfl,rfl⟩;go_wp2_with fail
 go_ret;exact ⟨rfl,(Below.refl _ _).alloc xnl _⟩
theorem rdropped_any (S:Nat→Prop) (vt vn vs:Value) (L:List (List UInt8)) (x:List UInt8) (w:World) (h:Vec w S 1 zba vt L) (hn:L.length≤1000000) :
  Calls prog 166 #[.agg #[vt,vn,vs],zal x] w fun e w'=>e = .returned (.bool (zhh L x))∧Below w.heap.size w w':=by
 have HV:=zjp h; clear h;go_enter func166,ntmps166
 go_wp2_with fail
 refine (rhas_any S vt L x _ (HV.out.below ((Below.refl _ _).alloc xnl _)) hn).mono ?_;rintro e w' ⟨rfl,rfl⟩;go_wp2_with fail
 go_ret;exact ⟨rfl,(Below.refl _ _).alloc xnl _⟩
theorem find_has_from (s:List UInt8):∀ (L:List P2) (i:Nat),decide (Lib.idxByFrom (fun _ (y:P2)=>y.1 == s) default L i < 0) = !zhh (L.map (·.1)) s:=by
 intro L;induction L with
 | nil=>intro i; simp [Lib.idxByFrom,zhh]
 | cons p L ih =>
  intro i;have e:zhh ((p :: L).map (·.1)) s = (p.1 == s || zhh (L.map (·.1)) s):=by simp [zhh]
  rw [e];cases h:p.1 == s
  ·simp only [Lib.idxByFrom,h,Bool.false_eq_true,if_false,Bool.false_or]
   exact ih (i + 1)
  ·simp only [Lib.idxByFrom,h,if_true,Bool.true_or,Bool.not_true]
   simp
theorem find_has (L:List P2) (s:List UInt8):decide (zje L s < 0) = !zhh (L.map (·.1)) s:=find_has_from s L 0
theorem map_getD (L:List P2) (j:Nat) (h:j < L.length):(L.map (·.1)).getD j [] = (L.getD j default).1:=by
 rw [List.getD,List.getD,List.getElem?_map,List.getElem?_eq_getElem h]; rfl
theorem zi4 (L:List P2) (j:Nat) (h:j < L.length):zdt L j = (zb6 (L.getD j default).1 && zb6 (L.getD j default).2 && ascAt (L.map (·.1)) j && !zhh (L.map (·.1)) (L.getD j default).2):=by
 unfold zdt ascAt;rw [find_has,map_getD L j h];by_cases h0:j = 0
 ·subst h0; simp
 ·rw [map_getD L (j - 1) (by omega)]
theorem pairs_no_tok {L:List P2} {j:Nat} (h:j < L.length) (ht:(zb6 (L.getD j default).1 && zb6 (L.getD j default).2) = false):zcd L = false:=by
 unfold zcd;exact zb7 h (by rw [zi4 L j h,ht]; simp)
theorem pairs_no_has {L:List P2} {j:Nat} (h:j < L.length) (ht:zhh (L.map (·.1)) (L.getD j default).2 = true):zcd L = false:=by
 unfold zcd;exact zb7 h (by rw [zi4 L j h,ht]; simp)
theorem pairs_asc {L:List P2} (h1:∀ j,j < L.length→(zb6 (L.getD j default).1 && zb6 (L.getD j default).2) = true) (h2:∀ j,j < L.length→zhh (L.map (·.1)) (L.getD j default).2 = false):zcd L = ascL (L.map (·.1)):=by
 unfold zcd ascL;rw [List.length_map]
 refine Bool.eq_iff_iff.2 ⟨fun h=>?_,fun h=>?_⟩
 ·refine List.all_eq_true.2 fun j hj=>?_
  have:=List.all_eq_true.1 h j hj;rw [zi4 L j (List.mem_range.1 hj)] at this;simp only [Bool.and_eq_true] at this;exact this.1.2
 ·refine List.all_eq_true.2 fun j hj=>?_
  have:=List.all_eq_true.1 h j hj;have hj':=List.mem_range.1 hj;rw [zi4 L j hj',h1 j hj',h2 j hj',this]; rfl
theorem flat_fst_snoc (L:List P2) (k:Nat) (h:k < L.length):(L.take (k + 1)).map (·.1) = (L.take k).map (·.1) ++ [(L.getD k default).1]:=by
 rw [zfi L k h,List.map_append]; rfl
theorem rpairs_any (S:Nat→Prop) (v:Value) (L:List P2) (w:World) (h:Vec w S 2 encP v L) (hn:L.length≤1000000) :
  Calls prog 155 #[v] w fun e w'=>e = .returned (.bool (zcd L))∧Below w.heap.size w w':=by
 obtain ⟨a,cap,rfl⟩:=h.slice;have HV:=zjp h; clear h;go_enter func155,ntmps155
 go_wp2_with fail
 go_loopw [3,4] (fun f i wr=>∃ k:Nat,k≤L.length∧i = .int .i64 k∧OwnAt w f ((L.take k).map (·.1)) wr∧Hid (∀ j,j < k→(zb6 (L.getD j default).1 && zb6 (L.getD j default).2) = true)) (fun _ i _=>L.length - (intOf i).toNat)
 case atStart=>exact ⟨0,by omega,rfl,OwnAt.start w,zjp fun j hj=>by omega⟩
 case round =>
  obtain ⟨k,hk,rfl,ho,HA⟩:=hrel;have HO:=zjp ho; clear ho;by_cases hlt:k < L.length
  ·have hq:decide ((k:Int) < L.length) = true:=by simp; omega
   obtain ⟨b,off,rfl,_,hb,hc⟩:=zck HV.out (by omega);have k0:=hc k hlt 0 _ rfl;rw [Nat.add_zero] at k0;have c0:=(HO.out.2.cell (p:=⟨b,off + k * 2,none⟩) hb).trans k0;clear k0;have c1:=(HO.out.2.cell (p:=⟨b,off + k * 2 + 1,none⟩) hb).trans (hc k hlt 1 _ rfl);have hfs:=flat_fst_snoc L k hlt;have hno:=pairs_no_tok (L:=L) (j:=k) hlt;obtain ⟨⟨y,z⟩,hy⟩:∃ y,L.getD k default = y:=⟨_,rfl⟩;rw [hy] at c0 c1 hfs hno;dsimp only at c0 c1 hfs hno;have HFs:=zjp hfs; have HNo:=zjp hno; have HY:=zjp hy;clear hc hy hfs hno;go_wp2_with fail
   refine (rtoken_any y _).mono ?_;cases ht:zb6 y
   ·rintro e w' ⟨rfl,rfl⟩
    have HT:=zjp ht; clear ht;go_wp2_with fail
    go_ret;exact ⟨zaw (by rw [HNo.out (by rw [HT.out]; rfl)]),HO.out.2⟩
   ·rintro e w' ⟨rfl,rfl⟩
    have HT:=zjp ht; clear ht;go_wp2_with fail
    refine (rtoken_any z _).mono ?_;cases ht2:zb6 z
    ·rintro e w' ⟨rfl,rfl⟩
     have HT2:=zjp ht2; clear ht2;go_wp2_with fail
     go_ret;exact ⟨zaw (by rw [HNo.out (by rw [HT.out,HT2.out]; rfl)]),HO.out.2⟩
    ·rintro e w' ⟨rfl,rfl⟩
     have HT2:=zjp ht2; clear ht2;have hlen:((L.take k).map (·.1)).length < 1099511627776:=by have:=List.length_take_le k L; rw [List.length_map]; omega
     have hone:∀ u∈(#[zal y]:Array Value).toList,u.oneCell' = true:=by intro u hu; simp at hu; subst hu; rfl
     go_wp2_with (at_builtin; refine za6 rfl _ _ 28 rfl w.heap.size 9 1 16 (.string ⟨#[]⟩) underlying28 zdv rfl (by decide) (by decide) _ _ _ rfl HO.out.1 #[zal y] 1 rfl rfl hone hlen HO.out.2.size ?_; intro v2 w8 ho8 hw8)
     go_roundw
     case rel=>exact ⟨k + 1,by omega,by go_num,⟨by rw [HFs.out,List.length_append,zdz]; exact ho8,hw8 _ HO.out.2⟩,zjp fun j hj=>by
      by_cases e:j = k
      ·subst e; rw [HY.out,HT.out,HT2.out]; rfl
      ·exact HA.out j (by omega)⟩
     case measure=>simp [intOf]; omega
  ·have hq:decide ((k:Int) < L.length) = false:=by simp; omega
   obtain rfl:k = L.length:=by omega
   rw [List.take_of_length_le xnl] at HO;have HF:=zjp (Vec.owns (S:=zav) (k:=1) (enc:=zba) (fun _=>rfl) HO.out.1 (fun _ _ _=>trivial))
   have hml:(L.map (·.1)).length≤1000000:=by rw [List.length_map]; exact hn
   obtain ⟨wo,rfl⟩:∃ wo:World,wo = wr:=⟨_,rfl⟩;go_wp2_with fail
   go_loopw [5] (fun i wr=>∃ k:Nat,k≤L.length∧i = .int .i64 k∧wr = wo∧Hid (∀ j,j < k→zhh (L.map (·.1)) (L.getD j default).2 = false)) (fun i _=>L.length - (intOf i).toNat)
   case atStart=>exact ⟨0,by omega,rfl,rfl,zjp fun j hj=>by omega⟩
   case round =>
    obtain ⟨k,hk2,rfl,rfl,HB⟩:=hrel;by_cases hlt2:k < L.length
    ·have hq2:decide ((k:Int) < L.length) = true:=by simp; omega
     obtain ⟨b,off,rfl,_,hb,hc⟩:=zck HV.out (by omega);have c1:=(HO.out.2.cell (p:=⟨b,off + k * 2 + 1,none⟩) hb).trans (hc k hlt2 1 _ rfl);have hno:=pairs_no_has (L:=L) (j:=k) hlt2;obtain ⟨⟨y,z⟩,hy⟩:∃ y,L.getD k default = y:=⟨_,rfl⟩;rw [hy] at c1 hno;dsimp only at c1 hno;have HNo:=zjp hno; have HY:=zjp hy;clear hc hy hno;go_wp2_with fail
     refine (rhas_any zav _ (L.map (·.1)) z _ HF.out hml).mono ?_;cases ht:zhh (L.map (·.1)) z
     ·rintro e w' ⟨rfl,rfl⟩
      have HT:=zjp ht; clear ht;go_wp2_with fail
      go_roundw
      case rel=>exact ⟨k + 1,by omega,by go_num,by trivial,zjp fun j hj=>by
       by_cases e:j = k
       ·subst e; rw [HY.out]; exact HT.out
       ·exact HB.out j (by omega)⟩
      case measure=>simp [intOf]; omega
     ·rintro e w' ⟨rfl,rfl⟩
      have HT:=zjp ht; clear ht;go_wp2_with fail
      go_ret;exact ⟨zaw (by rw [HNo.out HT.out]),HO.out.2⟩
    ·have hq2:decide ((k:Int) < L.length) = false:=by simp; omega
     have hfin:=pairs_asc (L:=L) HA.out (fun j hj=>HB.out j (by omega))
     have HFin:=zjp hfin; clear hfin;go_wp2_with fail
     refine (rasc_any zav _ (L.map (·.1)) _ HF.out hml).mono ?_;rintro e w2 ⟨rfl,hb2⟩;have HB2:=zjp (HO.out.2.trans (hb2.mono HO.out.2.size));clear hb2;go_wp2_with fail
     go_ret;exact ⟨zaw (by rw [HFin.out]),HB2.out⟩
end
end Go.Proofs.YtgkaafncfjlooaaGreatDoor
