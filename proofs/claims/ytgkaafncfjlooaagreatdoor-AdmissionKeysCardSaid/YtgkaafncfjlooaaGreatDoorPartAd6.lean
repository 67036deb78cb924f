/- Parts of one proof: AtkAnd, AtkRow, AtkRank, AtkSizes, AtkAlways, AppendM, AtkDel, RefGramPlain, RefGramA, AtkCheck, AtkDelB, AtkIdx, AtkDelC, AtkAlw, AtkGrow, RefBitsA, RefBitsC, RefBitsD, SortL, AtkSort. -/
import Derived.Test.YtgkaafncfjlooaaGreatDoorPartAd5
import Derived.Lib.SliceRun
import Derived.Shelf.SlSortCmp.WholeK
import Derived.Shelf.SlSortCmp.NoneTotal
import Derived.Ground.SlsfProg
set_option maxHeartbeats 16000000
set_option maxRecDepth 100000
open Go.Proofs.Tryz
set_option linter.unusedSimpArgs false
set_option linter.unusedVariables false
namespace Go.Proofs.YtgkaafncfjlooaaGreatDoor
section
open Go.RowKit
def andW (x y:Int):Int:=bits .and .u64 x y
def zh7 (A B:List Int):List Int:=List.zipWith andW A B
def andB (a b:BitsL):Option BitsL:=if zap a = true∧zap b = true∧a.len = b.len then some ⟨a.len,zh7 a.words b.words⟩ else none
def zfv (a b:BitsL) (w:World) (e:Ending) (w':World):Prop :=
 ∃ v,e = .returned (.tuple #[v,.int .i64 (if (andB a b).isSome = true then 0 else 8)])∧BitsAt w' (fun x=>w.heap.size≤x) v ((andB a b).getD zbg)∧Below w.heap.size w w'
theorem andL_len {A B:List Int} (h:A.length = B.length):(zh7 A B).length = A.length:=by unfold zh7; rw [List.length_zipWith,h]; simp
theorem andL_get {A B:List Int} (k:Nat) (hA:k < A.length) (hB:k < B.length) (h:k < (zh7 A B).length):(zh7 A B)[k] = andW A[k] B[k]:=by simp [zh7]
def zh6 (L:List Int) (k:Nat):List Int:=L.take k ++ List.replicate (L.length - k) 0
theorem partW_len (L:List Int) (k:Nat):(zh6 L k).length = L.length:=by unfold zh6; simp; omega
theorem partW_set (L:List Int) (k:Nat) (h:k < L.length):(zh6 L k).set k L[k] = zh6 L (k + 1):=by
 unfold zh6;rw [List.set_append_right _ _ (by simp; omega)];have e:L.length - k = (L.length - (k + 1)) + 1:=by omega
 have e2:k - (L.take k).length = 0:=by simp; omega
 rw [e,e2,List.replicate_succ,List.set_cons_zero,List.take_succ_eq_append_getElem h,List.append_assoc];rfl
theorem partW_zero (L:List Int):zh6 L 0 = List.replicate L.length 0:=by simp [zh6]
theorem partW_all (L:List Int):zh6 L L.length = L:=by simp [zh6]
theorem and1_any (x y:Int) (w:World):Calls prog 150 #[.int .u64 x,.int .u64 y] w fun e w'=>e = .returned (.int .u64 (andW x y))∧w = w':=by
 unfold andW;go_enter func150,ntmps150
 go_wp2_with fail
 go_ret;exact ⟨rfl,rfl⟩
structure BothAt (w:World) (len:Int) (sa sb:Value) (A B:List Int) (gw c8 n:Nat) (W:List Int) (wr:World):Prop where
 ha:wr.heap[w.heap.size]? = some (.cells #[.int .i64 len,sa] 56 (0,0))
 hb:wr.heap[w.heap.size + 1]? = some (.cells #[.int .i64 len,sb] 56 (0,0))
 hr:wr.heap[w.heap.size + 2]? = some (.cells #[.int .i64 0,.slice none 0 0] 56 (0,0))
 hc:wr.heap[c8]? = some (.cells #[.int .i64 len,.slice (some ⟨gw,0,none⟩) n n] 56 (0,0))
 hw:wr.heap[gw]? = some (.cells (W.flatMap zc2).toArray 39 (0,0))
 wl:W.length = n
 ne:w.heap.size + 2 < gw∧w.heap.size + 2 < c8∧gw≠c8
 va:Vec wr (fun x=>x≠gw) 1 zc2 sa A
 vb:Vec wr (fun x=>x≠gw) 1 zc2 sb B
 b:Below w.heap.size w wr
theorem BothAt.set {w:World} {len:Int} {sa sb:Value} {A B:List Int} {gw c8 n:Nat} {W:List Int} {wr:World} (h:BothAt w len sa sb A B gw c8 n W wr) (q:Nat) (x:Int):BothAt w len sa sb A B gw c8 n (W.set q x) (wr.setCell ⟨gw,q,none⟩ (.int .u64 x)):=by
 obtain ⟨n1,n2,n3⟩:=h.ne
 refine ⟨zan h.ha (by show w.heap.size≠gw; omega),zan h.hb (by show w.heap.size + 1≠gw; omega),zan h.hr (by show w.heap.size + 2≠gw; omega),zan h.hc (Ne.symm n3),?_,by rw [List.length_set]; exact h.wl,h.ne,h.va.far fun b hb=>hb,h.vb.far fun b hb=>hb,h.b.setCell (p:=⟨gw,q,none⟩) (by show w.heap.size≤gw; omega) _⟩
 rw [← word_set]; exact zad h.hw
theorem BothAt.below {w:World} {len:Int} {sa sb:Value} {A B:List Int} {gw c8 n:Nat} {W:List Int} {wr wx:World} (h:BothAt w len sa sb A B gw c8 n W wr) (hb:Below wr.heap.size wr wx):BothAt w len sa sb A B gw c8 n W wx :=
 ⟨zab hb (zaa h.ha) h.ha,zab hb (zaa h.hb) h.hb,zab hb (zaa h.hr) h.hr,zab hb (zaa h.hc) h.hc,zab hb (zaa h.hw) h.hw,h.wl,h.ne,h.va.below hb,h.vb.below hb,h.b.trans (hb.mono h.b.size)⟩
theorem both_laid0 {w w2 V:World} {la:Int} {sa sb:Value} {A B:List Int} {gw c8 n:Nat} {Z:List Int} (b3:Below w2.heap.size w2 V) (hb:Below w.heap.size w w2)
  (ha:w2.heap[w.heap.size]? = some (.cells #[.int .i64 la,sa] 56 (0,0))) (hB:w2.heap[w.heap.size + 1]? = some (.cells #[.int .i64 la,sb] 56 (0,0))) (hr:w2.heap[w.heap.size + 2]? = some (.cells #[.int .i64 0,.slice none 0 0] 56 (0,0)))
  (va:Vec w2 zav 1 zc2 sa A) (vb:Vec w2 zav 1 zc2 sb B) (hg:V.heap[gw]? = some (.cells (Z.flatMap zc2).toArray 39 (0,0))) (hc:V.heap[c8]? = some (.cells #[.int .i64 0,.slice none 0 0] 56 (0,0))) (hl:Z.length = n)
  (z1:w2.heap.size≤gw) (z2:w2.heap.size≤c8) (z3:gw≠c8) (z4:w.heap.size + 2 < w2.heap.size) :
  BothAt w la sa sb A B gw c8 n Z ((V.setCell ⟨c8,0,none⟩ (.int .i64 la)).setCell ⟨c8,1,none⟩ (.slice (some ⟨gw,0,none⟩) n n)):=by
 have far:∀ {k:Nat} {o:Obj},V.heap[k]? = some o→k≠c8→((V.setCell ⟨c8,0,none⟩ (.int .i64 la)).setCell ⟨c8,1,none⟩ (.slice (some ⟨gw,0,none⟩) n n)).heap[k]? = some o:=fun h hk=>zan (zan h hk) hk
 have vv:∀ {s:Value} {L:List Int},Vec w2 zav 1 zc2 s L→Vec ((V.setCell ⟨c8,0,none⟩ (.int .i64 la)).setCell ⟨c8,1,none⟩ (.slice (some ⟨gw,0,none⟩) n n)) (fun x=>x≠gw) 1 zc2 s L:=fun {s L} h=>by
  have h1:Vec V (fun x=>x < w2.heap.size) 1 zc2 s L:=(h.move (S':=fun x=>x < w2.heap.size) xnl fun b hb _=>⟨rfl,hb⟩).below b3
  have h2:=(h1.far (a:=⟨c8,0,none⟩) (u:=.int .i64 la) fun b (hb:b < w2.heap.size)=>by show b≠c8; omega).far (a:=⟨c8,1,none⟩) (u:=.slice (some ⟨gw,0,none⟩) n n) fun b (hb:b < w2.heap.size)=>by show b≠c8; omega
  exact h2.move xnl fun b _ (hb:b < w2.heap.size)=>⟨rfl,by show b≠gw; omega⟩
 have bl:∀ {k:Nat} {o:Obj},w2.heap[k]? = some o→V.heap[k]? = some o:=fun h=>zab b3 (zaa h) h
 have hl2:=zaa ha; have hl3:=zaa hB; have hl4:=zaa hr;refine ⟨far (bl ha) (by omega),far (bl hB) (by omega),far (bl hr) (by omega),?_,far hg z3,hl,⟨by omega,by omega,z3⟩,vv va,vv vb,((hb.trans (b3.mono hb.size)).setCell (p:=⟨c8,0,none⟩) (by show w.heap.size≤c8; omega) _).setCell (p:=⟨c8,1,none⟩) (by show w.heap.size≤c8; omega) _⟩;exact zad (i:=1) (v:=.slice (some ⟨gw,0,none⟩) n n) (zad (i:=0) (v:=.int .i64 la) hc)
theorem BothAt.drew {w:World} {len:Int} {sa sb:Value} {A B:List Int} {gw c8 n:Nat} {W:List Int} {wr:World} (h:BothAt w len sa sb A B gw c8 n W wr):BothAt w len sa sb A B gw c8 n W wr.drew:=h.below (Below.refl _ _).drew
theorem zgs {a b:BitsL} (h:¬ (zap a = true∧zap b = true∧a.len = b.len)):andB a b = none:=by unfold andB; rw [if_neg h]
theorem andB_some {a b:BitsL} (h:zap a = true∧zap b = true∧a.len = b.len):andB a b = some ⟨a.len,zh7 a.words b.words⟩:=by unfold andB; rw [if_pos h]
theorem both_any (S T:Nat→Prop) (u v:Value) (a b:BitsL) (w:World) (hu:BitsAt w S u a) (hv:BitsAt w T v b) (a1:-9223372036854775808≤a.len) (a2:a.len≤9223372036854775807) (b1:-9223372036854775808≤b.len) (b2:b.len≤9223372036854775807) :
  Calls prog 149 #[u,v,.func (.func 150) #[] #[]] w (zfv a b w):=by
 obtain ⟨sa,rfl,hva⟩:=hu;obtain ⟨sb,rfl,hvb⟩:=hv;obtain ⟨aa,ca,rfl⟩:=hva.slice;obtain ⟨ab,cb,rfl⟩:=hvb.slice;have HVA:=zjp hva.any; have HVB:=zjp hvb.any;obtain ⟨la,A⟩:=a; obtain ⟨lb,B⟩:=b;dsimp only at HVA HVB a1 a2 b1 b2;have HP:=zjp (show ∀ (e:Ending) (w':World),zfv ⟨la,A⟩ ⟨lb,B⟩ w e w'→zfv ⟨la,A⟩ ⟨lb,B⟩ w e w' from fun _ _ h=>h)
 obtain ⟨PP,hPP⟩:∃ PP,zfv ⟨la,A⟩ ⟨lb,B⟩ w = PP:=⟨_,rfl⟩;rw [hPP];have HPP:=zjp hPP;clear hva hvb hPP HP;obtain ⟨na,hna⟩:∃ n,A.length = n:=⟨_,rfl⟩;obtain ⟨nb,hnb⟩:∃ n,B.length = n:=⟨_,rfl⟩;have HNa:=zjp hna; have HNb:=zjp hnb;dsimp only;rw [hna] at HVA ⊢; rw [hnb] at HVB ⊢;clear hna hnb;go_enter func149,ntmps149
 go_wp2_with fail
 refine zai (fun W hW=>?_)
 have hb0:Below w.heap.size w W:=by rw [hW]; exact (((Below.refl _ _).alloc xnl _).alloc (by simp) _).alloc (by simp; omega) _
 have ha0:W.heap[w.heap.size]? = some (.cells #[.int .i64 la,.slice aa na ca] 56 (0,0)):=by rw [hW]; exact zaf (zaf (zac rfl))
 have hB0:W.heap[w.heap.size + 1]? = some (.cells #[.int .i64 lb,.slice ab nb cb] 56 (0,0)):=by rw [hW]; exact zaf (zac (by simp))
 have hr0:W.heap[w.heap.size + 2]? = some (.cells #[.int .i64 0,.slice none 0 0] 56 (0,0)):=by rw [hW]; exact zac (by simp)
 clear hW;have hva':BitsAt W zav (.agg #[.int .i64 la,.slice aa na ca]) ⟨la,A⟩:=⟨_,rfl,HVA.out.below hb0⟩;refine (zfk zav _ ⟨la,A⟩ W hva' a1 a2).mono ?_;obtain ⟨va,hva⟩:∃ b,zap ⟨la,A⟩ = b:=⟨_,rfl⟩;rw [hva];rintro e w1 ⟨rfl,hb⟩;have HVa:=zjp hva;have HB1:=zjp (hb0.trans (hb.mono hb0.size)); have HA1:=zjp (zab hb (zaa ha0) ha0); have HC1:=zjp (zab hb (zaa hB0) hB0); have HR1:=zjp (zab hb (zaa hr0) hr0);have lA:=zaa HA1.out; have lC:=zaa HC1.out; have lR:=zaa HR1.out;obtain ⟨x0,x1⟩:=zae HA1.out; obtain ⟨y0,y1⟩:=zae HC1.out; obtain ⟨r0,r1⟩:=zae HR1.out;have f0:=frozen_of_row _ _ 0 _ _ HR1.out; have f1:=frozen_of_row _ _ 1 _ _ HR1.out;clear hb hb0 ha0 hB0 hr0 hva' hva;cases va
 ·have HNo:=zjp (zgs (a:=⟨la,A⟩) (b:=⟨lb,B⟩) (by rw [HVa.out]; simp))
  go_wp2_with fail
  refine zah rfl rfl (zad (i:=1) (zad (i:=0) HR1.out)) underlying56 rfl (by kernel_rfl) ?_;rw [← HPP.out];exact ⟨_,by rw [HNo.out]; rfl,by rw [HNo.out]; exact BitsAt.none _ _,(HB1.out.setCell (p:=⟨w.heap.size + 1 + 1,0,none⟩) (by simp; omega) _).setCell (p:=⟨w.heap.size + 1 + 1,1,none⟩) (by simp; omega) _⟩
 ·go_wp2_with fail
  refine (zfk zav _ ⟨lb,B⟩ w1 ⟨_,rfl,HVB.out.below HB1.out⟩ b1 b2).mono ?_;obtain ⟨vb,hvb⟩:∃ b,zap ⟨lb,B⟩ = b:=⟨_,rfl⟩;rw [hvb];rintro e w2 ⟨rfl,hb⟩;have HVb:=zjp hvb;have HB2:=zjp (HB1.out.trans (hb.mono HB1.out.size)); have HA2:=zjp (zab hb lA HA1.out); have HC2:=zjp (zab hb lC HC1.out); have HR2:=zjp (zab hb lR HR1.out);clear hb x0 x1 y0 y1 r0 r1 f0 f1 HB1 HA1 HC1 HR1 lA lC lR hvb;have lA:=zaa HA2.out; have lC:=zaa HC2.out; have lR:=zaa HR2.out;obtain ⟨x0,x1⟩:=zae HA2.out; obtain ⟨y0,y1⟩:=zae HC2.out; obtain ⟨r0,r1⟩:=zae HR2.out;have f0:=frozen_of_row _ _ 0 _ _ HR2.out; have f1:=frozen_of_row _ _ 1 _ _ HR2.out;cases vb
  ·have HNo:=zjp (zgs (a:=⟨la,A⟩) (b:=⟨lb,B⟩) (by rw [HVb.out]; simp))
   go_wp2_with fail
   refine zah rfl rfl (zad (i:=1) (zad (i:=0) HR2.out)) underlying56 rfl (by kernel_rfl) ?_;rw [← HPP.out];exact ⟨_,by rw [HNo.out]; rfl,by rw [HNo.out]; exact BitsAt.none _ _,(HB2.out.setCell (p:=⟨w.heap.size + 1 + 1,0,none⟩) (by simp; omega) _).setCell (p:=⟨w.heap.size + 1 + 1,1,none⟩) (by simp; omega) _⟩
  ·by_cases hl:la = lb
   rotate_left
   ·have d0:(la != lb) = true:=by simpa using hl
    have HNo:=zjp (zgs (a:=⟨la,A⟩) (b:=⟨lb,B⟩) (fun h=>hl h.2.2))
    clear hl;go_wp2_with fail
    refine zah rfl rfl (zad (i:=1) (zad (i:=0) HR2.out)) underlying56 rfl (by kernel_rfl) ?_;rw [← HPP.out];exact ⟨_,by rw [HNo.out]; rfl,by rw [HNo.out]; exact BitsAt.none _ _,(HB2.out.setCell (p:=⟨w.heap.size + 1 + 1,0,none⟩) (by simp; omega) _).setCell (p:=⟨w.heap.size + 1 + 1,1,none⟩) (by simp; omega) _⟩
   ·subst hl
    have d0:(la != la) = false:=by simp
    have e8:=zcs HVa.out; have e8b:=zcs HVb.out;dsimp only at e8 e8b;have hnn:nb = na:=by have:=HNa.out; have:=HNb.out; omega
    subst hnn;have hn8:nb≤8:=by have:=HNb.out; omega
    have HSo:=zjp (andB_some (a:=⟨la,A⟩) (b:=⟨la,B⟩) ⟨HVa.out,HVb.out,rfl⟩);have hmk:=run_make_row' (P:=prog) 54 39 (.int .u64 0) 8 underlying54 infoU rfl .i64 .i64 nb (by omega) (by omega);rw [made_words] at hmk;have hLl:(zh7 A B).length = nb:=by rw [andL_len (by rw [HNa.out,HNb.out])]; exact HNa.out
    have HLl:=zjp hLl;clear e8 e8b hLl;go_wp2_with fail
    let QF:=bodyPost prog Tryz.f149 (fun _ _=>True)
    have z2:w.heap.size + 2 < w2.heap.size:=lR;have HVA2:=zjp (HVA.out.below HB2.out); have HVB2:=zjp (HVB.out.below HB2.out);go_cut [8] (fun s8 wx=>∃ gw c8:Nat,s8 = .pointer (some ⟨c8,0,none⟩)∧BothAt w la (.slice aa nb ca) (.slice ab nb cb) A B gw c8 nb (zh6 (zh7 A B) 0) wx)
    case first =>
     refine wp_region_noPanic ?_
     refine wp_region_held_drew (S:=(fun w'=>w'.cell? ⟨w.heap.size,0,none⟩ = some (.int .i64 la)∧w'.cell? ⟨w.heap.size,1,none⟩ = some (.slice aa nb ca))) (by kernel_rfl) (⟨x0,x1⟩) (fun hHeld=>?_)
     refine tH 0 (h:=?_);refine tH 1 (h:=?_);refine tH 2 (h:=?_);refine tH 3 (h:=?_);refine tH 4 (h:=?_);have HZ:=zjp (show (List.replicate nb (0:Int)) = zh6 (zh7 A B) 0 by rw [partW_zero,HLl.out]);refine wpAnyH_ready (rs:=[5,7]) (by kernel_rfl) (by simp) ?_
     refine AllReadyH.cons rfl (fun K hK=>?_) (AllReadyH.cons rfl (fun K hK=>?_) AllReadyH.nil)
     focus
      go_simp;have b1:Below w2.heap.size w2 (w2.alloc (.cells ((List.replicate nb (0:Int)).flatMap zc2).toArray 39)).drew:=((Below.refl _ _).alloc xnl _).drew
      refine hK.out _ _ (zae (zab b1 lA HA2.out)) (fun hHeld=>?_)
      clear hK K
      refine zbr (fun V1 hV1=>?_)
      rw [← hV1] at b1;have g1:V1.heap[w2.heap.size]? = some (.cells ((List.replicate nb (0:Int)).flatMap zc2).toArray 39 (0,0)):=by rw [hV1]; exact zac rfl
      clear hV1 hHeld;have hHeld:=zae (zab b1 lA HA2.out);refine tH 6 (h:=?_);refine wpAnyH_ready (rs:=[7]) (by kernel_rfl) (by simp) ?_
      refine AllReadyH.cons rfl (fun K hK=>?_) AllReadyH.nil
      go_simp;have b2:Below V1.heap.size V1 (V1.alloc (.cells #[.int .i64 0,.slice none 0 0] 56)):=(Below.refl _ _).alloc xnl _;have b3:=b1.trans (b2.mono b1.size)
      refine hK.out _ _ (zae (zab b3 lA HA2.out)) (fun hHeld=>?_)
      clear hK K
      refine zbr (fun V2 hV2=>?_)
      rw [← hV2] at b2 b3;have lg:=zaa g1;have g2:V2.heap[w2.heap.size]? = some (.cells ((List.replicate nb (0:Int)).flatMap zc2).toArray 39 (0,0)):=zab b2 lg g1;have h2:V2.heap[V1.heap.size]? = some (.cells #[.int .i64 0,.slice none 0 0] 56 (0,0)):=by rw [hV2]; exact zac rfl
      clear hV2 hHeld;have hHeld:=zae (zab b3 lA HA2.out);obtain ⟨c8,hc8⟩:∃ c,V1.heap.size = c:=⟨_,rfl⟩;rw [hc8] at h2 lg ⊢;obtain ⟨e0,e1⟩:=zae h2; have ff0:=frozen_of_row _ _ 0 _ _ h2; have ff1:=frozen_of_row _ _ 1 _ _ h2
      have hh:=zjp (show BothAt w la (.slice aa nb ca) (.slice ab nb cb) A B w2.heap.size c8 nb (zh6 (zh7 A B) 0) ((V2.setCell ⟨c8,0,none⟩ (.int .i64 la)).setCell ⟨c8,1,none⟩ (.slice (some ⟨w2.heap.size,0,none⟩) nb nb)) from
       both_laid0 b3 HB2.out HA2.out HC2.out HR2.out HVA2.out HVB2.out (by rw [← HZ.out]; exact g2) h2 (by rw [partW_len]; exact HLl.out) xnl (by omega) (by omega) z2)
      refine wpAnyH_ready (rs:=[8]) (by kernel_rfl) (by simp) ?_
      refine AllReadyH.cons rfl (fun K hK=>?_) AllReadyH.nil
      go_simp;skip
      refine hK.out _ _ (zae hh.out.ha) (fun hHeld=>?_)
      clear hK K;refine wpAnyH_done (by kernel_rfl) ?_ _;refine NoPanic.normal ?_;go_wp2_with fail
      go_meet;exact ⟨_,_,rfl,hh.out⟩
     focus
      go_simp;have b1:Below w2.heap.size w2 (w2.alloc (.cells #[.int .i64 0,.slice none 0 0] 56)).drew:=((Below.refl _ _).alloc xnl _).drew
      refine hK.out _ _ (zae (zab b1 lA HA2.out)) (fun hHeld=>?_)
      clear hK K
      refine zbr (fun V1 hV1=>?_)
      rw [← hV1] at b1;have h1:V1.heap[w2.heap.size]? = some (.cells #[.int .i64 0,.slice none 0 0] 56 (0,0)):=by rw [hV1]; exact zac rfl
      clear hV1 hHeld;have hHeld:=zae (zab b1 lA HA2.out);refine wpAnyH_ready (rs:=[5]) (by kernel_rfl) (by simp) ?_
      refine AllReadyH.cons rfl (fun K hK=>?_) AllReadyH.nil
      go_simp;have b2:Below V1.heap.size V1 (V1.alloc (.cells ((List.replicate nb (0:Int)).flatMap zc2).toArray 39)):=(Below.refl _ _).alloc xnl _;have b3:=b1.trans (b2.mono b1.size)
      refine hK.out _ _ (zae (zab b3 lA HA2.out)) (fun hHeld=>?_)
      clear hK K
      refine zbr (fun V2 hV2=>?_)
      rw [← hV2] at b2 b3;have lg:=zaa h1;have g2:V2.heap[V1.heap.size]? = some (.cells ((List.replicate nb (0:Int)).flatMap zc2).toArray 39 (0,0)):=by rw [hV2]; exact zac rfl
      have h2:V2.heap[w2.heap.size]? = some (.cells #[.int .i64 0,.slice none 0 0] 56 (0,0)):=zab b2 lg h1;clear hV2 hHeld;have hHeld:=zae (zab b3 lA HA2.out);obtain ⟨gw,hgw⟩:∃ c,V1.heap.size = c:=⟨_,rfl⟩;rw [hgw] at g2 lg ⊢;obtain ⟨e0,e1⟩:=zae h2; have ff0:=frozen_of_row _ _ 0 _ _ h2; have ff1:=frozen_of_row _ _ 1 _ _ h2
      have hh:=zjp (show BothAt w la (.slice aa nb ca) (.slice ab nb cb) A B gw w2.heap.size nb (zh6 (zh7 A B) 0) ((V2.setCell ⟨w2.heap.size,0,none⟩ (.int .i64 la)).setCell ⟨w2.heap.size,1,none⟩ (.slice (some ⟨gw,0,none⟩) nb nb)) from
       both_laid0 b3 HB2.out HA2.out HC2.out HR2.out HVA2.out HVB2.out (by rw [← HZ.out]; exact g2) h2 (by rw [partW_len]; exact HLl.out) (by omega) xnl (by omega) z2)
      refine tH 6 (h:=?_);refine wpAnyH_ready (rs:=[8]) (by kernel_rfl) (by simp) ?_
      refine AllReadyH.cons rfl (fun K hK=>?_) AllReadyH.nil
      go_simp;skip
      refine hK.out _ _ (zae hh.out.ha) (fun hHeld=>?_)
      clear hK K;refine wpAnyH_done (by kernel_rfl) ?_ _;refine NoPanic.normal ?_;go_wp2_with fail
      go_meet;exact ⟨_,_,rfl,hh.out⟩
    case rest =>
     obtain ⟨gw,c8,rfl,hbt⟩:=hcut;have HL0:=zjp (show (zh7 A B).length = nb from HLl.out);have HNA:=zjp (show A.length = nb by rw [HNa.out]); have HNB:=zjp (show B.length = nb by rw [HNb.out]);obtain ⟨W0,hW0⟩:∃ u,u = wc:=⟨_,rfl⟩;subst hW0;have HBt:=zjp hbt;obtain ⟨a0,a1⟩:=zae hbt.ha;have zA:=zaa hbt.ha;clear hbt x0 x1 y0 y1 r0 r1 f0 f1 hmk HVA2 HVB2 HLl HNa HNb HA2 HC2 HR2 HB2 lA lC lR z2;go_wp2_with fail
     go_loopw [37] (fun i wr=>∃ k:Nat,k≤nb∧i = .int .i64 k∧BothAt w la (.slice aa nb ca) (.slice ab nb cb) A B gw c8 nb (zh6 (zh7 A B) k) wr) (fun i _=>nb - (intOf i).toNat)
     case atStart=>exact ⟨0,by omega,rfl,HBt.out⟩
     case round =>
      obtain ⟨k,hk,rfl,hbt⟩:=hrel;obtain ⟨WR,hWR⟩:∃ u,u = wr:=⟨_,rfl⟩;subst hWR;have HBk:=zjp hbt;by_cases hlt:k < nb
      ·have hq:decide ((k:Int) < nb) = true:=by simp; omega
       have hkA:k < A.length:=by rw [HNA.out]; exact hlt
       have hkB:k < B.length:=by rw [HNB.out]; exact hlt
       have hkL:k < (zh7 A B).length:=by rw [HL0.out]; exact hlt
       have hki:(k:Int) < (nb:Int):=by omega
       obtain ⟨b1',off1,e1,lb1,hc1⟩:=hbt.va.get k hkA;cases e1;have ca0:=hc1 0 _ rfl;rw [Nat.mul_one,Nat.add_zero] at ca0;obtain ⟨b2',off2,e2,lb2,hc2⟩:=hbt.vb.get k hkB;cases e2;have cb0:=hc2 0 _ rfl;rw [Nat.mul_one,Nat.add_zero] at cb0;have hset:=partW_set (zh7 A B) k hkL;have hget:=andL_get (A:=A) (B:=B) k hkA hkB hkL;obtain ⟨x,hx⟩:∃ x,A[k] = x:=⟨_,rfl⟩;obtain ⟨y,hy⟩:∃ y,B[k] = y:=⟨_,rfl⟩;rw [hx,hy] at hget;rw [hx] at ca0; rw [hy] at cb0;rw [hget] at hset;have HSet:=zjp hset;obtain ⟨b0,b1⟩:=zae hbt.hb;obtain ⟨d0',d1'⟩:=zae hbt.hc;have cw:=word_cell hbt.hw k (by rw [hbt.wl]; exact hlt);have fw:=frozen_of_row _ _ k _ _ hbt.hw;have lgw:=zaa hbt.hw; have lc8:=zaa hbt.hc; have lb8:=zaa hbt.hb;have hS:=zjp (hbt.set k (andW x y));obtain ⟨o1,o2,o3⟩:=hbt.ne;have cb9:=cb0
       have hb2g:b2'≠gw:=by
        obtain ⟨aV,cV,eV,_,hV⟩:=hbt.vb;obtain ⟨bV,oV,e5,h5,_⟩:=hV (by omega);cases eV; cases e5; exact h5
       clear hc1 hc2 hx hy hget hset hbt hkA hkB hkL;obtain ⟨cwv,hcwv⟩:∃ v,(zh6 (zh7 A B) k).getD k 0 = v:=⟨_,rfl⟩;rw [hcwv] at cw;clear hcwv;go_wp2_with fail
       refine wp_region_noPanic ?_
       refine wp_region_held_drew (S:=(fun w'=>w'.cell? ⟨c8,1,none⟩ = some (.slice (some ⟨gw,0,none⟩) nb nb)∧w'.cell? ⟨w.heap.size + 1,1,none⟩ = some (.slice (some ⟨b2',off2,none⟩) nb cb)∧w'.cell? ⟨b2',off2 + k,none⟩ = some (.int .u64 y))) (by kernel_rfl) (⟨d1',b1,cb0⟩) (fun hHeld=>?_)
       refine tH 0 (h:=?_);refine tH 1 (h:=?_);refine tH 2 (h:=?_);refine tH 3 (h:=?_);refine tH 4 (h:=?_);refine tH 5 (h:=?_);refine tH 6 (h:=?_);refine tH 7 (h:=?_);refine tH 8 (h:=?_);refine tH 9 (h:=?_);refine wpAnyH_ready (rs:=[10]) (by kernel_rfl) (by simp) ?_
       refine AllReadyH.cons rfl (fun K hK=>?_) AllReadyH.nil
       go_simp;refine (and1_any _ _ _).mono ?_; rintro e w' ⟨rfl,rfl⟩
       refine hK.out _ _ (⟨d1',b1,cb0⟩) (fun hHeld=>?_)
       clear hK K;refine tH 11 (h:=?_);refine wpAnyH_ready (rs:=[12]) (by kernel_rfl) (by simp) ?_
       refine AllReadyH.cons rfl (fun K hK=>?_) AllReadyH.nil
       go_simp;skip
       refine hK.out _ _ (⟨(zae hS.out.hc).2,(zae hS.out.hb).2,((World.cell?_setCell_other _ _ _ _ (fun e=>by first | exact hb2g (congrArg Addr.block e) | exact hb2g (congrArg Addr.block e).symm)).trans cb0)⟩) (fun hHeld=>?_)
       clear hK K;refine wpAnyH_done (by kernel_rfl) ?_ _;refine NoPanic.normal ?_;go_wp2_with fail
       go_roundw
       case rel=>exact ⟨k + 1,by omega,by go_num,by rw [← HSet.out]; exact hS.out.drew⟩
       case measure=>simp [intOf]; omega
      ·have hq:decide ((k:Int) < nb) = false:=by simp; omega
       have hfin:zh6 (zh7 A B) k = zh7 A B:=by
        have:k = (zh7 A B).length:=by rw [HL0.out]; omega
        rw [this]; exact partW_all _
       rw [hfin] at HBk;obtain ⟨d0',d1'⟩:=zae HBk.out.hc; obtain ⟨r0,r1⟩:=zae HBk.out.hr;have f0:=frozen_of_row _ _ 0 _ _ HBk.out.hr; have f1:=frozen_of_row _ _ 1 _ _ HBk.out.hr;have lc8:=zaa HBk.out.hc; have lr8:=zaa HBk.out.hr;clear hbt hfin a0 a1;go_wp2_with fail
       refine zah rfl rfl (zad (i:=1) (zad (i:=0) HBk.out.hr)) underlying56 rfl (by kernel_rfl) ?_;rw [← HPP.out];have hne:=HBk.out.ne;refine ⟨_,by rw [HSo.out]; rfl,?_,(HBk.out.b.setCell (p:=⟨w.heap.size + 2,0,none⟩) (by simp) _).setCell (p:=⟨w.heap.size + 2,1,none⟩) (by simp) _⟩;rw [HSo.out];refine ⟨_,rfl,?_⟩;have hw9:=zan (a:=⟨w.heap.size + 2,1,none⟩) (v:=.slice (some ⟨gw,0,none⟩) nb nb) (zan (a:=⟨w.heap.size + 2,0,none⟩) (v:=.int .i64 la) HBk.out.hw (by show gw≠w.heap.size + 2; omega)) (by show gw≠w.heap.size + 2; omega);have hv9:=ze0 (k:=1) (enc:=zc2) (L:=zh7 A B) (S:=fun x=>w.heap.size≤x) (fun _=>rfl) hw9 (by show w.heap.size≤gw; omega) nb (by rw [HL0.out])
       try rw [HL0.out] at hv9
       exact hv9
end
section
open Go.RowKit
structure GV where
 len:Int
 wa:Option Addr
 wn:Nat
 wc:Nat
 a:Option Addr
 n:Nat
 c:Nat
 ws:List Int
 mem:List Int
instance:Inhabited GV:=⟨⟨0,none,0,0,none,0,0,[],[]⟩⟩
abbrev zfx (x:GV):List Value:=[.int .i64 x.len,.slice x.wa x.wn x.wc,.slice x.a x.n x.c]
def pG (x:GV):GrpL:=⟨⟨x.len,x.ws⟩,x.mem⟩
theorem one_encG:∀ x:GV,∀ u∈zfx x,u.oneCell' = true:=by
 intro x u hu; simp at hu; rcases hu with rfl | rfl | rfl <;> rfl
def GroupsAt (w:World) (S:Nat→Prop) (v:Value) (G:List GrpL):Prop :=
 ∃ C:List GV,Vec w S 3 zfx v C∧C.map pG = G∧∀ x∈C,Vec w S 1 zc2 (.slice x.wa x.wn x.wc) x.ws∧Vec w S 1 zjh (.slice x.a x.n x.c) x.mem
theorem GroupsAt.move {w w':World} {S T:Nat→Prop} {v:Value} {G:List GrpL} (h:GroupsAt w S v G) (hz:w.heap.size≤w'.heap.size) (hS:∀ b,b < w.heap.size→S b→w'.heap[b]? = w.heap[b]?∧T b):GroupsAt w' T v G:=by
 obtain ⟨C,h1,h2,h3⟩:=h;exact ⟨C,h1.move hz hS,h2,fun x hx=>⟨(h3 x hx).1.move hz hS,(h3 x hx).2.move hz hS⟩⟩
theorem GroupsAt.below {w w':World} {S:Nat→Prop} {v:Value} {G:List GrpL} (h:GroupsAt w S v G) (hb:Below w.heap.size w w'):GroupsAt w' S v G:=h.move hb.size fun b hb' hs=>⟨hb.block b hb',hs⟩
theorem GroupsAt.slice {w:World} {S:Nat→Prop} {v:Value} {G:List GrpL} (h:GroupsAt w S v G):∃ a cap,v = .slice a G.length cap:=by
 obtain ⟨C,h1,h2,_⟩:=h;obtain ⟨a,cap,rfl⟩:=h1.slice;exact ⟨a,cap,by rw [← h2,List.length_map]⟩
theorem GroupsAt.at {w:World} {S:Nat→Prop} {a:Option Addr} {n cap:Nat} {G:List GrpL} (h:GroupsAt w S (.slice a n cap) G) (j:Nat) (hj:j < G.length) :
  ∃ (b off:Nat) (x:GV),a = some ⟨b,off,none⟩∧b < w.heap.size∧(w.cell? ⟨b,off + j * 3,none⟩ = some (.int .i64 x.len)∧w.cell? ⟨b,off + j * 3 + 1,none⟩ = some (.slice x.wa x.wn x.wc)∧w.cell? ⟨b,off + j * 3 + 2,none⟩ = some (.slice x.a x.n x.c)) ∧
   Vec w S 1 zc2 (.slice x.wa x.wn x.wc) x.ws∧Vec w S 1 zjh (.slice x.a x.n x.c) x.mem∧pG x = G[j]:=by
 obtain ⟨C,h1,h2,h3⟩:=h;subst h2;have hjc:j < C.length:=by simpa using hj
 obtain ⟨b,off,e,hb,hc⟩:=h1.get j hjc;obtain ⟨h4,h5⟩:=h3 _ (List.getElem_mem hjc);exact ⟨b,off,C[j],e,hb,⟨hc 0 _ rfl,hc 1 _ rfl,hc 2 _ rfl⟩,h4,h5,by simp⟩
abbrev zgz (x:zdl):List Value:=[zal x.1,.int .i64 x.2]
abbrev GsL:=Int × List UInt8
abbrev encGs (x:GsL):List Value:=[.int .i64 x.1,zal x.2]
theorem one_encGs:∀ x:GsL,∀ u∈encGs x,u.oneCell' = true:=by
 intro x u hu; simp at hu; rcases hu with rfl | rfl <;> rfl
theorem one_encEn:∀ x:zdl,∀ u∈zgz x,u.oneCell' = true:=by
 intro x u hu; simp at hu; rcases hu with rfl | rfl <;> rfl
theorem zg0 (p:Int→Bool) (L:List Int) (k:Nat) (h:k < L.length):(L.take (k + 1)).countP p = (L.take k).countP p + (if p L[k] = true then 1 else 0):=by
 rw [List.take_succ_eq_append_getElem h,List.countP_append]; simp [List.countP_cons]
theorem infoZ:(prog.info? 3).map (fun i=>(i.zero,i.size,i.bytes)) = some (some (.int .i64 0),1,8):=by kernel_rfl
end
section
open Go.RowKit
theorem rank_any (S:Nat→Prop) (v:Value) (L:List Int) (i:Nat) (w:World) (h:Vec w S 1 zjh v L) (hi:i < L.length) (hn:L.length≤1000000) :
  Calls prog 105 #[v,.int .i64 i] w fun e w'=>e = .returned (.tuple #[.int .i64 (zbz L L[i]).1,.bool (zbz L L[i]).2])∧w = w':=by
 obtain ⟨a,cap,rfl⟩:=h.slice;have HV:=zjp h; clear h;obtain ⟨x,hx⟩:∃ x,L[i] = x:=⟨_,rfl⟩;rw [hx];obtain ⟨b,off,rfl,hb,hc⟩:=HV.out.get i hi;have ci:=hc 0 _ rfl;rw [Nat.mul_one,Nat.add_zero,hx] at ci;obtain ⟨⟨r,u⟩,hr⟩:∃ p,zbz L x = p:=⟨_,rfl⟩;rw [hr];have HR:=zjp hr;obtain ⟨n,hln⟩:∃ n,L.length = n:=⟨_,rfl⟩;have HN:=zjp hln;rw [hln] at hi hn HV ⊢;have hii:(i:Int) < (n:Int):=by omega
 clear hc hr hx hln;go_enter func105,ntmps105
 go_wp2_with fail
 go_loopw [6,7,12] (fun g q j wr=>wr = w∧∃ k:Nat,j = .int .i64 k∧k≤n∧∃ g' q':Nat,g = .int .i64 g'∧q = .int .i64 q'∧g'≤k∧q'≤k∧Hid ((L.take k).countP (fun y=>decide (x < y)) = g')∧Hid ((L.take k).countP (fun y=>decide (y = x)) = q')) (fun _ _ j _=>n - (intOf j).toNat)
 case atStart=>exact ⟨rfl,0,rfl,by omega,0,0,rfl,rfl,by omega,by omega,zjp (by simp),zjp (by simp)⟩
 case round =>
  obtain ⟨rfl,k,rfl,hk,g,q,rfl,rfl,hg,hq',HG,HQ⟩:=hrel;by_cases hlt:k < n
  ·have hq:decide ((k:Int) < n) = true:=by simp; omega
   have hlt':k < L.length:=by rw [HN.out]; exact hlt
   obtain ⟨b',off',e,_,hc⟩:=HV.out.get k hlt';cases e;have c0:=hc 0 _ rfl;rw [Nat.mul_one,Nat.add_zero] at c0;obtain ⟨y,hy⟩:∃ y,L[k] = y:=⟨_,rfl⟩;have m1:=zg0 (fun y=>decide (x < y)) L k hlt'
   have m2:=zg0 (fun y=>decide (y = x)) L k hlt'
   rw [hy] at c0 m1 m2;rw [HG.out] at m1;rw [HQ.out] at m2;clear hc hy HG HQ
   rcases (by omega:x < y∨y = x∨y < x) with h1 | h1 | h1
   ·have d1:decide (x < y) = true:=by simp; omega
    have d2:decide (y = x) = false:=by simp; omega
    rw [d1] at m1; rw [d2] at m2;have M1:=zjp (show (L.take (k + 1)).countP (fun y=>decide (x < y)) = g + 1 from m1)
    have M2:=zjp (show (L.take (k + 1)).countP (fun y=>decide (y = x)) = q from m2)
    clear m1 m2 d2;go_wp2_with fail
    go_roundw
    case rel=>exact ⟨trivial,k + 1,by go_num,by omega,g + 1,q,by go_num,rfl,by omega,by omega,M1,M2⟩
    case measure=>simp [intOf]; omega
   ·have d1:decide (x < y) = false:=by simp; omega
    have d2:decide (y = x) = true:=by simp; omega
    have d3:(y == x) = true:=by simp; omega
    rw [d1] at m1; rw [d2] at m2;have M1:=zjp (show (L.take (k + 1)).countP (fun y=>decide (x < y)) = g from m1)
    have M2:=zjp (show (L.take (k + 1)).countP (fun y=>decide (y = x)) = q + 1 from m2)
    clear m1 m2 d2;subst h1;go_wp2_with fail
    go_roundw
    case rel=>exact ⟨trivial,k + 1,by go_num,by omega,g,q + 1,rfl,by go_num,by omega,by omega,M1,M2⟩
    case measure=>simp [intOf]; omega
   ·have d1:decide (x < y) = false:=by simp; omega
    have d2:decide (y = x) = false:=by simp; omega
    have d3:(y == x) = false:=by simp; omega
    rw [d1] at m1; rw [d2] at m2;have M1:=zjp (show (L.take (k + 1)).countP (fun y=>decide (x < y)) = g from m1)
    have M2:=zjp (show (L.take (k + 1)).countP (fun y=>decide (y = x)) = q from m2)
    clear m1 m2 d2;go_wp2_with fail
    go_roundw
    case rel=>exact ⟨trivial,k + 1,by go_num,by omega,g,q,rfl,rfl,by omega,by omega,M1,M2⟩
    case measure=>simp [intOf]; omega
  ·have hq:decide ((k:Int) < n) = false:=by simp; omega
   have e1:=HG.out; have e2:=HQ.out;rw [List.take_of_length_le (by rw [HN.out]; omega)] at e1 e2;have hr:=HR.out;unfold zbz at hr;rw [e1,e2] at hr;have hr1:(g:Int) = r:=congrArg Prod.fst hr;have hr2:decide (q = 1) = u:=congrArg Prod.snd hr;have hr3:((q:Int) == 1) = u:=by rw [← hr2]; by_cases hq1:q = 1 <;> simp [hq1]; omega
   clear e1 e2 hr HG HQ hr2;go_wp2_with fail
   go_ret2;subst hr1;exact ⟨rfl,rfl⟩
end
section
open Go.RowKit
theorem sizesG_more (G:List GrpL) (k:Nat) (h:k < G.length):zaz (G.take (k + 1)) = zaz (G.take k) ++ [(G[k].mem.length:Int)]:=by
 unfold zaz; rw [List.take_succ_eq_append_getElem h,List.map_append]; rfl
theorem Vec.lenN {w:World} {S:Nat→Prop} {k:Nat} {α:Type} {enc:α→List Value} {a:Option Addr} {n cap:Nat} {L:List α} (h:Vec w S k enc (.slice a n cap) L):n = L.length:=h.len.1
theorem sizes_any (S:Nat→Prop) (v:Value) (G:List GrpL) (w:World) (h:GroupsAt w S v G) (hn:G.length≤1000000) :
  Calls prog 106 #[v] w fun e w'=>∃ v',e = .returned v'∧OwnV 3 1 zjh w v' (zaz G) w':=by
 obtain ⟨a,cap,rfl⟩:=h.slice;have HK:=zjp h; clear h;obtain ⟨n,hln⟩:∃ n,G.length = n:=⟨_,rfl⟩;have HN:=zjp hln;rw [hln] at hn HK ⊢;clear hln;go_enter func106,ntmps106
 go_wp2_with fail
 go_loopw [3,5,8] (fun o _ j wr=>∃ k:Nat,j = .int .i64 k∧k≤n∧OwnV 3 1 zjh w o (zaz (G.take k)) wr) (fun _ _ j _=>n - (intOf j).toNat)
 case atStart=>exact ⟨0,rfl,by omega,by simpa [zaz] using OwnV.start _ _ _ _⟩
 case round =>
  obtain ⟨k,rfl,hk,ho⟩:=hrel;have HO:=zjp ho; clear ho;by_cases hlt:k < n
  ·have hq:decide ((k:Int) < n) = true:=by simp; omega
   have hlt':k < G.length:=by rw [HN.out]; exact hlt
   obtain ⟨b,off,⟨len,wa,wn,wc,ma,mn,mc,ws,mem⟩,e,lb,⟨c0,c1,c2⟩,hw,hm,hp⟩:=(HK.out.below HO.out.2).at k hlt';cases e;have hmn:=hm.lenN;dsimp only at hmn c0 c1 c2;have hmem:G[k].mem.length = mn:=by rw [← hp,hmn]; rfl
   have hmore:=sizesG_more G k hlt';rw [hmem] at hmore;have HM:=zjp hmore;have hsl:(zaz (G.take k)).length = k:=by simp [zaz]; omega
   have HSl:=zjp hsl;clear hw hm hp hmn hmem hmore hsl;have hbz:=HO.out.2.size;have ho5:=(HO.out.below ((Below.refl wr.heap.size wr).alloc xnl (.cells #[.int .i64 len,.slice wa wn wc,.slice ma mn mc] 107)));have ho6:=ho5.1;rw [HSl.out] at ho6;have HO6:=zjp ho6; have HB6:=zjp ho5.2;clear ho5 ho6;go_wp2_with (at_builtin; refine zcj rfl _ _ 22 rfl w.heap.size 3 1 8 (.int .i64 0) underlying22 infoZ rfl (by decide) (by decide) _ _ _ rfl HO6.out (wr.heap.size + 1) (by simp) #[.int .i64 mn] 1 rfl rfl (by simp [Value.oneCell']) (by omega) HB6.out.size ?_; intro v8 w8 ho8 hw8)
   go_roundw
   case rel =>
    refine ⟨k + 1,by go_num,by omega,?_⟩;rw [HM.out];exact ⟨by rw [List.length_append,HSl.out,List.flatMap_append]; exact ho8,hw8 _ HB6.out⟩
   case measure=>simp [intOf]; omega
  ·have hq:decide ((k:Int) < n) = false:=by simp; omega
   have hfin:zaz (G.take k) = zaz G:=by rw [List.take_of_length_le (by rw [HN.out]; omega)]
   rw [hfin] at HO;clear hfin;go_wp2_with fail
   go_ret;exact ⟨_,rfl,HO.out⟩
theorem zis (s:List Int) (k:Nat) (h:k < s.length):((s.take (k + 1)).map fun x=>if (zbz s x).2 = true then x else 0).sum = ((s.take k).map fun x=>if (zbz s x).2 = true then x else 0).sum + (if (zbz s s[k]).2 = true then s[k] else 0):=by
 rw [List.take_succ_eq_append_getElem h,List.map_append,List.sum_append]; simp
theorem singular_any (S:Nat→Prop) (v:Value) (G:List GrpL) (w:World) (h:GroupsAt w S v G) (hn:G.length≤1000) (hm:∀ g∈G,g.mem.length≤1000) :
  Calls prog 71 #[v] w fun e w'=>e = .returned (.int .i64 (zbx G))∧Below w.heap.size w w':=by
 have hbd:∀ x∈zaz G,0≤x∧x≤1000:=by
  intro x hx;obtain ⟨g,hg,rfl⟩:=List.mem_map.1 hx;have:=hm g hg;omega
 have HBd:=zjp hbd;have HK:=zjp h;have hl:(zaz G).length = G.length:=by simp [zaz]
 obtain ⟨s,hs⟩:∃ s,zaz G = s:=⟨_,rfl⟩;obtain ⟨r,hr⟩:∃ r,zbx G = r:=⟨_,rfl⟩;rw [hr];unfold zbx at hr;rw [hs] at hr HBd hl;have HR:=zjp hr; have HS:=zjp hs;obtain ⟨n,hln⟩:∃ n,s.length = n:=⟨_,rfl⟩;have HN:=zjp hln;have hn':n≤1000:=by omega
 clear h hr hs hbd hm hln hl hn;go_enter func71,ntmps71
 go_wp2_with fail
 refine (sizes_any S _ G _ HK.out (by have:=HN.out; rw [← HS.out] at this; simp [zaz] at this; omega)).mono ?_;rw [HS.out];rintro e w1 ⟨v',rfl,ho⟩;obtain ⟨a,cap,e1⟩:=zau ho.1;subst e1;have HV:=zjp (OwnV.vec (size:=1) (enc:=zjh) (fun _=>rfl) ho); have HB:=zjp ho.2
 rw [HN.out] at HV ⊢;clear ho;go_wp2_with fail
 go_loopw [3,5,6,7,8,13] (fun o _ _ _ _ j wr=>wr = w1∧∃ k:Nat,j = .int .i64 k∧k≤n∧∃ q:Int,o = .int .i64 q∧0≤q∧q≤1000 * k∧Hid (((s.take k).map fun x=>if (zbz s x).2 = true then x else 0).sum = q)) (fun _ _ _ _ _ j _=>n - (intOf j).toNat)
 case atStart=>exact ⟨rfl,0,rfl,by omega,0,rfl,by omega,by omega,zjp (by simp)⟩
 case round =>
  obtain ⟨rfl,k,rfl,hk,q,rfl,hq0,hq1,HQ⟩:=hrel;by_cases hlt:k < n
  ·have hq:decide ((k:Int) < n) = true:=by simp; omega
   have hlt':k < s.length:=by rw [HN.out]; exact hlt
   obtain ⟨b,off,e,lb,hc⟩:=HV.out.get k hlt';cases e;have c0:=hc 0 _ rfl;rw [Nat.mul_one,Nat.add_zero] at c0;have hmore:=zis s k hlt';have hbd:=HBd.out _ (List.getElem_mem hlt');have hrk:=rank_any (fun b=>w.heap.size≤b) _ s k wr (by have:=HV.out; rw [← HN.out] at this; exact this) hlt' (by rw [HN.out]; omega)
   obtain ⟨x,hx⟩:∃ x,s[k] = x:=⟨_,rfl⟩;rw [hx] at c0 hmore hbd hrk;rw [HQ.out] at hmore;obtain ⟨⟨ra,rb⟩,hra⟩:∃ p,zbz s x = p:=⟨_,rfl⟩;rw [hra] at hmore hrk;have HRk:=zjp hrk;clear hc hx HQ hra hrk;rw [HN.out] at HRk;go_wp2_with fail
   refine HRk.out.mono ?_;rintro e w2 ⟨rfl,rfl⟩;cases rb
   ·have M:=zjp (show ((s.take (k + 1)).map fun x=>if (zbz s x).2 = true then x else 0).sum = q by simpa using hmore)
    clear hmore;go_wp2_with fail
    go_roundw
    case rel=>exact ⟨trivial,k + 1,by go_num,by omega,q,rfl,by omega,by omega,M⟩
    case measure=>simp [intOf]; omega
   ·have M:=zjp (show ((s.take (k + 1)).map fun x=>if (zbz s x).2 = true then x else 0).sum = q + x by simpa using hmore)
    have hwr:IntKind.i64.wrap (q + x) = q + x:=by rw [IntKind.wrap_i64]; omega
    clear hmore;go_wp2_with fail
    go_roundw
    case rel=>exact ⟨trivial,k + 1,by go_num,by omega,q + x,rfl,by omega,by omega,M⟩
    case measure=>simp [intOf]; omega
  ·have hq:decide ((k:Int) < n) = false:=by simp; omega
   have hfin:q = r:=by rw [← HQ.out,← HR.out,List.take_of_length_le (by rw [HN.out]; omega)]
   clear HQ;go_wp2_with fail
   go_ret;subst hfin;exact ⟨rfl,HB.out⟩
end
section
open Go.RowKit
theorem band_any (S T:Nat→Prop) (u v:Value) (a b:BitsL) (w:World) (hu:BitsAt w S u a) (hv:BitsAt w T v b) (ha:InI a.len) (hbI:InI b.len) :
  Calls prog 110 #[u,v] w (zfv a b w):=by
 obtain ⟨sa,rfl,hva⟩:=hu;obtain ⟨sb,rfl,hvb⟩:=hv;have HVA:=zjp hva; have HVB:=zjp hvb;clear hva hvb;obtain ⟨er,her⟩:∃ er:Int,(if (andB a b).isSome = true then 0 else 8) = er:=⟨_,rfl⟩;obtain ⟨x,hx⟩:∃ x,(andB a b).getD zbg = x:=⟨_,rfl⟩;unfold zfv;rw [her,hx];have HEr:=zjp her; have HX:=zjp hx;clear her hx;go_enter func110,ntmps110
 go_wp2_with fail
 refine zai (fun W hW=>?_)
 have hb0:Below w.heap.size w W:=by rw [hW]; exact (((Below.refl _ _).alloc xnl _).alloc (by simp) _).alloc (by simp; omega) _
 have hr0:W.heap[w.heap.size + 1 + 1]? = some (.cells #[.int .i64 0,.slice none 0 0] 56 (0,0)):=by rw [hW]; exact zac (by simp)
 clear hW;refine (both_any S T _ _ a b W ⟨_,rfl,HVA.out.below hb0⟩ ⟨_,rfl,HVB.out.below hb0⟩ ha.1 ha.2 hbI.1 hbI.2).mono ?_;rintro e w1 ⟨_,rfl,⟨s1,rfl,hv1⟩,hb⟩;rw [HX.out] at hv1;rw [HEr.out,HX.out];obtain ⟨a1,c1,rfl⟩:=hv1.slice;have lr0:=zaa hr0;have HR1:=zjp (zab hb lr0 hr0);have HB1:=zjp (hb0.trans (hb.mono hb0.size));obtain ⟨n,hn⟩:∃ n,x.words.length = n:=⟨_,rfl⟩;rw [hn] at hv1 ⊢;have HV1:=zjp (hv1.move (w':=w1) (S':=fun q=>w.heap.size≤q∧q≠w.heap.size + 1 + 1) xnl fun q _ h=>⟨rfl,by have h':W.heap.size≤q:=h; omega⟩)
 obtain ⟨r0,r1⟩:=zae HR1.out;have f0:=frozen_of_row _ _ 0 _ _ HR1.out; have f1:=frozen_of_row _ _ 1 _ _ HR1.out;have lR:=zaa HR1.out;dsimp only;clear hv1 hb hb0 hr0 lr0 hn;go_wp2_with fail
 refine zah rfl rfl (zad (i:=1) (zad (i:=0) HR1.out)) underlying56 rfl (by kernel_rfl) ?_;refine ⟨_,rfl,⟨_,rfl,?_⟩,(HB1.out.setCell (p:=⟨w.heap.size + 1 + 1,0,none⟩) (by show w.heap.size≤w.heap.size + 1 + 1; omega) _).setCell (p:=⟨w.heap.size + 1 + 1,1,none⟩) (by show w.heap.size≤w.heap.size + 1 + 1; omega) _⟩;exact ((HV1.out.far (fun q h=>h.2)).far (fun q h=>h.2)).move xnl fun q _ h=>⟨rfl,h.1⟩
end
section
open Go.RowKit
section
variable {α:Type} {P:Program} {w:World} {ops:Array Oper} {rest:List Oper} {o:Oper} {a:Act} {Q:Exit→Act→World→Prop}
theorem zgc (hgd:o.guard = none) (s x:Operand) (t:TypeId) (ho:o.op = .call { callee:=.builtin .append,args:=#[s,x],argTypes:=#[t,t] })
  (D e:Nat) (z:Value) (size bytes:Nat) (enc:α→List Value) (hk:∀ x,(enc x).length = size) (h1:∀ x,∀ u∈enc x,u.oneCell' = true) (ht:P.underlying t = some (.slice e)) (hinfo:(P.info? e).map (fun i=>(i.zero,i.size,i.bytes)) = some (some z,size,bytes))
  (hzs:z.cells.size = size) (hsz:0 < size) (hby:bytes≤128) {wA:World} {v u:Value} {A B:List α} (hs:a.eval s = v) (hown:OwnM D e size enc wA v A w) (hx:a.eval x = u) (hr:zcn w size u B.length (B.flatMap enc)) (hn:A.length + B.length≤1000000000)
  (h:∀ v' w',OwnM D e size enc wA v' (A ++ B) w'→(∀ k o,some k≠v.ownBlock→w.heap[k]? = some o→w'.heap[k]? = some o)→w.heap.size≤w'.heap.size→(v'.ownBlock = none∨v.ownBlock = v'.ownBlock∨v'.ownBlock = some w.heap.size)→wpList P ops Q rest (a.put o.dst v') w'):wpList P ops Q (o :: rest) a w:=by
 refine wpList_plain hgd fun K hK=>?_
 refine zdf s x t ho wA.heap.size e z size bytes ht hinfo hzs hsz v A.length (A.flatMap enc) hs hown.1 u B.length (B.flatMap enc) hx hr (fun u hu=>?_) (by unfold maxLen; omega) ?_ hown.2.size ?_
 ·obtain ⟨y,_,hy⟩:=List.mem_flatMap.1 hu
  exact h1 y u hy
 ·exact Nat.le_trans (Nat.mul_le_mul hn hby) (by decide)
 ·intro v' w' ho' hg hat
  refine hK _ _ (h v' w' ⟨by rw [List.length_append,List.flatMap_append]; exact ho',hown.2.grown' hg fun k hk=>?_⟩ (fun k o hk hko=>(hg.block k (zaa hko) hk).trans hko) hg.size hat)
  rcases hown.1.2 with ⟨rfl,_⟩ | ⟨g,cap,cur,rfl,hg1,_⟩
  ·simp [Value.ownBlock] at hk
  ·have:g = k:=by simpa [Value.ownBlock] using hk
   omega
end
end
section
open Go.RowKit
instance:Inhabited BV:=⟨⟨0,none,0,0⟩⟩
def ze2 (c:BV):Bool:=zc6 c.len && ((c.n:Int) == c.len / 64)
theorem validV_eq {w:World} {S:Nat→Prop} {c:BV} {b:BitsL} (h:BitsAt w S (.agg (za3 c).toArray) b):ze2 c = zap b:=by
 obtain ⟨s,e,hv⟩:=h;obtain ⟨a,cap,rfl⟩:=hv.slice;have e':(za3 c).toArray = #[Value.int .i64 b.len,.slice a b.words.length cap]:=by simpa using e
 have e2:za3 c = [Value.int .i64 b.len,.slice a b.words.length cap]:=congrArg Array.toList e';simp at e2;unfold ze2 zap;rw [e2.1,e2.2.2.1]
theorem BitsAll.filter {w:World} {S:Nat→Prop}:∀ {C:List BV} {L:List BitsL},BitsAll w S C L→BitsAll w S (C.filter ze2) (L.filter zap):=by
 intro C;induction C with
 | nil =>
  intro L h;have:L = []:=List.length_eq_zero_iff.1 (by rw [← h.1]; rfl);subst this;exact ⟨rfl,fun n h1 _=>by simp at h1⟩
 | cons c C ih =>
  intro L h;cases L with
  | nil=>have:=h.1; simp at this
  | cons b L =>
   have h0:BitsAt w S (.agg (za3 c).toArray) b:=h.2 0 (by simp) (by simp);have ht:BitsAll w S C L:=⟨by have:=h.1; simpa using this,fun n h1 h2=>h.2 (n + 1) (by simpa using h1) (by simpa using h2)⟩
   have e:=validV_eq h0;rw [List.filter_cons,List.filter_cons,e];cases hvb:zap b
   ·simpa using ih ht
   ·simp only [if_true]
    have h2:=ih ht
    refine ⟨by simp [h2.1],fun n h3 h4=>?_⟩
    cases n with
    | zero=>exact h0
    | succ n=>exact h2.2 n (by simpa using h3) (by simpa using h4)
theorem set2_take (l:List Value) (a:Nat) (u v:Value) (h:a + 1 < l.length):(l.set a u).set (a + 1) v = l.take a ++ [u,v] ++ l.drop (a + 2):=by
 apply List.ext_getElem?;intro k;rw [List.getElem?_set,List.getElem?_set,List.length_set]
 rcases Nat.lt_trichotomy k a with h1 | h1 | h1
 ·rw [if_neg (by omega),if_neg (by omega),List.append_assoc,List.getElem?_append_left (by simp; omega),List.getElem?_take_of_lt h1]
 ·subst h1
  rw [if_neg (by omega),if_pos rfl,if_pos (by omega),List.append_assoc,List.getElem?_append_right (by simp; omega),List.length_take,Nat.min_eq_left (by omega)];simp
 ·rcases Nat.lt_or_ge k (a + 2) with h2 | h2
  ·have:k = a + 1:=by omega
   subst this;rw [if_pos rfl,if_pos (by omega),List.append_assoc,List.getElem?_append_right (by simp; omega),List.length_take,Nat.min_eq_left (by omega)];simp
  ·rw [if_neg (by omega),if_neg (by omega),List.getElem?_append_right (by simp; omega),List.getElem?_drop]
   congr 1; simp; omega
theorem own_set2 {w:World} {B e n:Nat} {v:Value} {C:List BV} {g:Nat} (h:w.ownsRow B e 2 v n (C.flatMap za3)) (hg:v.ownBlock = some g) (j:Nat) (hj:j < C.length) (x:BV) :
  ((w.setCell ⟨g,j * 2,none⟩ (.int .i64 x.len)).setCell ⟨g,j * 2 + 1,none⟩ (.slice x.a x.n x.c)).ownsRow B e 2 v n ((C.set j x).flatMap za3):=by
 have hl:(C.flatMap za3).length = C.length * 2:=zd3 (k:=2) (enc:=za3) (fun _=>rfl) C
 have hflat:(C.set j x).flatMap za3 = ((C.flatMap za3).set (j * 2) (.int .i64 x.len)).set (j * 2 + 1) (.slice x.a x.n x.c):=by
  rw [flat_setK (k:=2) (enc:=za3) (fun _=>rfl) C j x hj,set2_take _ _ _ _ (by rw [hl]; omega),show (j + 1) * 2 = j * 2 + 2 by omega]
 refine ⟨by rw [← h.1,hflat,List.length_set,List.length_set],?_⟩
 rcases h.2 with ⟨hv,_⟩ | ⟨g',cap,cur,hv,hB,hh,h1,h2,h3,h4⟩
 ·rw [hv] at hg; cases hg
 ·rw [hv] at hg
  have hgg:g' = g:=by simpa [Value.ownBlock] using hg
  subst hgg;refine .inr ⟨g',cap,(cur.setIfInBounds (j * 2) (.int .i64 x.len)).setIfInBounds (j * 2 + 1) (.slice x.a x.n x.c),hv,hB,zad (zad hh),h1,h2,by simpa using h3,?_⟩;rw [Array.toList_setIfInBounds,Array.toList_setIfInBounds,List.take_set,List.take_set,h4,hflat]
theorem zit {b:Nat} {t:TypeId} {fr:Nat × Nat}:∀ (vs:List Value) (o:Nat) (w:World) (cur:Array Value),w.heap[b]? = some (.cells cur t fr) →
  ∃ cur',(w.setCells b o vs).heap[b]? = some (.cells cur' t fr)∧cur'.size = cur.size∧(∀ q,q < o→cur'[q]? = cur[q]?)∧(∀ k x,k≠b→w.heap[k]? = some x→(w.setCells b o vs).heap[k]? = some x)∧(∀ (B:Nat) (w0:World),B≤b→Below B w0 w→Below B w0 (w.setCells b o vs))
 | [],o,w,cur,h=>⟨cur,h,rfl,fun _ _=>rfl,fun _ _ _ hx=>hx,fun _ _ _ hb=>hb⟩
 | v :: vs,o,w,cur,h=>by
  have h1:(w.setCell ⟨b,o,none⟩ v).heap[b]? = some (.cells (cur.setIfInBounds o v) t fr):=zad (i:=o) (v:=v) h;obtain ⟨cur',e1,e2,e3,e4,e5⟩:=zit vs (o + 1) _ _ h1
  refine ⟨cur',e1,by rw [e2]; simp,fun q hq=>?_,fun k x hk hx=>e4 k x hk (zan (a:=⟨b,o,none⟩) hx hk),fun B w0 hB hb=>e5 B w0 hB (hb.setCell (p:=⟨b,o,none⟩) hB v)⟩
  rw [e3 q (by omega),Array.getElem?_setIfInBounds_ne (by omega)]
theorem run_clear2 {P:Program} (w:World) (t e:TypeId) (z:Value) (ht:P.underlying t = some (.slice e)) (hv:∀ w,(zeroValue e).run P w = .ok z w) (hz:z.cells = #[.int .i64 0,.slice none 0 0]) (b o n c:Nat) (hn:0 < n)
  (hc:∀ j,j < n * 2→(w.cell? ⟨b,o + j,none⟩).isSome = true) (hf:∀ j,j < n * 2→w.frozen? ⟨b,o + j,none⟩ = false) :
  ∃ vs:List Value,∀ ty,(Builtin.clear_ #[t] ty #[.slice (some ⟨b,o,none⟩) n c]).run P w = .ok (.tuple #[]) (w.setCells b o vs):=by
 have hlen:(Builtin.zeroCells z.cells n).toList.length = n * 2:=by rw [hz]; simp [Builtin.zeroCells]
 have hone:∀ v∈(Builtin.zeroCells z.cells n).toList,v.oneCell' = true:=by
  rw [hz];intro v hv';simp [Builtin.zeroCells] at hv';obtain ⟨i,_,rfl⟩:=hv';have hi:i % 2 = 0∨i % 2 = 1:=by omega
  rcases hi with h | h <;> simp [h] <;> rfl
 have hst:=run_storeCells_cells (P:=P) b o (Builtin.zeroCells z.cells n).toList 0 w (by rw [hlen]; simpa using hc) (by rw [hlen]; simpa using hf) hone;simp only [Nat.add_zero] at hst
 refine ⟨(Builtin.zeroCells z.cells n).toList,fun ty=>?_⟩
 obtain ⟨m,rfl⟩:∃ m,n = m + 1:=⟨n - 1,by omega⟩;simp [Builtin.clear_,run_underlying ht,hv,hst]
end
section
def insL (x:List UInt8):List (List UInt8)→List (List UInt8)
 | []=>[x]
 | y :: r=>if y < x then y :: insL x r else if y = x then y :: r else x :: y :: r
theorem insL_mem (x z:List UInt8) (L:List (List UInt8)):z∈insL x L ↔ z = x∨z∈L:=by
 induction L with
 | nil=>simp [insL]
 | cons y r ih =>
  unfold insL;by_cases h:y < x
  ·rw [if_pos h,List.mem_cons,ih,List.mem_cons]
   constructor
   ·rintro (h | h | h) <;> simp [h]
   ·rintro (h | h | h) <;> simp [h]
  ·rw [if_neg h]
   by_cases h2:y = x
   ·rw [if_pos h2,List.mem_cons]
    subst h2;constructor
    ·rintro (h | h) <;> simp [h]
    ·rintro (h | h | h) <;> simp [h]
   ·rw [if_neg h2,List.mem_cons,List.mem_cons]
theorem insL_asc (x:List UInt8) (L:List (List UInt8)) (h:L.Pairwise (· < ·)):(insL x L).Pairwise (· < ·):=by
 induction L with
 | nil=>simp [insL]
 | cons y r ih =>
  rw [List.pairwise_cons] at h;unfold insL;by_cases h1:y < x
  ·rw [if_pos h1,List.pairwise_cons]
   refine ⟨fun z hz=>?_,ih h.2⟩
   rcases (insL_mem x z r).1 hz with rfl | hz
   ·exact h1
   ·exact h.1 z hz
  ·rw [if_neg h1]
   by_cases h2:y = x
   ·rw [if_pos h2,List.pairwise_cons]; exact h
   ·rw [if_neg h2,List.pairwise_cons,List.pairwise_cons]
    have hxy:x < y:=by
     rcases List.le_iff_lt_or_eq.1 (List.not_lt.1 h1) with h3 | h3
     ·exact h3
     ·exact absurd h3.symm h2
    refine ⟨fun z hz=>?_,h⟩
    rcases List.mem_cons.1 hz with rfl | hz
    ·exact hxy
    ·exact List.lt_trans hxy (h.1 z hz)
def foldI (L:List (List UInt8)):List (List UInt8):=L.foldl (fun a x=>insL x a) []
theorem zh0 (L:List (List UInt8)) (k:Nat) (hk:k < L.length):foldI (L.take (k + 1)) = insL L[k] (foldI (L.take k)):=by
 unfold foldI;rw [List.take_succ_eq_append_getElem hk,List.foldl_append];rfl
theorem foldI_is (L:List (List UInt8)):∀ A:List (List UInt8),A.Pairwise (· < ·)→(L.foldl (fun a x=>insL x a) A).Pairwise (· < ·)∧∀ z,z∈L.foldl (fun a x=>insL x a) A ↔ z∈A∨z∈L:=by
 induction L with
 | nil=>intro A h; exact ⟨h,fun z=>by simp⟩
 | cons x L ih =>
  intro A h;obtain ⟨h1,h2⟩:=ih (insL x A) (insL_asc x A h)
  refine ⟨h1,fun z=>?_⟩
  show z∈L.foldl (fun a x=>insL x a) (insL x A) ↔ _
  rw [h2,insL_mem,List.mem_cons];constructor
  ·rintro ((h | h) | h) <;> simp [h]
  ·rintro (h | h | h) <;> simp [h]
theorem foldI_asc (L:List (List UInt8)):(foldI L).Pairwise (· < ·):=(foldI_is L [] List.Pairwise.nil).1
theorem foldI_set (L:List (List UInt8)):foldI L = setL L:=by
 have ha:=foldI_asc L;have hm:=(foldI_is L [] List.Pairwise.nil).2;have hn:(foldI L).Nodup:=ha.imp fun {a b} h e=>by subst e; exact List.lt_irrefl a h
 have hs:(foldI L).mergeSort leB = foldI L:=List.mergeSort_of_pairwise (ha.imp fun {a b} h=>by simpa [leB] using List.le_of_lt h)
 rw [← hs];exact set_of_perm hn fun z=>by rw [foldI,hm]; simp
theorem insL_split (x:List UInt8) (A B:List (List UInt8)) (hA:∀ y∈A,y < x) (hB:∀ y r,B = y :: r→¬ y < x) :
  insL x (A ++ B) = if B.head? = some x then A ++ B else A ++ x :: B:=by
 induction A with
 | nil =>
  cases B with
  | nil=>rfl
  | cons y r =>
   show insL x (y :: r) = _;unfold insL;rw [if_neg (hB y r rfl)];simp only [List.nil_append,List.head?_cons,Option.some.injEq]
 | cons a A ih =>
  show insL x (a :: (A ++ B)) = _;unfold insL;rw [if_pos (hA a (by simp)),ih (fun y hy=>hA y (by simp [hy]))]
  split <;> rfl
theorem insL_len (x:List UInt8) (L:List (List UInt8)):(insL x L).length≤L.length + 1:=by
 induction L with
 | nil=>simp [insL]
 | cons y r ih =>
  unfold insL;split
  ·simp; omega
  ·split <;> simp
end
section
open Go.RowKit
attribute [local go_sem] zag zaj
theorem foldI_len (L:List (List UInt8)):∀ A:List (List UInt8),(L.foldl (fun a x=>insL x a) A).length≤A.length + L.length:=by
 induction L with
 | nil=>intro A; simp
 | cons x L ih=>intro A; have:=ih (insL x A); have:=insL_len x A; simp only [List.foldl_cons,List.length_cons]; omega
theorem zd4:∀ x:List UInt8,∀ u∈zba x,u.oneCell' = true:=by intro x u hu; simp [zba] at hu; subst hu; rfl
theorem r1_of {w w':World} {bo oo m co:Nat} {M:List (List UInt8)} (hm:m≤M.length) (h:Vec w zav 1 zba (.slice (some ⟨bo,oo,none⟩) M.length co) M) (hb:Below w.heap.size w w'):zcn w' 1 (.slice (some ⟨bo,oo,none⟩) m co) (M.take m).length ((M.take m).flatMap zba):=by
 have:=Vec.reads_take (k:=1) (enc:=zba) (fun _=>rfl) (h.below hb) m hm
 rwa [List.length_take,Nat.min_eq_left hm]
theorem r2_of {w w':World} {bo oo m co:Nat} {M:List (List UInt8)} (hm:m≤M.length) (h:Vec w zav 1 zba (.slice (some ⟨bo,oo,none⟩) M.length co) M) (hb:Below w.heap.size w w'):zcn w' 1 (.slice (if co = m then some ⟨bo,oo,none⟩ else some ⟨bo,oo + m,none⟩) (M.length - m) (co - m)) (M.drop m).length ((M.drop m).flatMap zba):=by
 have hc:=h.len.2;have:=Vec.reads_drop (enc:=zba) (fun _=>rfl) (h.below hb) m hm (co = m) (fun e=>by omega) (co - m)
 rwa [List.length_drop]
theorem r2_z {w w':World} {bo m co:Nat} {M:List (List UInt8)} (hm:m≤M.length) (h:Vec w zav 1 zba (.slice (some ⟨bo,0,none⟩) M.length co) M) (hb:Below w.heap.size w w'):zcn w' 1 (.slice (if co = m then some ⟨bo,0,none⟩ else some ⟨bo,m,none⟩) (M.length - m) (co - m)) (M.drop m).length ((M.drop m).flatMap zba):=by
 have:=r2_of hm h hb;rwa [Nat.zero_add] at this
theorem r_nil {w w':World} (hb:Below w.heap.size w w'):zcn w' 1 (.slice none 0 0) ([]:List (List UInt8)).length (([]:List (List UInt8)).flatMap zba):=⟨none,0,rfl,rfl,fun h=>by simp at h⟩
theorem insL_at {x:List UInt8} {M:List (List UInt8)} (m:Nat) (hm:m≤M.length) (hA:∀ q,q < m→M.getD q [] < x) (hB:m < M.length→¬ M.getD m [] < x∧M.getD m []≠x):insL x M = M.take m ++ x :: M.drop m:=by
 have h:=insL_split x (M.take m) (M.drop m) (fun y hy=>by
  obtain ⟨q,hq,rfl⟩:=List.mem_iff_getElem.1 hy;rw [List.length_take] at hq;have:=hA q (by omega);rw [List.getD,List.getElem?_eq_getElem (by omega)] at this
  rw [List.getElem_take]; exact this) (fun y r he=>by
  have hl:m < M.length:=by
   have:=congrArg List.length he; rw [List.length_drop,List.length_cons] at this; omega
  rw [List.drop_eq_getElem_cons hl] at he;have:=(hB hl).1;rw [List.getD,List.getElem?_eq_getElem hl] at this
  cases he; exact this)
 rw [List.take_append_drop] at h;rw [h];rw [if_neg];intro he
 rcases Nat.lt_or_ge m M.length with hl | hl
 ·rw [List.drop_eq_getElem_cons hl,List.head?_cons] at he
  have:=(hB hl).2;rw [List.getD,List.getElem?_eq_getElem hl] at this;exact this (Option.some.inj he)
 ·rw [List.drop_eq_nil_of_le hl] at he; simp at he
theorem insL_dup {x:List UInt8} {M:List (List UInt8)} (m:Nat) (hl:m < M.length) (hA:∀ q,q < m→M.getD q [] < x) (hB:M.getD m [] = x):insL x M = M:=by
 have h:=insL_split x (M.take m) (M.drop m) (fun y hy=>by
  obtain ⟨q,hq,rfl⟩:=List.mem_iff_getElem.1 hy;rw [List.length_take] at hq;have:=hA q (by omega);rw [List.getD,List.getElem?_eq_getElem (by omega)] at this
  rw [List.getElem_take]; exact this) (fun y r he=>by
  rw [List.drop_eq_getElem_cons hl] at he;rw [List.getD,List.getElem?_eq_getElem hl] at hB;cases he;have e:M[m] = x:=hB
  rw [e]; exact List.lt_irrefl x)
 rw [List.take_append_drop] at h;rw [h,if_pos];rw [List.drop_eq_getElem_cons hl,List.head?_cons];rw [List.getD,List.getElem?_eq_getElem hl] at hB;exact congrArg some hB
theorem rset_any (S:Nat→Prop) (v:Value) (L:List (List UInt8)) (w:World) (h:Vec w S 1 zba v L) (hn:L.length≤1000000) :
  Calls prog 163 #[v] w fun e w'=>∃ u,e = .returned u∧OwnAt w u (foldI L) w':=by
 obtain ⟨a,cap,rfl⟩:=h.slice;have HV:=zjp h; clear h;go_enter func163,ntmps163
 go_wp2_with fail
 go_loopw [3,4] (fun o i wr=>∃ k:Nat,k≤L.length∧i = .int .i64 k∧OwnAt w o (foldI (L.take k)) wr) (fun _ i _=>L.length - (intOf i).toNat)
 case atStart=>exact ⟨0,by omega,rfl,⟨rfl,.inl ⟨rfl,rfl⟩⟩,Below.refl _ _⟩
 case round =>
  obtain ⟨k,hk,rfl,hO⟩:=hrel;obtain ⟨wu,rfl⟩:∃ wu:World,wu = wr:=⟨_,rfl⟩;obtain ⟨M,hM⟩:∃ M,foldI (L.take k) = M:=⟨_,rfl⟩;rw [hM] at hO;have hml:M.length≤k:=by rw [← hM]; have:=foldI_len (L.take k) []; have:=List.length_take_le k L; simp only [List.length_nil] at *; unfold foldI; omega
  have HM:=zjp hM; clear hM;have hvm:=Vec.owns (S:=zav) (k:=1) (enc:=zba) (L:=M) (fun _=>rfl) hO.1 (fun _ _ _=>trivial)
  have hform:=OwnV.form hO;have HVM:=zjp hvm; clear hvm;have HO:=zjp hO; clear hO;by_cases hlt:k < L.length
  ·have hq:decide ((k:Int) < L.length) = true:=by simp; omega
   obtain ⟨b,off,rfl,_,hb,hc⟩:=zcc HV.out (by omega);have cx:=(HO.out.2.cell (p:=⟨b,off + k,none⟩) hb).trans (hc k hlt);obtain ⟨x,hx⟩:∃ x,L.getD k [] = x:=⟨_,rfl⟩;rw [hx] at cx;have HX:=zjp hx;have CXH:=zjp (show w.cell? ⟨b,off + k,none⟩ = some (zal x) by rw [← hx]; exact hc k hlt);have hi:(k:Int) < (L.length:Int):=by omega
   clear hc hx
   rcases hform with ⟨rfl,rfl⟩ | ⟨bo,co,rfl,hco,hcm,hbo⟩
   ·go_wp2_with fail
    go_loopw [5] (fun j wr=>j = .int .i64 (0:Nat)∧Below wu.heap.size wu wr) (fun j _=>0)
    case atStart=>exact ⟨rfl,Below.refl _ _⟩
    case round =>
     obtain ⟨rfl,hbi⟩:=hrel;have HBI:=zjp hbi;have zu:=HO.out.2.size;have cx2:=(hbi.cell (p:=⟨b,off + k,none⟩) (by show b < _; omega)).trans cx;clear hbi;go_wp2_with fail
     go_quiet (fail)
     go_wp2_with fail
     go_quiet (fail)
     go_wp2_with fail
     refine zam (fun wN hN=>?_)
     have HBu:=zjp (show Below wu.heap.size wu wN by rw [hN]; first | exact below_drewN (below_drewN HBI.out _) _ | exact below_drewN HBI.out _ | exact below_drewN (below_drewN (below_drewN HBI.out _) _) _);have HBN:=zjp (HO.out.2.trans (HBu.out.mono HO.out.2.size));have cx3:=(HBN.out.cell (p:=⟨b,off + k,none⟩) hb).trans CXH.out;have HVN:=zjp (HVM.out.below HBu.out);have zb:b < wN.heap.size:=by have:=HBN.out.size; omega
     clear hN cx2 cx;refine wp_region_noPanic ?_
     refine zat (by kernel_rfl) (fun w'=>w'.cell? ⟨b,off + k,none⟩ = some (zal x)) 9 ((by simpa using cx3)) (fun hHeld=>?_)
     refine t0 0 (h:=?_);refine t0 1 (h:=?_);refine t0 10 (h:=?_);refine t0 11 (h:=?_);refine tK 4 (h:=?_);refine tK 5 (h:=?_);refine tK 6 (h:=?_);refine tK 7 (h:=?_);refine t0 2 (h:=?_);refine t0 12 (h:=?_);have bD:Below wN.heap.size wN wN.drew:=(Below.refl _ _).drew;refine zbf (rs:=[3,8]) (by kernel_rfl) (by simp) ?_
     refine AllReadyK.cons rfl (fun K hK=>?_) (AllReadyK.cons rfl (fun K hK=>?_) AllReadyK.nil)
     focus
      refine zbs (.const (.slice none 0 0)) (.tmp 46) 28 (by rfl) 9 (.string ⟨#[]⟩) 1 16 zba (fun _=>rfl) zd4 underlying28 zdv rfl (by decide) (by decide) (w0:=wN) (v:=.slice none 0 0) (A:=[]) (B:=([]:List (List UInt8))) (by rfl) (OwnV.nil bD) (by rfl) (r_nil bD) (by first | omega | (simp; done) | (simp; omega)) ?_
      intro v1 w3 ho1 _ hz1;rw [List.nil_append] at ho1
      refine zbe hK ((ho1.2.cell (p:=⟨b,off + k,none⟩) zb).trans cx3) (fun hHeld=>?_)
      clear hK K;have bB:=(Below.refl w3.heap.size w3).alloc xnl (.cells #[zal x] 9)
      refine xrK 8 rfl fun K hK=>?_
      go_simp;skip
      refine zbe hK (((ho1.2.trans (bB.mono ho1.2.size)).cell (p:=⟨b,off + k,none⟩) zb).trans cx3) (fun hHeld=>?_)
      clear hK K;have ho2:=OwnV.below ho1 bB;have hg2:(w3.alloc (.cells #[zal x] 9)).heap[w3.heap.size]? = some (.cells #[zal x] 9 (0,0)):=zac rfl;clear ho1 bB hz1
     rotate_left 1
     focus
      go_simp;have bB:=bD.alloc xnl (.cells #[zal x] 9);have hg0:(wN.drew.alloc (.cells #[zal x] 9)).heap[wN.heap.size]? = some (.cells #[zal x] 9 (0,0)):=zac rfl
      refine zbe hK ((bB.cell (p:=⟨b,off + k,none⟩) zb).trans cx3) (fun hHeld=>?_)
      clear hK K
      refine xrK 3 rfl fun K hK=>?_
      refine zbs (.const (.slice none 0 0)) (.tmp 46) 28 (by rfl) 9 (.string ⟨#[]⟩) 1 16 zba (fun _=>rfl) zd4 underlying28 zdv rfl (by decide) (by decide) (w0:=wN) (v:=.slice none 0 0) (A:=[]) (B:=([]:List (List UInt8))) (by rfl) (OwnV.nil bB) (by rfl) (r_nil bB) (by first | omega | (simp; done) | (simp; omega)) ?_; intro v1 w3 ho2 hk2 hz2; rw [List.nil_append] at ho2
      refine zbe hK ((ho2.2.cell (p:=⟨b,off + k,none⟩) zb).trans cx3) (fun hHeld=>?_)
      clear hK K;have hg2:=hk2 _ _ (by simp [Value.ownBlock]) hg0;clear hg0 bB hk2 hz2
     all_goals
      have hr2:zcn _ 1 (.slice (some ⟨_,0,none⟩) 1 1) [x].length ([x].flatMap zba):=za2 hg2 rfl
      refine xrK 9 rfl fun K hK=>?_
      refine zbs (.tmp 47) (.tmp 52) 28 (by rfl) 9 (.string ⟨#[]⟩) 1 16 zba (fun _=>rfl) zd4 underlying28 zdv rfl (by decide) (by decide) (w0:=wN) (v:=v1) (A:=([]:List (List UInt8))) (B:=[x]) (by rfl) (ho2) (by rfl) (hr2) (by first | omega | (simp; done) | (simp; omega)) ?_; intro v2 w5 ho3 _ _
      refine zas hK (by decide) ?_;clear hK K
      refine xrK 13 rfl fun K hK=>?_
      refine zbs (.tmp 53) (.tmp 56) 28 (by rfl) 9 (.string ⟨#[]⟩) 1 16 zba (fun _=>rfl) zd4 underlying28 zdv rfl (by decide) (by decide) (w0:=wN) (v:=v2) (A:=([]:List (List UInt8)) ++ [x]) (B:=([]:List (List UInt8))) (by rfl) (ho3) (by rfl) (r_nil ho3.2) (by first | omega | (simp; done) | (simp; omega)) ?_; intro v3 w6 ho4 _ _
      refine zas hK (by decide) ?_;clear hK K;have HF:=zjp (ho4.rebase HBN.out);clear ho4 ho3 ho2 hg2 hr2 bD
      refine xrK 14 rfl fun K hK=>?_
      go_simp;skip;refine zas hK (by decide) ?_;clear hK K;refine zar (by kernel_rfl) ?_ _;refine NoPanic.normal ?_;go_wp2_with fail
      go_roundw
      case rel=>exact ⟨k + 1,by omega,by go_num,by
       have e:=zh0 L k hlt;have hx':L[k] = x:=by rw [← HX.out,List.getD,List.getElem?_eq_getElem hlt]; rfl
       rw [e,HM.out,hx',(show insL x [] = List.take 0 [] ++ x :: List.drop 0 [] from rfl),List.append_cons]
       exact HF.out⟩
      case measure=>simp [intOf]; omega
   ·have hcm':co≤9223372036854775807:=by unfold maxLen at hcm; omega
    clear hcm;go_wp2_with fail
    go_loopw [5] (fun j wr=>∃ m:Nat,m≤M.length∧j = .int .i64 m∧Below wu.heap.size wu wr∧Hid (∀ q,q < m→M.getD q [] < x)) (fun j _=>M.length - (intOf j).toNat)
    case atStart=>exact ⟨0,by omega,rfl,Below.refl _ _,zjp fun q hq=>by omega⟩
    case round =>
     obtain ⟨m,hm,rfl,hbi,hA⟩:=hrel;have HBI:=zjp hbi;have zu:=HO.out.2.size;have cx2:=(hbi.cell (p:=⟨b,off + k,none⟩) (by show b < _; omega)).trans cx;by_cases hml2:m < M.length
     ·have hq2:decide ((m:Int) < M.length) = true:=by simp; omega
      have hcy:wu.cell? ⟨bo,0 + m,none⟩ = some (zal (M.getD m [])):=by
       obtain ⟨bo',oo',he,_,_,hco⟩:=zcc HVM.out (by omega);cases he; exact hco m hml2
      have cy:=(hbi.cell (p:=⟨bo,0 + m,none⟩) hbo).trans hcy;rw [Nat.zero_add] at cy;obtain ⟨y,hy⟩:∃ y,M.getD m [] = y:=⟨_,rfl⟩;rw [hy] at cy;have HY:=zjp hy;have hi2:(m:Int) < (M.length:Int):=by omega
      have hlt3:Op.bytesLess y x = decide (y < x):=bytesLess_eq y x;clear hcy hy hbi;by_cases hyx:y < x
      ·have hd:Op.bytesLess y x = true:=by rw [hlt3]; simpa using hyx
       have HYX:=zjp hyx;clear hlt3 hyx;go_wp2_with fail
       go_quiet (fail)
       go_wp2_with fail
       go_roundw
       case rel=>exact ⟨m + 1,by omega,by go_num,below_drewN HBI.out _,zjp fun q hq=>by
        by_cases e:q = m
        ·subst e; rw [HY.out]; exact HYX.out
        ·exact hA.out q (by omega)⟩
       case measure=>simp [intOf]; omega
      ·have hd:Op.bytesLess y x = false:=by rw [hlt3]; simpa using hyx
       have HYX:=zjp hyx;clear hlt3 hyx;go_wp2_with fail
       go_quiet (fail)
       go_wp2_with fail
       by_cases hxy:y = x
       ·have hd2:(y == x) = true:=by simpa using hxy
        have HXY:=zjp hxy;clear hxy;go_quiet (fail)
        go_wp2_with fail
        go_roundw
        case rel=>exact ⟨k + 1,by omega,by go_num,by
         have e:=zh0 L k hlt;have hx':L[k] = x:=by rw [← HX.out,List.getD,List.getElem?_eq_getElem hlt]; rfl
         rw [e,HM.out,hx',insL_dup m hml2 hA.out (by rw [HY.out,HXY.out])]
         exact ⟨zfn HO.out.1 (below_drewN HBI.out _),HO.out.2.trans ((below_drewN HBI.out _).mono HO.out.2.size)⟩⟩
        case measure=>simp [intOf]; omega
       ·have hd2:(y == x) = false:=by simpa using hxy
        have HXY:=zjp hxy;clear hxy;go_quiet (fail)
        go_wp2_with fail
        refine zam (fun wN hN=>?_)
        have HBu:=zjp (show Below wu.heap.size wu wN by rw [hN]; first | exact below_drewN (below_drewN HBI.out _) _ | exact below_drewN HBI.out _ | exact below_drewN (below_drewN (below_drewN HBI.out _) _) _);have HBN:=zjp (HO.out.2.trans (HBu.out.mono HO.out.2.size));have cx3:=(HBN.out.cell (p:=⟨b,off + k,none⟩) hb).trans CXH.out;have HVN:=zjp (HVM.out.below HBu.out);have zb:b < wN.heap.size:=by have:=HBN.out.size; omega
        clear hN cx2 cx;have hmc:(m:Int)≤(co:Int):=by omega
        refine wp_region_noPanic ?_
        refine zat (by kernel_rfl) (fun w'=>w'.cell? ⟨b,off + k,none⟩ = some (zal x)) 9 ((by simpa using cx3)) (fun hHeld=>?_)
        refine t0 0 (h:=?_);refine t0 1 (h:=?_);refine t0 10 (h:=?_);refine t0 11 (h:=?_);refine tK 4 (h:=?_);refine tK 5 (h:=?_);refine tK 6 (h:=?_);refine tK 7 (h:=?_);refine t0 2 (h:=?_);refine t0 12 (h:=?_);have bD:Below wN.heap.size wN wN.drew:=(Below.refl _ _).drew;refine zbf (rs:=[3,8]) (by kernel_rfl) (by simp) ?_
        refine AllReadyK.cons rfl (fun K hK=>?_) (AllReadyK.cons rfl (fun K hK=>?_) AllReadyK.nil)
        focus
         refine zbs (.const (.slice none 0 0)) (.tmp 46) 28 (by rfl) 9 (.string ⟨#[]⟩) 1 16 zba (fun _=>rfl) zd4 underlying28 zdv rfl (by decide) (by decide) (w0:=wN) (v:=.slice none 0 0) (A:=[]) (B:=M.take m) (by rfl) (OwnV.nil bD) (by rfl) (r1_of hm HVN.out bD) (by first | omega | (simp; done) | (simp; omega)) ?_
         intro v1 w3 ho1 _ hz1;rw [List.nil_append] at ho1
         refine zbe hK ((ho1.2.cell (p:=⟨b,off + k,none⟩) zb).trans cx3) (fun hHeld=>?_)
         clear hK K;have bB:=(Below.refl w3.heap.size w3).alloc xnl (.cells #[zal x] 9)
         refine xrK 8 rfl fun K hK=>?_
         go_simp;skip
         refine zbe hK (((ho1.2.trans (bB.mono ho1.2.size)).cell (p:=⟨b,off + k,none⟩) zb).trans cx3) (fun hHeld=>?_)
         clear hK K;have ho2:=OwnV.below ho1 bB;have hg2:(w3.alloc (.cells #[zal x] 9)).heap[w3.heap.size]? = some (.cells #[zal x] 9 (0,0)):=zac rfl;clear ho1 bB hz1
        rotate_left 1
        focus
         go_simp;have bB:=bD.alloc xnl (.cells #[zal x] 9);have hg0:(wN.drew.alloc (.cells #[zal x] 9)).heap[wN.heap.size]? = some (.cells #[zal x] 9 (0,0)):=zac rfl
         refine zbe hK ((bB.cell (p:=⟨b,off + k,none⟩) zb).trans cx3) (fun hHeld=>?_)
         clear hK K
         refine xrK 3 rfl fun K hK=>?_
         refine zbs (.const (.slice none 0 0)) (.tmp 46) 28 (by rfl) 9 (.string ⟨#[]⟩) 1 16 zba (fun _=>rfl) zd4 underlying28 zdv rfl (by decide) (by decide) (w0:=wN) (v:=.slice none 0 0) (A:=[]) (B:=M.take m) (by rfl) (OwnV.nil bB) (by rfl) (r1_of hm HVN.out bB) (by first | omega | (simp; done) | (simp; omega)) ?_; intro v1 w3 ho2 hk2 hz2; rw [List.nil_append] at ho2
         refine zbe hK ((ho2.2.cell (p:=⟨b,off + k,none⟩) zb).trans cx3) (fun hHeld=>?_)
         clear hK K;have hg2:=hk2 _ _ (by simp [Value.ownBlock]) hg0;clear hg0 bB hk2 hz2
        all_goals
         have hr2:zcn _ 1 (.slice (some ⟨_,0,none⟩) 1 1) [x].length ([x].flatMap zba):=za2 hg2 rfl
         refine xrK 9 rfl fun K hK=>?_
         refine zbs (.tmp 47) (.tmp 52) 28 (by rfl) 9 (.string ⟨#[]⟩) 1 16 zba (fun _=>rfl) zd4 underlying28 zdv rfl (by decide) (by decide) (w0:=wN) (v:=v1) (A:=M.take m) (B:=[x]) (by rfl) (ho2) (by rfl) (hr2) (by first | omega | (simp; done) | (simp; omega)) ?_; intro v2 w5 ho3 _ _
         refine zas hK (by decide) ?_;clear hK K
         refine xrK 13 rfl fun K hK=>?_
         refine zbs (.tmp 53) (.tmp 56) 28 (by rfl) 9 (.string ⟨#[]⟩) 1 16 zba (fun _=>rfl) zd4 underlying28 zdv rfl (by decide) (by decide) (w0:=wN) (v:=v2) (A:=M.take m ++ [x]) (B:=M.drop m) (by rfl) (ho3) (by rfl) (r2_z hm HVN.out ho3.2) (by first | omega | (simp; done) | (simp; omega)) ?_; intro v3 w6 ho4 _ _
         refine zas hK (by decide) ?_;clear hK K;have HF:=zjp (ho4.rebase HBN.out);clear ho4 ho3 ho2 hg2 hr2 bD
         refine xrK 14 rfl fun K hK=>?_
         go_simp;skip;refine zas hK (by decide) ?_;clear hK K;refine zar (by kernel_rfl) ?_ _;refine NoPanic.normal ?_;go_wp2_with fail
         go_roundw
         case rel=>exact ⟨k + 1,by omega,by go_num,by
          have e:=zh0 L k hlt;have hx':L[k] = x:=by rw [← HX.out,List.getD,List.getElem?_eq_getElem hlt]; rfl
          rw [e,HM.out,hx',(insL_at m hm hA.out fun _=>⟨by rw [HY.out]; exact HYX.out,by rw [HY.out]; exact HXY.out⟩),List.append_cons]
          exact HF.out⟩
         case measure=>simp [intOf]; omega
     ·have hq2:decide ((m:Int) < M.length) = false:=by simp; omega
      clear hbi;go_wp2_with fail
      go_quiet (fail)
      go_wp2_with fail
      go_quiet (fail)
      go_wp2_with fail
      refine zam (fun wN hN=>?_)
      have HBu:=zjp (show Below wu.heap.size wu wN by rw [hN]; first | exact below_drewN (below_drewN HBI.out _) _ | exact below_drewN HBI.out _ | exact below_drewN (below_drewN (below_drewN HBI.out _) _) _);have HBN:=zjp (HO.out.2.trans (HBu.out.mono HO.out.2.size));have cx3:=(HBN.out.cell (p:=⟨b,off + k,none⟩) hb).trans CXH.out;have HVN:=zjp (HVM.out.below HBu.out);have zb:b < wN.heap.size:=by have:=HBN.out.size; omega
      clear hN cx2 cx;have hmc:(m:Int)≤(co:Int):=by omega
      refine wp_region_noPanic ?_
      refine zat (by kernel_rfl) (fun w'=>w'.cell? ⟨b,off + k,none⟩ = some (zal x)) 9 ((by simpa using cx3)) (fun hHeld=>?_)
      refine t0 0 (h:=?_);refine t0 1 (h:=?_);refine t0 10 (h:=?_);refine t0 11 (h:=?_);refine tK 4 (h:=?_);refine tK 5 (h:=?_);refine tK 6 (h:=?_);refine tK 7 (h:=?_);refine t0 2 (h:=?_);refine t0 12 (h:=?_);have bD:Below wN.heap.size wN wN.drew:=(Below.refl _ _).drew;refine zbf (rs:=[3,8]) (by kernel_rfl) (by simp) ?_
      refine AllReadyK.cons rfl (fun K hK=>?_) (AllReadyK.cons rfl (fun K hK=>?_) AllReadyK.nil)
      focus
       refine zbs (.const (.slice none 0 0)) (.tmp 46) 28 (by rfl) 9 (.string ⟨#[]⟩) 1 16 zba (fun _=>rfl) zd4 underlying28 zdv rfl (by decide) (by decide) (w0:=wN) (v:=.slice none 0 0) (A:=[]) (B:=M.take m) (by rfl) (OwnV.nil bD) (by rfl) (r1_of hm HVN.out bD) (by first | omega | (simp; done) | (simp; omega)) ?_
       intro v1 w3 ho1 _ hz1;rw [List.nil_append] at ho1
       refine zbe hK ((ho1.2.cell (p:=⟨b,off + k,none⟩) zb).trans cx3) (fun hHeld=>?_)
       clear hK K;have bB:=(Below.refl w3.heap.size w3).alloc xnl (.cells #[zal x] 9)
       refine xrK 8 rfl fun K hK=>?_
       go_simp;skip
       refine zbe hK (((ho1.2.trans (bB.mono ho1.2.size)).cell (p:=⟨b,off + k,none⟩) zb).trans cx3) (fun hHeld=>?_)
       clear hK K;have ho2:=OwnV.below ho1 bB;have hg2:(w3.alloc (.cells #[zal x] 9)).heap[w3.heap.size]? = some (.cells #[zal x] 9 (0,0)):=zac rfl;clear ho1 bB hz1
      rotate_left 1
      focus
       go_simp;have bB:=bD.alloc xnl (.cells #[zal x] 9);have hg0:(wN.drew.alloc (.cells #[zal x] 9)).heap[wN.heap.size]? = some (.cells #[zal x] 9 (0,0)):=zac rfl
       refine zbe hK ((bB.cell (p:=⟨b,off + k,none⟩) zb).trans cx3) (fun hHeld=>?_)
       clear hK K
       refine xrK 3 rfl fun K hK=>?_
       refine zbs (.const (.slice none 0 0)) (.tmp 46) 28 (by rfl) 9 (.string ⟨#[]⟩) 1 16 zba (fun _=>rfl) zd4 underlying28 zdv rfl (by decide) (by decide) (w0:=wN) (v:=.slice none 0 0) (A:=[]) (B:=M.take m) (by rfl) (OwnV.nil bB) (by rfl) (r1_of hm HVN.out bB) (by first | omega | (simp; done) | (simp; omega)) ?_; intro v1 w3 ho2 hk2 hz2; rw [List.nil_append] at ho2
       refine zbe hK ((ho2.2.cell (p:=⟨b,off + k,none⟩) zb).trans cx3) (fun hHeld=>?_)
       clear hK K;have hg2:=hk2 _ _ (by simp [Value.ownBlock]) hg0;clear hg0 bB hk2 hz2
      all_goals
       have hr2:zcn _ 1 (.slice (some ⟨_,0,none⟩) 1 1) [x].length ([x].flatMap zba):=za2 hg2 rfl
       refine xrK 9 rfl fun K hK=>?_
       refine zbs (.tmp 47) (.tmp 52) 28 (by rfl) 9 (.string ⟨#[]⟩) 1 16 zba (fun _=>rfl) zd4 underlying28 zdv rfl (by decide) (by decide) (w0:=wN) (v:=v1) (A:=M.take m) (B:=[x]) (by rfl) (ho2) (by rfl) (hr2) (by first | omega | (simp; done) | (simp; omega)) ?_; intro v2 w5 ho3 _ _
       refine zas hK (by decide) ?_;clear hK K
       refine xrK 13 rfl fun K hK=>?_
       refine zbs (.tmp 53) (.tmp 56) 28 (by rfl) 9 (.string ⟨#[]⟩) 1 16 zba (fun _=>rfl) zd4 underlying28 zdv rfl (by decide) (by decide) (w0:=wN) (v:=v2) (A:=M.take m ++ [x]) (B:=M.drop m) (by rfl) (ho3) (by rfl) (r2_z hm HVN.out ho3.2) (by first | omega | (simp; done) | (simp; omega)) ?_; intro v3 w6 ho4 _ _
       refine zas hK (by decide) ?_;clear hK K;have HF:=zjp (ho4.rebase HBN.out);clear ho4 ho3 ho2 hg2 hr2 bD
       refine xrK 14 rfl fun K hK=>?_
       go_simp;skip;refine zas hK (by decide) ?_;clear hK K;refine zar (by kernel_rfl) ?_ _;refine NoPanic.normal ?_;go_wp2_with fail
       go_roundw
       case rel=>exact ⟨k + 1,by omega,by go_num,by
        have e:=zh0 L k hlt;have hx':L[k] = x:=by rw [← HX.out,List.getD,List.getElem?_eq_getElem hlt]; rfl
        rw [e,HM.out,hx',(insL_at m hm hA.out fun h=>absurd h hml2),List.append_cons]
        exact HF.out⟩
       case measure=>simp [intOf]; omega
  ·have hq:decide ((k:Int) < L.length) = false:=by simp; omega
   rw [List.take_of_length_le (by omega)] at HM;go_wp2_with fail
   go_ret;exact ⟨_,rfl,by rw [HM.out]; exact HO.out⟩
end
section
open Go.RowKit
attribute [local go_sem] zag zaj
def idxG {α:Type} (p:α→Bool):Nat→List α→Int
 | _,[]=>-1
 | i,x :: l=>bif p x then (i:Int) else idxG p (i + 1) l
theorem idxG_any {α:Type} (p:α→Bool) (L:List α):∀ i:Nat,decide (0≤idxG p i L) = L.any p:=by
 induction L with
 | nil=>intro i; rfl
 | cons x l ih =>
  intro i;unfold idxG;rw [List.any_cons];cases p x
  ·simpa using ih (i + 1)
  ·simp
instance:Inhabited zdl:=⟨([],0)⟩
def badEn (d:zdl):Bool:=decide (d.2 < 1) || decide (1048576 < d.2)
def ascE (D:List zdl) (i:Nat):Bool:=decide ((D.getD i default).1 < (D.getD (i + 1) default).1)
def ascD (D:List zdl):Bool:=(List.range (D.length - 1)).all (ascE D)
def zcg (D:List zdl):Int:=if 64 < D.length then 1 else if ascD D = false then 12 else if D.any badEn = true then 2 else 0
theorem badEn_any (d:zdl) (w:World):Calls prog 147 #[.agg #[zal d.1,.int .i64 d.2]] w fun e w'=>e = .returned (.bool (badEn d))∧Below w.heap.size w w':=by
 obtain ⟨t,c⟩:=d;unfold badEn;dsimp only;obtain ⟨b1,h1⟩:∃ b,decide (c < 1) = b:=⟨_,rfl⟩;obtain ⟨b2,h2⟩:∃ b,decide (1048576 < c) = b:=⟨_,rfl⟩;rw [h1,h2];cases b1
 ·go_enter func147,ntmps147
  go_wp2_with fail
  go_ret;exact ⟨by simp,(Below.refl _ _).alloc xnl _⟩
 ·go_enter func147,ntmps147
  go_wp2_with fail
  go_ret;exact ⟨by simp,(Below.refl _ _).alloc xnl _⟩
theorem enidx_any (S:Nat→Prop) (v:Value) (L:List zdl) (w:World) (h:Vec w S 2 zgz v L) (hn:L.length≤1000000) :
  Calls prog 196 #[v,.func (.func 147) #[] #[]] w fun e w'=>e = .returned (.int .i64 (idxG badEn 0 L))∧Below w.heap.size w w':=by
 obtain ⟨a,cap,rfl⟩:=h.slice;have HV:=zjp h; clear h;obtain ⟨r,hr⟩:∃ r,idxG badEn 0 L = r:=⟨_,rfl⟩;rw [hr];have HR:=zjp hr; clear hr;go_enter func196,ntmps196
 go_wp2_with fail
 go_loopw [8] (fun i wr=>∃ k:Nat,i = .int .i64 k∧k≤L.length∧Hid (idxG badEn k (L.drop k) = r)∧Below w.heap.size w wr) (fun i _=>L.length - (intOf i).toNat)
 case atStart=>exact ⟨0,rfl,by omega,zjp HR.out,Below.refl _ _⟩
 case round =>
  obtain ⟨k,rfl,hk,HT,hbw⟩:=hrel;have HB:=zjp hbw; clear hbw;by_cases hlt:k < L.length
  ·have hq:decide ((k:Int) < L.length) = true:=by simp; omega
   have hklen:(k:Int) < (L.length:Int):=by omega
   obtain ⟨b,off,e,lb,hc⟩:=(HV.out.below HB.out).get k hlt;cases e;have c0:=hc 0 _ rfl; have c1:=hc 1 _ rfl;have ht:=HT.out;rw [List.drop_eq_getElem_cons hlt] at ht;obtain ⟨⟨xt,xc⟩,hx⟩:∃ x,L[k] = x:=⟨_,rfl⟩;rw [hx] at c0 c1 ht;rw [Nat.add_zero] at c0;dsimp only at c0 c1;clear HT hx hc;unfold idxG at ht;cases hp:badEn (xt,xc)
   ·rw [hp] at ht
    have HT:=zjp (show idxG badEn (k + 1) (L.drop (k + 1)) = r from ht);have HP:=zjp hp;clear ht hp;go_wp2_with fail
    refine (badEn_any (xt,xc) _).mono ?_;rw [HP.out];rintro e w1 ⟨rfl,hb⟩;have HB1:=zjp (HB.out.trans (hb.mono HB.out.size));clear hb;go_wp2_with fail
    go_roundw
    case rel=>exact ⟨k + 1,by go_num,by omega,HT,HB1.out⟩
    case measure=>simp [intOf]; omega
   ·rw [hp] at ht
    have HT2:=zjp (show Ending.returned (.int .i64 (k:Int)) = Ending.returned (.int .i64 r) by rw [show (k:Int) = r from ht]);have HP:=zjp hp;clear ht hp;go_wp2_with fail
    refine (badEn_any (xt,xc) _).mono ?_;rw [HP.out];rintro e w1 ⟨rfl,hb⟩;have HB1:=zjp (HB.out.trans (hb.mono HB.out.size));clear hb;go_wp2_with fail
    go_ret;exact ⟨HT2.out,HB1.out⟩
  ·have hq:decide ((k:Int) < L.length) = false:=by simp; omega
   have ht:=HT.out;rw [List.drop_eq_nil_of_le (by omega)] at ht;have HT2:=zjp (show Ending.returned (.int .i64 (-1:Int)) = Ending.returned (.int .i64 r) by rw [show (-1:Int) = r from ht]);clear HT ht;go_wp2_with fail
   go_ret;exact ⟨HT2.out,HB.out⟩
theorem encont_any (S:Nat→Prop) (v:Value) (L:List zdl) (w:World) (h:Vec w S 2 zgz v L) (hn:L.length≤1000000) :
  Calls prog 146 #[v,.func (.func 147) #[] #[]] w fun e w'=>e = .returned (.bool (L.any badEn))∧Below w.heap.size w w':=by
 rw [← idxG_any badEn L 0];obtain ⟨a,cap,rfl⟩:=h.slice;have HV:=zjp h; clear h;go_enter func146,ntmps146
 go_wp2_with fail
 refine (enidx_any S _ L _ HV.out hn).mono ?_;rintro e w1 ⟨rfl,hb⟩;have HB:=zjp hb; clear hb;go_wp2_with fail
 go_ret;exact ⟨rfl,HB.out⟩
theorem ascD_all {D:List zdl} (h:∀ j,j + 1 < D.length→ascE D j = true):ascD D = true:=by
 unfold ascD;rw [List.all_eq_true];intro j hj;rw [List.mem_range] at hj;exact h j (by omega)
theorem ascD_no {D:List zdl} {j:Nat} (hj:j + 1 < D.length) (h:ascE D j = false):ascD D = false:=by
 unfold ascD;rw [List.all_eq_false];exact ⟨j,by rw [List.mem_range]; omega,by simp [h]⟩
theorem acheck_any (S:Nat→Prop) (v:Value) (D:List zdl) (w:World) (h:Vec w S 2 zgz v D) (hn:D.length≤1000000) :
  Calls prog 104 #[v] w fun e w'=>e = .returned (.int .i64 (zcg D))∧Below w.heap.size w w':=by
 obtain ⟨a,cap,rfl⟩:=h.slice;have HV:=zjp h; clear h;obtain ⟨n,hln⟩:∃ n,D.length = n:=⟨_,rfl⟩;have HN:=zjp hln;rw [hln] at hn HV ⊢;have HF:=zjp (show ∀ r:Int,zcg D = r→Ending.returned (.int .i64 r) = .returned (.int .i64 (zcg D)) from fun r h=>by rw [h])
 clear hln;by_cases h64:64 < n
 ·have d0:decide ((64:Int) < n) = true:=by simp; omega
  go_enter func104,ntmps104
  go_wp2_with fail
  go_ret;exact ⟨HF.out _ (by unfold zcg; rw [if_pos (by rw [HN.out]; exact h64)]),Below.refl _ _⟩
 have d0:decide ((64:Int) < n) = false:=by simp; omega
 go_enter func104,ntmps104
 go_wp2_with fail
 go_loopw [10] (fun i wr=>∃ k:Nat,i = .int .i64 k∧k≤n∧Hid (∀ j,j + 1 < k→ascE D j = true)∧Below w.heap.size w wr) (fun i _=>n - (intOf i).toNat)
 case atStart=>exact ⟨0,rfl,by omega,zjp (fun j hj=>by omega),Below.refl _ _⟩
 case round =>
  obtain ⟨k,rfl,hk,HA,hbw⟩:=hrel;obtain ⟨WR,hWR⟩:∃ u,u = wr:=⟨_,rfl⟩;subst hWR;have HB:=zjp hbw;by_cases hlt:k < n
  ·have hq:decide ((k:Int) < n) = true:=by simp; omega
   have hlt':k < D.length:=by rw [HN.out]; exact hlt
   obtain ⟨b,off,e,lb,hc⟩:=(HV.out.below hbw).get k hlt';cases e;have c0:=hc 0 _ rfl; have c1:=hc 1 _ rfl;obtain ⟨⟨xt,xc⟩,hx⟩:∃ x,D[k] = x:=⟨_,rfl⟩;rw [hx] at c0 c1;rw [Nat.add_zero] at c0;dsimp only at c0 c1;have HX:=zjp hx;clear hc hx
   rcases Nat.eq_zero_or_pos k with hk0 | hpos
   ·have e1:decide ((0:Int) < (k:Int)) = false:=by simp; omega
    have e1n:decide (0 < k) = false:=by simp; omega
    have HK0:=zjp hk0;clear hbw hk0;go_wp2_with fail
    go_quiet (fail)
    go_wp2_with fail
    go_roundw
    case rel=>exact ⟨k + 1,by go_num,by omega,zjp (fun j hj=>by have:=HK0.out; omega),below_drewN ((HB.out.alloc HB.out.size _)) _⟩
    case measure=>simp [intOf]; omega
   ·obtain ⟨p,rfl⟩:∃ p,k = p + 1:=⟨k - 1,by omega⟩
    have hp':p < D.length:=by omega
    obtain ⟨b2,off2,e2,lb2,hc2⟩:=(HV.out.below hbw).get p hp';cases e2;have q0:=hc2 0 _ rfl;obtain ⟨⟨yt,yc⟩,hy⟩:∃ x,D[p] = x:=⟨_,rfl⟩;rw [hy] at q0;rw [Nat.add_zero] at q0;dsimp only at q0;have e1:decide ((0:Int) < ((p + 1:Nat):Int)) = true:=by first | (simp; done) | (simp; omega)
    have hwr:IntKind.i64.wrap (((p + 1:Nat):Int) - 1) = (p:Int):=by rw [IntKind.wrap_i64]; omega
    have hpn:(p:Int) < (n:Int):=by omega
    have hlt3:Op.bytesLess yt xt = decide (yt < xt):=bytesLess_eq yt xt
    have hasc:ascE D p = decide (yt < xt):=by
     unfold ascE;rw [List.getD,List.getElem?_eq_getElem hp',List.getD,List.getElem?_eq_getElem hlt',HX.out,hy]; rfl
    have HAsc:=zjp hasc;clear hc2 hy hasc hbw;by_cases hyx:yt < xt
    ·have hd:Op.bytesLess yt xt = true:=by rw [hlt3]; simpa using hyx
     have HT:=zjp (show ∀ j,j + 1 < p + 1 + 1→ascE D j = true from fun j hj=>by
      by_cases ej:j = p
      ·rw [ej,HAsc.out]; simpa using hyx
      ·exact HA.out j (by omega))
     clear hlt3 hyx HAsc;go_wp2_with fail
     go_quiet (fail)
     go_wp2_with fail
     go_roundw
     case rel=>exact ⟨p + 1 + 1,by go_num,by omega,HT,below_drewN ((HB.out.alloc HB.out.size _)) _⟩
     case measure=>simp [intOf]; omega
    ·have hd:Op.bytesLess yt xt = false:=by rw [hlt3]; simpa using hyx
     have HT:=zjp (show zcg D = 12 by
      unfold zcg
      rw [if_neg (by rw [HN.out]; exact h64),if_pos (ascD_no (j:=p) (by omega) (by rw [HAsc.out]; simpa using hyx))])
     clear hlt3 hyx HAsc;go_wp2_with fail
     go_quiet (fail)
     go_wp2_with fail
     go_ret;exact ⟨HF.out _ HT.out,below_drewN ((HB.out.alloc HB.out.size _)) _⟩
  ·have hq:decide ((k:Int) < n) = false:=by simp; omega
   have HT:=zjp (show ascD D = true from ascD_all fun j hj=>HA.out j (by rw [HN.out] at hj; omega))
   obtain ⟨bb,hbb⟩:∃ bb,D.any badEn = bb:=⟨_,rfl⟩;have HBB:=zjp hbb;clear hbw hbb;go_wp2_with fail
   refine (encont_any S _ D _ (by have:=HV.out.below HB.out; exact this) (by rw [HN.out]; exact hn)).mono ?_;rw [HBB.out];rintro e w2 ⟨rfl,hb⟩;have HB2:=zjp (HB.out.trans (hb.mono HB.out.size));clear hb;cases bb
   ·go_wp2_with fail
    go_ret;exact ⟨HF.out _ (by unfold zcg; rw [if_neg (by rw [HN.out]; exact h64),if_neg (by rw [HT.out]; simp),if_neg (by rw [HBB.out]; simp)]),HB2.out⟩
   ·go_wp2_with fail
    go_ret;exact ⟨HF.out _ (by unfold zcg; rw [if_neg (by rw [HN.out]; exact h64),if_neg (by rw [HT.out]; simp),if_pos HBB.out]),HB2.out⟩
end
section
open Go.RowKit
def notV (b:BitsL):Bool:=!zap b
theorem notV_any (S:Nat→Prop) (v:Value) (b:BitsL) (w:World) (h:BitsAt w S v b) (hi:InI b.len) :
  Calls prog 109 #[v] w fun e w'=>e = .returned (.bool (notV b))∧Below w.heap.size w w':=by
 obtain ⟨s,rfl,hv⟩:=h;obtain ⟨a,cap,rfl⟩:=hv.slice;have HV:=zjp hv; clear hv;unfold notV;obtain ⟨vb,hvb⟩:∃ vb,zap b = vb:=⟨_,rfl⟩;rw [hvb];have HVb:=zjp hvb;clear hvb;go_enter func109,ntmps109
 go_wp2_with fail
 refine zai (fun W hW=>?_)
 have hb0:=xal hW
 clear hW;refine (zfk S _ b W ⟨_,rfl,HV.out.below hb0⟩ hi.1 hi.2).mono ?_;rw [HVb.out];rintro e w1 ⟨rfl,hb⟩;have HB:=zjp (hb0.trans (hb.mono hb0.size));clear hb hb0;go_wp2_with fail
 go_ret;exact ⟨rfl,HB.out⟩
theorem bidxN_any (S:Nat→Prop) (v:Value) (L:List BitsL) (w:World) (h:BitsVec w S v L) (hi:∀ b∈L,InI b.len) (hn:L.length≤1000000) :
  Calls prog 148 #[v,.func (.func 109) #[] #[]] w fun e w'=>e = .returned (.int .i64 (idxG notV 0 L))∧Below w.heap.size w w':=by
 obtain ⟨a,cap,rfl⟩:=h.slice;have HV:=zjp h; have HI:=zjp hi; clear h hi;obtain ⟨r,hr⟩:∃ r,idxG notV 0 L = r:=⟨_,rfl⟩;rw [hr];have HR:=zjp hr; clear hr;go_enter func148,ntmps148
 go_wp2_with fail
 go_loopw [8] (fun i wr=>∃ k:Nat,i = .int .i64 k∧k≤L.length∧Hid (idxG notV k (L.drop k) = r)∧Below w.heap.size w wr) (fun i _=>L.length - (intOf i).toNat)
 case atStart=>exact ⟨0,rfl,by omega,zjp HR.out,Below.refl _ _⟩
 case round =>
  obtain ⟨k,rfl,hk,HT,hbw⟩:=hrel;have HB:=zjp hbw; clear hbw;by_cases hlt:k < L.length
  ·have hq:decide ((k:Int) < L.length) = true:=by simp; omega
   have hklen:(k:Int) < (L.length:Int):=by omega
   have HW:=zjp (HV.out.below HB.out);obtain ⟨b,off,c,rfl,lb,c0,c1,hat⟩:=HW.out.at k hlt;have ht:=HT.out;rw [List.drop_eq_getElem_cons hlt] at ht;have hin:=HI.out _ (List.getElem_mem hlt);rw [za5 _ _ hlt] at hat;obtain ⟨x,hx⟩:∃ x,L[k] = x:=⟨_,rfl⟩;rw [hx] at hat ht hin;obtain ⟨cl,cA,cn,cc⟩:=c;have HAt:=zjp hat; have HIn:=zjp hin;dsimp only at c0 c1;clear HT hx hat hin;unfold idxG at ht;cases hp:notV x
   ·rw [hp] at ht
    have HT:=zjp (show idxG notV (k + 1) (L.drop (k + 1)) = r from ht);have HP:=zjp hp;clear ht hp;go_wp2_with fail
    refine (notV_any S _ x _ HAt.out HIn.out).mono ?_;rw [HP.out];rintro e w1 ⟨rfl,hb⟩;have HB1:=zjp (HB.out.trans (hb.mono HB.out.size));clear hb;go_wp2_with fail
    go_roundw
    case rel=>exact ⟨k + 1,by go_num,by omega,HT,HB1.out⟩
    case measure=>simp [intOf]; omega
   ·rw [hp] at ht
    have HT2:=zjp (show Ending.returned (.int .i64 (k:Int)) = Ending.returned (.int .i64 r) by rw [show (k:Int) = r from ht]);have HP:=zjp hp;clear ht hp;go_wp2_with fail
    refine (notV_any S _ x _ HAt.out HIn.out).mono ?_;rw [HP.out];rintro e w1 ⟨rfl,hb⟩;have HB1:=zjp (HB.out.trans (hb.mono HB.out.size));clear hb;go_wp2_with fail
    go_ret;exact ⟨HT2.out,HB1.out⟩
  ·have hq:decide ((k:Int) < L.length) = false:=by simp; omega
   have ht:=HT.out;rw [List.drop_eq_nil_of_le (by omega)] at ht;have HT2:=zjp (show Ending.returned (.int .i64 (-1:Int)) = Ending.returned (.int .i64 r) by rw [show (-1:Int) = r from ht]);clear HT ht;go_wp2_with fail
   go_ret;exact ⟨HT2.out,HB.out⟩
theorem idxG_split {α:Type} (p:α→Bool) (L:List α):∀ i:Nat,(idxG p i L = -1∧∀ x∈L,p x = false)∨∃ k:Nat,idxG p i L = ((i + k:Nat):Int)∧∃ h:k < L.length,p L[k] = true∧∀ x∈L.take k,p x = false:=by
 induction L with
 | nil=>intro i; exact .inl ⟨rfl,fun x hx=>by simp at hx⟩
 | cons y L ih =>
  intro i;cases hp:p y
  ·rcases ih (i + 1) with ⟨h1,h2⟩ | ⟨k,h1,h2,h3,h4⟩
   ·refine .inl ⟨by unfold idxG; rw [hp]; exact h1,fun x hx=>?_⟩
    rcases List.mem_cons.1 hx with rfl | hx
    ·exact hp
    ·exact h2 x hx
   ·refine .inr ⟨k + 1,by unfold idxG; rw [hp]; show idxG p (i + 1) L = _; rw [h1]; congr 1; omega,by simpa using h2,by simpa using h3,fun x hx=>?_⟩
    rw [List.take_succ_cons] at hx
    rcases List.mem_cons.1 hx with rfl | hx
    ·exact hp
    ·exact h4 x hx
  ·exact .inr ⟨0,by unfold idxG; rw [hp]; simp,by simp,by simpa using hp,fun x hx=>by simp at hx⟩
structure DelAt (w0 w:World) (g cap:Nat) (C D:List BV) (i j:Nat) (wr:World):Prop where
 own:wr.ownsRow w0.heap.size 56 2 (.slice (some ⟨g,0,none⟩) C.length cap) C.length (D.flatMap za3)
 b:Below w0.heap.size w0 wr
 len:D.length = C.length
 head:D.take i = (C.take j).filter ze2
 tail:D.drop j = C.drop j
 ij:i≤j
 keep:∀ k o,k≠g→w.heap[k]? = some o→wr.heap[k]? = some o
 size:w.heap.size≤wr.heap.size
theorem DelAt.below {w0 w:World} {g cap:Nat} {C D:List BV} {i j:Nat} {wr wx:World} (h:DelAt w0 w g cap C D i j wr) (hb:Below wr.heap.size wr wx):DelAt w0 w g cap C D i j wx :=
 ⟨zcb h.own hb,h.b.trans (hb.mono h.b.size),h.len,h.head,h.tail,h.ij,fun k o hk ho=>zab hb (zaa (h.keep k o hk ho)) (h.keep k o hk ho),Nat.le_trans h.size hb.size⟩
theorem DelAt.skip {w0 w:World} {g cap:Nat} {C D:List BV} {i j:Nat} {wr:World} (h:DelAt w0 w g cap C D i j wr) (hj:j < C.length) (hv:ze2 C[j] = false):DelAt w0 w g cap C D i (j + 1) wr:=by
 refine ⟨h.own,h.b,h.len,?_,?_,by have:=h.ij; omega,h.keep,h.size⟩
 ·rw [h.head,List.take_succ_eq_append_getElem hj,List.filter_append]; simp [hv]
 ·have:=congrArg List.tail h.tail
  rwa [List.tail_drop,List.tail_drop] at this
theorem DelAt.elem {w0 w:World} {g cap:Nat} {C D:List BV} {i j:Nat} {wr:World} (h:DelAt w0 w g cap C D i j wr) (hj:j < C.length) (hjD:j < D.length):D[j] = C[j]:=by
 have h1:=congrArg (fun l=>l[0]?) h.tail
 simp only [List.getElem?_drop,Nat.add_zero] at h1;rw [List.getElem?_eq_getElem hjD,List.getElem?_eq_getElem hj] at h1;exact Option.some.inj h1
theorem DelAt.put {w0 w:World} {g cap:Nat} {C D:List BV} {i j:Nat} {wr:World} (h:DelAt w0 w g cap C D i j wr) (hj:j < C.length) (hv:ze2 C[j] = true) (hi:i < j) :
  DelAt w0 w g cap C (D.set i C[j]) (i + 1) (j + 1) ((wr.setCell ⟨g,i * 2,none⟩ (.int .i64 C[j].len)).setCell ⟨g,i * 2 + 1,none⟩ (.slice C[j].a C[j].n C[j].c)):=by
 have hiD:i < D.length:=by rw [h.len]; omega
 have hgB:w0.heap.size≤g:=(World.ownsRow.lt h.own g rfl).1
 refine ⟨own_set2 h.own rfl i hiD C[j],(h.b.setCell (p:=⟨g,i * 2,none⟩) hgB _).setCell (p:=⟨g,i * 2 + 1,none⟩) hgB _,by rw [List.length_set]; exact h.len,?_,?_,by omega,fun k o hk ho=>zan (zan (h.keep k o hk ho) hk) hk,by simpa [World.setCell] using h.size⟩
 ·rw [List.take_succ_eq_append_getElem (by rw [List.length_set]; exact hiD),List.getElem_set_self,List.take_set_of_le (Nat.le_refl i),h.head,List.take_succ_eq_append_getElem hj,List.filter_append]
  simp [hv]
 ·rw [List.drop_set_of_lt (by omega)]
  have:=congrArg List.tail h.tail;rwa [List.tail_drop,List.tail_drop] at this
end
section
open Go.RowKit
def ze9 (b:BitsL) (g:GrpL):Bool:=decide (zg1 g.arr b = 0)
theorem grpEq_any (S T:Nat→Prop) (x:GV) (bb:Nat) (u:BV) (b:BitsL) (w:World) (hx:Vec w S 1 zc2 (.slice x.wa x.wn x.wc) x.ws) (hn:x.ws.length≤1000000) (hb:w.heap[bb]? = some (.cells (za3 u).toArray 56 (0,0))) (hu:BitsAt w T (.agg (za3 u).toArray) b) :
  Calls prog 99 #[.agg (zfx x).toArray,.pointer (some ⟨bb,0,none⟩)] w fun e w'=>e = .returned (.bool (ze9 b (pG x)))∧Below w.heap.size w w':=by
 obtain ⟨ul,ua,un,uc⟩:=u;obtain ⟨xl,wa,wn,wc,xa,xn,xc,ws,mem⟩:=x;have hat:BitsAt w S (.agg #[.int .i64 xl,.slice wa wn wc]) ⟨xl,ws⟩:=⟨_,rfl,hx⟩;obtain ⟨u0,u1⟩:=zae hb;obtain ⟨r,hr⟩:∃ r,zg1 (⟨xl,ws⟩:BitsL) b = r:=⟨_,rfl⟩
 have hg:ze9 b (pG ⟨xl,wa,wn,wc,xa,xn,xc,ws,mem⟩) = (r == 0):=by
  show decide (zg1 ⟨xl,ws⟩ b = 0) = _;rw [hr]; rfl
 rw [hg];have HR:=zjp hr;have HAt:=zjp hat; have HU:=zjp hu;have lb:=zaa hb;dsimp only at u0 u1 hn;clear hr hg hat hu hx hb;go_enter func99,ntmps99
 go_wp2_with fail
 refine zai (fun W hW=>?_)
 have b1:=xal hW
 clear hW;refine (cmpB_any S T _ _ ⟨xl,ws⟩ b _ (HAt.out.below b1) (HU.out.below b1) hn).mono ?_;rw [HR.out];rintro e w1 ⟨rfl,hb1⟩;have HB:=zjp (b1.trans (hb1.mono b1.size));clear b1 hb1;go_wp2_with fail
 go_ret;exact ⟨rfl,HB.out⟩
theorem gidx_any (S T:Nat→Prop) (v:Value) (C:List GV) (bb:Nat) (u:BV) (b:BitsL) (w:World) (h:Vec w S 3 zfx v C) (hw:∀ x∈C,Vec w S 1 zc2 (.slice x.wa x.wn x.wc) x.ws∧x.ws.length≤1000000) (hb:w.heap[bb]? = some (.cells (za3 u).toArray 56 (0,0))) (hu:BitsAt w T (.agg (za3 u).toArray) b) (hn:C.length≤1000000) :
  Calls prog 98 #[v,.func (.func 99) #[] #[.pointer (some ⟨bb,0,none⟩)]] w fun e w'=>e = .returned (.int .i64 (idxG (fun x=>ze9 b (pG x)) 0 C))∧Below w.heap.size w w':=by
 obtain ⟨a,cap,rfl⟩:=h.slice;have HV:=zjp h; have HI:=zjp hw; have HBx:=zjp hb; have HU:=zjp hu;have lb:=zaa hb;clear h hw hb hu;obtain ⟨p,hp⟩:∃ p:GV→Bool,(fun x=>ze9 b (pG x)) = p:=⟨_,rfl⟩
 have HP:=zjp hp;rw [hp];obtain ⟨r,hr⟩:∃ r,idxG p 0 C = r:=⟨_,rfl⟩;rw [hr];have HR:=zjp hr; clear hr hp;go_enter func98,ntmps98
 go_wp2_with fail
 go_loopw [8] (fun i wr=>∃ k:Nat,i = .int .i64 k∧k≤C.length∧Hid (idxG p k (C.drop k) = r)∧Below w.heap.size w wr) (fun i _=>C.length - (intOf i).toNat)
 case atStart=>exact ⟨0,rfl,by omega,zjp HR.out,Below.refl _ _⟩
 case round =>
  obtain ⟨k,rfl,hk,HT,hbw⟩:=hrel;have HB:=zjp hbw; clear hbw;by_cases hlt:k < C.length
  ·have hq:decide ((k:Int) < C.length) = true:=by simp; omega
   have hklen:(k:Int) < (C.length:Int):=by omega
   obtain ⟨g,off,rfl,lg,hc⟩:=(HV.out.below HB.out).get k hlt;have hin:=HI.out _ (List.getElem_mem hlt);have ht:=HT.out;rw [List.drop_eq_getElem_cons hlt] at ht;obtain ⟨x,hx⟩:∃ x,C[k] = x:=⟨_,rfl⟩;rw [hx] at hc ht hin;have c0:=hc 0 _ rfl; have c1:=hc 1 _ rfl; have c2:=hc 2 _ rfl;rw [Nat.add_zero] at c0;have hpx:p x = ze9 b (pG x):=by rw [← HP.out]
   have HPx:=zjp hpx; have HIn:=zjp hin;have hbb:=zab HB.out lb HBx.out;have HBB:=zjp hbb;clear HT hx hin hc hpx hbb;unfold idxG at ht;have hgo:=fun (W:World) (hb1:Below w.heap.size w W)=>grpEq_any S T x bb u b W (HIn.out.1.below hb1) HIn.out.2 (zab hb1 lb HBx.out) (HU.out.below hb1)
   have HGo:=zjp hgo;clear hgo;obtain ⟨xl,wa,wn,wc,xa,xn,xc,ws,mem⟩:=x;dsimp only at c0 c1 c2;cases hp:p ⟨xl,wa,wn,wc,xa,xn,xc,ws,mem⟩
   ·rw [hp] at ht
    have HT:=zjp (show idxG p (k + 1) (C.drop (k + 1)) = r from ht);have hpe:=HPx.out;rw [hp] at hpe;have HPe:=zjp hpe.symm;clear ht hp hpe;go_wp2_with fail
    refine (HGo.out _ HB.out).mono ?_;rw [HPe.out];rintro e w1 ⟨rfl,hb⟩;have HB1:=zjp (HB.out.trans (hb.mono HB.out.size));clear hb;go_wp2_with fail
    go_roundw
    case rel=>exact ⟨k + 1,by go_num,by omega,HT,HB1.out⟩
    case measure=>simp [intOf]; omega
   ·rw [hp] at ht
    have HT2:=zjp (show Ending.returned (.int .i64 (k:Int)) = Ending.returned (.int .i64 r) by rw [show (k:Int) = r from ht]);have hpe:=HPx.out;rw [hp] at hpe;have HPe:=zjp hpe.symm;clear ht hp hpe;go_wp2_with fail
    refine (HGo.out _ HB.out).mono ?_;rw [HPe.out];rintro e w1 ⟨rfl,hb⟩;have HB1:=zjp (HB.out.trans (hb.mono HB.out.size));clear hb;go_wp2_with fail
    go_ret;exact ⟨HT2.out,HB1.out⟩
  ·have hq:decide ((k:Int) < C.length) = false:=by simp; omega
   have ht:=HT.out;rw [List.drop_eq_nil_of_le (by omega)] at ht;have HT2:=zjp (show Ending.returned (.int .i64 (-1:Int)) = Ending.returned (.int .i64 r) by rw [show (-1:Int) = r from ht]);clear HT ht;go_wp2_with fail
   go_ret;exact ⟨HT2.out,HB.out⟩
end
section
open Go.RowKit
theorem filter_all {α:Type} {p:α→Bool} {l:List α} (h:∀ x∈l,p x = true):l.filter p = l:=List.filter_eq_self.2 h
theorem own_row {w:World} {B e size n:Nat} {g cap:Nat} {xs:List Value} (h:w.ownsRow B e size (.slice (some ⟨g,0,none⟩) n cap) n xs):∃ cur,w.heap[g]? = some (.cells cur e (0,0))∧B≤g∧n≤cap∧cap≤maxLen∧cur.size = cap * size∧cur.toList.take (n * size) = xs:=by
 rcases h.2 with ⟨e,_⟩ | ⟨g',cap',cur,e,hB,hh,h1,h2,h3,h4⟩
 ·cases e
 ·cases e; exact ⟨cur,hh,hB,h1,h2,h3,h4⟩
theorem zeroBits:∀ w,(zeroValue 56).run prog w = .ok (.agg #[.int .i64 0,.slice none 0 0]) w:=fun _=>by kernel_rfl
theorem DelAt.cleared {w0 w:World} {g cap:Nat} {C D:List BV} {i:Nat} {wr:World} (h:DelAt w0 w g cap C D i C.length wr) (vs:List Value) (hiC:i≤C.length) :
  OwnV 56 2 za3 w0 (.slice (some ⟨g,0,none⟩) i cap) (C.filter ze2) (wr.setCells g (i * 2) vs)∧(∀ k o,k≠g→w.heap[k]? = some o→(wr.setCells g (i * 2) vs).heap[k]? = some o)∧w.heap.size≤(wr.setCells g (i * 2) vs).heap.size:=by
 obtain ⟨cur,hcur,hB,h1,h2,h3,h4⟩:=own_row h.own;obtain ⟨cur',e1,e2,e3,e4,e5⟩:=zit vs (i * 2) wr cur hcur;have hhead:D.take i = C.filter ze2:=by rw [h.head,List.take_of_length_le xnl]
 have hfl:(C.filter ze2).length = i:=by rw [← hhead,List.length_take,h.len]; omega
 have hb:=e5 w0.heap.size w0 hB h.b
 refine ⟨⟨?_,hb⟩,fun k o hk ho=>e4 k o hk (h.keep k o hk ho),?_⟩
 ·rw [hfl]
  refine ⟨by rw [zd3 (k:=2) (enc:=za3) (fun _=>rfl),hfl],.inr ⟨g,cap,cur',rfl,hB,e1,by omega,h2,by rw [e2]; exact h3,?_⟩⟩
  have ht:cur'.toList.take (i * 2) = cur.toList.take (i * 2):=by
   apply List.ext_getElem?;intro q;rw [List.getElem?_take,List.getElem?_take];by_cases hq:q < i * 2
   ·rw [if_pos hq,if_pos hq]
    have:=e3 q hq;simpa using this
   ·rw [if_neg hq,if_neg hq]
  rw [ht,← hhead]
  have h5:cur.toList.take (i * 2) = (D.flatMap za3).take (i * 2):=by
   rw [← h4,List.take_take,Nat.min_eq_left (by omega)]
  rw [h5,flat_takeK (k:=2) (enc:=za3) (fun _=>rfl)]
 ·have:wr.heap.size≤(wr.setCells g (i * 2) vs).heap.size:=by
   rcases Nat.lt_or_ge (wr.setCells g (i * 2) vs).heap.size wr.heap.size with hlt | hge
   ·exfalso
    have hlast:wr.heap[(wr.setCells g (i * 2) vs).heap.size]? = some wr.heap[(wr.setCells g (i * 2) vs).heap.size]:=Array.getElem?_eq_getElem hlt;by_cases hk:(wr.setCells g (i * 2) vs).heap.size = g
    ·have:=zaa e1; omega
    ·have:=zaa (e4 _ _ hk hlast); omega
   ·exact hge
  exact Nat.le_trans h.size this
def DelPost (w0 w:World) (v:Value) (C:List BV) (e:Ending) (w':World):Prop :=
 ∃ v',e = .returned v'∧OwnV 56 2 za3 w0 v' (C.filter ze2) w'∧(∀ k o,some k≠v.ownBlock→w.heap[k]? = some o→w'.heap[k]? = some o)∧w.heap.size≤w'.heap.size
theorem bdel_any (w0:World) (v:Value) (C:List BV) (L:List BitsL) (w:World) (ho:OwnV 56 2 za3 w0 v C w) (hA:BitsAll w (fun b=>some b≠v.ownBlock) C L) (hi:∀ b∈L,InI b.len) (hn:L.length≤1000000) :
  Calls prog 107 #[v,.func (.func 109) #[] #[]] w (DelPost w0 w v C):=by
 have hlen:=hA.1;have hvec:BitsVec w zav v L:=⟨C,(OwnV.vec (size:=2) (enc:=za3) (fun _=>rfl) ho).any,hA.weaken fun _ _=>trivial⟩
 have hform:=ho.form;have HO:=zjp ho; have HA:=zjp hA; have HI:=zjp hi; have HVec:=zjp hvec;have hvf:=fun (k:Nat) (h1:k < C.length) (h2:k < L.length)=>validV_eq (hA.2 k h1 h2)
 have HVf:=zjp hvf;obtain ⟨a,cap,ev⟩:=zau ho.1;subst ev;have HLen:=zjp hlen;clear ho hA hi hvec hvf hlen;go_enter func107,ntmps107
 go_wp2_with fail
 refine (bidxN_any zav _ L _ HVec.out HI.out hn).mono ?_;rintro e w1 ⟨rfl,hb⟩;have HB:=zjp hb;clear hb;have hlen:=HLen.out
 rcases idxG_split notV L 0 with ⟨h1,h2⟩ | ⟨k,h1,hk,h2,h3⟩
 ·have hall:C.filter ze2 = C:=filter_all fun c hc=>by
   obtain ⟨q,hq,rfl⟩:=List.mem_iff_getElem.1 hc;rw [HVf.out q hq (by omega)];have:=h2 _ (List.getElem_mem (show q < L.length by omega));unfold notV at this;simpa using this
  have HAll:=zjp hall;rw [h1];clear h1 h2 hall hlen hform;go_wp2_with fail
  go_ret;exact ⟨_,rfl,by rw [HAll.out]; exact HO.out.below HB.out,fun k o _ hk=>zab HB.out (zaa hk) hk,HB.out.size⟩
 ·rw [h1,Nat.zero_add]
  have hkC:k < C.length:=by omega
  rcases hform with ⟨_,h0⟩ | ⟨g,cp,e0,hcp,hcm,lg⟩
  ·rw [h0] at hkC; simp at hkC
  cases e0;have hnv:ze2 C[k] = false:=by rw [HVf.out k hkC hk]; unfold notV at h2; simpa using h2
  have hpre:(C.take k).filter ze2 = C.take k:=filter_all fun c hc=>by
   obtain ⟨q,hq,rfl⟩:=List.mem_iff_getElem.1 hc;rw [List.length_take] at hq;rw [List.getElem_take,HVf.out q (by omega) (by omega)];have:=h3 L[q] (List.mem_iff_getElem.2 ⟨q,by rw [List.length_take]; omega,by rw [List.getElem_take]⟩);unfold notV at this;simpa using this
  have hD0:DelAt w0 w g cap C C k (k + 1) w1 :=
   ⟨(HO.out.below HB.out).1,(HO.out.below HB.out).2,rfl,by rw [List.take_succ_eq_append_getElem hkC,List.filter_append,hpre]; simp [hnv],rfl,by omega,fun q o _ hq=>zab HB.out (zaa hq) hq,HB.out.size⟩
  have HD0:=zjp hD0;obtain ⟨n,hnC⟩:∃ n,C.length = n:=⟨_,rfl⟩;have HNc:=zjp hnC;have hnn:n≤1000000:=by omega
  have hkn:k < n:=by omega
  have hcap:n≤cap:=by omega
  have hcap2:cap≤9223372036854775807:=by unfold maxLen at hcm; exact hcm
  have dk:((k:Int) == -1) = false:=by first | (simp; done) | (simp; omega)
  have HLn:=zjp (show L.length = n by omega);rw [hnC];clear h1 h2 h3 hnv hpre hD0 hlen hcp hcm hnC hk hkC lg hn;go_wp2_with fail
  go_loopw [5,6] (fun i j wr=>∃ (i' j':Nat) (D:List BV),i = .int .i64 i'∧j = .int .i64 j'∧j'≤n∧i' < j'∧DelAt w0 w g cap C D i' j' wr) (fun _ j _=>n - (intOf j).toNat)
  case atStart=>exact ⟨k,k + 1,C,rfl,by go_num,by omega,by omega,HD0.out⟩
  case round =>
   obtain ⟨i,j,D,rfl,rfl,hj,hij,hd⟩:=hrel;obtain ⟨WR,hWR⟩:∃ u,u = wr:=⟨_,rfl⟩;subst hWR;have HD:=zjp hd;by_cases hlt:j < n
   ·have hq:decide ((j:Int) < n) = true:=by simp; omega
    have hjC:j < C.length:=by rw [HNc.out]; exact hlt
    have hjL:j < L.length:=by rw [HLn.out]; exact hlt
    have hjD:j < D.length:=by rw [hd.len]; exact hjC
    have hjn:(j:Int) < (n:Int):=by omega
    have hvecD:=Vec.owns (S:=zav) (k:=2) (enc:=za3) (fun _=>rfl) (L:=D) (by rw [hd.len]; exact hd.own) (fun _ _ _=>trivial)
    obtain ⟨b',off',e',lb',hc'⟩:=hvecD.get j hjD;cases e';have c0:=hc' 0 _ rfl; have c1:=hc' 1 _ rfl;rw [hd.elem hjC hjD] at c0 c1;rw [Nat.zero_add] at c1; rw [Nat.add_zero,Nat.zero_add] at c0;have hat:=HA.out.2 j hjC hjL;have hval:=HVf.out j hjC hjL;have hin:=HI.out _ (List.getElem_mem hjL);have hput:=fun (w9:World) (h9:DelAt w0 w g cap C D i j w9) hv=>h9.put hjC hv hij
    have hskip:=hd.skip hjC;obtain ⟨x,hx⟩:∃ x,C[j] = x:=⟨_,rfl⟩;obtain ⟨bl,hbl⟩:∃ x,L[j] = x:=⟨_,rfl⟩;rw [hx] at c0 c1 hat hval hskip;simp only [hx] at hput;rw [hbl] at hat hval hin;obtain ⟨xl,xa,xn,xc⟩:=x;dsimp only at c0 c1 hput
    have hatR:BitsAt WR zav (.agg #[.int .i64 xl,.slice xa xn xc]) bl:=by
     obtain ⟨s,e,hv⟩:=hat
     exact ⟨s,e,(hv.move (S':=fun b=>b < w.heap.size∧some b≠(Value.slice (some ⟨g,0,none⟩) C.length cap).ownBlock) xnl fun b hb hs=>⟨rfl,hb,hs⟩).move hd.size fun b hb hs=>⟨by
      have e1:w.heap[b]? = some w.heap[b]:=Array.getElem?_eq_getElem hb;rw [e1]
      exact hd.keep b _ (fun e=>hs.2 (by rw [e]; rfl)) e1,trivial⟩⟩
    obtain ⟨cur,hcur,-,-,-,hcs,-⟩:=own_row hd.own;have HAt:=zjp hatR; have HIn:=zjp hin; have HPut:=zjp hput; have HSkip:=zjp hskip; have HCur:=zjp hcur;have hnot:notV bl = !ze2 ⟨xl,xa,xn,xc⟩:=by unfold notV; rw [hval]
    have HNot:=zjp hnot;have hcs2:i * 2 + 1 < cur.size:=by rw [hcs]; omega
    have lg:=zaa hcur;clear hc' hat hval hin hput hskip hx hbl hatR hcur hnot hd hvecD hcs hjC hjL hjD lb';go_wp2_with fail
    refine zai (fun WA hWA=>?_)
    have bA:=xal hWA
    have gA:WA.heap[WR.heap.size]? = some (.cells #[.int .i64 xl,.slice xa xn xc] 56 (0,0)):=by rw [hWA]; exact zac rfl
    clear hWA;refine (notV_any zav _ bl _ (HAt.out.below bA) HIn.out).mono ?_;obtain ⟨vx,hvx⟩:∃ vx,ze2 ⟨xl,xa,xn,xc⟩ = vx:=⟨_,rfl⟩;have hnx:=HNot.out;rw [hvx] at hnx;rw [hnx];have HVx:=zjp hvx;rintro e w3 ⟨rfl,hb⟩;have b3:=bA.trans (hb.mono bA.size);have HB3:=zjp b3;have gA3:=zab hb (zaa gA) gA;obtain ⟨T,hT⟩:∃ T,WR.heap.size = T:=⟨_,rfl⟩;rw [hT] at gA3;obtain ⟨t0,t1⟩:=zae gA3;have lT:=zaa gA3;have gC3:=zab b3 lg HCur.out;have hTg:T≠g:=by omega
    clear bA gA hb hvx hnx c0 c1 gA3;cases vx
    ·have hd3:=zjp ((HSkip.out HVx.out).below b3)
     clear b3 gC3;rw [hT];go_wp2_with fail
     go_roundw
     case rel=>exact ⟨i,j + 1,D,rfl,by go_num,by omega,by omega,hd3.out⟩
     case measure=>simp [intOf]; omega
    ·have q0:(w3.cell? ⟨g,i * 2,none⟩).isSome = true:=by rw [cell_of_row _ _ _ _ _ _ gC3,Array.getElem?_eq_getElem (by omega)]; rfl
     have q1:(w3.cell? ⟨g,i * 2 + 1,none⟩).isSome = true:=by rw [cell_of_row _ _ _ _ _ _ gC3,Array.getElem?_eq_getElem hcs2]; rfl
     obtain ⟨v0,q0⟩:=Option.isSome_iff_exists.1 q0;obtain ⟨v1,q1⟩:=Option.isSome_iff_exists.1 q1;have ff0:=frozen_of_row _ _ (i * 2) _ _ gC3; have ff1:=frozen_of_row _ _ (i * 2 + 1) _ _ gC3;have lg3:=zaa gC3;have hin2:(i:Int) < (n:Int):=by omega
     have hd3:=zjp (show DelAt w0 w g cap C (D.set i ⟨xl,xa,xn,xc⟩) (i + 1) (j + 1) ((w3.setCell ⟨g,i * 2,none⟩ (.int .i64 xl)).setCell ⟨g,i * 2 + 1,none⟩ (.slice xa xn xc)) from HPut.out w3 (HD.out.below b3) HVx.out);clear b3 gC3;rw [hT];go_wp2_with fail
     go_roundw
     case rel=>exact ⟨i + 1,j + 1,_,by go_num,by go_num,by omega,by omega,hd3.out⟩
     case measure=>simp [intOf]; omega
   ·have hq:decide ((j:Int) < n) = false:=by simp; omega
    obtain ⟨cur,hcur,-,-,-,hcs,-⟩:=own_row hd.own;have hjn:j = C.length:=by rw [HNc.out]; omega
    rw [hjn] at hd;have hin3:i≤C.length:=by rw [HNc.out]; omega
    obtain ⟨vs,hvs⟩:=run_clear2 (P:=prog) WR 57 56 _ underlying57 zeroBits rfl g (i * 2) (n - i) (cap - i) (by omega)
     (fun q hq'=>by rw [cell_of_row _ _ _ _ _ _ hcur,Array.getElem?_eq_getElem (by rw [hcs]; omega)]; rfl) (fun q hq'=>frozen_of_row _ _ _ _ _ hcur)
    have hclr:=zjp (hd.cleared vs hin3);have s1:(i:Int)≤(n:Int):=by omega
    have s2:(i:Int)≤(cap:Int):=by omega
    have s3:¬ cap = i:=by omega
    have s4:(n:Int)≤(cap:Int):=by omega
    clear hd hcur hcs hjn hin3;go_wp2_with fail
    go_ret;exact ⟨_,rfl,hclr.out.1,fun k o hk ho=>hclr.out.2.1 k o (fun e=>hk (by rw [e]; rfl)) ho,hclr.out.2.2⟩
end
section
open Go.RowKit
def zep:BitsL→List BitsL→Option BitsL
 | a,[]=>some a
 | a,b :: r=>(andB a b).bind fun x=>zep x r
theorem zin (b:BitsL):∀ (r:List BitsL) (a:BitsL),zep a (r ++ [b]) = (zep a r).bind fun x=>andB x b
 | [],a=>by simp [zep]
 | c :: r,a=>by
  simp only [List.cons_append,zep];cases andB a c with
  | none=>rfl
  | some x=>exact zin b r x
theorem zio (l:List BitsL):∀ (r:List BitsL) (a:BitsL),zep a r = none→zep a (r ++ l) = none
 | [],a,h=>by simp [zep] at h
 | c :: r,a,h=>by
  simp only [List.cons_append,zep] at h ⊢;cases hc:andB a c with
  | none=>rfl
  | some x=>rw [hc] at h; exact zio l r x h
def zbw (L:List BitsL):Int :=
 match L.filter zap with
 | []=>0
 | b :: r=>match zep b r with
  | none=>0
  | some x=>zcp x
theorem zip_range (A B:List Int):zg4 (zh7 A B):=by
 intro x hx;unfold zh7 at hx;rw [List.mem_iff_getElem] at hx;obtain ⟨i,hi,rfl⟩:=hx;rw [List.getElem_zipWith];exact bits_range .and _ _
def CloneBPost (S:Nat→Prop) (L:List BitsL) (w:World) (e:Ending) (w':World):Prop :=
 ∃ (v':Value) (C:List BV),e = .returned v'∧OwnV 56 2 za3 w v' C w'∧BitsAll w' (fun b=>b < w.heap.size∧S b) C L
theorem bclone_any (S:Nat→Prop) (v:Value) (L:List BitsL) (w:World) (h:BitsVec w S v L) (hn:L.length≤1000000) :
  Calls prog 108 #[v] w (CloneBPost S L w):=by
 obtain ⟨C,hC,hA⟩:=h;have hlen:=hA.1;obtain ⟨a,cap,rfl⟩:=hC.slice;have hA2:BitsAll w (fun b=>b < w.heap.size∧S b) C L:=hA.move xnl fun b hb hs=>⟨rfl,hb,hs⟩
 have HC:=zjp hC; have HA:=zjp hA2;obtain ⟨n,hnC⟩:∃ n,C.length = n:=⟨_,rfl⟩;have HN:=zjp hnC;rw [hnC];have hn2:n≤1000000:=by omega
 clear hA hA2
 rcases a with _ | ad
 ·have h0:C = []:=by
   rcases Nat.eq_zero_or_pos C.length with h1 | h1
   ·exact List.length_eq_zero_iff.1 h1
   ·obtain ⟨b,off,e,_⟩:=hC.get 0 h1
    cases e
  have H0:=zjp h0;have hq:=fun w':World=>Lib.run_eql_slice_nil (P:=prog) w' 57 _ none n cap 0 0 underlying57
  simp only [Option.isNone] at hq;clear hC hlen hnC h0;go_enter func108,ntmps108
  go_wp2_with fail
  go_ret;refine ⟨_,[],rfl,OwnV.start _ _ _ _,?_⟩;have:=HA.out;rwa [H0.out] at this
 ·have bA:Below w.heap.size w (w.alloc (.cells #[] 56)):=(Below.refl _ _).alloc xnl _
  have hown:OwnV 56 2 za3 w (.slice (some ⟨w.heap.size,0,none⟩) 0 0) ([]:List BV) (w.alloc (.cells #[] 56)) :=
   ⟨⟨rfl,.inr ⟨w.heap.size,0,#[],rfl,Nat.le_refl _,zac rfl,Nat.le_refl _,Nat.zero_le _,rfl,rfl⟩⟩,bA⟩
  have hrd:zcn (w.alloc (.cells #[] 56)) 2 (.slice (some ad) n cap) C.length (C.flatMap za3):=by
   rw [← hnC]; exact Vec.reads (k:=2) (enc:=za3) (fun _=>rfl) (hC.below bA)
  have hl:([]:List BV).length + C.length≤1000000000:=by simp; omega
  have HOw:=zjp hown; have HRd:=zjp hrd; have HB:=zjp bA; have HL:=zjp hl;have hq:=fun w':World=>Lib.run_eql_slice_nil (P:=prog) w' 57 _ (some ad) n cap 0 0 underlying57
  simp only [Option.isNone] at hq;clear hown hrd bA hC hlen hnC hl;go_enter func108,ntmps108
  go_wp2_with (at_builtin; refine zcr rfl (.tmp 5) (.tmp 6) 57 rfl 56 (.agg #[.int .i64 0,.slice none 0 0]) 2 32 za3 (fun _=>rfl) ze4 underlying57 zf6 rfl (by decide) (by decide) (w0:=w) (v:=.slice (some ⟨w.heap.size,0,none⟩) 0 0) (A:=[]) (B:=C) rfl HOw.out rfl HRd.out HL.out ?_; intro v7 w7 ho7 hk7 hz7)
  go_ret;rw [List.nil_append] at ho7;exact ⟨_,C,rfl,ho7,HA.out.move (Nat.le_trans HB.out.size hz7) fun b hb hs=>⟨ho7.2.block b hb,hs⟩⟩
theorem andB_len {a b x:BitsL} (h:andB a b = some x):x.len = a.len∧zg4 x.words∧x.words.length = a.words.length:=by
 unfold andB at h;split at h
 ·next h1 =>
  cases h;refine ⟨rfl,zip_range _ _,?_⟩;have e1:=zcs h1.1; have e2:=zcs h1.2.1; have e3:=h1.2.2;exact andL_len (by omega)
 ·cases h
theorem InI.len {a x:BitsL} (h:InI a.len) (e:x.len = a.len):InI x.len:=by rw [e]; exact h
theorem two_set {w:World} {b:Nat} {u v:Value} {t:TypeId} (h:w.heap[b]? = some (.cells #[u,v] t (0,0))) (x y:Value):((w.setCell ⟨b,0,none⟩ x).setCell ⟨b,1,none⟩ y).heap[b]? = some (.cells #[x,y] t (0,0)):=by
 exact zad (i:=1) (v:=y) (zad (i:=0) (v:=x) h)
theorem always_any (S:Nat→Prop) (v:Value) (L:List BitsL) (w:World) (h:BitsVec w S v L) (hi:∀ b∈L,InI b.len) (hw:∀ b∈L,zap b = true→zg4 b.words) (hn:L.length≤1000000) :
  Calls prog 72 #[v] w fun e w'=>e = .returned (.int .i64 (zbw L))∧Below w.heap.size w w':=by
 have HV:=zjp h; have HI:=zjp hi; have HWd:=zjp hw;have HF:=zjp (show ∀ r:Int,zbw L = r→Ending.returned (.int .i64 r) = .returned (.int .i64 (zbw L)) from fun r h=>by rw [h])
 clear h hi hw;go_enter func72,ntmps72
 go_wp2_with fail
 refine (bclone_any S _ L _ HV.out hn).mono ?_;rintro e w1 ⟨v1,C,rfl,ho,hA⟩;have HO:=zjp ho;have hlt1:=ho.1.lt;have HA:=zjp (show BitsAll w1 (fun b=>some b≠v1.ownBlock) C L from hA.move xnl fun b _ hs=>⟨rfl,fun e=>by have h1:=(hlt1 b e.symm).1; have h2:=hs.1; omega⟩)
 have HA0:=zjp hA;clear ho hA hlt1;go_wp2_with fail
 refine (bdel_any w v1 C L _ HO.out HA.out HI.out hn).mono ?_;rintro e w2 ⟨v2,rfl,ho2,hk2,hz2⟩;obtain ⟨a2,c2,e2⟩:=zau ho2.1;subst e2
 have hA2:BitsAll w2 zav (C.filter ze2) (L.filter zap):=(HA0.out.move (w':=w2) (T:=zav) hz2 fun b hb hs=>⟨by
  have e1:w1.heap[b]? = some w1.heap[b]:=Array.getElem?_eq_getElem hb;rw [e1]
  exact hk2 b _ (fun e=>by have h1:=(HO.out.1.lt b e.symm).1; have h2:=hs.1; omega) e1,trivial⟩).filter
 obtain ⟨F,hF⟩:∃ F,C.filter ze2 = F:=⟨_,rfl⟩;obtain ⟨G,hG⟩:∃ G,L.filter zap = G:=⟨_,rfl⟩;rw [hF] at ho2 hA2 ⊢;rw [hG] at hA2;have HG:=zjp hG
 have hGv:∀ b∈G,zap b = true∧b∈L:=fun b hb=>by
  rw [← hG] at hb;have:=List.mem_filter.1 hb;exact ⟨this.2,this.1⟩
 have HGv:=zjp hGv;have HO2:=zjp ho2;have HV2:=zjp (show BitsVec w2 zav (.slice a2 F.length c2) G from ⟨F,(OwnV.vec (size:=2) (enc:=za3) (fun _=>rfl) ho2).any,hA2⟩)
 have hfl:F.length = G.length:=hA2.1
 have hG6:G.length≤1000000:=by
  have:G.length≤L.length:=by rw [← hG]; exact List.length_filter_le _ _
  omega
 obtain ⟨n,hnG⟩:∃ n,G.length = n:=⟨_,rfl⟩;rw [hfl,hnG] at HV2 ⊢;rw [hnG] at hG6;have HN:=zjp hnG;clear hk2 hz2 hA2 hF hG hGv ho2 HA HA0 HO hfl hnG;by_cases h0:n = 0
 ·have d0:((n:Int) == 0) = true:=by simp; omega
  have HR:=zjp (show zbw L = 0 by
   unfold zbw;have:G = []:=List.length_eq_zero_iff.1 (by rw [HN.out]; exact h0)
   rw [HG.out,this])
  clear h0;go_wp2_with fail
  go_ret;exact ⟨HF.out _ HR.out,HO2.out.2⟩
 ·have d0:((n:Int) == 0) = false:=by simp; omega
  have hn1:(0:Int) < (n:Int):=by omega
  obtain ⟨m,hm⟩:∃ m,n - 1 = m:=⟨_,rfl⟩;have hmn:m + 1 = n:=by omega
  have HMn:=zjp hmn;have hm6:m≤1000000:=by omega
  obtain ⟨b0,R,hbR⟩:∃ b0 R,G = b0 :: R:=by
   cases hG:G with
   | nil=>have:=HN.out; rw [hG] at this; simp at this; omega
   | cons b R=>exact ⟨b,R,rfl⟩
  have HbR:=zjp hbR;have hRn:R.length + 1 = n:=by have:=HN.out; rw [hbR] at this; simpa using this
  have HRn:=zjp hRn;obtain ⟨b,off,⟨xl,xa,xn,xc⟩,e,lb,c0,c1,hat⟩:=HV2.out.at 0 (by rw [HN.out]; omega);have hg0:G.getD 0 zbg = b0:=by rw [hbR]; rfl
  rw [hg0] at hat;cases e;rw [Nat.zero_mul,Nat.add_zero] at c0 c1;dsimp only at c0 c1;have HAt:=zjp hat;have hB0:=HGv.out b0 (by rw [hbR]; exact List.mem_cons_self);have HB0:=zjp hB0;have hcap:=HV2.out.len;have s1:(1:Int)≤(n:Int):=by omega
  have s2:(1:Int)≤(c2:Int):=by omega
  have s4:(n:Int)≤(c2:Int):=by omega
  have HM:=zjp hm;clear hat hbR hRn hg0 hB0 hcap h0 hmn hm;by_cases hc1:c2 = 1
  ·have hm0:m = 0:=by have:=HMn.out; omega
   go_wp2_with fail
   rw [HM.out]
   refine zam (fun W3 hW3=>?_)
   have b3:=xal hW3
   have g3:W3.heap[w2.heap.size]? = some (.cells #[.int .i64 xl,.slice xa xn xc] 56 (0,0)):=by rw [hW3]; exact zac rfl
   clear hW3;obtain ⟨A,hA⟩:∃ A,w2.heap.size = A:=⟨_,rfl⟩;rw [hA] at g3 ⊢
   have HX0:=zjp (show BitsAt W3 (fun q=>q≠A) (.agg #[.int .i64 xl,.slice xa xn xc]) b0 from by
    obtain ⟨s,e,hv⟩:=HAt.out
    exact ⟨s,e,(hv.move (S':=fun q=>q≠A) xnl fun q hq _=>⟨rfl,by show q≠A; omega⟩).below b3⟩)
   have HG3:=zjp g3;have HB3:=zjp b3;have HAe:=zjp hA;obtain ⟨x0,x1⟩:=zae g3;clear g3 b3 hA c0 c1 HAt;go_loopw [21] (fun i wr=>i = .int .i64 0∧wr = W3) (fun _ _=>0)
   case atStart=>exact ⟨rfl,rfl⟩
   case round =>
    obtain ⟨rfl,rfl⟩:=hrel;have hq:decide ((0:Int) < m) = false:=by simp; omega
    have HR:=zjp (show zbw L = zcp b0 by
     unfold zbw;have h3:=HRn.out; have h4:=HMn.out;have h5:R = []:=List.length_eq_zero_iff.1 (by omega);rw [HG.out,HbR.out,h5]
     rfl)
    go_wp2_with fail
    have hI:=HI.out b0 HB0.out.2
    refine (bcount_any (fun q=>q≠A) _ b0 _ HX0.out hI.1 hI.2 (fun h=>HWd.out b0 HB0.out.2 h)).mono ?_
    rintro e w4 ⟨rfl,hb4⟩;have HB4:=zjp hb4;clear x0 x1 hI hb4;go_wp2_with fail
    go_ret;exact ⟨HF.out _ HR.out,HO2.out.2.trans ((HB3.out.trans (HB4.out.mono HB3.out.size)).mono (by have:=HO2.out.2.size; exact this))⟩
  go_wp2_with fail
  rw [HM.out]
  refine zam (fun W3 hW3=>?_)
  have b3:=xal hW3
  have g3:W3.heap[w2.heap.size]? = some (.cells #[.int .i64 xl,.slice xa xn xc] 56 (0,0)):=by rw [hW3]; exact zac rfl
  clear hW3;obtain ⟨A,hA⟩:∃ A,w2.heap.size = A:=⟨_,rfl⟩;rw [hA] at g3 ⊢
  have HX0:=zjp (show BitsAt W3 (fun q=>q≠A) (.agg #[.int .i64 xl,.slice xa xn xc]) b0 from by
   obtain ⟨s,e,hv⟩:=HAt.out
   exact ⟨s,e,(hv.move (S':=fun q=>q≠A) xnl fun q hq _=>⟨rfl,by show q≠A; omega⟩).below b3⟩)
  have HG3:=zjp g3;have HB3:=zjp b3;have HAe:=zjp hA;clear g3 b3 hA c0 c1 HAt;go_loopw [21] (fun i wr=>∃ k:Nat,k≤m∧i = .int .i64 k∧∃ (x:BV) (X:BitsL),wr.heap[A]? = some (.cells (za3 x).toArray 56 (0,0))∧BitsAt wr (fun q=>q≠A) (.agg (za3 x).toArray) X∧Hid (zep b0 (R.take k) = some X∧X.len = b0.len∧(zap X = true→zg4 X.words))∧Below w2.heap.size w2 wr) (fun i _=>m - (intOf i).toNat)
  case atStart=>exact ⟨0,by omega,rfl,⟨xl,xa,xn,xc⟩,b0,HG3.out,HX0.out,zjp ⟨by simp [zep],rfl,fun _=>HWd.out b0 HB0.out.2 HB0.out.1⟩,HB3.out⟩
  case round =>
   obtain ⟨k,hk,rfl,⟨yl,ya,yn,yc⟩,X,hgA,hX,HAnd,hbw⟩:=hrel;obtain ⟨WR,hWR⟩:∃ u,u = wr:=⟨_,rfl⟩;subst hWR;have HGA:=zjp hgA; have HX:=zjp hX; have HBw:=zjp hbw;have lA:=zaa hgA;by_cases hlt:k < m
   ·have hq:decide ((k:Int) < m) = true:=by simp; omega
    have hkG:k + 1 < G.length:=by rw [HN.out]; have:=HMn.out; omega
    obtain ⟨b',off',⟨zl,za,zn,zc⟩,e',lb',z0,z1,hz⟩:=(HV2.out.below hbw).at (k + 1) hkG;cases e';dsimp only at z0 z1;rw [show off + (k + 1) * 2 = off + 2 + k * 2 by omega] at z0 z1;have hkR:k < R.length:=by have:=HRn.out; have:=HMn.out; omega
    have hgk:G.getD (k + 1) zbg = R[k]:=by rw [HbR.out,List.getD,List.getElem?_cons_succ,List.getElem?_eq_getElem hkR]; rfl
    have hmem:=HGv.out R[k] (by rw [HbR.out]; exact List.mem_cons_of_mem _ (List.getElem_mem hkR));have hsn:zep b0 (R.take (k + 1)) = (zep b0 (R.take k)).bind fun x=>andB x R[k]:=by rw [List.take_succ_eq_append_getElem hkR,zin]
    rw [hgk] at hz;obtain ⟨Z,hZ⟩:∃ Z,R[k] = Z:=⟨_,rfl⟩;have hrest:R = R.take (k + 1) ++ R.drop (k + 1):=(List.take_append_drop _ _).symm;rw [hZ] at hz hmem hsn;rw [HAnd.out.1] at hsn;have HZ:=zjp hz; have HMem:=zjp hmem; have HSn:=zjp (show zep b0 (R.take (k + 1)) = andB X Z from hsn); have HRest:=zjp hrest;obtain ⟨x0,x1⟩:=zae hgA;clear hgA hX hbw hz hgk hmem hsn hZ hkG hkR lb' hrest;go_wp2_with fail
    refine zai (fun WA hWA=>?_)
    have bA:=xal hWA
    clear hWA
    refine (band_any (fun q=>q≠A) zav _ _ X Z _ (HX.out.below bA) (HZ.out.below bA) ((HI.out b0 HB0.out.2).len HAnd.out.2.1) (HI.out Z HMem.out.2)).mono ?_
    rintro e w4 ⟨v4,rfl,hv4,hb4⟩;have b4:=bA.trans (hb4.mono bA.size);have HGA4:=zjp (zab b4 lA HGA.out); have HB4:=zjp (HBw.out.trans (b4.mono HBw.out.size));have hsz:=bA.size;obtain ⟨P,hP⟩:∃ P,andB X Z = P:=⟨_,rfl⟩;have HP:=zjp hP;rw [hP] at hv4 ⊢;obtain ⟨⟨pl,pa,pn,pc⟩,rfl,hv5⟩:=hv4.form
    have HV5:=zjp (show BitsAt w4 (fun q=>q≠A) (.agg (za3 ⟨pl,pa,pn,pc⟩).toArray) (P.getD zbg) from by
     obtain ⟨s,e,hv⟩:=hv5
     exact ⟨s,e,hv.move (S':=fun q=>q≠A) xnl fun q _ hq=>⟨rfl,by have h':WA.heap.size≤q:=hq; show q≠A; omega⟩⟩)
    dsimp only;have lA4:=zaa HGA4.out;have b4z:=b4.size;clear bA hb4 b4 hv4 hv5 x0 x1 z0 z1 hP;cases P with
    | none =>
     have HR:=zjp (show zbw L = 0 by
      unfold zbw;rw [HG.out,HbR.out]
      have h1:zep b0 R = none:=by
       rw [HRest.out];exact zio _ _ _ (by rw [HSn.out,HP.out])
      simp only [h1])
     simp only [Option.isSome,Bool.false_eq_true,if_false];go_wp2_with fail
     go_ret;exact ⟨HF.out _ HR.out,HO2.out.2.trans ((HB4.out.alloc HB4.out.size _).mono (by have:=HO2.out.2.size; exact this))⟩
    | some Y =>
     have hy:=andB_len HP.out;have HY:=zjp hy;simp only [Option.isSome,if_true,Option.getD_some] at HV5 ⊢;have fA0:=frozen_of_row _ _ 0 _ _ HGA4.out; have fA1:=frozen_of_row _ _ 1 _ _ HGA4.out;obtain ⟨x0,x1⟩:=zae HGA4.out;clear hy;go_wp2_with fail
     have hW:∀ W6,W6 = (((w4.setCell ⟨A,0,none⟩ (.int .i64 pl)).setCell ⟨A,1,none⟩ (.slice pa pn pc)).alloc (.cells #[.int .i64 pl,.slice pa pn pc] 56)) →
       W6.heap[A]? = some (.cells (za3 ⟨pl,pa,pn,pc⟩).toArray 56 (0,0))∧BitsAt W6 (fun q=>q≠A) (.agg (za3 ⟨pl,pa,pn,pc⟩).toArray) Y∧Below w2.heap.size w2 W6:=by
      intro W6 hW6;have hAe:=HAe.out;have h5:=two_set HGA4.out (.int .i64 pl) (.slice pa pn pc)
      have b6:Below w2.heap.size w2 W6:=by
       rw [hW6];have h7:=(HB4.out.setCell (p:=⟨A,0,none⟩) (by show w2.heap.size≤A; omega) (.int .i64 pl)).setCell (p:=⟨A,1,none⟩) (by show w2.heap.size≤A; omega) (.slice pa pn pc);exact h7.alloc h7.size _
      have z5:((w4.setCell ⟨A,0,none⟩ (.int .i64 pl)).setCell ⟨A,1,none⟩ (.slice pa pn pc)).heap.size = w4.heap.size:=by simp [World.setCell]
      refine ⟨?_,?_,b6⟩
      ·rw [hW6,Below.heap_alloc _ _ _ (by rw [z5]; exact lA4)]
       exact h5
      ·obtain ⟨s,e,hv⟩:=HV5.out
       refine ⟨s,e,hv.move (S':=fun q=>q≠A) (by rw [hW6]; simp [World.setCell,World.alloc]) fun q hq hqA=>⟨?_,hqA⟩⟩
       rw [hW6,Below.heap_alloc _ _ _ (by rw [z5]; exact hq),Below.heap_setCell _ _ _ _ hqA,Below.heap_setCell _ _ _ _ hqA]
     have HW:=zjp (hW _ rfl);clear hW x0 x1 fA0 fA1;go_roundw
     case rel=>exact ⟨k + 1,by omega,by go_num,⟨pl,pa,pn,pc⟩,Y,HW.out.1,HW.out.2.1,zjp ⟨by rw [HSn.out,HP.out],by rw [HY.out.1]; exact HAnd.out.2.1,fun _=>HY.out.2.1⟩,HW.out.2.2⟩
     case measure=>simp [intOf]; omega
   ·have hq:decide ((k:Int) < m) = false:=by simp; omega
    have HR:=zjp (show zbw L = zcp X by
     unfold zbw;have h1:=HAnd.out.1;have h3:=HRn.out; have h4:=HMn.out;rw [List.take_of_length_le (by omega)] at h1;rw [HG.out,HbR.out]
     simp only [h1])
    obtain ⟨x0,x1⟩:=zae hgA;clear hgA hX hbw;go_wp2_with fail
    have hI:=(HI.out b0 HB0.out.2).len HAnd.out.2.1
    refine (bcount_any (fun q=>q≠A) _ X _ HX.out hI.1 hI.2 HAnd.out.2.2).mono ?_
    rintro e w4 ⟨rfl,hb4⟩;have HB4:=zjp hb4;clear x0 x1 hI hb4;go_wp2_with fail
    go_ret;exact ⟨HF.out _ HR.out,HO2.out.2.trans ((HBw.out.trans (HB4.out.mono HBw.out.size)).mono (by have:=HO2.out.2.size; exact this))⟩
end
section
open Go.RowKit
abbrev ze6 (x:GV):Value:=.slice x.a x.n x.c
abbrev wdV (x:GV):Value:=.slice x.wa x.wn x.wc
def WS (w0:World) (v:Value) (C:List GV) (b:Nat):Prop:=w0.heap.size≤b∧some b≠v.ownBlock∧∀ y∈C,some b≠(ze6 y).ownBlock
structure GRow (w0:World) (v:Value) (C:List GV) (w:World):Prop where
 own:OwnV 160 3 zfx w0 v C w
 ids:∀ x∈C,w.ownsRow w0.heap.size 3 1 (ze6 x) x.mem.length (x.mem.map (Value.int .i64))
 off:∀ x∈C,(ze6 x).ownBlock = none∨(ze6 x).ownBlock≠v.ownBlock
 apart:C.Pairwise fun x y=>(ze6 x).ownBlock = none∨(ze6 x).ownBlock≠(ze6 y).ownBlock
 wds:∀ x∈C,Vec w (WS w0 v C) 1 zc2 (wdV x) x.ws
theorem GRow.nil {w0 w:World} (hb:Below w0.heap.size w0 w):GRow w0 (.slice none 0 0) [] w:=⟨OwnV.nil hb,fun x h=>by simp at h,fun x h=>by simp at h,List.Pairwise.nil,fun x h=>by simp at h⟩
theorem GRow.below {w0 w w':World} {v:Value} {C:List GV} (h:GRow w0 v C w) (hb:Below w.heap.size w w'):GRow w0 v C w' :=
 ⟨h.own.below hb,fun x hx=>zcb (h.ids x hx) hb,h.off,h.apart,fun x hx=>(h.wds x hx).below hb⟩
theorem GRow.put {w0 w w':World} {v v':Value} {C:List GV} (h:GRow w0 v C w) (x:GV) (hx:ze6 x = .slice none 0 0) (hm:x.mem = []) (hw:Vec w (WS w0 v C) 1 zc2 (wdV x) x.ws) (ho:OwnV 160 3 zfx w0 v' (C ++ [x]) w')
  (hk:∀ k o,some k≠v.ownBlock→w.heap[k]? = some o→w'.heap[k]? = some o) (hz:w.heap.size≤w'.heap.size) (hv:v'.ownBlock = none∨v.ownBlock = v'.ownBlock∨v'.ownBlock = some w.heap.size):GRow w0 v' (C ++ [x]) w':=by
 have hmm:∀ y,y∈C ++ [x]→y = x∨y∈C:=by
  intro y hy
  rcases List.mem_append.1 hy with h1 | h1
  ·exact .inr h1
  ·exact .inl (by simpa using h1)
 have hws:∀ {z:GV},Vec w (WS w0 v C) 1 zc2 (wdV z) z.ws→Vec w' (WS w0 v' (C ++ [x])) 1 zc2 (wdV z) z.ws:=by
  intro z hz'
  refine hz'.move hz fun b hb hs=>⟨?_,hs.1,?_,fun y hy=>?_⟩
  ·have e1:w.heap[b]? = some w.heap[b]:=Array.getElem?_eq_getElem hb
   rw [e1];exact hk b _ hs.2.1 e1
  ·rcases hv with h3 | h3 | h3
   ·rw [h3]; simp
   ·rw [← h3]; exact hs.2.1
   ·rw [h3]; simp; omega
  ·rcases hmm y hy with rfl | h1
   ·rw [hx]; simp [Value.ownBlock]
   ·exact hs.2.2 y h1
 refine ⟨ho,fun y hy=>?_,fun y hy=>?_,?_,fun y hy=>?_⟩
 ·rcases hmm y hy with rfl | h1
  ·rw [hx,hm]; exact ⟨rfl,.inl ⟨rfl,rfl⟩⟩
  ·exact zc7 (h.ids y h1) hk (h.off y h1)
 ·rcases hmm y hy with rfl | h1
  ·rw [hx]; exact .inl rfl
  ·rcases h.off y h1 with h2 | h2
   ·exact .inl h2
   ·rcases hv with h3 | h3 | h3
    ·rw [h3]
     by_cases h4:(ze6 y).ownBlock = none
     ·exact .inl h4
     ·exact .inr h4
    ·rw [← h3]; exact .inr h2
    ·right
     rw [h3];intro e;have:=((h.ids y h1).lt _ e).2;omega
 ·refine List.pairwise_append.2 ⟨h.apart,by simp,fun y hy z hz'=>?_⟩
  obtain rfl:z = x:=by simpa using hz'
  rw [hx];by_cases h2:(ze6 y).ownBlock = none
  ·exact .inl h2
  ·exact .inr h2
 ·rcases hmm y hy with rfl | h1
  ·exact hws hw
  ·exact hws (h.wds y h1)
theorem own_setG {w:World} {B e n:Nat} {v:Value} {C:List GV} {g:Nat} (h:w.ownsRow B e 3 v n (C.flatMap zfx)) (hg:v.ownBlock = some g) (j:Nat) (hj:j < C.length) (x:GV) (hx:x.len = C[j].len∧wdV x = wdV C[j]) :
  (w.setCell ⟨g,j * 3 + 2,none⟩ (ze6 x)).ownsRow B e 3 v n ((C.set j x).flatMap zfx):=by
 have hl:(C.flatMap zfx).length = C.length * 3:=zd3 (k:=3) (enc:=zfx) (fun _=>rfl) C
 refine ⟨by rw [← h.1,hl,zd3 (k:=3) (enc:=zfx) (fun _=>rfl),List.length_set],?_⟩
 rcases h.2 with ⟨hv,_⟩ | ⟨g',cap,cur,hv,hB,hh,h1,h2,h3,h4⟩
 ·rw [hv] at hg; cases hg
 ·rw [hv] at hg
  have hgg:g' = g:=by simpa [Value.ownBlock] using hg
  subst hgg;refine .inr ⟨g',cap,cur.setIfInBounds (j * 3 + 2) (ze6 x),hv,hB,zad hh,h1,h2,by simpa using h3,?_⟩;have hn:n * 3 = C.length * 3:=by rw [← h.1,hl]
  rw [Array.toList_setIfInBounds,hn];rw [hn] at h4;apply List.ext_getElem?;intro t
  have hcur:∀ t,t < C.length * 3→cur.toList[t]? = (C.flatMap zfx)[t]?:=by
   intro t ht;have:=congrArg (fun l=>l[t]?) h4
   simp only [List.getElem?_take,if_pos ht] at this;exact this
  have hcl:C.length * 3≤cur.toList.length:=by
   have:=congrArg List.length h4;rw [List.length_take,hl] at this;omega
  rw [List.getElem?_take];by_cases ht:t < C.length * 3
  ·rw [if_pos ht,List.getElem?_set]
   have hq:t / 3 < C.length:=by omega
   have e1:t / 3 * 3 + t % 3 = t:=by omega
   have hset:=zf8 (k:=3) (enc:=zfx) (fun _=>rfl) (C.set j x) (t / 3) ((C.set j x)[t / 3]'(by simpa using hq)) (List.getElem?_eq_getElem (by simpa using hq)) (t % 3) (by omega)
   have hold:=zf8 (k:=3) (enc:=zfx) (fun _=>rfl) C (t / 3) C[t / 3] (List.getElem?_eq_getElem hq) (t % 3) (by omega)
   rw [e1] at hset hold;rw [hset,hcur t ht,hold];by_cases hjt:j = t / 3
   ·subst hjt
    rw [List.getElem_set_self]
    rcases (by omega:t % 3 = 0∨t % 3 = 1∨t % 3 = 2) with h0 | h0 | h0
    ·rw [if_neg (by omega),h0]
     show some (Value.int .i64 C[t / 3].len) = some (Value.int .i64 x.len);rw [hx.1]
    ·rw [if_neg (by omega),h0]
     show some (wdV C[t / 3]) = some (wdV x);rw [hx.2]
    ·rw [if_pos (by omega),if_pos (by omega),h0]; rfl
   ·rw [List.getElem_set_ne hjt,if_neg (by omega)]
  ·rw [if_neg ht,List.getElem?_eq_none (by rw [zd3 (k:=3) (enc:=zfx) (fun _=>rfl),List.length_set]; omega)]
theorem GRow.add {w0 w w1:World} {v:Value} {C:List GV} (h:GRow w0 v C w) (j:Nat) (hj:j < C.length) (g:Nat) (hg:v.ownBlock = some g) (u:Value) (id:Int) (a:Option Addr) (n c:Nat) (hu:u = .slice a n c)
  (ho:w1.ownsRow w0.heap.size 3 1 u (C[j].mem.length + 1) ((C[j].mem ++ [id]).map (Value.int .i64)))
  (hk:∀ k o,some k≠(ze6 C[j]).ownBlock→w.heap[k]? = some o→w1.heap[k]? = some o) (hb:Below w0.heap.size w0 w1) (hv:(ze6 C[j]).ownBlock = u.ownBlock∨u.ownBlock = some w.heap.size) (hz:w.heap.size≤w1.heap.size) :
  GRow w0 v (C.set j ⟨C[j].len,C[j].wa,C[j].wn,C[j].wc,a,n,c,C[j].ws,C[j].mem ++ [id]⟩) (w1.setCell ⟨g,j * 3 + 2,none⟩ u):=by
 subst hu;obtain ⟨B,hB⟩:∃ B,w0.heap.size = B:=⟨_,rfl⟩;have hgw:=h.own.1.lt g hg;have hoff:=h.off C[j] (List.getElem_mem hj)
 have hug:∀ k,(Value.slice a n c).ownBlock = some k→k≠g:=by
  intro k hk' e;subst e
  rcases hv with h1 | h1
  ·rw [← h1] at hk'
   rcases hoff with h2 | h2
   ·rw [h2] at hk'; cases hk'
   ·rw [hk',hg] at h2; exact h2 rfl
  ·rw [h1] at hk'
   have:w.heap.size = k:=by simpa using hk'
   omega
 have hrow1:=zc7 h.own.1 hk (by
  by_cases h0:v.ownBlock = none
  ·exact .inl h0
  ·right
   rcases hoff with h2 | h2
   ·rw [h2]; exact h0
   ·exact Ne.symm h2)
 have hset:=own_setG (x:=⟨C[j].len,C[j].wa,C[j].wn,C[j].wc,a,n,c,C[j].ws,C[j].mem ++ [id]⟩) hrow1 hg j hj ⟨rfl,rfl⟩
 have hown:OwnV 160 3 zfx w0 v (C.set j ⟨C[j].len,C[j].wa,C[j].wn,C[j].wc,a,n,c,C[j].ws,C[j].mem ++ [id]⟩) (w1.setCell ⟨g,j * 3 + 2,none⟩ (.slice a n c)):=by
  refine ⟨?_,hb.setCell (p:=⟨g,j * 3 + 2,none⟩) hgw.1 _⟩;rw [List.length_set];exact hset
 have hfar:∀ {e size m:Nat} {u:Value} {xs:List Value},w1.ownsRow w0.heap.size e size u m xs→(u.ownBlock = none∨u.ownBlock≠some g)→(w1.setCell ⟨g,j * 3 + 2,none⟩ (.slice a n c)).ownsRow w0.heap.size e size u m xs:=by
  intro e size n' u xs h1 h2
  refine zc7 (r:=some g) h1 (fun k o hk' hko=>?_) h2
  exact zan hko (fun e=>hk' (by rw [e]))
 have hap:∀ i k (hi:i < C.length) (hk2:k < C.length),i≠k→(ze6 C[i]).ownBlock = none∨(ze6 C[i]).ownBlock≠(ze6 C[k]).ownBlock:=by
  intro i k hi hk2 hne
  rcases Nat.lt_or_ge i k with h1 | h1
  ·exact List.pairwise_iff_getElem.1 h.apart i k hi hk2 h1
  ·rcases List.pairwise_iff_getElem.1 h.apart k i hk2 hi (by omega) with h2 | h2
   ·by_cases h3:(ze6 C[i]).ownBlock = none
    ·exact .inl h3
    ·exact .inr (by rw [h2]; exact h3)
   ·exact .inr (Ne.symm h2)
 have hlt:∀ i (hi:i < C.length) b,(ze6 C[i]).ownBlock = some b→b < w.heap.size:=fun i hi b e=>((h.ids C[i] (List.getElem_mem hi)).lt b e).2
 have hnew:∀ i (hi:i < C.length),i≠j→(Value.slice a n c).ownBlock = none∨(Value.slice a n c).ownBlock≠(ze6 C[i]).ownBlock:=by
  intro i hi hij
  rcases hv with h1 | h1
  ·rw [← h1]; exact hap j i hj hi (Ne.symm hij)
  ·right
   rw [h1];intro e;have:=hlt i hi _ e.symm;omega
 have hmem:∀ {x:GV},x∈C.set j ⟨C[j].len,C[j].wa,C[j].wn,C[j].wc,a,n,c,C[j].ws,C[j].mem ++ [id]⟩→x = ⟨C[j].len,C[j].wa,C[j].wn,C[j].wc,a,n,c,C[j].ws,C[j].mem ++ [id]⟩∨∃ i,∃ hi:i < C.length,i≠j∧x = C[i]:=by
  intro x hx;obtain ⟨i,hi,rfl⟩:=List.mem_iff_getElem.1 hx;by_cases hij:j = i
  ·subst hij; left; rw [List.getElem_set_self]
  ·right
   exact ⟨i,by simpa using hi,Ne.symm hij,by rw [List.getElem_set_ne hij]⟩
 refine ⟨hown,fun x hx=>?_,fun x hx=>?_,?_,?_⟩
 ·rcases hmem hx with rfl | ⟨i,hi,hij,rfl⟩
  ·refine hfar (show w1.ownsRow w0.heap.size 3 1 (.slice a n c) (C[j].mem ++ [id]).length ((C[j].mem ++ [id]).map (Value.int .i64)) by rw [List.length_append]; exact ho) ?_
   by_cases h0:(Value.slice a n c).ownBlock = none
   ·exact .inl h0
   ·exact .inr fun e=>hug g e rfl
  ·refine hfar (zc7 (h.ids C[i] (List.getElem_mem hi)) hk (hap i j hi hj hij)) ?_
   rw [← hg]; exact h.off C[i] (List.getElem_mem hi)
 ·rcases hmem hx with rfl | ⟨i,hi,hij,rfl⟩
  ·by_cases h0:(Value.slice a n c).ownBlock = none
   ·exact .inl h0
   ·exact .inr fun e=>hug g (by rw [← hg]; exact e) rfl
  ·exact h.off C[i] (List.getElem_mem hi)
 ·refine List.pairwise_iff_getElem.2 fun p q hp hq hpq=>?_
  have hp':p < C.length:=by simpa using hp
  have hq':q < C.length:=by simpa using hq
  by_cases e1:j = p
  ·subst e1
   rw [List.getElem_set_self,List.getElem_set_ne (by omega)];exact hnew q hq' (by omega)
  ·by_cases e2:j = q
   ·subst e2
    rw [List.getElem_set_ne e1,List.getElem_set_self]
    rcases hnew p hp' (by omega) with h1 | h1
    ·by_cases h2:(ze6 C[p]).ownBlock = none
     ·exact .inl h2
     ·exact .inr (by rw [show (ze6 ⟨C[j].len,C[j].wa,C[j].wn,C[j].wc,a,n,c,C[j].ws,C[j].mem ++ [id]⟩).ownBlock = none from h1]; exact h2)
    ·exact .inr (Ne.symm h1)
   ·rw [List.getElem_set_ne e1,List.getElem_set_ne e2]
    exact hap p q hp' hq' (by omega)
 ·have hws:∀ {z:GV},Vec w (WS w0 v C) 1 zc2 (wdV z) z.ws→Vec (w1.setCell ⟨g,j * 3 + 2,none⟩ (.slice a n c)) (WS w0 v (C.set j ⟨C[j].len,C[j].wa,C[j].wn,C[j].wc,a,n,c,C[j].ws,C[j].mem ++ [id]⟩)) 1 zc2 (wdV z) z.ws:=by
   intro z hz'
   refine hz'.move (by simpa [World.setCell] using hz) fun b hb hs=>⟨?_,hs.1,hs.2.1,fun y hy=>?_⟩
   ·have e1:w.heap[b]? = some w.heap[b]:=Array.getElem?_eq_getElem hb
    rw [e1];refine zan (hk b _ (hs.2.2 _ (List.getElem_mem hj)) e1) ?_;intro e;have e2:b = g:=e;exact hs.2.1 (by rw [hg,e2])
   ·rcases hmem hy with rfl | ⟨i,hi,hij,rfl⟩
    ·rcases hv with h1 | h1
     ·show some b≠(Value.slice a n c).ownBlock
      rw [← h1]; exact hs.2.2 _ (List.getElem_mem hj)
     ·show some b≠(Value.slice a n c).ownBlock
      rw [h1]; simp; omega
    ·exact hs.2.2 _ (List.getElem_mem hi)
  intro x hx
  rcases hmem hx with rfl | ⟨i,hi,hij,rfl⟩
  ·exact hws (h.wds C[j] (List.getElem_mem hj))
  ·exact hws (h.wds _ (List.getElem_mem hi))
end
section
open Go.RowKit
theorem rorder_any (x y:Int) (w:World):Calls prog 44 #[.int .i64 x,.int .i64 y] w fun e w'=>e = .returned (.int .i64 (zf1 x y))∧w = w':=by
 obtain ⟨c,hc⟩:∃ c,zf1 x y = c:=⟨_,rfl⟩;rw [hc];unfold zf1 at hc;by_cases h1:x < y
 ·have d1:decide (x < y) = true:=by simpa using h1
  rw [if_pos h1] at hc; subst hc;go_enter func44,ntmps44
  go_wp2_with fail
  go_ret;exact ⟨rfl,rfl⟩
 ·have d1:decide (x < y) = false:=by simpa using h1
  rw [if_neg h1] at hc;by_cases h2:y < x
  ·have d2:decide (y < x) = true:=by simpa using h2
   rw [if_pos h2] at hc; subst hc;go_enter func44,ntmps44
   go_wp2_with fail
   go_ret;exact ⟨rfl,rfl⟩
  ·have d2:decide (y < x) = false:=by simpa using h2
   rw [if_neg h2] at hc; subst hc;go_enter func44,ntmps44
   go_wp2_with fail
   go_ret;exact ⟨rfl,rfl⟩
theorem cmp3_gt {x y:Int} (h:y < x):zf1 x y = 1:=by unfold zf1; rw [if_neg (by omega),if_pos h]
theorem cmp3_lt {x y:Int} (h:x < y):zf1 x y = -1:=by unfold zf1; rw [if_pos h]
theorem cmp3_no {x y:Int} (h:¬ x < y) (h2:¬ y < x):zf1 x y = 0:=by unfold zf1; rw [if_neg h,if_neg h2]
theorem cmpB_one {a b:BitsL} (h:zf1 a.len b.len≠0):zg1 a b = zf1 a.len b.len:=by unfold zg1 orN; rw [if_neg h]
theorem cmpB_two {a b:BitsL} (h:zf1 a.len b.len = 0) (h2:zf1 a.words.length b.words.length≠0):zg1 a b = zf1 a.words.length b.words.length:=by unfold zg1 orN; rw [if_pos h]; unfold orN; rw [if_neg h2]
theorem cmpB_three {a b:BitsL} (h:zf1 a.len b.len = 0) (h2:zf1 a.words.length b.words.length = 0):zg1 a b = cmpW a.words b.words:=by
 unfold zg1 orN; rw [if_pos h]; unfold orN; rw [if_pos h2]; unfold orN;split
 next h3=>rw [h3]; rfl
 next h3=>rfl
theorem rcmpB_any (S T:Nat→Prop) (u v:Value) (a b:BitsL) (w:World) (hu:BitsAt w S u a) (hv:BitsAt w T v b) (hn:a.words.length≤1000000) :
  Calls prog 16 #[u,v] w fun e w'=>e = .returned (.int .i64 (zg1 a b))∧Below w.heap.size w w':=by
 obtain ⟨su,rfl,hu⟩:=hu;obtain ⟨sv,rfl,hv⟩:=hv;obtain ⟨aa,ca,rfl⟩:=hu.slice;obtain ⟨ab,cb,rfl⟩:=hv.slice;have HU:=zjp hu; have HV:=zjp hv; clear hu hv;have hfin:∀ n:Int,zg1 a b = n→Ending.returned (.int .i64 n) = .returned (.int .i64 (zg1 a b)):=fun n h=>by rw [h]
 have HF:=zjp hfin; clear hfin;go_enter func16,ntmps16
 go_wp2_with fail
 refine zai (fun W hW=>?_)
 have hb0:=xam hW
 have ha0:W.heap[w.heap.size]? = some (.cells #[.int .i64 a.len,.slice aa a.words.length ca] 56 (0,0)):=by rw [hW]; exact zaf (zac rfl)
 have he0:W.heap[w.heap.size + 1]? = some (.cells #[.int .i64 b.len,.slice ab b.words.length cb] 56 (0,0)):=by rw [hW]; exact zac (by simp)
 clear hW;have HB0:=zjp hb0;obtain ⟨a0,a1⟩:=zae ha0; obtain ⟨b0,b1⟩:=zae he0;have lW:=zaa he0;clear ha0 he0 hb0;refine (rorder_any _ _ _).mono ?_;rintro e w1 ⟨rfl,rfl⟩;by_cases h1:zf1 a.len b.len = 0
 ·rw [h1]
  have d1:((0:Int) != 0) = false:=rfl;have H1:=zjp h1; clear h1;go_wp2_with fail
  refine (rorder_any _ _ _).mono ?_;rintro e w1 ⟨rfl,rfl⟩;by_cases h2:zf1 a.words.length b.words.length = 0
  ·rw [h2]
   have hlen:a.words.length = b.words.length:=by have:=cmp3_eq h2; omega
   have H2:=zjp h2; have HL:=zjp hlen; clear h2 hlen;obtain ⟨z,hz⟩:∃ z,cmpW a.words b.words = z:=⟨_,rfl⟩;have HZ:=zjp hz; clear hz;have HFz:=zjp (HF.out z ((cmpB_three H1.out H2.out).trans HZ.out));go_wp2_with fail
   go_loopw [7] (fun i wr=>∃ k:Nat,i = .int .i64 k∧k≤a.words.length∧Hid (cmpW (a.words.drop k) (b.words.drop k) = z)∧Below W.heap.size W wr) (fun i _=>a.words.length - (intOf i).toNat)
   case atStart=>exact ⟨0,rfl,by omega,zjp HZ.out,Below.refl _ _⟩
   case round =>
    obtain ⟨k,rfl,hk,HT,hbw⟩:=hrel;have HBw:=zjp hbw;have a0':=(hbw.cell (p:=⟨w.heap.size,0,none⟩) (by show w.heap.size < _; omega)).trans a0;have a1':=(hbw.cell (p:=⟨w.heap.size,1,none⟩) (by show w.heap.size < _; omega)).trans a1;have b0':=(hbw.cell (p:=⟨w.heap.size + 1,0,none⟩) lW).trans b0;have b1':=(hbw.cell (p:=⟨w.heap.size + 1,1,none⟩) lW).trans b1;by_cases hlt:k < a.words.length
    ·have hq:decide ((k:Int) < a.words.length) = true:=by simp; omega
     have hl2:k < b.words.length:=by rw [← HL.out]; exact hlt
     have hi1:(k:Int) < (a.words.length:Int):=by omega
     have hi2:(k:Int) < (b.words.length:Int):=by omega
     obtain ⟨ba,oa,rfl,hba,hca⟩:=(HU.out.below (HB0.out.trans (hbw.mono HB0.out.size))).get k hlt;have c0:=hca 0 _ rfl;rw [Nat.mul_one,Nat.add_zero] at c0;obtain ⟨bb,ob,rfl,hbb,hcb⟩:=(HV.out.below (HB0.out.trans (hbw.mono HB0.out.size))).get k hl2;have e0:=hcb 0 _ rfl;rw [Nat.mul_one,Nat.add_zero] at e0;have ht:=HT.out;rw [cmpW_drop hlt hl2,za5 _ _ hlt,za5 _ _ hl2] at ht;obtain ⟨x,hx⟩:∃ x,a.words[k] = x:=⟨_,rfl⟩;obtain ⟨y,hy⟩:∃ y,b.words[k] = y:=⟨_,rfl⟩;rw [hx] at c0 ht; rw [hy] at e0 ht;have HT2:=zjp ht;clear hx hy hca hcb ht hbw;go_wp2_with fail
     refine wp_region_noPanic ?_
     refine wp_region_held_drew (S:=(fun w'=>w'.cell? ⟨w.heap.size,1,none⟩ = some (.slice (some ⟨ba,oa,none⟩) a.words.length ca)∧w'.cell? ⟨w.heap.size + 1,1,none⟩ = some (.slice (some ⟨bb,ob,none⟩) b.words.length cb)∧w'.cell? ⟨ba,oa + k,none⟩ = some (.int .u64 x)∧w'.cell? ⟨bb,ob + k,none⟩ = some (.int .u64 y))) (by kernel_rfl) (⟨a1',b1',c0,e0⟩) (fun hHeld=>?_)
     refine tH 0 (h:=?_);refine tH 1 (h:=?_);refine tH 2 (h:=?_);refine tH 3 (h:=?_);refine tH 4 (h:=?_);refine tH 5 (h:=?_);refine tH 6 (h:=?_);refine tH 7 (h:=?_);refine tH 8 (h:=?_);refine tH 9 (h:=?_);refine tH 10 (h:=?_);refine wpAnyH_done (by kernel_rfl) ?_ _;refine NoPanic.normal ?_;by_cases h3:x < y
     ·have d3:decide (x < y) = true:=by simpa using h3
      have hz3:z = -1:=by rw [← HT2.out,cmp3_lt h3]; rfl
      subst hz3;go_wp2_with fail
      go_ret;exact ⟨HFz.out,HB0.out.trans ((HBw.out.drew).mono HB0.out.size)⟩
     ·have d3:decide (x < y) = false:=by simpa using h3
      have H3:=zjp h3;go_wp2_with fail
      clear hHeld;refine wp_region_noPanic ?_
      refine wp_region_held_drew (S:=(fun w'=>w'.cell? ⟨w.heap.size,1,none⟩ = some (.slice (some ⟨ba,oa,none⟩) a.words.length ca)∧w'.cell? ⟨w.heap.size + 1,1,none⟩ = some (.slice (some ⟨bb,ob,none⟩) b.words.length cb)∧w'.cell? ⟨ba,oa + k,none⟩ = some (.int .u64 x)∧w'.cell? ⟨bb,ob + k,none⟩ = some (.int .u64 y))) (by kernel_rfl) (⟨a1',b1',c0,e0⟩) (fun hHeld=>?_)
      refine tH 0 (h:=?_);refine tH 1 (h:=?_);refine tH 2 (h:=?_);refine tH 3 (h:=?_);refine tH 4 (h:=?_);refine tH 5 (h:=?_);refine tH 6 (h:=?_);refine tH 7 (h:=?_);refine tH 8 (h:=?_);refine tH 9 (h:=?_);refine tH 10 (h:=?_);refine wpAnyH_done (by kernel_rfl) ?_ _;refine NoPanic.normal ?_;by_cases h4:y < x
      ·have d4:decide (y < x) = true:=by simpa using h4
       have hz3:z = 1:=by rw [← HT2.out,cmp3_gt h4]; rfl
       subst hz3;go_wp2_with fail
       go_ret;exact ⟨HFz.out,HB0.out.trans ((HBw.out.drew.drew).mono HB0.out.size)⟩
      ·have d4:decide (y < x) = false:=by simpa using h4
       have ht:=HT2.out;rw [if_pos (show zf1 x y = 0 from cmp3_no (by have:=H3.out; omega) h4)] at ht;have HT3:=zjp ht; clear ht;go_wp2_with fail
       go_roundw
       case rel=>exact ⟨k + 1,by go_num,by omega,HT3,HBw.out.drew.drew⟩
       case measure=>simp [intOf]; omega
    ·have hq:decide ((k:Int) < a.words.length) = false:=by simp; omega
     have ht:=HT.out;rw [show a.words.drop k = [] from List.drop_eq_nil_of_le (by omega),show b.words.drop k = [] from List.drop_eq_nil_of_le (by have:=HL.out; omega)] at ht;have hz0:z = 0:=ht.symm;subst hz0;clear ht;go_wp2_with fail
     go_ret;exact ⟨HFz.out,HB0.out.trans (HBw.out.mono HB0.out.size)⟩
  ·have d2:(zf1 a.words.length b.words.length != 0) = true:=by simpa using h2
   have HFz:=zjp (HF.out _ (cmpB_two H1.out h2));clear h2;go_wp2_with fail
   go_ret;exact ⟨HFz.out,HB0.out⟩
 ·have d1:(zf1 a.len b.len != 0) = true:=by simpa using h1
  have HFz:=zjp (HF.out _ (cmpB_one h1));clear h1;go_wp2_with fail
  go_ret;exact ⟨HFz.out,HB0.out⟩
end
section
open Go.RowKit
theorem zix (n:Int) (w:World) (hn:-9223372036854775808≤n) (hn2:n≤9223372036854775807) :
  Calls prog 80 #[.int .i64 n] w fun e w'=>e = .returned (.bool (zc6 n))∧w = w':=by
 unfold zc6;by_cases h1:64≤n
 ·by_cases h2:n≤512
  ·have e1:decide ((64:Int)≤n) = true:=by simpa using h1
   have e2:decide (n≤(512:Int)) = true:=by simpa using h2
   rw [e1,e2];go_enter func80,ntmps80
   go_wp2_with fail
   go_ret;exact ⟨rfl,rfl⟩
  ·have e1:decide ((64:Int)≤n) = true:=by simpa using h1
   have e2:decide (n≤(512:Int)) = false:=by simpa using h2
   rw [e1,e2];go_enter func80,ntmps80
   go_wp2_with fail
   go_ret;exact ⟨rfl,rfl⟩
 ·have e1:decide ((64:Int)≤n) = false:=by simpa using h1
  rw [e1];go_enter func80,ntmps80
  go_wp2_with fail
  go_ret;exact ⟨rfl,rfl⟩
theorem zgg (n:Int) (w:World) (h:zc6 n = true):Calls prog 114 #[.int .i64 n] w (NewPost n w):=by
 have h0:=h;simp only [zc6,Bool.and_eq_true,decide_eq_true_iff,beq_iff_eq] at h0;obtain ⟨⟨h1,h2⟩,h3⟩:=h0;obtain ⟨m,hm⟩:∃ m:Nat,n = 64 * m:=⟨(n / 64).toNat,by omega⟩;have hdiv:n / 64 = (m:Int):=by omega
 have hz:ze1 n = List.replicate m 0:=by unfold ze1; rw [hdiv]; rfl
 have hmk:=run_make_row' (P:=prog) 54 39 (.int .u64 0) 8 underlying54 infoU rfl .i64 .i64 m (by omega) (by omega);rw [made_words] at hmk;have HR:=zjp h; have HM:=zjp hm; have HZ:=zjp hz;clear h hm h3 hz;go_enter func114,ntmps114
 go_wp2_with fail
 refine (zix n _ (by omega) (by omega)).mono ?_;rw [HR.out];rintro e w1 ⟨rfl,rfl⟩;go_wp2_with fail
 exact zah rfl rfl (zaf (zac rfl)) underlying56 rfl (by kernel_rfl)
  ⟨w.heap.size + 1,m,rfl,HM.out,Nat.le_succ _,by rw [HZ.out]; exact zac (by simp),((Below.refl _ _).alloc xnl _).alloc (by simp) _⟩
theorem zd9 (S:Nat→Prop) (v:Value) (b:BitsL) (w:World) (h:BitsAt w S v b) (hn:-9223372036854775808≤b.len) (hn2:b.len≤9223372036854775807) :
  Calls prog 50 #[v] w fun e w'=>e = .returned (.bool (zap b))∧Below w.heap.size w w':=by
 obtain ⟨s,rfl,hv⟩:=h;obtain ⟨a,cap,rfl⟩:=hv.slice;clear hv;unfold zap;cases hr:zc6 b.len
 ·have HR:=zjp hr; clear hr
  go_enter func50,ntmps50
  go_wp2_with fail
  refine (zix _ _ hn hn2).mono ?_;rw [HR.out];rintro e w1 ⟨rfl,rfl⟩;go_wp2_with fail
  go_ret;exact ⟨rfl,(Below.refl _ _).alloc xnl _⟩
 ·have h0:=hr
  simp only [zc6,Bool.and_eq_true,decide_eq_true_iff,beq_iff_eq] at h0;obtain ⟨⟨h1,h2⟩,h3⟩:=h0;have HR:=zjp hr; clear hr h3;go_enter func50,ntmps50
  go_wp2_with fail
  refine (zix _ _ hn hn2).mono ?_;rw [HR.out];rintro e w1 ⟨rfl,rfl⟩;go_wp2_with fail
  go_ret;exact ⟨rfl,(Below.refl _ _).alloc xnl _⟩
theorem rbnew_no (n:Int) (w:World) (h:zc6 n = false) (h1:-9223372036854775808≤n) (h2:n≤9223372036854775807) :
  Calls prog 114 #[.int .i64 n] w fun e w'=>e = .returned (.tuple #[.agg #[.int .i64 0,.slice none 0 0],.int .i64 2])∧Below w.heap.size w w':=by
 have HR:=zjp h;clear h;go_enter func114,ntmps114
 go_wp2_with fail
 refine (zix n _ h1 h2).mono ?_;rw [HR.out];rintro e w1 ⟨rfl,rfl⟩;go_wp2_with fail
 exact zah rfl rfl (zac rfl) underlying56 rfl (by kernel_rfl)
  ⟨rfl,(Below.refl w.heap.size w).alloc xnl _⟩
end
section
open Go.RowKit
theorem one_encU:∀ x:Int,∀ u∈zc2 x,u.oneCell' = true:=by intro x u hu; simp at hu; subst hu; rfl
theorem rcopy9_any (S:Nat→Prop) (v:Value) (b:BitsL) (w:World) (h:BitsAt w S v b) (hn:b.words.length≤1000000) :
  Calls prog 51 #[v] w fun e w'=>∃ v',e = .returned (.agg #[.int .i64 b.len,v'])∧OwnV 39 1 zc2 w v' b.words w':=by
 obtain ⟨s,rfl,hv⟩:=h;obtain ⟨a,cap,rfl⟩:=hv.slice;obtain ⟨len,ws⟩:=b;dsimp only at hv hn ⊢;have HV:=zjp hv;clear hv;go_enter func51,ntmps51
 go_wp2_with fail
 refine zam (fun W hW=>?_)
 have hb0:=xam hW
 have hx0:W.heap[w.heap.size]? = some (.cells #[.int .i64 len,.slice a ws.length cap] 56 (0,0)):=by rw [hW]; exact zaf (zac rfl)
 have hz0:W.heap[w.heap.size + 1]? = some (.cells #[.int .i64 0,.slice none 0 0] 56 (0,0)):=by rw [hW]; exact zac (by simp)
 have hR:zcn W.drew 1 (.slice a ws.length cap) ws.length (ws.flatMap zc2):=Vec.reads (k:=1) (enc:=zc2) (fun _=>rfl) (HV.out.below (hb0.drew))
 have lz:=zaa hz0;have HR:=zjp hR; have HB:=zjp hb0.drew; have HX:=zjp hx0; have HZ:=zjp hz0;clear hW hb0 hR hz0;obtain ⟨x0,x1⟩:=zae hx0;clear hx0;refine wp_region_noPanic ?_
 refine wp_region_held_drew (S:=(fun w'=>w'.cell? ⟨w.heap.size,0,none⟩ = some (.int .i64 len)∧w'.cell? ⟨w.heap.size,1,none⟩ = some (.slice a ws.length cap))) (by kernel_rfl) (⟨x0,x1⟩) (fun hHeld=>?_)
 refine tH 0 (h:=?_);refine tH 1 (h:=?_);refine tH 2 (h:=?_);refine tH 3 (h:=?_);refine wpAnyH_ready (rs:=[4]) (by kernel_rfl) (by simp) ?_
 refine AllReadyH.cons rfl (fun K hK=>?_) AllReadyH.nil
 refine zbs (.const (.slice none 0 0)) (.tmp 6) 54 (by rfl) 39 (.int .u64 0) 1 8 zc2 (fun _=>rfl) one_encU underlying54 infoU rfl (by decide) (by decide) (w0:=W.drew) (v:=.slice none 0 0) (A:=[]) (B:=ws) (by rfl) (OwnV.nil (Below.refl _ _)) (by rfl) HR.out (by simp; omega) ?_; intro v' W2 ho hk hz; obtain ⟨a',c',e'⟩:=zau ho.1; subst e'; have hx2:=hk _ _ (by simp [Value.ownBlock]) (show W.drew.heap[w.heap.size]? = _ from HX.out); have hz2:=hk _ _ (by simp [Value.ownBlock]) (show W.drew.heap[w.heap.size + 1]? = _ from HZ.out); obtain ⟨e0,e1⟩:=zae hz2; have f0:=frozen_of_row _ _ 0 _ _ hz2; have f1:=frozen_of_row _ _ 1 _ _ hz2
 refine hK.out _ _ (zae hx2) (fun hHeld=>?_)
 clear hK K;refine tH 5 (h:=?_);refine wpAnyH_ready (rs:=[6]) (by kernel_rfl) (by simp) ?_
 refine AllReadyH.cons rfl (fun K hK=>?_) AllReadyH.nil
 go_simp;skip
 refine hK.out _ _ (zae (zan (zan hx2 (by simp)) (by simp))) (fun hHeld=>?_)
 clear hK K;refine wpAnyH_done (by kernel_rfl) ?_ _;refine NoPanic.normal ?_;go_wp2_with fail
 have hlt:∀ k,(Value.slice a' ([] ++ ws).length c').ownBlock = some k→w.heap.size + 1 < k:=fun k e=>by have:=(World.ownsRow.lt ho.1 k e).1; have:W.drew.heap.size = W.heap.size:=rfl; omega
 have hb2:=HB.out.trans (ho.2.mono HB.out.size);have ho2:=ho.rebase HB.out
 have h3:(((W2.setCell ⟨w.heap.size + 1,0,none⟩ (.int .i64 len)).setCell ⟨w.heap.size + 1,1,none⟩ (.slice a' ([] ++ ws).length c'))).ownsRow w.heap.size 39 1 (.slice a' ([] ++ ws).length c') ws.length (ws.flatMap zc2):=by
  refine zc7 (r:=some (w.heap.size + 1)) ho2.1 (fun k o hne hk'=>zan (zan hk' (fun e=>hne (by rw [e]))) (fun e=>hne (by rw [e]))) ?_
  by_cases h0:(Value.slice a' ([] ++ ws).length c').ownBlock = none
  ·exact .inl h0
  ·exact .inr fun e=>absurd (hlt _ e) (by omega)
 exact za4 rfl rfl (zad (i:=1) (v:=.slice a' ([] ++ ws).length c') (zad (i:=0) (v:=.int .i64 len) hz2)) underlying56 rfl (by kernel_rfl) ⟨_,rfl,h3,(hb2.setCell (p:=⟨w.heap.size + 1,0,none⟩) (by simp) _).setCell (p:=⟨w.heap.size + 1,1,none⟩) (by simp) _⟩
theorem own_setU {w:World} {B e n:Nat} {v:Value} {ws:List Int} {g:Nat} (h:w.ownsRow B e 1 v n (ws.flatMap zc2)) (hg:v.ownBlock = some g) (q:Nat) (x:Int):(w.setCell ⟨g,q,none⟩ (.int .u64 x)).ownsRow B e 1 v n ((ws.set q x).flatMap zc2):=by
 refine ⟨by rw [← h.1,fl_u,fl_u,List.length_map,List.length_map,List.length_set],?_⟩
 rcases h.2 with ⟨hv,_⟩ | ⟨g',cap,cur,hv,hB,hh,h1,h2,h3,h4⟩
 ·rw [hv] at hg; cases hg
 ·rw [hv] at hg
  have hgg:g' = g:=by simpa [Value.ownBlock] using hg
  subst hgg;refine .inr ⟨g',cap,cur.setIfInBounds q (.int .u64 x),hv,hB,zad hh,h1,h2,by simpa using h3,?_⟩;rw [Array.toList_setIfInBounds,fl_u,List.map_set,← fl_u,← h4,List.take_set]
theorem rset9_yes (S:Nat→Prop) (v:Value) (b:BitsL) (i:Int) (w:World) (h:BitsAt w S v b) (hvb:zap b = true) (i0:0≤i) (i1:i < b.len) :
  Calls prog 121 #[v,.int .i64 i] w fun e w'=>∃ v',e = .returned (.tuple #[v',.int .i64 0])∧BitsAt w' (fun x=>w.heap.size≤x) v' ⟨b.len,zfy b.words i⟩∧Below w.heap.size w w':=by
 obtain ⟨s,rfl,hv⟩:=h;obtain ⟨a,cap,rfl⟩:=hv.slice;obtain ⟨len,ws⟩:=b;dsimp only at hv i1 ⊢;have hvb0:=hvb;simp only [zap,zc6,Bool.and_eq_true,decide_eq_true_iff,beq_iff_eq] at hvb0;obtain ⟨⟨⟨l1,l2⟩,l3⟩,l4⟩:=hvb0;have hm:(ws.length:Int) * 64 = len:=by omega
 have hm8:ws.length≤8:=by omega
 have hm1:1≤ws.length:=by omega
 have HV:=zjp hv.any; have HVb:=zjp hvb; have HM:=zjp hm;clear hv hvb l3 l4 hm;go_enter func121,ntmps121
 go_wp2_with fail
 refine zai (fun W hW=>?_)
 have hb0:=xam hW
 have hx0:W.heap[w.heap.size]? = some (.cells #[.int .i64 len,.slice a ws.length cap] 56 (0,0)):=by rw [hW]; exact zaf (zac rfl)
 have hz0:W.heap[w.heap.size + 1]? = some (.cells #[.int .i64 0,.slice none 0 0] 56 (0,0)):=by rw [hW]; exact zac (by simp)
 clear hW;refine (zd9 zav _ ⟨len,ws⟩ W ⟨_,rfl,HV.out.below hb0⟩ (by dsimp only; omega) (by dsimp only; omega)).mono ?_;rw [HVb.out];rintro e w1 ⟨rfl,hb⟩;have HX1:=zjp (zab hb (zaa hx0) hx0); have HZ1:=zjp (zab hb (zaa hz0) hz0); have HB1:=zjp (hb0.trans (hb.mono hb0.size));have lx:=zaa HX1.out;obtain ⟨x0,x1⟩:=zae HX1.out;have d1:decide (i < (0:Int)) = false:=by simp; omega
 have d2:decide (len≤i) = false:=by simp; omega
 clear hb0 hx0 hz0 hb;go_wp2_with fail
 refine (rcopy9_any zav _ ⟨len,ws⟩ _ ⟨_,rfl,HV.out.below HB1.out⟩ (by dsimp only; omega)).mono ?_;rintro e w2 ⟨v',rfl,ho⟩;dsimp only at ho ⊢
 rcases ho.form with ⟨_,h0⟩ | ⟨g,cp,rfl,hcp,hcm,lg⟩
 ·rw [h0] at hm1; simp at hm1
 have hgB:w1.heap.size≤g:=(World.ownsRow.lt ho.1 g rfl).1;have HX2:=zjp (zab ho.2 (zaa HX1.out) HX1.out); have HZ2:=zjp (zab ho.2 (zaa HZ1.out) HZ1.out); have HB2:=zjp (HB1.out.trans (ho.2.mono HB1.out.size)); have HO:=zjp ho;clear ho x0 x1 hcp hcm;go_wp2_with fail
 refine zam (fun W6 hW6=>?_)
 have h6:W6.heap[w2.heap.size]? = some (.cells #[.int .i64 len,.slice (some ⟨g,0,none⟩) ws.length cp] 56 (0,0)):=by rw [hW6]; exact zac rfl
 have b6:=xal hW6
 have ho6:=zcb HO.out.1 b6;obtain ⟨d0,d1'⟩:=zae h6;have hq:(i / 64).toNat < ws.length:=by have:=HM.out; omega
 have hvec:Vec W6 zav 1 zc2 (.slice (some ⟨g,0,none⟩) ws.length cp) ws:=Vec.owns (k:=1) (enc:=zc2) (fun _=>rfl) ho6 fun _ _ _=>trivial
 obtain ⟨b',off,eb,_,hc⟩:=hvec.get _ hq;cases eb;have cw:=hc 0 _ rfl;rw [Nat.mul_one,Nat.add_zero,Nat.zero_add] at cw;rw [← za5 ws 0 hq] at cw;obtain ⟨wd,hwd⟩:∃ wd,ws.getD (i / 64).toNat 0 = wd:=⟨_,rfl⟩;rw [hwd] at cw
 obtain ⟨cur,hcur⟩:∃ cur,W6.heap[g]? = some (.cells cur 39 (0,0)):=by
  rcases ho6.2 with ⟨e,_⟩ | ⟨g',cap',cur,e,_,hh,_⟩
  ·cases e
  ·cases e; exact ⟨cur,hh⟩
 have fw:=frozen_of_row _ _ (i / 64).toNat _ _ hcur;have lg6:=zaa hcur;have ht1:i.tdiv 64 = i / 64:=Int.tdiv_eq_ediv_of_nonneg i0;have ht2:i.tmod 64 = i % 64:=Int.tmod_eq_emod_of_nonneg i0;have hw1:IntKind.i64.wrap (i / 64) = i / 64:=by rw [IntKind.wrap_i64]; omega
 have j0:(0:Int)≤i / 64:=by omega
 have j1:i / 64 < (ws.length:Int):=by have:=HM.out; omega
 have j2:(0:Int)≤i % 64:=by omega
 have j3:¬ (i % 64 < 0):=by omega
 have HO6:=zjp ho6; have H6:=zjp h6; have HB6:=zjp b6; have HWD:=zjp hwd;have HX6:=zjp (zab b6 (zaa HX2.out) HX2.out); have HZ6:=zjp (zab b6 (zaa HZ2.out) HZ2.out);clear hW6 h6 b6 ho6 hvec hc hwd hcur hq;refine wp_region_noPanic ?_
 refine zat (by kernel_rfl) (fun w'=>w'.cell? ⟨w2.heap.size,1,none⟩ = some (.slice (some ⟨g,0,none⟩) ws.length cp)∧w'.cell? ⟨g,(i / 64).toNat,none⟩ = some (.int .u64 wd)) 11 (⟨d1',cw⟩) (fun hHeld=>?_)
 refine tK 0 (h:=?_);refine tK 1 (h:=?_);refine tK 2 (h:=?_);refine tK 3 (h:=?_);refine tK 4 (h:=?_);refine tK 5 (h:=?_);refine tK 6 (h:=?_);refine tK 7 (h:=?_);refine tK 8 (h:=?_);refine tK 9 (h:=?_);refine tK 10 (h:=?_)
 refine xrK 11 rfl fun K hK=>?_
 go_simp;refine zas hK (by decide) ?_;clear hK K;refine zar (by kernel_rfl) ?_ _;refine NoPanic.normal ?_;obtain ⟨x,hx⟩:∃ x,bits .or .u64 wd (IntKind.u64.wrap (2 ^ (i % 64).toNat)) = x:=⟨_,rfl⟩;rw [hx];obtain ⟨W7,hW7⟩:∃ u,u = (W6.setCell ⟨g,(i / 64).toNat,none⟩ (.int .u64 x)).drew:=⟨_,rfl⟩;rw [← hW7];have z2:=HB2.out.size; have z6:=HB6.out.size; have lz:=zaa HZ6.out; have l2:=zaa H6.out;have hgne:w2.heap.size≠g:=by omega
 have hk7:∀ k o,k≠g→W6.heap[k]? = some o→W7.heap[k]? = some o:=fun k o hne ho=>by rw [hW7]; exact (show (W6.setCell ⟨g,(i / 64).toNat,none⟩ (.int .u64 x)).heap[k]? = some o from zan ho hne)
 have z7:W7.heap.size = W6.heap.size:=by rw [hW7]; simp [World.setCell,World.drew]
 have h67:=hk7 _ _ hgne H6.out;have lz1:=zaa HZ1.out;have hz7:=hk7 _ _ (by omega) HZ6.out
 have ho7:W7.ownsRow w1.heap.size 39 1 (.slice (some ⟨g,0,none⟩) ws.length cp) ws.length ((ws.set (i / 64).toNat x).flatMap zc2):=by
  rw [hW7]; exact own_setU HO6.out rfl _ _
 have hb7:Below w.heap.size w W7:=by
  rw [hW7];exact ((HB2.out.trans (HB6.out.mono HB2.out.size)).setCell (p:=⟨g,(i / 64).toNat,none⟩) (by have:=HB1.out.size; show w.heap.size≤g; omega) _).drew
 have he:zfy ws i = ws.set (i / 64).toNat x:=by
  rw [← hx,← HWD.out]; rfl
 obtain ⟨e0,e1⟩:=zae h67; obtain ⟨y0,y1⟩:=zae hz7;have f0:=frozen_of_row _ _ 0 _ _ hz7; have f1:=frozen_of_row _ _ 1 _ _ hz7;have lz7:=zaa hz7; have l67:=zaa h67;have HE:=zjp he;have HO7:=zjp ho7; have HZ7:=zjp hz7; have HB7:=zjp hb7;have hge:w.heap.size + 1 < g:=by have:=zaa HZ1.out; omega
 clear hW7 hk7 h67 hz7 ho7 hb7 he hx d0 d1' cw;go_wp2_with fail
 refine zah rfl rfl (zad (i:=1) (v:=.slice (some ⟨g,0,none⟩) ws.length cp) (zad (i:=0) (v:=.int .i64 len) HZ7.out)) underlying56 rfl (by kernel_rfl)
  ⟨_,rfl,⟨_,rfl,?_⟩,(HB7.out.setCell (p:=⟨w.heap.size + 1,0,none⟩) (by simp) _).setCell (p:=⟨w.heap.size + 1,1,none⟩) (by simp) _⟩
 have hv7:Vec W7 (fun b=>w.heap.size≤b∧b≠w.heap.size + 1) 1 zc2 (.slice (some ⟨g,0,none⟩) ws.length cp) (ws.set (i / 64).toNat x):=by
  have h:=HO7.out;have hsl:(ws.set (i / 64).toNat x).length = ws.length:=List.length_set;rw [← hsl] at h;have h':=Vec.owns (k:=1) (enc:=zc2) (fun _=>rfl) h (S:=fun b=>b = g∨True) fun _ _ _=>.inr trivial
  obtain ⟨a2,c2,e2,k1,k2⟩:=h';rw [hsl] at e2;cases e2
  refine ⟨_,_,by rw [hsl],k1,fun h0=>?_⟩
  obtain ⟨b2,o2,q1,_,q3,q4⟩:=k2 h0;cases q1;exact ⟨_,_,rfl,⟨by omega,by omega⟩,q3,q4⟩
 have h8:=(hv7.set1 (a:=⟨w.heap.size + 1,0,none⟩) (fun b hb=>hb.2) (.int .i64 len)).set1 (a:=⟨w.heap.size + 1,1,none⟩) (fun b hb=>hb.2) (.slice (some ⟨g,0,none⟩) ws.length cp)
 have h9:=h8.move (S':=fun b=>w.heap.size≤b) xnl fun b _ hb=>⟨rfl,hb.1⟩
 rw [← HE.out] at h9;exact h9
end
end Go.Proofs.YtgkaafncfjlooaaGreatDoor
section
namespace Go.Proofs
open Go.Shelf
def Tryz.sortg_ren:Go.Shelf.Ren:=⟨fun | 6=>102 | 15=>145 | 14=>144 | 28=>194 | 29=>195 | 20=>186 | 21=>187 | 22=>188 | 23=>189 | 24=>190 | 25=>191 | 26=>192 | 27=>193 | 46=>223 | 47=>224 | 48=>225 | 49=>226 | 50=>227 | 57=>245 | n=>n,fun | 22=>157 | 24=>160 | 25=>164 | 3=>3 | 39=>119 | 0=>0 | 53=>228 | 55=>39 | 4=>4 | 46=>222 | 45=>221 | 50=>103 | 5=>5 | 9=>9 | 66=>237 | 70=>240 | 76=>247 | 77=>248 | n=>n,fun | n=>n⟩
theorem Tryz.sortg:Go.Proofs.SlLaysF0.n6 prog Tryz.sortg_ren:={
 mixed:=by kernel_rfl
 f6:=⟨Tryz.f102.name,by decide,func102.trans (congrArg some (by kernel_rfl))⟩
 f14:=⟨Tryz.f144.name,by decide,func144.trans (congrArg some (by kernel_rfl))⟩
 f15:=func145.trans (congrArg some (by kernel_rfl))
 f20:=⟨Tryz.f186.name,by decide,func186.trans (congrArg some (by kernel_rfl))⟩
 f21:=⟨Tryz.f187.name,by decide,func187.trans (congrArg some (by kernel_rfl))⟩
 f22:=⟨Tryz.f188.name,by decide,func188.trans (congrArg some (by kernel_rfl))⟩
 f23:=⟨Tryz.f189.name,by decide,func189.trans (congrArg some (by kernel_rfl))⟩
 f24:=⟨Tryz.f190.name,by decide,func190.trans (congrArg some (by kernel_rfl))⟩
 f25:=⟨Tryz.f191.name,by decide,func191.trans (congrArg some (by kernel_rfl))⟩
 f26:=⟨Tryz.f192.name,by decide,func192.trans (congrArg some (by kernel_rfl))⟩
 f27:=⟨Tryz.f193.name,by decide,func193.trans (congrArg some (by kernel_rfl))⟩
 f28:=func194.trans (congrArg some (by kernel_rfl))
 f29:=func195.trans (congrArg some (by kernel_rfl))
 f46:=⟨Tryz.f223.name,by decide,func223.trans (congrArg some (by kernel_rfl))⟩
 f47:=func224.trans (congrArg some (by kernel_rfl))
 f48:=func225.trans (congrArg some (by kernel_rfl))
 f49:=⟨Tryz.f226.name,by decide,func226.trans (congrArg some (by kernel_rfl))⟩
 f50:=⟨Tryz.f227.name,by decide,func227.trans (congrArg some (by kernel_rfl))⟩
 f57:=⟨Tryz.f245.name,by decide,func245.trans (congrArg some (by kernel_rfl))⟩
 t0:=underlying0
 a0:=Tryz.isAgg0
 z0:=Tryz.sizeOf0
 v0:=Tryz.zeroValue0
 t3:=underlying3
 a3:=Tryz.isAgg3
 z3:=Tryz.sizeOf3
 v3:=Tryz.zeroValue3
 t4:=underlying4
 a4:=Tryz.isAgg4
 z4:=Tryz.sizeOf4
 v4:=Tryz.zeroValue4
 t5:=underlying5
 a5:=Tryz.isAgg5
 z5:=Tryz.sizeOf5
 v5:=Tryz.zeroValue5
 t9:=underlying9
 a9:=Tryz.isAgg9
 z9:=Tryz.sizeOf9
 v9:=Tryz.zeroValue9
 t22:=underlying157
 a22:=Tryz.isAgg157
 z22:=Tryz.sizeOf157
 v22:=Tryz.zeroValue157
 t25:=underlying164
 a25:=Tryz.isAgg164
 z25:=Tryz.sizeOf164
 v25:=Tryz.zeroValue164
 t39:=underlying119
 a39:=Tryz.isAgg119
 z39:=Tryz.sizeOf119
 v39:=Tryz.zeroValue119
 t45:=underlying221
 a45:=Tryz.isAgg221
 z45:=Tryz.sizeOf221
 v45:=Tryz.zeroValue221
 t46:=underlying222
 a46:=Tryz.isAgg222
 z46:=Tryz.sizeOf222
 v46:=Tryz.zeroValue222
 t50:=underlying103
 a50:=Tryz.isAgg103
 z50:=Tryz.sizeOf103
 v50:=Tryz.zeroValue103
 t53:=underlying228
 a53:=Tryz.isAgg228
 z53:=Tryz.sizeOf228
 v53:=Tryz.zeroValue228
 t55:=underlying39
 a55:=Tryz.isAgg39
 z55:=Tryz.sizeOf39
 v55:=Tryz.zeroValue39
 t66:=underlying237
 a66:=Tryz.isAgg237
 z66:=Tryz.sizeOf237
 v66:=Tryz.zeroValue237
 t70:=underlying240
 a70:=Tryz.isAgg240
 z70:=Tryz.sizeOf240
 v70:=Tryz.zeroValue240
 t76:=underlying247
 a76:=Tryz.isAgg247
 z76:=Tryz.sizeOf247
 v76:=Tryz.zeroValue247
 t77:=underlying248
 a77:=Tryz.isAgg248
 z77:=Tryz.sizeOf248
 v77:=Tryz.zeroValue248 }
end Go.Proofs
end
namespace Go.Proofs.YtgkaafncfjlooaaGreatDoor
section
open Go.RowKit
def UClonePost (ws:List Int) (w:World) (e:Ending) (w':World):Prop :=
 ∃ (a:Option Addr) (n c:Nat),e = .returned (.slice a n c)∧Vec w' (fun b=>w.heap.size≤b) 1 zc2 (.slice a n c) ws∧Below w.heap.size w w'
theorem uclone_any (S:Nat→Prop) (v:Value) (ws:List Int) (w:World) (h:Vec w S 1 zc2 v ws) (hn:ws.length≤1000000) :
  Calls prog 101 #[v] w (UClonePost ws w):=by
 obtain ⟨a,cap,rfl⟩:=h.slice;have HC:=zjp h;obtain ⟨n,hnC⟩:∃ n,ws.length = n:=⟨_,rfl⟩;have HN:=zjp hnC;rw [hnC];have hn2:n≤1000000:=by omega
 rcases a with _ | ad
 ·have h0:ws = []:=by
   rcases Nat.eq_zero_or_pos ws.length with h1 | h1
   ·exact List.length_eq_zero_iff.1 h1
   ·obtain ⟨b,off,e,_⟩:=h.get 0 h1
    cases e
  have H0:=zjp h0;have hq:=fun w':World=>Lib.run_eql_slice_nil (P:=prog) w' 54 _ none n cap 0 0 underlying54
  simp only [Option.isNone] at hq;clear h hnC h0;go_enter func101,ntmps101
  go_wp2_with fail
  go_ret;exact ⟨_,_,_,rfl,by rw [H0.out]; exact OwnV.vec (size:=1) (enc:=zc2) (fun _=>rfl) (OwnV.start 39 1 zc2 w),Below.refl _ _⟩
 ·have bA:Below w.heap.size w (w.alloc (.cells #[] 39)):=(Below.refl _ _).alloc xnl _
  have hown:OwnV 39 1 zc2 w (.slice (some ⟨w.heap.size,0,none⟩) 0 0) ([]:List Int) (w.alloc (.cells #[] 39)) :=
   ⟨⟨rfl,.inr ⟨w.heap.size,0,#[],rfl,Nat.le_refl _,zac rfl,Nat.le_refl _,Nat.zero_le _,rfl,rfl⟩⟩,bA⟩
  have hrd:zcn (w.alloc (.cells #[] 39)) 1 (.slice (some ad) n cap) ws.length (ws.flatMap zc2):=by
   rw [← hnC]; exact Vec.reads (k:=1) (enc:=zc2) (fun _=>rfl) (h.below bA)
  have hl:([]:List Int).length + ws.length≤1000000000:=by simp; omega
  have HOw:=zjp hown; have HRd:=zjp hrd; have HL:=zjp hl;have hq:=fun w':World=>Lib.run_eql_slice_nil (P:=prog) w' 54 _ (some ad) n cap 0 0 underlying54
  simp only [Option.isNone] at hq;clear hown hrd bA h hnC hl;go_enter func101,ntmps101
  go_wp2_with (at_builtin; refine zcr rfl (.tmp 5) (.tmp 6) 54 rfl 39 (.int .u64 0) 1 8 zc2 (fun _=>rfl) one_encU underlying54 infoU rfl (by decide) (by decide) (w0:=w) (v:=.slice (some ⟨w.heap.size,0,none⟩) 0 0) (A:=[]) (B:=ws) rfl HOw.out rfl HRd.out HL.out ?_; intro v7 w7 ho7 hk7 hz7)
  go_ret;rw [List.nil_append] at ho7;obtain ⟨a7,c7,e7⟩:=zau ho7.1;subst e7;exact ⟨_,_,_,rfl,OwnV.vec (size:=1) (enc:=zc2) (fun _=>rfl) ho7,ho7.2⟩
end
end Go.Proofs.YtgkaafncfjlooaaGreatDoor
