/- Parts of one proof: RefAddrC, RefDateA, RefDateB, RefSchB, RefSchC, MakeZZ, DeckRec, MakeB, Drawn, DeckRecB, AppendM, DeckRecs, EncL, EncN, OpenEnc, EexA, Tail, EShort, EncO, EexB. -/
import Derived.Test.YtpmpdonccgcehaaGreatDoorPartEx5
import Derived.Deep.RegionWith
import Derived.Deep.OwnRows
set_option maxHeartbeats 16000000
set_option maxRecDepth 100000
open Go.Proofs.Tryz
set_option linter.unusedSimpArgs false
set_option linter.unusedVariables false
namespace Go.Proofs.YtpmpdonccgcehaaGreatDoor
section
open Go.RowKit
attribute [local go_sem] zah zaj zar
theorem flat_setS (L:List (List UInt8)) (y:List UInt8):∀ k,(L.set k y).flatMap za2 = (L.flatMap za2).set k (zal y):=by
 induction L with
 | nil=>intro k; rfl
 | cons a L ih =>
  intro k;cases k with
  | zero=>rfl
  | succ k =>
   rw [List.set_cons_succ,List.flatMap_cons,List.flatMap_cons,ih];rfl
theorem TwoAt.store {w wr:World} {v:Value} {Y N:List (List UInt8)} {g c:Nat} (h:TwoAt w v (.slice (some ⟨g,0,none⟩) N.length c) Y N wr) (k:Nat) (y:List UInt8):TwoAt w v (.slice (some ⟨g,0,none⟩) N.length c) Y (N.set k y) (wr.setCell ⟨g,k,none⟩ (zal y)):=by
 obtain ⟨h1,h2,h3,h4⟩:=h;obtain ⟨s1,s2⟩:=h2.stored k (zal y)
 refine ⟨own_kept h1 s2 (fun q hq e=>?_),by rw [List.length_set,flat_setS]; exact s1,h3,h4.setCell (h2.lt g rfl).1 _⟩
 have:=h3 q hq;exact this (by rw [← e]; rfl)
theorem own_ptr {w:World} {B e size n c:Nat} {a:Option Addr} {xs:List Value} (h:w.ownsRow B e size (.slice a n c) n xs) (hn:0 < n):∃ g,a = some ⟨g,0,none⟩∧B≤g∧g < w.heap.size:=by
 rcases h.2 with ⟨_,h0⟩ | ⟨g,cap,cur,hv,hg,hh,_⟩
 ·omega
 ·cases hv; exact ⟨g,rfl,hg,zaa hh⟩
theorem flat_cell (L:List (List UInt8)) (k:Nat) (h:k < L.length):(L.flatMap za2)[k]? = some (zal (L.getD k [])):=flat_get1 L k h
theorem parts_len (T:List (List UInt8)):(T.filter fun x=>!zc1 x).length + (T.filter zc1).length = T.length:=by
 induction T with
 | nil=>rfl
 | cons x T ih=>cases hx:zc1 x <;> simp [List.filter_cons,hx] <;> omega
theorem addr_num {r:RulesL} (h:zcj r.streets = true) (x:List UInt8):zc1 (za3 r x) = zc1 x:=by
 by_cases hn:zc1 x = true
 ·have e:za3 r x = zbn x:=by unfold za3; rw [if_pos hn]
  rw [e,hn]; exact short_num x
 ·have e:za3 r x = zbe r.streets x:=by unfold za3; rw [if_neg hn]
  rw [e]
  rcases zib h x with hs | ⟨k,hk,e1,e2,e3⟩
  ·rw [hs]
  ·rw [low_not_num (token_low e2).2]; simpa using hn
theorem order_parts {r:RulesL} (h:zcj r.streets = true) (T:List (List UInt8)):zb8 (T.map (za3 r)) = (T.filter fun x=>!zc1 x).map (zbe r.streets) ++ (T.filter zc1).map zbn:=by
 unfold zb8;congr 1
 ·induction T with
  | nil=>rfl
  | cons x T ih =>
   cases hx:zc1 x
   ·simp only [List.map_cons,List.filter_cons,addr_num h,hx,Bool.not_false,if_true,ih]
    congr 1;unfold za3; rw [hx]; simp
   ·simp only [List.map_cons,List.filter_cons,addr_num h,hx,Bool.not_true,Bool.false_eq_true,if_false,ih]
 ·induction T with
  | nil=>rfl
  | cons x T ih =>
   cases hx:zc1 x
   ·simp only [List.map_cons,List.filter_cons,addr_num h,hx,Bool.false_eq_true,if_false,ih]
   ·simp only [List.map_cons,List.filter_cons,addr_num h,hx,if_true,ih]
    congr 1;unfold za3; rw [hx]; simp
theorem raddr_yes (S:Nat→Prop) (vt vn vs:Value) (r:RulesL) (s:ByteArray) (w:World) (h:RulesAt w S vt vn vs r) (hc:zaz r = 0) (hv:zc6 s.data.toList = true) :
  Calls prog 175 #[.agg #[vt,vn,vs],.string s] w fun e w'=>e = .returned (zdf (zc3 r s.data.toList))∧Below w.heap.size w w':=by
 obtain ⟨⟨k1,k2,k3⟩,g1,g2,g3,g4⟩:=zes hc;have hfl:=zgn s.data.toList;have h64:=zf9 hv;obtain ⟨avs,cvs,rfl⟩:=h.2.2.slice;have G3:=zi5 g3;have HR:=zi5 h.any;have HC:=zi5 hc; have HV:=zi5 hv
 have hfin:zc3 r s.data.toList = (if 6 < (zcl (zb2 s.data.toList)).length∨64 < (zay (zb8 ((zcl (zb2 s.data.toList)).map (za3 r)))).length then ([],1) else (zay (zb8 ((zcl (zb2 s.data.toList)).map (za3 r))),0)):=by
  unfold zc3; rw [if_pos HC.out,if_pos HV.out]
 have HF:=zi5 hfin;clear h hc hv g1 g2 g3 g4 hfin;go_enter func175,ntmps175
 go_wp2_with fail
 refine (zdt zaw vt vn _ r _ (HR.out.below ((Below.refl _ _).alloc xnl _))).mono ?_;rw [HC.out];rintro e w1 ⟨rfl,hb1⟩;have HX1:=zi5 (show w1.heap[w.heap.size]? = some (.cells #[vt,vn,.slice avs r.streets.length cvs] 42 (0,0)) from zab hb1 (by simp) (zac rfl));have HB1:=zi5 (xbt hb1);clear hb1;go_wp2_with fail
 refine (rfold_yes s _ HV.out).mono ?_;rintro e w2 ⟨rfl,hb2⟩;have HX2:=zi5 (zab hb2 (zaa HX1.out) HX1.out);have HB2:=zi5 (HB1.out.trans (hb2.mono HB1.out.size));clear hb2 HX1 HB1;obtain ⟨fl,hfl'⟩:∃ fl,zb2 s.data.toList = fl:=⟨_,rfl⟩;rw [hfl'] at hfl HF ⊢;clear hfl';go_wp2_with fail
 refine (zgf ⟨fl.toArray⟩ _ (by rw [zaj]; omega)).mono ?_;rw [show (⟨fl.toArray⟩:ByteArray).data.toList = fl by simp];rintro e w3 ⟨v3,rfl,ho⟩;obtain ⟨hT1,hT2⟩:=toks_len fl (by omega);obtain ⟨T,hT⟩:∃ T,zcl fl = T:=⟨_,rfl⟩;rw [hT] at ho hT1 hT2 HF;have HX3:=zi5 (zab ho.2 (zaa HX2.out) HX2.out);have HB3:=zi5 (HB2.out.trans (ho.2.mono HB2.out.size));have HV3:=zi5 (Vec.owns (S:=zaw) (k:=1) (enc:=za2) (fun _=>rfl) ho.1 (fun _ _ _=>trivial))
 have HT2:=zi5 hT2;clear ho hT hT2 HX2 HB2;go_wp2_with fail
 refine (rparts_any zaw _ T _ HV3.out (by omega)).mono ?_;rintro e w4 ⟨u,v,rfl,ht⟩;have hO:=List.length_filter_le (fun x=>!zc1 x) T
 have hN:=List.length_filter_le zc1 T;have hnum:∀ x∈T.filter zc1,zc1 x = true:=fun x hx=>(List.mem_filter.1 hx).2
 have hnl:∀ x∈T.filter zc1,x.length≤64:=fun x hx=>HT2.out x (List.mem_filter.1 hx).1
 have hol:∀ x∈T.filter (fun x=>!zc1 x),x.length≤64:=fun x hx=>HT2.out x (List.mem_filter.1 hx).1
 have hord:=order_parts G3.out T;have hsum:=parts_len T;rw [hord] at HF;obtain ⟨O,hOe⟩:∃ O,(T.filter fun x=>!zc1 x) = O:=⟨_,rfl⟩
 obtain ⟨N,hNe⟩:∃ N,T.filter zc1 = N:=⟨_,rfl⟩;rw [hOe] at ht hO hol HF hsum;rw [hNe] at ht hN hnum hnl HF hsum;have HSum:=zi5 hsum; clear hsum;obtain ⟨au,cu,rfl⟩:=za1 ht.2.1;obtain ⟨av,cv,rfl⟩:=za1 ht.1;have HT:=zi5 ht; have HNum:=zi5 hnum; have HNl:=zi5 hnl; have HOl:=zi5 hol;have z3:=zaa HX3.out;clear ht hnum hnl hol hord hOe hNe HV3;go_wp2_with fail
 go_loopw [11] (fun i wr=>∃ k:Nat,k≤O.length∧i = .int .i64 k∧TwoAt w3 (.slice av N.length cv) (.slice au O.length cu) N (midL (zbe r.streets) O k) wr) (fun i _=>O.length - (intOf i).toNat)
 case atStart=>exact ⟨0,by omega,rfl,by simpa [midL] using HT.out⟩
 case round =>
  obtain ⟨k,hk,rfl,ht⟩:=hrel;have HW:=zi5 ht.2.2.2;have HTk:=zi5 ht;have HXk:=zi5 (zab ht.2.2.2 z3 HX3.out);have zk:=zaa HXk.out;obtain ⟨p0,p1,p2⟩:=zai HXk.out;clear ht;by_cases hlt:k < O.length
  ·have hq:decide ((k:Int) < O.length) = true:=by simp; omega
   have hi:(k:Int) < (O.length:Int):=by omega
   have hml:(midL (zbe r.streets) O k).length = O.length:=mid_len _ _ _ hk;have hown:=HTk.out.2.1;rw [hml] at hown;obtain ⟨g,rfl,hg1,hg2⟩:=own_ptr hown (by omega);have c1:=hown.cellAt k (by omega);rw [flat_cell _ k (by omega),mid_get _ _ _ hlt] at c1;have f1:=hown.frozenAt k;have hset:=mid_set (zbe r.streets) O k hlt _ rfl;obtain ⟨x,hx⟩:∃ x,O.getD k [] = x:=⟨_,rfl⟩;rw [hx] at c1 hset;have HSet:=zi5 hset;have hK:=zi5 (fun (W:World) (hW:Below wr.heap.size wr W)=>rreplace_any zaw (.slice avs r.streets.length cvs) r.streets x W (HR.out.2.2.below (HB3.out.trans ((HW.out.trans (hW.mono HW.out.size)).mono HB3.out.size))) (by omega))
   have hst:=HTk.out;rw [← hml] at hst;have HSt:=zi5 hst;have hne:w.heap.size≠g:=by have:=HB3.out.size; omega
   clear hown hset hx hst;go_wp2_with fail
   go_region_with ((refine (hK.out _ (Below.refl _ _).drew).mono ?_; rintro e w' ⟨rfl,rfl⟩))
   all_goals
    have HN2:=zi5 ((HSt.out.store k (zbe r.streets x)).below (Below.refl _ _).drew);rw [HSet.out,hml] at HN2;go_wp2_with fail
    go_roundw
    case rel=>exact ⟨k + 1,by omega,by go_num,HN2.out⟩
    case measure=>simp [intOf]; omega
  ·have hq:decide ((k:Int) < O.length) = false:=by simp; omega
   have hmid:midL (zbe r.streets) O k = O.map (zbe r.streets):=by unfold midL; rw [List.take_of_length_le (by omega),List.drop_eq_nil_of_le (by omega),List.append_nil]
   rw [hmid] at HTk;have hml:(O.map (zbe r.streets)).length = O.length:=List.length_map _
   have hsmall:∀ x∈O.map (zbe r.streets),x.length≤64:=by
    intro x hx;obtain ⟨y,hy,rfl⟩:=List.mem_map.1 hx;exact canon_len G3.out y (HOl.out y hy)
   obtain ⟨O2,hO2⟩:∃ O2,O.map (zbe r.streets) = O2:=⟨_,rfl⟩;rw [hO2] at HTk hml hsmall HF;have HSm:=zi5 hsmall;obtain ⟨wo,rfl⟩:∃ wo:World,wo = wr:=⟨_,rfl⟩;clear hmid hO2 hsmall;go_wp2_with fail
   go_loopw [12] (fun i wr=>∃ k:Nat,k≤N.length∧i = .int .i64 k∧TwoAt w3 (.slice av N.length cv) (.slice au O.length cu) (midL zbn N k) O2 wr) (fun i _=>N.length - (intOf i).toNat)
   case atStart=>exact ⟨0,by omega,rfl,by simpa [midL] using HTk.out⟩
   case round =>
    obtain ⟨k,hk2,rfl,ht⟩:=hrel;have HW2:=zi5 ht.2.2.2;have HTj:=zi5 ht;clear ht;by_cases hlt2:k < N.length
    ·have hq2:decide ((k:Int) < N.length) = true:=by simp; omega
     have hi:(k:Int) < (N.length:Int):=by omega
     have hml2:(midL zbn N k).length = N.length:=mid_len _ _ _ hk2;have hown:=HTj.out.1;rw [hml2] at hown;obtain ⟨g,rfl,hg1,hg2⟩:=own_ptr hown (by omega);have c1:=hown.cellAt k (by omega);rw [flat_cell _ k (by omega),mid_get _ _ _ hlt2] at c1;have f1:=hown.frozenAt k;have hset:=mid_set zbn N k hlt2 _ rfl;have hmem:N.getD k []∈N:=by rw [List.getD,List.getElem?_eq_getElem hlt2]; exact List.getElem_mem hlt2
     obtain ⟨x,hx⟩:∃ x,N.getD k [] = x:=⟨_,rfl⟩;rw [hx] at c1 hset hmem;have HSet:=zi5 hset;have hst:=HTj.out.swap;rw [← hml2] at hst;have HSt:=zi5 hst;have HK:=zi5 (fun W=>rtrimmed_any x W (HNum.out x hmem) (by have:=HNl.out x hmem; omega))
     clear hown hset hx hst hmem;go_wp2_with fail
     refine (HK.out _).mono ?_;rintro e w' ⟨rfl,rfl⟩;have HN2:=zi5 ((HSt.out.store k (zbn x)).swap);rw [HSet.out,hml2] at HN2;go_wp2_with fail
     go_roundw
     case rel=>exact ⟨k + 1,by omega,by go_num,HN2.out⟩
     case measure=>simp [intOf]; omega
    ·have hq2:decide ((k:Int) < N.length) = false:=by simp; omega
     have hmid:midL zbn N k = N.map zbn:=by unfold midL; rw [List.take_of_length_le (by omega),List.drop_eq_nil_of_le (by omega),List.append_nil]
     rw [hmid] at HTj;have hml2:(N.map zbn).length = N.length:=List.length_map _
     have hsmall2:∀ x∈N.map zbn,x.length≤65:=by
      intro x hx;obtain ⟨y,hy,rfl⟩:=List.mem_map.1 hx;have:=short_len y; have:=HNl.out y hy; omega
     obtain ⟨N2,hN2⟩:∃ N2,N.map zbn = N2:=⟨_,rfl⟩;rw [hN2] at HTj hml2 hsmall2 HF;have HSm2:=zi5 hsmall2;have ho1:=HTj.out.2.1;have ho2:=HTj.out.1;rw [hml] at ho1;rw [hml2] at ho2;have HO1:=zi5 ho1; have HO2:=zi5 ho2
     have hjl:=join_le (m:=65) (O2 ++ N2) (fun x hx=>by
      rcases List.mem_append.1 hx with hx | hx
      ·have:=HSm.out x hx; omega
      ·have:=HSm2.out x hx; omega)
     clear hmid hN2 hsmall2 ho1 ho2;obtain ⟨i0,hi,hz0,hz1,hz2⟩:=info_parts zdi;have hlenJ:(O2 ++ N2).length = O.length + N.length:=by rw [List.length_append,hml,hml2]
     have hTJ:T.length = (O2 ++ N2).length:=by rw [hlenJ]; exact HSum.out.symm
     rw [hTJ] at HF;have HLJ:=zi5 hlenJ;have hJ65:(O2 ++ N2).length≤65:=by omega
     have hJl:(zay (O2 ++ N2)).length≤1000000:=by
      have:(O2 ++ N2).length * 66≤65 * 66:=Nat.mul_le_mul_right 66 hJ65;omega
     have HHi:=zi5 hi; have HZ0:=zi5 hz0; have HZ1:=zi5 hz1; have HZ2:=zi5 hz2;have hbz:=HW2.out.size;have hol2:O.length≤65:=by omega
     have hnl2:N.length≤65:=by omega
     clear hTJ hlenJ hjl hi hz0 hz1 hz2 hml hml2;go_upto_region 16 with (fail)
     go_cut [13] (fun s13 wx=>∃ a c,s13 = .slice a (O2 ++ N2).length c∧Vec wx zaw 1 za2 s13 (O2 ++ N2)∧Below w3.heap.size w3 wx)
     case first =>
      rcases HO2.out.2 with ⟨hv,h0⟩ | ⟨g,cap,cur,hv,hg,hh,_⟩
      ·obtain rfl:N = []:=List.length_eq_zero_iff.1 h0
       simp only [Value.slice.injEq,List.length_nil,true_and] at hv;obtain ⟨rfl,rfl⟩:=hv
       have hfin:wr.ownsRow w3.heap.size 9 1 (.slice au O.length cu) (O2 ++ N2).length ((O2 ++ N2).flatMap za2):=by
        have h1:=HO1.out
        have h2:N2 = []:=by
         have:=HLJ.out;have h3:=HO1.out.1;rw [zgo (k:=1) (enc:=za2) (fun _=>rfl)] at h3
         refine List.length_eq_zero_iff.1 ?_;simp only [List.length_append,List.length_nil] at this;omega
        rw [h2,List.append_nil];have h3:=HO1.out.1;rw [zgo (k:=1) (enc:=za2) (fun _=>rfl)] at h3
        rw [show O2.length = O.length by omega]; exact h1
       have HFin:=zi5 (Vec.owns (S:=zaw) (k:=1) (enc:=za2) (fun _=>rfl) hfin (fun _ _ _=>trivial))
       have hlenO:O.length = (O2 ++ N2).length:=by have:=HLJ.out; simpa using this.symm
       have HLO:=zi5 hlenO;clear h0 hfin hlenO;go_wp2_with (at_builtin; refine wpList_append_own_none rfl _ _ 27 rfl w3.heap.size 9 i0 1 underlying27 HHi.out _ _ _ rfl HO1.out rfl ?_)
       go_meet;exact ⟨au,cu,by rw [← HLO.out],HFin.out,HW2.out⟩
      ·simp only [Value.slice.injEq,true_and] at hv
       obtain ⟨rfl,rfl⟩:=hv;have hcells:=HO2.out;have hl:(N2.flatMap za2).length = N.length * 1:=HO2.out.1
       have hnews:∀ j u,(N2.flatMap za2)[j]? = some u→wr.cell? ((⟨g,0,none⟩:Addr).add j) = some u:=fun j u hu=>by
        have hj:=(List.getElem?_eq_some_iff.1 hu).1;rw [zdo,Nat.zero_add,hcells.cellAt j (by omega)]; exact hu
       have hone:∀ u∈N2.flatMap za2,u.oneCell' = true:=by
        intro u hu;obtain ⟨y,_,hy⟩:=List.mem_flatMap.1 hu;simp at hy; subst hy; rfl
       have HL:=zi5 hl; have HNews:=zi5 hnews; have HOne:=zi5 hone;clear hcells hl hnews hone hh;go_wp2_with (at_builtin; refine wpList_append_own _ rfl _ _ 27 rfl w3.heap.size 9 i0 (.string ⟨#[]⟩) 1 16 underlying27 HHi.out HZ0.out HZ1.out HZ2.out rfl (by decide) _ _ _ rfl HO1.out ⟨g,0,none⟩ N.length _ (N2.flatMap za2) rfl HL.out HNews.out HOne.out (by unfold maxLen; omega) (by omega) hbz ?_; intro v' w8 ho8 hg8 _)
       go_meet;have ho9:=ho8;rw [← List.flatMap_append,← HLJ.out] at ho9;obtain ⟨a9,c9,rfl⟩:=za1 ho9
       refine ⟨a9,c9,by rw [HLJ.out],?_,HW2.out.grown hg8 hbz fun q hq=>(HO1.out.lt q hq).1⟩
       rw [HLJ.out] at ho9;exact Vec.owns (S:=zaw) (k:=1) (enc:=za2) (fun _=>rfl) (by rw [HLJ.out]; exact ho9) (fun _ _ _=>trivial)
     case rest =>
      obtain ⟨aj,cj,rfl,hvj,hbj⟩:=hcut;have HVj:=zi5 hvj;have HBj:=zi5 (HB3.out.trans (hbj.mono HB3.out.size));clear hvj hbj HO1 HO2 HLJ;obtain ⟨J,hJ⟩:∃ J,O2 ++ N2 = J:=⟨_,rfl⟩;rw [hJ] at HVj HF hJ65 hJl ⊢;clear hJ;go_wp2_with fail
      refine (rjoin_any zaw _ J _ HVj.out (by omega) (by omega)).mono ?_;rintro e w' ⟨rfl,rfl⟩;obtain ⟨Q,hQ⟩:∃ Q,zay J = Q:=⟨_,rfl⟩;rw [hQ] at HF hJl ⊢;clear hQ;by_cases g1:6 < J.length
      ·have d1:decide ((6:Int) < J.length) = true:=by simp; omega
       rw [if_pos (.inl g1)] at HF;go_wp2_with fail
       go_ret2;exact ⟨by rw [HF.out]; rfl,HBj.out⟩
      ·have d1:decide ((6:Int) < J.length) = false:=by simp; omega
       by_cases g2:64 < Q.length
       ·have d2:decide ((64:Int) < Q.length) = true:=by simp; omega
        rw [if_pos (.inr g2)] at HF;go_wp2_with fail
        go_ret2;exact ⟨by rw [HF.out]; rfl,HBj.out⟩
       ·have d2:decide ((64:Int) < Q.length) = false:=by simp; omega
        rw [if_neg (by omega)] at HF;go_wp2_with fail
        go_ret2;exact ⟨by rw [HF.out]; rfl,HBj.out⟩
theorem raddr_no (S:Nat→Prop) (vt vn vs:Value) (r:RulesL) (s:ByteArray) (w:World) (h:RulesAt w S vt vn vs r) (hs:s.size≤9223372036854775000) (hc:zaz r = 0) (hv:zc6 s.data.toList = false) :
  Calls prog 175 #[.agg #[vt,vn,vs],.string s] w fun e w'=>e = .returned (zdf (zc3 r s.data.toList))∧Below w.heap.size w w':=by
 have HR:=zi5 h.any;have HC:=zi5 hc; have HV:=zi5 hv;clear h hc hv;have HF:=zi5 (show zc3 r s.data.toList = ([],3) by unfold zc3; rw [if_pos HC.out,if_neg (by rw [HV.out]; simp)]);go_enter func175,ntmps175
 go_wp2_with fail
 refine (zdt zaw vt vn vs r _ (HR.out.below ((Below.refl _ _).alloc xnl _))).mono ?_;rw [HC.out];rintro e w1 ⟨rfl,hb1⟩;have HB1:=zi5 (xbt hb1);clear hb1;go_wp2_with fail
 refine (rfold_no s _ hs HV.out).mono ?_;rintro e w2 ⟨rfl,hb2⟩;have HB2:=zi5 (HB1.out.trans (hb2.mono HB1.out.size));clear hb2 HB1;go_wp2_with fail
 go_ret2;exact ⟨by rw [HF.out]; rfl,HB2.out⟩
theorem raddr_bad (S:Nat→Prop) (vt vn vs:Value) (r:RulesL) (s:ByteArray) (w:World) (h:RulesAt w S vt vn vs r) (hc:zaz r≠0) :
  Calls prog 175 #[.agg #[vt,vn,vs],.string s] w fun e w'=>e = .returned (zdf (zc3 r s.data.toList))∧Below w.heap.size w w':=by
 have HR:=zi5 h.any;have HF:=zi5 (show zc3 r s.data.toList = ([],zaz r) by unfold zc3; rw [if_neg hc]);have hne:(zaz r != 0) = true:=by simpa using hc
 clear h hc;go_enter func175,ntmps175
 go_wp2_with fail
 refine (zdt zaw vt vn vs r _ (HR.out.below ((Below.refl _ _).alloc xnl _))).mono ?_;obtain ⟨c,hcc⟩:∃ c,zaz r = c:=⟨_,rfl⟩;rw [hcc] at hne HF ⊢;clear hcc;rintro e w1 ⟨rfl,hb1⟩;have HB1:=zi5 (xbt hb1);clear hb1;go_wp2_with fail
 go_ret2;exact ⟨by rw [HF.out]; rfl,HB1.out⟩
theorem raddr_any (S:Nat→Prop) (vt vn vs:Value) (r:RulesL) (s:ByteArray) (w:World) (h:RulesAt w S vt vn vs r) (hs:s.size≤9223372036854775000) :
  Calls prog 175 #[.agg #[vt,vn,vs],.string s] w fun e w'=>e = .returned (zdf (zc3 r s.data.toList))∧Below w.heap.size w w':=by
 by_cases hc:zaz r = 0
 ·cases hv:zc6 s.data.toList with
  | true=>exact raddr_yes S vt vn vs r s w h hc hv
  | false=>exact raddr_no S vt vn vs r s w h hs hc hv
 ·exact raddr_bad S vt vn vs r s w h hc
theorem ranormal_any (S:Nat→Prop) (vt vn vs:Value) (r:RulesL) (s:ByteArray) (w:World) (h:RulesAt w S vt vn vs r) (hs:s.size≤9223372036854775000) :
  Calls prog 184 #[.agg #[vt,vn,vs],.string s] w fun e w'=>e = .returned (.bool (zee (zc3 r s.data.toList) s.data.toList))∧Below w.heap.size w w':=by
 have HR:=zi5 h.any; clear h;have HS:=zi5 (Lib.toList_data s);go_enter func184,ntmps184
 go_wp2_with fail
 refine (raddr_any zaw vt vn vs r s _ (HR.out.below ((Below.refl _ _).alloc xnl _)) hs).mono ?_;obtain ⟨p,hp⟩:∃ p,zc3 r s.data.toList = p:=⟨_,rfl⟩;rw [hp];have HP:=zi5 hp; clear hp;obtain ⟨pl,pe⟩:=p;unfold zdf;rintro e w1 ⟨rfl,hb1⟩;have HB1:=zi5 (xbt hb1);clear hb1;cases he:(pe == 0)
 all_goals
  go_wp2_with fail
  go_ret;refine ⟨za0 ?_,HB1.out⟩;rw [HP.out];simp [zee,he,HS.out]
end
section
open Go.RowKit Cal
theorem rlen_any (y m:Int) (w:World) (h:0≤y) (h1:1≤m) (h2:m≤12) :
  Calls prog 261 #[.int .i64 y,.int .i64 m] w fun e w'=>e = .returned (.int .i64 (dim y m))∧w = w':=by
 go_enter func261,ntmps261
 go_wp2
 all_goals go_ret
 all_goals refine ⟨ret_int ?_,rfl⟩
 all_goals simp only [beq_iff_eq,beq_eq_false_iff_ne,ne_eq,bne_iff_ne] at *
 all_goals simp [dim,leapB, *]
theorem rvalid_no (y m d:Int) (w:World) (hv:vldB y m d = false) :
  Calls prog 228 #[.agg #[.int .i64 y,.int .i64 m,.int .i64 d]] w fun e w'=>e = .returned (.bool false)∧Below w.heap.size w w':=by
 have hh:decide (1800≤y) = false∨(1800≤y∧decide (y≤2199) = false)∨(1800≤y∧y≤2199∧decide (1≤m) = false)∨(1800≤y∧y≤2199∧1≤m∧decide (m≤12) = false)∨(1800≤y∧y≤2199∧1≤m∧m≤12∧decide (1≤d) = false)∨(1800≤y∧y≤2199∧1≤m∧m≤12∧1≤d∧decide (d≤dim y m) = false):=by
  have:=vld_iff y m d;rw [hv] at this;simp at this ⊢;omega
 clear hv
 rcases hh with h | ⟨_,h⟩ | ⟨_,_,h⟩ | ⟨_,_,_,h⟩ | ⟨_,_,_,_,h⟩ | ⟨_,_,_,_,_,h⟩
 iterate 5
  ·go_enter func228,ntmps228
   go_wp2
   go_quiet (fail)
   go_wp2
   go_ret;exact ⟨rfl,below_drewN ((Below.refl _ _).alloc xnl _) _⟩
 go_enter func228,ntmps228
 go_wp2
 go_quiet ((go_at_call 261; exact quiet_eq (rlen_any _ _ _ (by omega) (by omega) (by omega))))
 go_wp2
 go_ret;exact ⟨rfl,below_drewN ((Below.refl _ _).alloc xnl _) _⟩
theorem rvalid_yes (y m d:Int) (w:World) (hv:vldB y m d = true) :
  Calls prog 228 #[.agg #[.int .i64 y,.int .i64 m,.int .i64 d]] w fun e w'=>e = .returned (.bool true)∧Below w.heap.size w w':=by
 obtain ⟨h1,h2,h3,h4,h5,h6⟩:=(vld_iff y m d).1 hv;clear hv;go_enter func228,ntmps228
 go_wp2
 go_quiet ((go_at_call 261; exact quiet_eq (rlen_any _ _ _ (by omega) (by omega) (by omega))))
 go_wp2
 go_ret;exact ⟨rfl,below_drewN ((Below.refl _ _).alloc xnl _) _⟩
theorem zh2 (s:ByteArray) (w:World) (hs:s.size≤4) :
  Calls prog 260 #[.string s] w fun e w'=>e = .returned (.tuple #[.int .i64 ((za4 0 s.data.toList).getD 0),.bool (za4 0 s.data.toList).isSome])∧w = w':=by
 go_enter func260,ntmps260
 go_wp2
 go_loop [4,5] (fun n i=>∃ (k:Nat) (N:Int),k≤s.size∧i = .int .i64 k∧n = .int .i64 N∧za4 0 (s.data.toList.take k) = some N∧0≤N∧N < 10 ^ k) (fun _ i=>s.size - (intOf i).toNat)
 case atStart=>exact ⟨0,0,Nat.zero_le _,rfl,rfl,rfl,by decide,by decide⟩
 case round =>
  obtain ⟨k,N,hk,rfl,rfl,hN,h0,h1⟩:=hrel;have HN:=zi5 hN; clear hN
  have hp:(10:Int) ^ k≤10000:=by
   have:k = 0∨k = 1∨k = 2∨k = 3∨k = 4:=by omega
   rcases this with rfl | rfl | rfl | rfl | rfl <;> decide
  have hN4:N < 10000:=by omega
  have H1:=zi5 h1; clear h1 hp;by_cases hlt:k < s.size
  ·go_wp2
   ·go_ret2
    exact ⟨by have:=zgl s k hlt N HN.out (by omega); rw [this]; rfl,rfl⟩
   ·have hs:=zg7 s k hlt N HN.out
    rw [if_pos ‹_›] at hs;have h1:=H1.out;have e1:(10:Int) ^ (k + 1) = 10 ^ k * 10:=by rw [Int.pow_succ]
    go_round
    case rel=>exact ⟨k + 1,_,by omega,by go_num,rfl,hs,by omega,by omega⟩
    case measure=>simp [intOf]; omega
   ·go_ret2
    exact ⟨by have:=zgl s k hlt N HN.out (by omega); rw [this]; rfl,rfl⟩
  ·go_wp2
   go_ret2;obtain rfl:k = s.size:=by omega
   exact ⟨by have:=HN.out; rw [List.take_of_length_le (by simp)] at this; rw [this]; rfl,rfl⟩
theorem numI_none {l:List UInt8} (h:za4 0 l = none):zdy l = -1:=by simp [zdy,h]
theorem numI_some {l:List UInt8} {N:Int} (h:za4 0 l = some N):zdy l = N:=by simp [zdy,h]
theorem dateR_no {a b c:List UInt8} (h:vldB (zdy a) (zdy b) (zdy c) = false):dateL a b c = .tuple #[.agg #[.int .i64 0,.int .i64 0,.int .i64 0],.int .i64 4]:=by
 unfold dateL dateR dateV; rw [h]; rfl
theorem dateR_yes {a b c:List UInt8} (h:vldB (zdy a) (zdy b) (zdy c) = true):dateL a b c = .tuple #[.agg #[.int .i64 (zdy a),.int .i64 (zdy b),.int .i64 (zdy c)],.int .i64 0]:=by
 unfold dateL dateR dateV; rw [h]; rfl
theorem rmade_any (a b c:ByteArray) (w:World) (ha:a.size≤4) (hb:b.size≤4) (hc:c.size≤4) :
  Calls prog 227 #[.string a,.string b,.string c] w fun e w'=>e = .returned (dateR (zdy a.data.toList) (zdy b.data.toList) (zdy c.data.toList) 4)∧Below w.heap.size w w':=by
 have Ka:=fun w=>zi5 (zh2 a w ha)
 have Kb:=fun w=>zi5 (zh2 b w hb)
 have Kc:=fun w=>zi5 (zh2 c w hc)
 rw [show dateR (zdy a.data.toList) (zdy b.data.toList) (zdy c.data.toList) 4 = dateL a.data.toList b.data.toList c.data.toList from rfl]
 have bad:(za4 0 a.data.toList).isSome = false∨(za4 0 b.data.toList).isSome = false∨(za4 0 c.data.toList).isSome = false→vldB (zdy a.data.toList) (zdy b.data.toList) (zdy c.data.toList) = false:=by
  intro h
  have:¬ vldB (zdy a.data.toList) (zdy b.data.toList) (zdy c.data.toList) = true:=by
   rw [vld_iff];simp only [Option.isSome_eq_false_iff,Option.isNone_iff_eq_none] at h
   rcases h with h | h | h <;> (have:=numI_none h; omega)
  simpa using this
 by_cases hall:(za4 0 a.data.toList).isSome = true∧(za4 0 b.data.toList).isSome = true∧(za4 0 c.data.toList).isSome = true
 ·obtain ⟨h1,h2,h3⟩:=hall
  have e1:(za4 0 a.data.toList).getD 0 = zdy a.data.toList:=by obtain ⟨N,h⟩:=Option.isSome_iff_exists.1 h1; rw [numI_some h,h]; rfl
  have e2:(za4 0 b.data.toList).getD 0 = zdy b.data.toList:=by obtain ⟨N,h⟩:=Option.isSome_iff_exists.1 h2; rw [numI_some h,h]; rfl
  have e3:(za4 0 c.data.toList).getD 0 = zdy c.data.toList:=by obtain ⟨N,h⟩:=Option.isSome_iff_exists.1 h3; rw [numI_some h,h]; rfl
  simp only [h1,e1] at Ka; simp only [h2,e2] at Kb; simp only [h3,e3] at Kc;clear h1 h2 h3 e1 e2 e3 bad;cases hv:vldB (zdy a.data.toList) (zdy b.data.toList) (zdy c.data.toList)
  all_goals
   first | rw [dateR_no hv] | rw [dateR_yes hv]
   first | have KV:=fun w=>zi5 (rvalid_no _ _ _ w hv) | have KV:=fun w=>zi5 (rvalid_yes _ _ _ w hv)
   clear hv;go_enter func227,ntmps227
   go_wp2_with fail
   refine (Ka _).out.mono ?_; rintro e w' ⟨rfl,rfl⟩;go_wp2_with fail
   refine (Kb _).out.mono ?_; rintro e w' ⟨rfl,rfl⟩;go_wp2_with fail
   refine (Kc _).out.mono ?_; rintro e w' ⟨rfl,rfl⟩;go_wp2_with fail
   refine (KV _).out.mono ?_; rintro e w1 ⟨rfl,hb1⟩;obtain ⟨hc1,hf1⟩:=bcell hb1;have hz1:w.heap.size + 1 < w1.heap.size:=by have:=hb1.size; simp at this; omega
   go_wp2_with fail
   have hg:w1.heap[w.heap.size]? = some (.cells #[.int .i64 0,.int .i64 0,.int .i64 0] 169 (0,0)):=zab hb1 (by simp; omega) (zaf (zac rfl));exact zag rfl rfl (zad (zad (zad hg))) underlying169 rfl (by kernel_rfl) ⟨rfl,((((((Below.refl _ _).alloc xnl _).alloc (by simp) _).trans (hb1.mono (by simp; omega))).setCell (by simp) _).setCell (by simp) _).setCell (by simp) _⟩
 ·have hcase:(za4 0 a.data.toList).isSome = false∨((za4 0 a.data.toList).isSome = true∧(za4 0 b.data.toList).isSome = false)∨((za4 0 a.data.toList).isSome = true∧(za4 0 b.data.toList).isSome = true∧(za4 0 c.data.toList).isSome = false):=by
   cases h1:(za4 0 a.data.toList).isSome <;> cases h2:(za4 0 b.data.toList).isSome <;> cases h3:(za4 0 c.data.toList).isSome <;> simp_all
  have hbad:=bad (by rcases hcase with h | ⟨_,h⟩ | ⟨_,_,h⟩ <;> simp [h]);rw [dateR_no hbad];clear bad hall hbad
  rcases hcase with h1 | ⟨h1,h2⟩ | ⟨h1,h2,h3⟩
  all_goals
   try simp only [h1] at Ka
   try simp only [h2] at Kb
   try simp only [h3] at Kc
   try clear h1
   try clear h2
   try clear h3
   go_enter func227,ntmps227
   go_wp2_with fail
   refine (Ka _).out.mono ?_; rintro e w' ⟨rfl,rfl⟩;go_wp2_with fail
   refine (Kb _).out.mono ?_; rintro e w' ⟨rfl,rfl⟩;go_wp2_with fail
   refine (Kc _).out.mono ?_; rintro e w' ⟨rfl,rfl⟩;go_wp2_with fail
   exact zag rfl rfl (zaf (zac rfl)) underlying169 rfl (by kernel_rfl) ⟨rfl,((Below.refl _ _).alloc xnl _).alloc (by simp) _⟩
theorem rread_any (s:ByteArray) (w:World) :
  Calls prog 185 #[.string s] w fun e w'=>e = .returned (bif decide (s.size = 8) then dateL (s.data.toList.take 4) ((s.data.toList.drop 4).take 2) ((s.data.toList.drop 6).take 2) else dateV false 0 0 0 4)∧Below w.heap.size w w':=by
 by_cases h:s.size = 8
 ·have hs:((s.size:Int) == 8) = true:=by simp; omega
  simp only [h,decide_true,cond_true];go_enter func185,ntmps185
  go_wp2
  go_region_held3 (fun _=>True) (trivial) (first | (go_at_call 227; refine (rmade_any _ _ _ _ (by simp; omega) (by simp; omega) (by simp; omega)).mono ?_; rintro e w1 ⟨rfl,hb1⟩; obtain ⟨hc1,hf1⟩:=bcell hb1; have hz1:w.heap.size < w1.heap.size:=(by have:=hb1.size; simp at this; omega)))
  go_wp2
  have hg:w1.heap[w.heap.size]? = some (.cells #[.int .i64 0,.int .i64 0,.int .i64 0] 169 (0,0)):=zab hb1 (by simp) (heap_alloc_new _ _);exact zag rfl rfl (zad (zad (zad hg))) underlying169 rfl (by kernel_rfl) ⟨rfl,(((((Below.refl _ _).alloc xnl _).drew.trans (hb1.mono (by simp))).setCell (by simp) _).setCell (by simp) _).setCell (by simp) _⟩
 ·have hs:((s.size:Int) == 8) = false:=by simp; omega
  simp only [h,decide_false,cond_false];go_enter func185,ntmps185
  go_wp2
  exact zag rfl rfl (heap_alloc_new _ _) underlying169 rfl (by kernel_rfl) ⟨rfl,((Below.refl _ _).alloc xnl _)⟩
theorem rparse_ten (s : ByteArray) (w : World) (h : s.size = 10) :
    Calls prog 176 #[.string s] w fun e w' => e = .returned (parseV s) ∧ Below w.heap.size w w' := by
  have hs : ((s.size : Int) == 10) = true := by simp; omega
  go_enter func176, ntmps176
  go_wp2
  all_goals
    have e2 := zd5 s 2 (by omega)
    have e4 := zd5 s 4 (by omega)
    have e5 := zd5 s 5 (by omega)
    have e7 := zd5 s 7 (by omega)
  all_goals
    first
    | exact zag rfl rfl (heap_alloc_new _ _) underlying169 rfl (by kernel_rfl) ⟨congrArg Ending.returned (by (try simp only [beq_iff_eq, beq_eq_false_iff_ne, ne_eq] at *); simp [parseV, pk_false, cd_false, *]; try rfl), ((Below.refl _ _).alloc xnl _)⟩
    | (clear e2 e4 e5 e7
       go_region_held3 (fun _ => True) (trivial) (first | (go_at_call 227; refine (rmade_any _ _ _ _ (by simp; omega) (by simp; omega) (by simp; omega)).mono ?_; rintro e w1 ⟨rfl, hb1⟩; obtain ⟨hc1, hf1⟩ := bcell hb1; have hz1 : w.heap.size < w1.heap.size := (by have := hb1.size; simp at this; omega)))
       go_wp2
       have hg : w1.heap[w.heap.size]? = some (.cells #[.int .i64 0, .int .i64 0, .int .i64 0] 169 (0, 0)) := zab hb1 (by simp) (heap_alloc_new _ _)
       have e2 := zd5 s 2 (by omega)
       have e4 := zd5 s 4 (by omega)
       have e5 := zd5 s 5 (by omega)
       have e7 := zd5 s 7 (by omega)
       exact zag rfl rfl (zad (zad (zad hg))) underlying169 rfl (by kernel_rfl) ⟨congrArg Ending.returned (by (try simp only [beq_iff_eq, beq_eq_false_iff_ne, ne_eq] at *); simp [parseV, pk_false, cd_false, *]; try rfl), (((((Below.refl _ _).alloc xnl _).drew.trans (hb1.mono (by simp))).setCell (by simp) _).setCell (by simp) _).setCell (by simp) _⟩)
theorem rparse_any (s:ByteArray) (w:World) :
  Calls prog 176 #[.string s] w fun e w'=>e = .returned (parseV s)∧Below w.heap.size w w':=by
 by_cases h:s.size = 10
 ·exact rparse_ten s w h
 ·have hs:((s.size:Int) == 10) = false:=by simp; omega
  rw [parseV,if_neg h];go_enter func176,ntmps176
  go_wp2
  exact zag rfl rfl (heap_alloc_new _ _) underlying169 rfl (by kernel_rfl) ⟨rfl,((Below.refl _ _).alloc xnl _)⟩
end
section
open Go.RowKit Cal
theorem hcv_two (n:Int) (h0:0≤n) (h1:n≤99):∀ w:World,(convert 181 9 (.slice (some ⟨w.heap.size,0,none⟩) 2 2)).run prog (w.alloc (.cells #[.int .u8 (48 + n / 10),.int .u8 (48 + n % 10)] 5)) = .ok (.string ⟨(dg n 2).toArray⟩) (w.alloc (.cells #[.int .u8 (48 + n / 10),.int .u8 (48 + n % 10)] 5)):=by
 intro w;have ho:=owns_new (w:=w) (B:=0) (e:=5) (dg n 2) (Nat.zero_le _) (by rw [zel]; omega);rw [zel] at ho
 have e1:(dg n 2).map ze1 = [.int .u8 (48 + n / 10),.int .u8 (48 + n % 10)]:=by
  simp only [dg,List.nil_append,List.cons_append,List.map_cons,List.map_nil];rw [dgb _ (by omega),dgb _ h0];have:n / 10 % 10 = n / 10:=by omega
  rw [this]
 rw [e1] at ho;exact zb1 (dg n 2) (by rw [e1]; exact ho) underlying181 underlying5 underlying9
theorem rtwo_any (n:Int) (w:World) (h0:0≤n) (h1:n≤99) :
  Calls prog 229 #[.int .i64 n] w fun e w'=>e = .returned (.string ⟨(dg n 2).toArray⟩)∧Below w.heap.size w w':=by
 have ha:0≤n / 10∧n / 10≤9:=by omega
 have hb:0≤n % 10∧n % 10≤9:=by omega
 obtain ⟨ha1,ha2⟩:=ha;obtain ⟨hb1,hb2⟩:=hb;have hcv:=hcv_two n h0 h1;go_enter func229,ntmps229
 go_wp2
 go_ret;exact ⟨rfl,(Below.refl _ _).alloc xnl _⟩
attribute [local go_sem] zel zar
theorem rformat_yes (y m d:Int) (w:World) (hv:vldB y m d = true) :
  Calls prog 177 #[.agg #[.int .i64 y,.int .i64 m,.int .i64 d]] w fun e w'=>e = .returned (.tuple #[.string ⟨(zdk y m d).toArray⟩,.int .i64 0])∧Below w.heap.size w w':=by
 obtain ⟨b1,b2,b3,b4,b5,b6⟩:=vld_bd hv;have q1:0≤y / 100∧y / 100≤99:=by omega
 have q2:0≤y % 100∧y % 100≤99:=by omega
 obtain ⟨q1,q1'⟩:=q1;obtain ⟨q2,q2'⟩:=q2
 have HD:Hid (dg (y / 100) 2 ++ (dg (y % 100) 2 ++ (dg m 2 ++ dg d 2)) = zdk y m d):=by
  show _ = _;rw [dg_mod y (by omega),zdk,dg_two y]; simp
 have KV:=fun w=>zi5 (rvalid_yes y m d w hv)
 clear hv;have m99:m≤99:=by omega
 have d99:d≤99:=by omega
 have d0:0≤d:=by omega
 have m0:0≤m:=by omega
 have e1:IntKind.i64.wrap (y.tdiv 100) = y / 100:=by rw [Int.tdiv_eq_ediv_of_nonneg (by omega)]; exact IntWalk.i64_in _ ⟨by omega,by omega⟩
 have e2:y.tmod 100 = y % 100:=Int.tmod_eq_emod_of_nonneg (by omega);go_enter func177,ntmps177
 go_wp2_with fail
 refine (KV _).out.mono ?_; rintro e w0 ⟨rfl,hb0⟩;have z0:w.heap.size < w0.heap.size:=by clear e1 e2; have:=hb0.size; simp at this; omega
 have HB0:=zi5 (xbt hb0).drew;have c00:w0.cell? ⟨w.heap.size,0,none⟩ = some (.int .i64 y):=(hb0.cell (p:=⟨w.heap.size,0,none⟩) (by simp)).trans (by simp);have c10:w0.cell? ⟨w.heap.size,1,none⟩ = some (.int .i64 m):=(hb0.cell (p:=⟨w.heap.size,1,none⟩) (by simp)).trans (by simp);have c20:w0.cell? ⟨w.heap.size,2,none⟩ = some (.int .i64 d):=(hb0.cell (p:=⟨w.heap.size,2,none⟩) (by simp)).trans (by simp);clear hb0;go_wp2_with fail
 refine wp_region_noPanic ?_
 refine wp_region_held_drew (S:=(fun w'=>w'.cell? ⟨w.heap.size,0,none⟩ = some (.int .i64 y)∧w'.cell? ⟨w.heap.size,1,none⟩ = some (.int .i64 m)∧w'.cell? ⟨w.heap.size,2,none⟩ = some (.int .i64 d))) (by kernel_rfl) (⟨c00,c10,c20⟩) (fun hHeld=>?_)
 refine tH 0 (h:=?_);refine tH 1 (h:=?_);refine tH 2 (h:=?_);refine tH 4 (h:=?_);refine tH 5 (h:=?_);refine tH 6 (h:=?_);refine tH 9 (h:=?_);refine tH 10 (h:=?_);refine tH 13 (h:=?_);refine tH 14 (h:=?_);refine wpAnyH_ready (rs:=[3]) (by kernel_rfl) (by simp) ?_
 refine AllReadyH.cons rfl (fun K hK=>?_) AllReadyH.nil
 go_simp;refine (rtwo_any _ _ q1 q1').mono ?_; rintro e w1 ⟨rfl,hb1⟩; have z1:w.heap.size < w1.heap.size:=(by clear e1 e2; have:=hb1.size; (try simp at this); omega); have HB1:=zi5 (HB0.out.trans (hb1.mono (by have:=HB0.out.size; simpa using this))); have c01:=(hb1.cell (p:=⟨w.heap.size,0,none⟩) (by simpa using z0)).trans c00; have c11:=(hb1.cell (p:=⟨w.heap.size,1,none⟩) (by simpa using z0)).trans c10; have c21:=(hb1.cell (p:=⟨w.heap.size,2,none⟩) (by simpa using z0)).trans c20; clear hb1 c00 c10 c20
 refine hK.out _ _ (⟨c01,c11,c21⟩) (fun hHeld=>?_)
 clear hK K;refine wpAnyH_ready (rs:=[7]) (by kernel_rfl) (by simp) ?_
 refine AllReadyH.cons rfl (fun K hK=>?_) AllReadyH.nil
 go_simp;refine (rtwo_any _ _ q2 q2').mono ?_; rintro e w2 ⟨rfl,hb2⟩; have z2:w.heap.size < w2.heap.size:=(by clear e1 e2; have:=hb2.size; (try simp at this); omega); have HB2:=zi5 (HB1.out.trans (hb2.mono (by have:=HB1.out.size; simpa using this))); have c02:=(hb2.cell (p:=⟨w.heap.size,0,none⟩) (by simpa using z1)).trans c01; have c12:=(hb2.cell (p:=⟨w.heap.size,1,none⟩) (by simpa using z1)).trans c11; have c22:=(hb2.cell (p:=⟨w.heap.size,2,none⟩) (by simpa using z1)).trans c21; clear hb2 c01 c11 c21
 refine hK.out _ _ (⟨c02,c12,c22⟩) (fun hHeld=>?_)
 clear hK K;refine tH 8 (h:=?_);refine wpAnyH_ready (rs:=[11]) (by kernel_rfl) (by simp) ?_
 refine AllReadyH.cons rfl (fun K hK=>?_) AllReadyH.nil
 go_simp;refine (rtwo_any _ _ m0 m99).mono ?_; rintro e w3 ⟨rfl,hb3⟩; have z3:w.heap.size < w3.heap.size:=(by clear e1 e2; have:=hb3.size; (try simp at this); omega); have HB3:=zi5 (HB2.out.trans (hb3.mono (by have:=HB2.out.size; simpa using this))); have c03:=(hb3.cell (p:=⟨w.heap.size,0,none⟩) (by simpa using z2)).trans c02; have c13:=(hb3.cell (p:=⟨w.heap.size,1,none⟩) (by simpa using z2)).trans c12; have c23:=(hb3.cell (p:=⟨w.heap.size,2,none⟩) (by simpa using z2)).trans c22; clear hb3 c02 c12 c22
 refine hK.out _ _ (⟨c03,c13,c23⟩) (fun hHeld=>?_)
 clear hK K;refine tH 12 (h:=?_);refine wpAnyH_ready (rs:=[15]) (by kernel_rfl) (by simp) ?_
 refine AllReadyH.cons rfl (fun K hK=>?_) AllReadyH.nil
 go_simp;refine (rtwo_any _ _ d0 d99).mono ?_; rintro e w4 ⟨rfl,hb4⟩; have z4:w.heap.size < w4.heap.size:=(by clear e1 e2; have:=hb4.size; (try simp at this); omega); have HB4:=zi5 (HB3.out.trans (hb4.mono (by have:=HB3.out.size; simpa using this))); have c04:=(hb4.cell (p:=⟨w.heap.size,0,none⟩) (by simpa using z3)).trans c03; have c14:=(hb4.cell (p:=⟨w.heap.size,1,none⟩) (by simpa using z3)).trans c13; have c24:=(hb4.cell (p:=⟨w.heap.size,2,none⟩) (by simpa using z3)).trans c23; clear hb4 c03 c13 c23
 refine hK.out _ _ (⟨c04,c14,c24⟩) (fun hHeld=>?_)
 clear hK K;refine tH 16 (h:=?_);refine tH 17 (h:=?_);refine tH 18 (h:=?_);refine wpAnyH_done (by kernel_rfl) ?_ _;refine NoPanic.normal ?_;clear e1 e2;go_wp2
 go_ret2;exact ⟨by rw [← HD.out]; simp,HB4.out⟩
end
section
open Go.RowKit Cal
attribute [local go_sem] zah zaj
theorem rvalue_any (S:Nat→Prop) (vf vt vn vs:Value) (s:SchemaL) (f:Int) (x:ByteArray) (w:World) (h:SchemaAt w S vf vt vn vs s) (hx:x.size≤9223372036854775000) :
  Calls prog 123 #[.agg #[vf,vt,vn,vs],.int .i64 f,.string x] w fun e w'=>e = .returned (zdf (zcp s f x.data.toList))∧Below w.heap.size w w':=by
 have HS:=zi5 h.any;have HL:=zi5 (Lib.toList_data x);obtain ⟨hf1,hf2⟩:=h;obtain ⟨af,cf,rfl⟩:=hf1.slice;have HV1:=zi5 hf1.any;have hfin:∀ p,zcp s f x.data.toList = p→Ending.returned (zdf p) = .returned (zdf (zcp s f x.data.toList)):=fun p h=>by rw [h]
 have HF:=zi5 hfin;clear hf1 hf2 hfin;have hval:zcp s f x.data.toList = if (zbt s f).2 = 0 then (if x.data.toList = [] then ([],0) else normK (zbt s f).1 s.rules x.data.toList) else ([],(zbt s f).2):=rfl
 have hkk:=zdz (s:=s) (f:=f);have hfn:zbt s f = if zax s = 0 then (if 0≤f∧f < s.fields.length then ((s.fields.getD f.toNat default).2,0) else (0,2)) else (0,zax s):=rfl
 have K:=zds zaw (.slice af s.fields.length cf) vt vn vs s (w.alloc (.cells #[.slice af s.fields.length cf,vt,vn,vs] 44)) (HS.out.below ((Below.refl _ _).alloc xnl _));have hcf:=fun h=>(zcf (s:=s) h).1
 obtain ⟨c,hc⟩:∃ c,zax s = c:=⟨_,rfl⟩;rw [hc] at K hfn hcf;have HK:=zi5 K; clear K;have START:=zi5 (trivial:True);by_cases he:c = 0
 ·subst he
  have hlen:=(hcf rfl).2;clear hcf;rw [if_pos rfl] at hfn;by_cases hr:0≤f∧f < s.fields.length
  ·rw [if_pos hr] at hfn
   obtain ⟨r1,r2⟩:=hr;obtain ⟨k,rfl⟩:=Int.eq_ofNat_of_zero_le r1;rw [Int.toNat_natCast] at hfn;have hk:k < s.fields.length:=by omega
   obtain ⟨b,off,rfl,_,hb,hcell⟩:=zcm HV1.out (by omega);obtain ⟨y,hy⟩:∃ y,s.fields.getD k default = y:=⟨_,rfl⟩;have hck:=hcell k hk;rw [hy] at hck hfn;obtain ⟨nm,kd⟩:=y;have C1:=zi5 (show w.cell? ⟨b,off + k * 2 + 1,none⟩ = some (.int .i64 kd) from hck 1 _ rfl);rw [hfn] at hval hkk;dsimp only at hval hkk;have hkd:=hkk rfl;rw [if_pos rfl] at hval;have HVal:=zi5 hval;have t1:decide ((k:Int) < 0) = false:=by simp
   have t2:decide ((s.fields.length:Int)≤k) = false:=by simp; omega
   have t3:(k:Int) < (s.fields.length:Int):=by omega
   clear hck hcell hfn hkk hval hy r1 r2;by_cases hx0:x.data.toList = []
   ·have e1:x.toList = []:=by rw [HL.out,hx0]
    have HE:=zi5 (show zcp s (k:Int) x.data.toList = ([],0) by rw [HVal.out,if_pos hx0]);clear hx0 hkd;go_enter func123,ntmps123
    go_wp2_with fail
    refine HK.out.mono ?_;rintro e w1 ⟨rfl,hb1⟩;have HB1:=zi5 (xbt hb1);have HX1:=zi5 (xbn hb1);clear hb1 HK;have z0:=zaa HX1.out;obtain ⟨p0,p1,p2,p3⟩:=zbz HX1.out;go_wp2_with fail
    go_ret2;exact ⟨HF.out _ HE.out,HB1.out⟩
   ·have e1:(x.toList == []) = false:=by rw [HL.out]; simpa using hx0
    have e2:x.toList.isEmpty = false:=by rw [HL.out]; simpa using hx0
    have HE:=zi5 (show zcp s (k:Int) x.data.toList = normK kd s.rules x.data.toList by rw [HVal.out,if_neg hx0]);clear hx0
    rcases hkd with rfl | rfl | rfl | rfl
    ·have HE2:=zi5 (show zcp s (k:Int) x.data.toList = zc2 s.rules x.data.toList from HE.out)
     go_enter func123,ntmps123
     go_wp2_with fail
     refine HK.out.mono ?_;rintro e w1 ⟨rfl,hb1⟩;have HB1:=zi5 (xbt hb1);have HX1:=zi5 (xbn hb1);clear hb1 HK;have z0:=zaa HX1.out;obtain ⟨p0,p1,p2,p3⟩:=zbz HX1.out;have c1:w1.cell? ⟨b,off + k * 2 + 1,none⟩ = some (.int .i64 1):=(HB1.out.cell (p:=⟨b,off + k * 2 + 1,none⟩) hb).trans C1.out;go_wp2_with fail
     refine (rnorm_any zaw vt vn vs s.rules x _ (HS.out.2.below HB1.out) hx).mono ?_;rw [← HE2.out];obtain ⟨⟨pl,pe⟩,hpp⟩:∃ p,zcp s (k:Int) x.data.toList = p:=⟨_,rfl⟩;rw [hpp];have HPP:=zi5 hpp;unfold zdf;rintro e w3 ⟨rfl,hb3⟩;have HB3:=zi5 (HB1.out.trans (hb3.mono HB1.out.size));clear hb3 hpp HE HE2 p0 p1 p2 p3 c1;go_wp2_with fail
     go_ret2;exact ⟨HF.out _ HPP.out,HB3.out⟩
    ·have HE2:=zi5 (show zcp s (k:Int) x.data.toList = dayN x.data.toList from HE.out)
     rcases parse_is x with ⟨da,db,dc,hv,hp,hd⟩ | ⟨hp,hd⟩
     ·have HV:=zi5 hv; have HP:=zi5 hp
      have HE3:=zi5 (HE2.out.trans hd);clear hv hp hd HE HE2;go_enter func123,ntmps123
      go_wp2_with fail
      refine HK.out.mono ?_;rintro e w1 ⟨rfl,hb1⟩;have HB1:=zi5 (xbt hb1);have HX1:=zi5 (xbn hb1);clear hb1 HK;have z0:=zaa HX1.out;obtain ⟨p0,p1,p2,p3⟩:=zbz HX1.out;have c1:w1.cell? ⟨b,off + k * 2 + 1,none⟩ = some (.int .i64 2):=(HB1.out.cell (p:=⟨b,off + k * 2 + 1,none⟩) hb).trans C1.out;go_wp2_with fail
      refine (rparse_any x _).mono ?_;rw [HP.out];rintro e w2 ⟨rfl,hb2⟩;have HB2:=zi5 (HB1.out.trans (hb2.mono HB1.out.size));clear hb2 p0 p1 p2 p3 c1;go_wp2_with fail
      refine (rformat_yes da db dc _ HV.out).mono ?_;rintro e w3 ⟨rfl,hb3⟩;have HB3:=zi5 ((HB2.out.alloc HB2.out.size (.cells #[.int .i64 da,.int .i64 db,.int .i64 dc] 169)).trans (hb3.mono (by have:=HB2.out.size; simp; omega)));clear hb3;go_wp2_with fail
      go_ret2;exact ⟨HF.out _ HE3.out,HB3.out⟩
     ·have HP:=zi5 hp
      have HE3:=zi5 (HE2.out.trans hd);clear hp hd HE HE2;go_enter func123,ntmps123
      go_wp2_with fail
      refine HK.out.mono ?_;rintro e w1 ⟨rfl,hb1⟩;have HB1:=zi5 (xbt hb1);have HX1:=zi5 (xbn hb1);clear hb1 HK;have z0:=zaa HX1.out;obtain ⟨p0,p1,p2,p3⟩:=zbz HX1.out;have c1:w1.cell? ⟨b,off + k * 2 + 1,none⟩ = some (.int .i64 2):=(HB1.out.cell (p:=⟨b,off + k * 2 + 1,none⟩) hb).trans C1.out;go_wp2_with fail
      refine (rparse_any x _).mono ?_;rw [HP.out];rintro e w2 ⟨rfl,hb2⟩;have HB2:=zi5 (HB1.out.trans (hb2.mono HB1.out.size));clear hb2 p0 p1 p2 p3 c1;go_wp2_with fail
      go_ret2;exact ⟨HF.out _ HE3.out,HB2.out.alloc HB2.out.size _⟩
    ·have HE2:=zi5 (show zcp s (k:Int) x.data.toList = zdn x.data.toList from HE.out)
     go_enter func123,ntmps123
     go_wp2_with fail
     refine HK.out.mono ?_;rintro e w1 ⟨rfl,hb1⟩;have HB1:=zi5 (xbt hb1);have HX1:=zi5 (xbn hb1);clear hb1 HK;have z0:=zaa HX1.out;obtain ⟨p0,p1,p2,p3⟩:=zbz HX1.out;have c1:w1.cell? ⟨b,off + k * 2 + 1,none⟩ = some (.int .i64 3):=(HB1.out.cell (p:=⟨b,off + k * 2 + 1,none⟩) hb).trans C1.out;go_wp2_with fail
     refine (rcode_any x _ hx).mono ?_;rw [← HE2.out];obtain ⟨⟨pl,pe⟩,hpp⟩:∃ p,zcp s (k:Int) x.data.toList = p:=⟨_,rfl⟩;rw [hpp];have HPP:=zi5 hpp;unfold zdf;rintro e w3 ⟨rfl,hb3⟩;have HB3:=zi5 (HB1.out.trans (hb3.mono HB1.out.size));clear hb3 hpp HE HE2 p0 p1 p2 p3 c1;go_wp2_with fail
     go_ret2;exact ⟨HF.out _ HPP.out,HB3.out⟩
    ·have HE2:=zi5 (show zcp s (k:Int) x.data.toList = zc3 s.rules x.data.toList from HE.out)
     go_enter func123,ntmps123
     go_wp2_with fail
     refine HK.out.mono ?_;rintro e w1 ⟨rfl,hb1⟩;have HB1:=zi5 (xbt hb1);have HX1:=zi5 (xbn hb1);clear hb1 HK;have z0:=zaa HX1.out;obtain ⟨p0,p1,p2,p3⟩:=zbz HX1.out;have c1:w1.cell? ⟨b,off + k * 2 + 1,none⟩ = some (.int .i64 4):=(HB1.out.cell (p:=⟨b,off + k * 2 + 1,none⟩) hb).trans C1.out;go_wp2_with fail
     refine (raddr_any zaw vt vn vs s.rules x _ (HS.out.2.below HB1.out) hx).mono ?_;rw [← HE2.out];obtain ⟨⟨pl,pe⟩,hpp⟩:∃ p,zcp s (k:Int) x.data.toList = p:=⟨_,rfl⟩;rw [hpp];have HPP:=zi5 hpp;unfold zdf;rintro e w3 ⟨rfl,hb3⟩;have HB3:=zi5 (HB1.out.trans (hb3.mono HB1.out.size));clear hb3 hpp HE HE2 p0 p1 p2 p3 c1;go_wp2_with fail
     go_ret2;exact ⟨HF.out _ HPP.out,HB3.out⟩
  ·rw [if_neg hr] at hfn
   have HE:=zi5 (show zcp s f x.data.toList = ([],2) by rw [hval,hfn]; rfl);clear hval hkk hfn;by_cases r1:0≤f
   ·have t1:decide (f < 0) = false:=by simp; omega
    have t2:decide ((s.fields.length:Int)≤f) = true:=by simp; omega
    go_enter func123,ntmps123
    go_wp2_with fail
    refine HK.out.mono ?_;rintro e w1 ⟨rfl,hb1⟩;have HB1:=zi5 (xbt hb1);have HX1:=zi5 (xbn hb1);clear hb1 HK;have z0:=zaa HX1.out;obtain ⟨p0,p1,p2,p3⟩:=zbz HX1.out;go_wp2_with fail
    go_ret2;exact ⟨HF.out _ HE.out,HB1.out⟩
   ·have t1:decide (f < 0) = true:=by simp; omega
    go_enter func123,ntmps123
    go_wp2_with fail
    refine HK.out.mono ?_;rintro e w1 ⟨rfl,hb1⟩;have HB1:=zi5 (xbt hb1);have HX1:=zi5 (xbn hb1);clear hb1 HK;have z0:=zaa HX1.out;obtain ⟨p0,p1,p2,p3⟩:=zbz HX1.out;go_wp2_with fail
    go_ret2;exact ⟨HF.out _ HE.out,HB1.out⟩
 ·rw [if_neg he] at hfn
  have HE:=zi5 (show zcp s f x.data.toList = ([],c) by rw [hval,hfn]; dsimp only; rw [if_neg he]);have he1:(c != 0) = true:=by simpa using he
  clear hval hkk hfn hcf he;go_enter func123,ntmps123
  go_wp2_with fail
  refine HK.out.mono ?_;rintro e w1 ⟨rfl,hb1⟩;have HB1:=zi5 (xbt hb1);have HX1:=zi5 (xbn hb1);clear hb1 HK;have z0:=zaa HX1.out;obtain ⟨p0,p1,p2,p3⟩:=zbz HX1.out;go_wp2_with fail
  go_ret2;exact ⟨HF.out _ HE.out,HB1.out⟩
end
section
open Go.RowKit Cal
attribute [local go_sem] zah zaj
theorem rsnormal_any (S:Nat→Prop) (vf vt vn vs:Value) (s:SchemaL) (f:Int) (x:ByteArray) (w:World) (h:SchemaAt w S vf vt vn vs s) (hx:x.size≤9223372036854775000) :
  Calls prog 128 #[.agg #[vf,vt,vn,vs],.int .i64 f,.string x] w fun e w'=>e = .returned (.bool (zau s f x.data.toList))∧Below w.heap.size w w':=by
 have HS:=zi5 h.any;have HL:=zi5 (Lib.toList_data x);obtain ⟨hf1,hf2⟩:=h;obtain ⟨af,cf,rfl⟩:=hf1.slice;have HV1:=zi5 hf1.any;have hfin:∀ p,zau s f x.data.toList = p→Ending.returned (.bool p) = .returned (.bool (zau s f x.data.toList)):=fun p h=>by rw [h]
 have HF:=zi5 hfin;clear hf1 hf2 hfin;have hval:zau s f x.data.toList = if (zbt s f).2 = 0 then (if x.data.toList = [] then true else ownK (zbt s f).1 s.rules x.data.toList) else false:=rfl
 have hkk:=zdz (s:=s) (f:=f);have hfn:zbt s f = if zax s = 0 then (if 0≤f∧f < s.fields.length then ((s.fields.getD f.toNat default).2,0) else (0,2)) else (0,zax s):=rfl
 have K:=zds zaw (.slice af s.fields.length cf) vt vn vs s (w.alloc (.cells #[.slice af s.fields.length cf,vt,vn,vs] 44)) (HS.out.below ((Below.refl _ _).alloc xnl _));have hcf:=fun h=>(zcf (s:=s) h).1
 obtain ⟨c,hc⟩:∃ c,zax s = c:=⟨_,rfl⟩;rw [hc] at K hfn hcf;have HK:=zi5 K; clear K;have START:=zi5 (trivial:True);by_cases he:c = 0
 ·subst he
  have hlen:=(hcf rfl).2;clear hcf;rw [if_pos rfl] at hfn;by_cases hr:0≤f∧f < s.fields.length
  ·rw [if_pos hr] at hfn
   obtain ⟨r1,r2⟩:=hr;obtain ⟨k,rfl⟩:=Int.eq_ofNat_of_zero_le r1;rw [Int.toNat_natCast] at hfn;have hk:k < s.fields.length:=by omega
   obtain ⟨b,off,rfl,_,hb,hcell⟩:=zcm HV1.out (by omega);obtain ⟨y,hy⟩:∃ y,s.fields.getD k default = y:=⟨_,rfl⟩;have hck:=hcell k hk;rw [hy] at hck hfn;obtain ⟨nm,kd⟩:=y;have C1:=zi5 (show w.cell? ⟨b,off + k * 2 + 1,none⟩ = some (.int .i64 kd) from hck 1 _ rfl);rw [hfn] at hval hkk;dsimp only at hval hkk;have hkd:=hkk rfl;rw [if_pos rfl] at hval;have HVal:=zi5 hval;have t1:decide ((k:Int) < 0) = false:=by simp
   have t2:decide ((s.fields.length:Int)≤k) = false:=by simp; omega
   have t3:(k:Int) < (s.fields.length:Int):=by omega
   clear hck hcell hfn hkk hval hy r1 r2;by_cases hx0:x.data.toList = []
   ·have e1:x.toList = []:=by rw [HL.out,hx0]
    have HE:=zi5 (show zau s (k:Int) x.data.toList = true by rw [HVal.out,if_pos hx0]);clear hx0 hkd;go_enter func128,ntmps128
    go_wp2_with fail
    refine HK.out.mono ?_;rintro e w1 ⟨rfl,hb1⟩;have HB1:=zi5 (xbt hb1);have HX1:=zi5 (xbn hb1);clear hb1 HK;have z0:=zaa HX1.out;obtain ⟨p0,p1,p2,p3⟩:=zbz HX1.out;go_wp2_with fail
    go_ret;exact ⟨HF.out _ HE.out,HB1.out⟩
   ·have e1:(x.toList == []) = false:=by rw [HL.out]; simpa using hx0
    have e2:x.toList.isEmpty = false:=by rw [HL.out]; simpa using hx0
    have HE:=zi5 (show zau s (k:Int) x.data.toList = ownK kd s.rules x.data.toList by rw [HVal.out,if_neg hx0]);clear hx0
    rcases hkd with rfl | rfl | rfl | rfl
    ·have HE2:=zi5 (show zau s (k:Int) x.data.toList = zee (zc2 s.rules x.data.toList) x.data.toList from HE.out)
     go_enter func128,ntmps128
     go_wp2_with fail
     refine HK.out.mono ?_;rintro e w1 ⟨rfl,hb1⟩;have HB1:=zi5 (xbt hb1);have HX1:=zi5 (xbn hb1);clear hb1 HK;have z0:=zaa HX1.out;obtain ⟨p0,p1,p2,p3⟩:=zbz HX1.out;have c1:w1.cell? ⟨b,off + k * 2 + 1,none⟩ = some (.int .i64 1):=(HB1.out.cell (p:=⟨b,off + k * 2 + 1,none⟩) hb).trans C1.out;go_wp2_with fail
     refine (rnormal_any zaw vt vn vs s.rules x _ (HS.out.2.below HB1.out) hx).mono ?_;rw [← HE2.out];obtain ⟨pb,hpp⟩:∃ p,zau s (k:Int) x.data.toList = p:=⟨_,rfl⟩;rw [hpp];have HPP:=zi5 hpp;rintro e w3 ⟨rfl,hb3⟩;have HB3:=zi5 (HB1.out.trans (hb3.mono HB1.out.size));clear hb3 hpp HE HE2 p0 p1 p2 p3 c1;go_wp2_with fail
     go_ret;exact ⟨HF.out _ HPP.out,HB3.out⟩
    ·have HE2:=zi5 (show zau s (k:Int) x.data.toList = readB x.data.toList from HE.out)
     obtain ⟨da,db,dc,hr⟩:=read_is x;have HR:=zi5 hr; clear hr HE;go_enter func128,ntmps128
     go_wp2_with fail
     refine HK.out.mono ?_;rintro e w1 ⟨rfl,hb1⟩;have HB1:=zi5 (xbt hb1);have HX1:=zi5 (xbn hb1);clear hb1 HK;have z0:=zaa HX1.out;obtain ⟨p0,p1,p2,p3⟩:=zbz HX1.out;have c1:w1.cell? ⟨b,off + k * 2 + 1,none⟩ = some (.int .i64 2):=(HB1.out.cell (p:=⟨b,off + k * 2 + 1,none⟩) hb).trans C1.out;go_wp2_with fail
     refine (rread_any x _).mono ?_;rw [HR.out];obtain ⟨v,hv⟩:∃ v,readB x.data.toList = v:=⟨_,rfl⟩;rw [hv];have HV:=zi5 hv; clear hv HR;rintro e w2 ⟨rfl,hb2⟩;have HB2:=zi5 (HB1.out.trans (hb2.mono HB1.out.size));clear hb2 p0 p1 p2 p3 c1;cases v
     all_goals
      simp only [cd_false,cd_true];go_wp2_with fail
      go_ret;exact ⟨HF.out _ (by rw [HE2.out,HV.out]; try rfl),HB2.out.alloc HB2.out.size _⟩
    ·have HE2:=zi5 (show zau s (k:Int) x.data.toList = zee (zdn x.data.toList) x.data.toList from HE.out)
     go_enter func128,ntmps128
     go_wp2_with fail
     refine HK.out.mono ?_;rintro e w1 ⟨rfl,hb1⟩;have HB1:=zi5 (xbt hb1);have HX1:=zi5 (xbn hb1);clear hb1 HK;have z0:=zaa HX1.out;obtain ⟨p0,p1,p2,p3⟩:=zbz HX1.out;have c1:w1.cell? ⟨b,off + k * 2 + 1,none⟩ = some (.int .i64 3):=(HB1.out.cell (p:=⟨b,off + k * 2 + 1,none⟩) hb).trans C1.out;go_wp2_with fail
     refine (rnormed_any x _ hx).mono ?_;rw [← HE2.out];obtain ⟨pb,hpp⟩:∃ p,zau s (k:Int) x.data.toList = p:=⟨_,rfl⟩;rw [hpp];have HPP:=zi5 hpp;rintro e w3 ⟨rfl,hb3⟩;have HB3:=zi5 (HB1.out.trans (hb3.mono HB1.out.size));clear hb3 hpp HE HE2 p0 p1 p2 p3 c1;go_wp2_with fail
     go_ret;exact ⟨HF.out _ HPP.out,HB3.out⟩
    ·have HE2:=zi5 (show zau s (k:Int) x.data.toList = zee (zc3 s.rules x.data.toList) x.data.toList from HE.out)
     go_enter func128,ntmps128
     go_wp2_with fail
     refine HK.out.mono ?_;rintro e w1 ⟨rfl,hb1⟩;have HB1:=zi5 (xbt hb1);have HX1:=zi5 (xbn hb1);clear hb1 HK;have z0:=zaa HX1.out;obtain ⟨p0,p1,p2,p3⟩:=zbz HX1.out;have c1:w1.cell? ⟨b,off + k * 2 + 1,none⟩ = some (.int .i64 4):=(HB1.out.cell (p:=⟨b,off + k * 2 + 1,none⟩) hb).trans C1.out;go_wp2_with fail
     refine (ranormal_any zaw vt vn vs s.rules x _ (HS.out.2.below HB1.out) hx).mono ?_;rw [← HE2.out];obtain ⟨pb,hpp⟩:∃ p,zau s (k:Int) x.data.toList = p:=⟨_,rfl⟩;rw [hpp];have HPP:=zi5 hpp;rintro e w3 ⟨rfl,hb3⟩;have HB3:=zi5 (HB1.out.trans (hb3.mono HB1.out.size));clear hb3 hpp HE HE2 p0 p1 p2 p3 c1;go_wp2_with fail
     go_ret;exact ⟨HF.out _ HPP.out,HB3.out⟩
  ·rw [if_neg hr] at hfn
   have HE:=zi5 (show zau s f x.data.toList = false by rw [hval,hfn]; rfl);clear hval hkk hfn;by_cases r1:0≤f
   ·have t1:decide (f < 0) = false:=by simp; omega
    have t2:decide ((s.fields.length:Int)≤f) = true:=by simp; omega
    go_enter func128,ntmps128
    go_wp2_with fail
    refine HK.out.mono ?_;rintro e w1 ⟨rfl,hb1⟩;have HB1:=zi5 (xbt hb1);have HX1:=zi5 (xbn hb1);clear hb1 HK;have z0:=zaa HX1.out;obtain ⟨p0,p1,p2,p3⟩:=zbz HX1.out;go_wp2_with fail
    go_ret;exact ⟨HF.out _ HE.out,HB1.out⟩
   ·have t1:decide (f < 0) = true:=by simp; omega
    go_enter func128,ntmps128
    go_wp2_with fail
    refine HK.out.mono ?_;rintro e w1 ⟨rfl,hb1⟩;have HB1:=zi5 (xbt hb1);have HX1:=zi5 (xbn hb1);clear hb1 HK;have z0:=zaa HX1.out;obtain ⟨p0,p1,p2,p3⟩:=zbz HX1.out;go_wp2_with fail
    go_ret;exact ⟨HF.out _ HE.out,HB1.out⟩
 ·rw [if_neg he] at hfn
  have HE:=zi5 (show zau s f x.data.toList = false by rw [hval,hfn]; dsimp only; rw [if_neg he]);have he1:(c != 0) = true:=by simpa using he
  clear hval hkk hfn hcf he;go_enter func128,ntmps128
  go_wp2_with fail
  refine HK.out.mono ?_;rintro e w1 ⟨rfl,hb1⟩;have HB1:=zi5 (xbt hb1);have HX1:=zi5 (xbn hb1);clear hb1 HK;have z0:=zaa HX1.out;obtain ⟨p0,p1,p2,p3⟩:=zbz HX1.out;go_wp2_with fail
  go_ret;exact ⟨HF.out _ HE.out,HB1.out⟩
end
section
open Go.RowKit
attribute [local go_sem] zah zaj zaq
def kindsD:List Int:=[1,1,2,4,3]
theorem kindsD_bd (k:Nat) (hk:k < 5):1≤kindsD.getD k 0∧kindsD.getD k 0≤4:=by
 have:∀ j:Fin 5,1≤kindsD.getD j 0∧kindsD.getD j 0≤4:=by decide
 exact this ⟨k,hk⟩
theorem kinds_cell {w:World} {b:Nat} (h:w.heap[b]? = some (.cells (kindsD.map (Value.int .i64)).toArray 3 (0,0))) (k:Nat) (hk:k < 5):w.cell? ⟨b,k,none⟩ = some (.int .i64 (kindsD.getD k 0)):=by
 rw [cell_of_row _ _ _ _ _ _ h,List.getElem?_toArray,List.getElem?_map];have:k < kindsD.length:=hk;rw [List.getD,List.getElem?_eq_getElem this]; rfl
theorem schema_deal (D:Nat) (w:World) (h:DeckAt w D) :
  Calls prog 12 #[.pointer (some ⟨D,0,none⟩)] w (SchemaPost D w):=by
 have zD:=h.lt;have M0:=zi5 (Moved.start h); clear h;go_enter func12,ntmps12
 go_wp2_with fail
 refine (rules_deal D _ (M0.out.alloc _).deck).mono ?_;rintro e w1 ⟨vt,vn,vs,r,rfl,hr,hd,mv⟩;obtain ⟨at',ct,rfl⟩:=hr.1.slice;obtain ⟨an,cn,rfl⟩:=hr.2.1.slice;obtain ⟨as',cs,rfl⟩:=hr.2.2.slice;have zw:w.heap.size < w1.heap.size:=by have:=mv.size; simp at this; omega
 have X1:=zi5 (show w1.heap[w.heap.size]? = some (.cells nil4 44 (0,0)) from mv.blk (by omega) (zac rfl));have M1:=zi5 ((M0.out.alloc _).trans mv);have HR:=zi5 hr; have HRD:=zi5 hd;clear hr hd mv;go_wp2_with fail
 have K0:=zi5 (show SMid D w w1.heap.size (.slice at' r.titles.length ct) (.slice an r.nicks.length cn) (.slice as' r.streets.length cs) r (.slice none 0 0) [] ((w1.alloc (.cells #[.slice none 0 0,.slice at' r.titles.length ct,.slice an r.nicks.length cn,.slice as' r.streets.length cs] 44)).alloc (.cells (namesD.flatMap za2).toArray 9)) from
  ⟨zaf (zaf X1.out),zaf (zac rfl),zac (by simp),⟨rfl,.inl ⟨rfl,rfl⟩⟩,by
   have hb:Below w1.heap.size w1 ((w1.alloc (.cells #[.slice none 0 0,.slice at' r.titles.length ct,.slice an r.nicks.length cn,.slice as' r.streets.length cs] 44)).alloc (.cells (namesD.flatMap za2).toArray 9)):=((Below.refl _ _).alloc xnl _).alloc (by simp) _;have mvv:∀ b,b < w1.heap.size→(w.alloc (.cells nil4 44)).heap.size≤b→_∧(w.heap.size < b∧b < w1.heap.size):=fun b h1 h2=>⟨hb.block b h1,by simp at h2; omega,h1⟩
   exact ⟨HR.out.1.move hb.size mvv,HR.out.2.1.move hb.size mvv,HR.out.2.2.move hb.size mvv⟩,FieldsD.nil,(M1.out.alloc _).alloc _,zw⟩)
 refine (zb5 D _ 4 K0.out.moved.deck (by omega) (by omega)).mono ?_;rintro e w2 ⟨q,rfl,q0,q1,mv⟩;obtain ⟨q,rfl⟩:=Int.eq_ofNat_of_zero_le q0;have K1:=zi5 (K0.out.gone zD mv);clear mv K0 X1 M1 HR M0;go_wp2_with fail
 go_loopw [6] (fun i wr=>∃ (k:Nat) (F:List F2) (vf:Value),i = .int .i64 k∧k≤1 + q∧F.length = k∧SMid D w w1.heap.size (.slice at' r.titles.length ct) (.slice an r.nicks.length cn) (.slice as' r.streets.length cs) r vf F wr) (fun i _=>1 + q - (intOf i).toNat)
 case atStart=>exact ⟨0,[],_,rfl,by omega,rfl,K1.out⟩
 case round =>
  obtain ⟨k,F,vf,rfl,hk,hF,hm⟩:=hrel;have HF:=zi5 hF; have KM:=zi5 hm;clear hm hF K1;by_cases hlt:k < 1 + q
  ·have hq:decide ((k:Int) < 1 + q) = true:=by simp; omega
   have hix:(k:Int) < 5:=by omega
   have hc:(wr.alloc (.cells #[.int .i64 1,.int .i64 1,.int .i64 2,.int .i64 4,.int .i64 3] 3)).cell? ⟨wr.heap.size,k,none⟩ = _:=kinds_cell (w:=wr.alloc (.cells (kindsD.map (Value.int .i64)).toArray 3)) (b:=wr.heap.size) (zac rfl) k (by omega);obtain ⟨kb1,kb2⟩:=kindsD_bd k (by omega);obtain ⟨kd,hkd⟩:∃ kd,kindsD.getD k 0 = kd:=⟨_,rfl⟩;rw [hkd] at hc kb1 kb2;clear hkd;go_wp2_with fail
   refine (ze4 D _ 4 (KM.out.moved.alloc _).deck (by omega) (by omega)).mono ?_;rintro e w3 ⟨u,rfl,mv⟩;have KN:=zi5 (KM.out.gone zD (((Moved.start KM.out.moved.deck).alloc _).trans mv));clear hc mv;go_upto_if 25 with (fail)
   go_cut [7] (fun s7 wx=>∃ kd:Int,s7 = .int .i64 kd∧1≤kd∧kd≤4∧SMid D w w1.heap.size (.slice at' r.titles.length ct) (.slice an r.nicks.length cn) (.slice as' r.streets.length cs) r vf F wx)
   case first =>
    cases u
    ·go_wp2_with fail
     go_meet;exact ⟨kd,rfl,kb1,kb2,KN.out⟩
    ·go_wp2_with fail
     refine (zb5 D _ 4 KN.out.moved.deck (by omega) (by omega)).mono ?_;rintro e w4 ⟨p,rfl,p0,p1,mv⟩;have KO:=zi5 (KN.out.gone zD mv);clear mv;go_wp2_with fail
     go_meet;exact ⟨1 + p,rfl,by omega,by omega,KO.out⟩
   case rest =>
    obtain ⟨kx,rfl,kx1,kx2,hm⟩:=hcut;have KX:=zi5 hm;clear hm KM KN kb1 kb2;obtain ⟨av,cv,hav⟩:=za1 KX.out.own;rw [HF.out] at hav;subst hav;have cY:=(zbz KX.out.s).1;have cN:=KX.out.n.cell k (by show k < 5; omega);have zY:=zaa KX.out.n;have zY0:w1.heap.size < wc.heap.size:=by omega
    obtain ⟨nm,hnm⟩:∃ nm,namesD.getD k [] = nm:=⟨_,rfl⟩;rw [hnm] at cN;have HNM:=zi5 hnm; clear hnm;go_wp2_with fail
    have hown:=zg5 KX.out.own (((Below.refl _ _).alloc xnl (.cells #[zal nm,.int .i64 kx] 95)).drew)
    have hnews:∀ j u,[zal nm,Value.int .i64 kx][j]? = some u→((wc.alloc (.cells #[zal nm,.int .i64 kx] 95)).drew).cell? ((⟨wc.heap.size,0,none⟩:Addr).add j) = some u:=fun j u hu=>by
     rw [zdo,World.cell?_drew,cell_of_row _ _ _ _ _ _ (heap_alloc_new wc _),Nat.zero_add]; simpa using hu
    have hone:∀ u∈[zal nm,Value.int .i64 kx],u.oneCell' = true:=by intro u hu; simp at hu; rcases hu with rfl | rfl <;> rfl
    obtain ⟨i0,hi,hz0,hz1,hz2⟩:=info_parts infoF;have hbA:=((Below.refl _ wc).alloc xnl (.cells #[zal nm,.int .i64 kx] 95)).drew;have HBA:=zi5 hbA; have HOwn:=zi5 hown; have HNews:=zi5 hnews; have HOne:=zi5 hone; have HI:=zi5 hi; have HZ0:=zi5 hz0; have HZ1:=zi5 hz1; have HZ2:=zi5 hz2;have fY:=(frozen_of_row _ _ _ _ _ KX.out.s:wc.frozen? ⟨w1.heap.size,0,none⟩ = false);clear hbA hown hnews hone hi hz0 hz1 hz2;rw [HF.out] at HOwn;go_region_law (((refine step_append_lies _ rfl (.tmp 30) (.tmp 37) 39 (by rfl) (w1.heap.size + 2) 95 i0 (.agg #[.string ⟨#[]⟩,.int .i64 0]) 2 24 underlying39 HI.out HZ0.out HZ1.out HZ2.out rfl (by decide) (.slice av k cv) k (F.flatMap encF) (by rfl) HOwn.out ⟨wc.heap.size,0,none⟩ 1 1 [zal nm,.int .i64 kx] (by rfl) rfl HNews.out HOne.out (by omega) (by unfold maxLen; omega) (by omega) (by simp; omega) (wc.heap.size + 1) (by simp) ?_); intro g cap w5 hown5 hg5 hat5 hlt5; have cY5:=(hg5.cell_far ⟨w1.heap.size,0,none⟩ (by simp; omega) (own_far HOwn.out (by show w1.heap.size < _; omega))).trans ((HBA.out.cell (p:=⟨w1.heap.size,0,none⟩) (by show w1.heap.size < _; omega)).trans cY); have fY5:=(hg5.frozen_far ⟨w1.heap.size,0,none⟩ (by simp; omega) (own_far HOwn.out (by show w1.heap.size < _; omega))).trans ((HBA.out.frozen (p:=⟨w1.heap.size,0,none⟩) (by show w1.heap.size < _; omega)).trans fY)))
    all_goals
     have hfd:=KX.out.fields.snoc (by rw [HF.out]; omega) kx1 kx2;rw [HF.out,HNM.out] at hfd;have hown6:=hown5;rw [show F.flatMap encF ++ [zal nm,.int .i64 kx] = F.flatMap encF ++ encF (nm,kx) from rfl,← HF.out] at hown6;have KS:=zi5 (KX.out.step (x:=(nm,kx)) zD HBA.out hg5 hown6 hfd);rw [HF.out] at KS;clear hfd hown6 hown5 hg5 hat5 cY5 fY5;go_wp2_with fail
     go_roundw
     case rel=>exact ⟨k + 1,F ++ [(nm,kx)],_,by go_num,by omega,by rw [List.length_append,HF.out]; rfl,KS.out⟩
     case measure=>simp [intOf]; omega
  ·have hq:decide ((k:Int) < 1 + q) = false:=by simp; omega
   obtain ⟨av,cv,hav⟩:=za1 KM.out.own;subst hav;have HZ:=zi5 KM.out.z;have HM:=zi5 KM.out.moved;have HR:=zi5 KM.out.rules;have HO:=zi5 KM.out.own;have HFd:=zi5 KM.out.fields;obtain ⟨c0,c1,c2,c3⟩:=zbz KM.out.s;obtain ⟨d0,d1,d2,d3⟩:=zbz KM.out.z;have g0:=(frozen_of_row _ _ _ _ _ KM.out.z:wr.frozen? ⟨w.heap.size,0,none⟩ = false);have g1:=(frozen_of_row _ _ _ _ _ KM.out.z:wr.frozen? ⟨w.heap.size,1,none⟩ = false);have g2:=(frozen_of_row _ _ _ _ _ KM.out.z:wr.frozen? ⟨w.heap.size,2,none⟩ = false);have g3:=(frozen_of_row _ _ _ _ _ KM.out.z:wr.frozen? ⟨w.heap.size,3,none⟩ = false);have z0:=zaa KM.out.z;have z1:=zaa KM.out.s;clear KM;go_wp2_with fail
   have hz:=(zad (i:=3) (v:=(.slice as' r.streets.length cs)) (zad (i:=2) (v:=(.slice an r.nicks.length cn)) (zad (i:=1) (v:=(.slice at' r.titles.length ct)) (zad (i:=0) (v:=(.slice av F.length cv)) HZ.out))));have hm:=((((HM.out.set (a:=⟨w.heap.size,0,none⟩) xnl (.slice av F.length cv)).set (a:=⟨w.heap.size,1,none⟩) xnl (.slice at' r.titles.length ct)).set (a:=⟨w.heap.size,2,none⟩) xnl (.slice an r.nicks.length cn)).set (a:=⟨w.heap.size,3,none⟩) xnl (.slice as' r.streets.length cs));have hv:=(((((Vec.owns (k:=2) (enc:=encF) (S:=fun b=>w.heap.size < b) (fun _=>rfl) HO.out (fun b h1 _=>by omega)).set1 (a:=⟨w.heap.size,0,none⟩) (fun b h=>Nat.ne_of_gt h) (.slice av F.length cv)).set1 (a:=⟨w.heap.size,1,none⟩) (fun b h=>Nat.ne_of_gt h) (.slice at' r.titles.length ct)).set1 (a:=⟨w.heap.size,2,none⟩) (fun b h=>Nat.ne_of_gt h) (.slice an r.nicks.length cn)).set1 (a:=⟨w.heap.size,3,none⟩) (fun b h=>Nat.ne_of_gt h) (.slice as' r.streets.length cs))
   have ht:=(((((HR.out.1.weaken (S':=fun b=>w.heap.size < b) fun b h=>h.1).set1 (a:=⟨w.heap.size,0,none⟩) (fun b h=>Nat.ne_of_gt h) (.slice av F.length cv)).set1 (a:=⟨w.heap.size,1,none⟩) (fun b h=>Nat.ne_of_gt h) (.slice at' r.titles.length ct)).set1 (a:=⟨w.heap.size,2,none⟩) (fun b h=>Nat.ne_of_gt h) (.slice an r.nicks.length cn)).set1 (a:=⟨w.heap.size,3,none⟩) (fun b h=>Nat.ne_of_gt h) (.slice as' r.streets.length cs))
   have hn:=(((((HR.out.2.1.weaken (S':=fun b=>w.heap.size < b) fun b h=>h.1).set1 (a:=⟨w.heap.size,0,none⟩) (fun b h=>Nat.ne_of_gt h) (.slice av F.length cv)).set1 (a:=⟨w.heap.size,1,none⟩) (fun b h=>Nat.ne_of_gt h) (.slice at' r.titles.length ct)).set1 (a:=⟨w.heap.size,2,none⟩) (fun b h=>Nat.ne_of_gt h) (.slice an r.nicks.length cn)).set1 (a:=⟨w.heap.size,3,none⟩) (fun b h=>Nat.ne_of_gt h) (.slice as' r.streets.length cs))
   have hs:=(((((HR.out.2.2.weaken (S':=fun b=>w.heap.size < b) fun b h=>h.1).set1 (a:=⟨w.heap.size,0,none⟩) (fun b h=>Nat.ne_of_gt h) (.slice av F.length cv)).set1 (a:=⟨w.heap.size,1,none⟩) (fun b h=>Nat.ne_of_gt h) (.slice at' r.titles.length ct)).set1 (a:=⟨w.heap.size,2,none⟩) (fun b h=>Nat.ne_of_gt h) (.slice an r.nicks.length cn)).set1 (a:=⟨w.heap.size,3,none⟩) (fun b h=>Nat.ne_of_gt h) (.slice as' r.streets.length cs))
   have hw:∀ b,w.heap.size < b→w.heap.size≤b:=fun b h=>Nat.le_of_lt h
   have hF1:1≤F.length:=by have:=HF.out; omega
   exact za7 rfl rfl hz underlying44 rfl (by kernel_rfl) ⟨_,_,_,_,⟨F,r⟩,rfl,⟨hv.weaken hw,ht.weaken hw,hn.weaken hw,hs.weaken hw⟩,⟨HFd.out,hF1,HRD.out⟩,hm⟩
end
section
open Go.RowKit Cal
attribute [local go_sem] zah zaj zaq
def RecVal (w:World) (S:Nat→Prop) (v:Value) (r:RecL):Prop:=∃ s,v = .agg #[.int .i64 r.id,.int .i64 r.ver,s]∧Vec w S 1 za2 s r.vals
def MakePost (p:RecL × Int) (w:World) (e:Ending) (w':World):Prop:=∃ v,e = .returned (.tuple #[v,.int .i64 p.2])∧RecVal w' (fun b=>w.heap.size≤b) v p.1∧Below w.heap.size w w'
theorem makeN_in {s:SchemaL} {id ver:Int} {raws:List (List UInt8)} (h0:zax s = 0) (h1:raws.length = s.fields.length) (h2:zbo id ver = true):makeN s id ver raws = if (zep s 0 [] raws).2 = 0 then (⟨id,ver,(zep s 0 [] raws).1⟩,0) else (noRec,(zep s 0 [] raws).2):=by
 unfold makeN; rw [if_pos h0,if_pos h1,if_pos h2]
structure MkAt (w:World) (rb:Nat) (vf vt vn vs:Value) (id ver:Int) (v:Value) (C:List (List UInt8)) (wr:World):Prop where
 s:wr.heap[w.heap.size]? = some (.cells #[vf,vt,vn,vs] 44 (0,0))
 z:wr.heap[w.heap.size + 1]? = some (.cells #[.int .i64 0,.int .i64 0,.slice none 0 0] 29 (0,0))
 r:wr.heap[rb]? = some (.cells #[.int .i64 id,.int .i64 ver,v] 29 (0,0))
 own:wr.ownsRow (rb + 1) 9 1 v C.length (C.flatMap za2)
 b:Below w.heap.size w wr
 lt:w.heap.size + 1 < rb
 lt2:rb < wr.heap.size
theorem MkAt.below {w:World} {rb:Nat} {vf vt vn vs:Value} {id ver:Int} {v:Value} {C:List (List UInt8)} {wr wx:World} (h:MkAt w rb vf vt vn vs id ver v C wr) (hb:Below wr.heap.size wr wx):MkAt w rb vf vt vn vs id ver v C wx :=
 ⟨zab hb (zaa h.s) h.s,zab hb (zaa h.z) h.z,zab hb (zaa h.r) h.r,own_below' h.own hb,h.b.trans (hb.mono h.b.size),h.lt,Nat.lt_of_lt_of_le h.lt2 hb.size⟩
theorem rmake_yes (S T:Nat→Prop) (vf vt vn vs:Value) (s:SchemaL) (id ver:Int) (raws:List (List UInt8)) (rv:Value) (w:World) (h:SchemaAt w S vf vt vn vs s) (hv:Vec w T 1 za2 rv raws) (hc:zax s = 0) (hl:raws.length = s.fields.length) (hn:zbo id ver = true) (hs:∀ x∈raws,x.length≤1000000) :
  Calls prog 61 #[.agg #[vf,vt,vn,vs],.int .i64 id,.int .i64 ver,rv] w (MakePost (makeN s id ver raws) w):=by
 have hmk:=makeN_in hc hl hn;obtain ⟨R,hR⟩:∃ R,makeN s id ver raws = R:=⟨_,rfl⟩;rw [hR] at hmk ⊢;have HMK:=zi5 hmk;clear hmk hR;obtain ⟨a,cap,rfl⟩:=hv.slice;obtain ⟨af,cf,rfl⟩:=h.1.slice;have h5:raws.length≤5:=by have:=(zcf hc).1.2; omega
 have hne:((raws.length:Int) != (s.fields.length:Int)) = false:=by rw [hl]; simp
 have hn0:=hn;simp only [zbo,Bool.and_eq_true,decide_eq_true_iff] at hn0;obtain ⟨⟨⟨n1,n2⟩,n3⟩,n4⟩:=hn0;have e1:decide (id < (1:Int)) = false:=by simp; omega
 have e2:decide ((1048576:Int) < id) = false:=by simp; omega
 have e3:decide (ver < (1:Int)) = false:=by simp; omega
 have e4:decide ((1048576:Int) < ver) = false:=by simp; omega
 have HC:=zi5 hc; have HV:=zi5 hv.any; have HS:=zi5 h.any; have HSh:=zi5 hs;clear h hv hc hl hn hs n1 n2 n3 n4;go_enter func61,ntmps61
 go_wp2_with fail
 refine zae (fun W hW=>?_)
 have hb0:=xam hW
 have hs0:W.heap[w.heap.size]? = some (.cells #[.slice af s.fields.length cf,vt,vn,vs] 44 (0,0)):=by rw [hW]; exact zaf (zac rfl)
 have hz0:W.heap[w.heap.size + 1]? = some (.cells #[.int .i64 0,.int .i64 0,.slice none 0 0] 29 (0,0)):=by rw [hW]; exact zac (by simp)
 clear hW;refine (zds zaw _ _ _ _ s _ (HS.out.below hb0)).mono ?_;rw [HC.out];rintro e w1 ⟨rfl,hb⟩;have hs1:=zab hb (zaa hs0) hs0; have hz1:=zab hb (zaa hz0) hz0;have HB1:=zi5 (hb0.trans (hb.mono hb0.size)); have HS1:=zi5 hs1; have HZ1:=zi5 hz1;obtain ⟨s0,s1,s2,s3⟩:=zan hs1;clear hb hb0 hs0 hz0 hs1 hz1;go_wp2_with fail
 refine zao (fun W2 hW2=>?_)
 have hm0:MkAt w w1.heap.size (.slice af s.fields.length cf) vt vn vs id ver (.slice none 0 0) [] W2:=by
  rw [hW2];exact ⟨zaf HS1.out,zaf HZ1.out,zac rfl,⟨by simp,.inl ⟨rfl,rfl⟩⟩,HB1.out.alloc HB1.out.size _,zaa HZ1.out,by simp⟩
 have HM0:=zi5 hm0;clear hW2 hm0 s0 s1 s2 s3;go_loopw [12,13,14] (fun i _ _ wr=>∃ (j:Nat) (v:Value) (C:List (List UInt8)),i = .int .i64 j∧j≤raws.length∧C.length = j∧Hid (zep s j C (raws.drop j) = zep s 0 [] raws)∧MkAt w w1.heap.size (.slice af s.fields.length cf) vt vn vs id ver v C wr) (fun i _ _ _=>raws.length - (intOf i).toNat)
 case atStart=>exact ⟨0,_,[],rfl,by omega,rfl,zi5 rfl,HM0.out⟩
 case round =>
  obtain ⟨j,vC,C,rfl,hj,hCl,HT,hm⟩:=hrel;have HM:=zi5 hm; have HCl:=zi5 hCl; clear hm hCl HM0;obtain ⟨s0,s1,s2,s3⟩:=zan HM.out.s;by_cases hlt:j < raws.length
  ·have hq:decide ((j:Int) < raws.length) = true:=by simp; omega
   obtain ⟨x,hx⟩:∃ x,raws[j] = x:=⟨_,rfl⟩;have hxl:x.length≤1000000:=HSh.out x (by rw [← hx]; exact List.getElem_mem _);have hT:=HT.out;rw [List.drop_eq_getElem_cons hlt,hx,zep] at hT;obtain ⟨b,off,rfl,hb,hc⟩:=(HV.out.below HM.out.b).get j hlt;have c0:=hc 0 _ rfl;rw [Nat.mul_one,Nat.add_zero,hx] at c0;obtain ⟨⟨y,er⟩,hp⟩:∃ p,zcp s j x = p:=⟨_,rfl⟩;rw [hp] at hT;dsimp only at hT;have HT2:=zi5 hT; have HPv:=zi5 hp;clear hc hT hx HT hp;go_wp2_with fail
   have hbw:b < wr.heap.size:=hb;have hzs:=zaa HM.out.s;refine wp_region_noPanic ?_
   refine wp_region_held_drew (S:=(fun w'=>w'.cell? ⟨w.heap.size,0,none⟩ = some (.slice af s.fields.length cf)∧w'.cell? ⟨w.heap.size,1,none⟩ = some vt∧w'.cell? ⟨w.heap.size,2,none⟩ = some vn∧w'.cell? ⟨w.heap.size,3,none⟩ = some vs∧w'.cell? ⟨b,off + j,none⟩ = some (zal x))) (by kernel_rfl) (⟨s0,s1,s2,s3,c0⟩) (fun hHeld=>?_)
   refine tH 0 (h:=?_);refine tH 1 (h:=?_);refine tH 2 (h:=?_);refine tH 3 (h:=?_);refine tH 4 (h:=?_);refine tH 5 (h:=?_);refine wpAnyH_ready (rs:=[6]) (by kernel_rfl) (by simp) ?_
   refine AllReadyH.cons rfl (fun K hK=>?_) AllReadyH.nil
   go_simp;refine (rvalue_any zaw _ vt vn vs s j ⟨x.toArray⟩ _ ((HS.out.below HM.out.b).below (Below.refl _ _).drew) (by rw [zaj]; omega)).mono ?_; rw [show (⟨x.toArray⟩:ByteArray).data.toList = x by simp,HPv.out]; unfold zdf; rintro e w2 ⟨rfl,hb2⟩; have b2:=((Below.refl wr.heap.size wr).drew).trans hb2; clear hb2
   refine hK.out _ _ (⟨(b2.cell (p:=⟨w.heap.size,0,none⟩) hzs).trans s0,(b2.cell (p:=⟨w.heap.size,1,none⟩) hzs).trans s1,(b2.cell (p:=⟨w.heap.size,2,none⟩) hzs).trans s2,(b2.cell (p:=⟨w.heap.size,3,none⟩) hzs).trans s3,(b2.cell (p:=⟨b,off + j,none⟩) hbw).trans c0⟩) (fun hHeld=>?_)
   clear hK K;refine tH 7 (h:=?_);refine tH 8 (h:=?_);refine tH 9 (h:=?_);refine tH 10 (h:=?_);refine tH 11 (h:=?_);refine wpAnyH_done (by kernel_rfl) ?_ _;refine NoPanic.normal ?_;have HM2:=zi5 (HM.out.below b2);clear hHeld s0 s1 s2 s3 c0 b2 HM hbw hzs hb;by_cases he:er = 0
   ·subst he
    have HT3:=zi5 (show zep s (j + 1) (C ++ [y]) (raws.drop (j + 1)) = zep s 0 [] raws by rw [← HT2.out,if_pos rfl]);clear HT2;obtain ⟨r0,r1,r2⟩:=zai HM2.out.r;have f2:=frozen_of_row _ _ 2 _ _ HM2.out.r;have hrz:=HM2.out.lt2;have hone:∀ u∈(#[zal y]:Array Value).toList,u.oneCell' = true:=by intro u hu; simp at hu; subst hu; rfl
    have hbase:w1.heap.size + 1≤w2.heap.size:=hrz;have hown:=HM2.out.own;have HOwn:=zi5 hown;clear hown;have hcl:C.length < 1099511627776:=by rw [HCl.out]; omega
    go_wp2_with (at_builtin; refine zbf rfl _ _ 27 rfl (w1.heap.size + 1) 9 1 16 (.string ⟨#[]⟩) underlying27 zdi rfl (by decide) (by decide) _ _ _ rfl HOwn.out #[zal y] 1 rfl rfl hone hcl hbase ?_; intro v2 w8 ho8 hw8; obtain ⟨av2,cv2,rfl⟩:=za1 ho8; have hr8:=(hw8 w2 (Below.refl _ _)).block w1.heap.size (Nat.lt_succ_self _) |>.trans HM2.out.r; obtain ⟨q0,q1,q2⟩:=zai hr8; have g2:=frozen_of_row _ _ 2 _ _ hr8; have y8:=zaa hr8)
    have HW8:=zi5 (hw8 w2 (Below.refl _ _)); have HO8:=zi5 ho8; have HR8:=zi5 hr8;clear hw8 ho8 hr8;have hlt:=HM2.out.lt;go_roundw
    case rel =>
     refine ⟨j + 1,.slice av2 (C.length + 1) cv2,C ++ [y],by go_num,by omega,by rw [List.length_append,HCl.out]; rfl,HT3,?_⟩;refine ⟨zam ((HW8.out.block w.heap.size (by omega)).trans HM2.out.s) (by show w.heap.size≠w1.heap.size; omega),zam ((HW8.out.block (w.heap.size + 1) (by omega)).trans HM2.out.z) (by show w.heap.size + 1≠w1.heap.size; omega),zad (i:=2) HR8.out,?_,?_,hlt,by simpa [World.setCell] using y8⟩
     ·rw [List.length_append,List.flatMap_append]
      exact own_same HO8.out fun g h1 h2=>heap_setCell_other _ _ _ _ (by show g≠w1.heap.size; omega)
     ·exact (HM2.out.b.trans (HW8.out.mono (by omega))).setCell (p:=⟨w1.heap.size,2,none⟩) (by show w.heap.size≤w1.heap.size; omega) _
    case measure=>simp [intOf]; omega
   ·have hne2:(er != 0) = true:=by simpa using he
    have hR:R = (noRec,er):=by rw [HMK.out,← HT2.out,if_neg he,if_neg he]
    have HRR:=zi5 hR;obtain ⟨z0,z1,z2⟩:=zai HM2.out.z;have f0:=frozen_of_row _ _ 0 _ _ HM2.out.z; have f1:=frozen_of_row _ _ 1 _ _ HM2.out.z; have f2:=frozen_of_row _ _ 2 _ _ HM2.out.z;have yz:=zaa HM2.out.z;clear hR he HT2;go_wp2_with fail
    rw [HRR.out]
    exact zag rfl rfl (zad (i:=2) (v:=.slice none 0 0) (zad (i:=1) (v:=.int .i64 0) (zad (i:=0) (v:=.int .i64 0) HM2.out.z))) underlying29 rfl (by kernel_rfl)
     ⟨_,rfl,⟨_,rfl,Vec.nil _ _ _ _⟩,((HM2.out.b.setCell (p:=⟨w.heap.size + 1,0,none⟩) (Nat.le_succ _) _).setCell (p:=⟨w.heap.size + 1,1,none⟩) (Nat.le_succ _) _).setCell (p:=⟨w.heap.size + 1,2,none⟩) (Nat.le_succ _) _⟩
  ·have hq:decide ((j:Int) < raws.length) = false:=by simp; omega
   obtain rfl:j = raws.length:=by omega
   have hT:=HT.out;rw [List.drop_length,zep] at hT;have hR:R = (⟨id,ver,C⟩,0):=by rw [HMK.out,← hT,if_pos rfl]
   have HRR:=zi5 hR;have hlt:=HM.out.lt;obtain ⟨z0,z1,z2⟩:=zai HM.out.z;obtain ⟨r0,r1,r2⟩:=zai HM.out.r;have f0:=frozen_of_row _ _ 0 _ _ HM.out.z; have f1:=frozen_of_row _ _ 1 _ _ HM.out.z; have f2:=frozen_of_row _ _ 2 _ _ HM.out.z;have yz:=zaa HM.out.z;obtain ⟨aC,cC,hvC⟩:=za1 HM.out.own;subst hvC;clear hR hT HT s0 s1 s2 s3;go_wp2_with fail
   rw [HRR.out]
   refine zag rfl rfl (zad (i:=2) (v:=.slice aC C.length cC) (zad (i:=1) (v:=.int .i64 ver) (zad (i:=0) (v:=.int .i64 id) HM.out.z))) underlying29 rfl (by kernel_rfl)
    ⟨_,rfl,⟨_,rfl,?_⟩,((HM.out.b.setCell (p:=⟨w.heap.size + 1,0,none⟩) (Nat.le_succ _) _).setCell (p:=⟨w.heap.size + 1,1,none⟩) (Nat.le_succ _) _).setCell (p:=⟨w.heap.size + 1,2,none⟩) (Nat.le_succ _) _⟩
   have hown:=own_same (w':=((wr.setCell ⟨w.heap.size + 1,0,none⟩ (.int .i64 id)).setCell ⟨w.heap.size + 1,1,none⟩ (.int .i64 ver)).setCell ⟨w.heap.size + 1,2,none⟩ (.slice aC C.length cC)) HM.out.own fun g h1 h2=>((heap_setCell_other _ _ _ _ (by show g≠w.heap.size + 1; omega)).trans (heap_setCell_other _ _ _ _ (by show g≠w.heap.size + 1; omega))).trans (heap_setCell_other _ _ _ _ (by show g≠w.heap.size + 1; omega))
   exact Vec.owns (k:=1) (enc:=za2) (fun _=>rfl) hown (fun b h1 _=>by show w.heap.size≤b; omega)
end
section
open Go.RowKit
theorem deck_law {w w1:World} {a:Option Addr} {n cap:Nat} {zs:List Int} (hn:n≤400) (hr:IsRow .i64 w a n cap zs) (hb:Below w.heap.size w w1) :
  DeckAt (w1.alloc (.cells #[.slice a n cap,.int .i64 0,.int .u64 11400714819323198485] 97)) w1.heap.size :=
 deck_new hn fun h0=>by
  obtain ⟨b,off,e1,e2,e3⟩:=hr.read h0;exact ⟨b,off,e1,Nat.lt_of_lt_of_le e2 hb.size,fun i hi=>by obtain ⟨x,hx⟩:=e3 i hi; exact ⟨x,(hb.cell (p:=⟨b,off + i,none⟩) e2).trans hx⟩⟩
end
section
open Go.RowKit Cal
attribute [local go_sem] zah zaj zaq
theorem SchemaAt.moved {D:Nat} {w w':World} {S:Nat→Prop} {vf vt vn vs:Value} {s:SchemaL} (h:SchemaAt w S vf vt vn vs s) (hS:∀ b,S b→b≠D) (m:Moved D w w'):SchemaAt w' S vf vt vn vs s :=
 have mv:∀ b,b < w.heap.size→S b→w'.heap[b]? = w.heap[b]?∧S b:=fun b hb hs=>⟨m.grown.block b hb (by have:=hS b hs; simp; omega),hs⟩
 ⟨h.1.move m.size mv,h.2.1.move m.size mv,h.2.2.1.move m.size mv,h.2.2.2.move m.size mv⟩
theorem fields_cell {w:World} {S:Nat→Prop} {a:Option Addr} {n cap:Nat} {F:List F2} (h:Vec w S 2 encF (.slice a n cap) F) (h0:0 < F.length):∃ b off,a = some ⟨b,off,none⟩∧S b∧b < w.heap.size∧∀ j,j < F.length→w.cell? ⟨b,off + j * 2 + 1,none⟩ = some (.int .i64 (F.getD j default).2):=by
 obtain ⟨b,off,e,hS,hb,hc⟩:=zcm h h0;exact ⟨b,off,e,hS,hb,fun j hj=>hc j hj 1 _ rfl⟩
structure Drawn (D:Nat) (w:World) (y:Nat) (S:Nat→Prop) (vf vt vn vs:Value) (s:SchemaL) (b o:Nat) (kf:Int) (wr:World):Prop where
 m:Moved D w wr
 x:wr.heap[y]? = some (.cells #[vf,vt,vn,vs] 44 (0,0))
 s:SchemaAt wr S vf vt vn vs s
 c:wr.cell? ⟨b,o,none⟩ = some (.int .i64 kf)
 ne:∀ b,S b→b≠D
 yD:y≠D
 bD:b≠D
end
section
open Go.RowKit Cal
attribute [local go_sem] zah zaj zaq
theorem makeA_short (s:SchemaL) (raws:List (List UInt8)):∀ i C,(∀ x∈C,x.length≤64)→∀ x∈(zep s i C raws).1,x.length≤64:=by
 induction raws with
 | nil=>intro i C h; simpa [zep] using h
 | cons y l ih =>
  intro i C h;unfold zep;split
  ·refine ih _ _ fun x hx=>?_
   rcases List.mem_append.1 hx with h1 | h1
   ·exact h x h1
   ·simp at h1; subst h1; exact (valueN_form s i y).1
  ·intro x hx; simp at hx
theorem Vec.far {α:Type} {w:World} {S:Nat→Prop} {k:Nat} {enc:α→List Value} {v:Value} {L:List α} (h:Vec w S k enc v L) {a:Addr} {u:Value} (hn:∀ b,S b→b≠a.block):Vec (w.setCell a u) S k enc v L :=
 h.move (by simp [World.setCell]) fun b _ hs=>⟨heap_setCell_other _ _ _ _ (hn b hs),hs⟩
theorem oneS:∀ x:List UInt8,∀ u∈za2 x,u.oneCell' = true:=by intro x u hu; simp [za2] at hu; subst hu; rfl
theorem rec_made {s:SchemaL} {id ver:Int} {raws:List (List UInt8)} {r:RecL} (h:makeN s id ver raws = (r,0)):r.id = id∧zb7 s r = 0∧∀ x∈r.vals,x.length≤64:=by
 obtain ⟨h1,h2,h3,h4,h5,_,h7,h8,_⟩:=makeN_ok h;refine ⟨h2,checkN_of h1 (by rw [h2,h3]; exact h4) h5 h7,?_⟩;rw [h8];exact makeA_short s raws 0 [] (by simp)
theorem rec_none {s:SchemaL} {id:Int} (h:zax s = 0) (h1:1≤id) (h2:id≤1048576):zb7 s ⟨id,1,List.replicate s.fields.length []⟩ = 0 :=
 checkN_of h (by simp [zbo,h1,h2]) (by simp) (none_norm h)
theorem made_strings (m:Nat):madeCells #[.string ⟨#[]⟩] m = ((List.replicate m ([]:List UInt8)).flatMap za2).toArray:=by
 apply Array.ext'
 have:∀ k,(List.replicate k ([]:List UInt8)).flatMap za2 = List.replicate k (.string ⟨#[]⟩):=by
  intro k; induction k with
  | zero=>rfl
  | succ k ih=>rw [List.replicate_succ,List.flatMap_cons,ih]; rfl
 rw [this];unfold madeCells;rw [Array.toList_map,Array.toList_range]
 refine List.ext_getElem (by simp) fun i h1 h2=>?_
 simp [Nat.mod_one]
def RecordPost (D:Nat) (s:SchemaL) (id:Int) (w:World) (e:Ending) (w':World):Prop:=∃ v r,e = .returned v∧RecVal w' (fun b=>w.heap.size≤b) v r∧r.id = id∧zb7 s r = 0∧(∀ x∈r.vals,x.length≤64)∧Moved D w w'
theorem zen (D:Nat) (S:Nat→Prop) (vf vt vn vs:Value) (s:SchemaL) (id:Int) (w:World) (h:DeckAt w D) (hs:SchemaAt w S vf vt vn vs s) (hS:∀ b,S b→b≠D) (hd:SchemaD s) (h1:1≤id) (h2:id≤1048576) :
  Calls prog 18 #[.pointer (some ⟨D,0,none⟩),.agg #[vf,vt,vn,vs],.int .i64 id] w (RecordPost D s id w):=by
 have zD:=h.lt;have M0:=zi5 (Moved.start h); clear h;obtain ⟨af,cf,rfl⟩:=hs.1.slice;have h5:=hd.fields.len;have HS:=zi5 hs; have HSD:=zi5 hd; have HSne:=zi5 hS;clear hs hd hS;go_enter func18,ntmps18
 go_wp2_with fail
 refine zao (fun W hW=>?_)
 have hm:Moved D w W:=by rw [hW]; exact (M0.out.alloc _).alloc _
 have hb0:=xam hW
 have hs0:W.heap[w.heap.size]? = some (.cells #[.slice af s.fields.length cf,vt,vn,vs] 44 (0,0)):=by rw [hW]; exact zaf (zac rfl)
 have hz0:W.heap[w.heap.size + 1]? = some (.cells #[.int .i64 0,.int .i64 0,.slice none 0 0] 29 (0,0)):=by rw [hW]; exact zac (by simp)
 have hzW:W.heap.size = w.heap.size + 2:=by rw [hW]; simp
 clear hW;have HM:=zi5 hm; have HS0:=zi5 hs0; have HZ0:=zi5 hz0; have HSW:=zi5 (HS.out.below hb0); have HZW:=zi5 hzW;clear hm hs0 hz0 hb0 hzW;obtain ⟨n,hn⟩:∃ n,s.fields.length = n:=⟨_,rfl⟩;rw [hn] at HS0 HSW h5 ⊢;have HN:=zi5 hn; clear hn;go_loopw [7,8] (fun v i wr=>∃ (j:Nat) (L:List (List UInt8)),i = .int .i64 j∧j≤n∧L.length = j∧(∀ x∈L,x.length≤64)∧OwnM D 9 1 za2 W v L wr) (fun _ i _=>n - (intOf i).toNat)
 case atStart=>exact ⟨0,[],rfl,by omega,rfl,by simp,⟨by simp,.inl ⟨rfl,rfl⟩⟩,Moved.start HM.out.deck⟩
 case round =>
  obtain ⟨j,L,rfl,hj,hL,hsh,ho⟩:=hrel;have HO:=zi5 ho; have HL:=zi5 hL; have HSh:=zi5 hsh;have hsr:=ho.2.blk (k:=w.heap.size) (by omega) HS0.out;have HSR:=zi5 hsr;obtain ⟨s0,s1,s2,s3⟩:=zan hsr;have hzs:=zaa hsr;clear ho hL hsh hsr;by_cases hlt:j < n
  ·have hq:decide ((j:Int) < n) = true:=by simp; omega
   have hjs:j < s.fields.length:=by rw [HN.out]; exact hlt
   obtain ⟨b,off,eaf,hSb,hb,hc⟩:=fields_cell HSW.out.1 (by omega);cases eaf;have hbD:=HSne.out b hSb;have kc:=(World.cell?_of_block (w:=W) (a:=⟨b,off + j * 2 + 1,none⟩) (HO.out.2.grown.block b hb (by simp; omega))).trans (hc j hjs);obtain ⟨kf,hkf⟩:∃ kf,(s.fields.getD j default).2 = kf:=⟨_,rfl⟩;rw [hkf] at kc;have hjn:(j:Int) < (n:Int):=by omega
   clear hc hkf hjs hSb;go_wp2_with fail
   refine (raw_deal D kf _ HO.out.2.deck).mono ?_;rintro e w1 ⟨x,rfl,hx,mv⟩;have HX:=zi5 hx;have HO1:=zi5 (HO.out.moved (mv.alloc (.cells #[zal x] 9)));have HR1:=zi5 (show zco (w1.alloc (.cells #[zal x] 9)) 1 (.slice (some ⟨w1.heap.size,0,none⟩) 1 1) [x].length ([x].flatMap za2) from zav (t:=9) (fr:=(0,0)) (zac rfl) rfl)
   have hsh2:∀ y∈L ++ [x],y.length≤64:=by
    intro y hy
    rcases List.mem_append.1 hy with h | h
    ·exact HSh.out y h
    ·simp at h; subst h; exact hx
   have HSh2:=zi5 hsh2;have hcn:L.length + [x].length≤1000000000:=by rw [HL.out]; simp only [List.length_cons,List.length_nil]; omega
   clear hx mv hsh2;go_wp2_with (at_builtin; refine zci rfl (.tmp 18) (.tmp 27) 27 rfl D 9 (.string ⟨#[]⟩) 1 16 za2 (fun _=>rfl) oneS underlying27 zdi rfl (by decide) (by decide) (wA:=W) (v:=u7) (A:=L) (B:=[x]) rfl HO1.out rfl HR1.out hcn ?_; intro v4 w4 ho4 hk4)
   go_roundw
   case rel=>exact ⟨j + 1,L ++ [x],by go_num,by omega,by rw [List.length_append,HL.out]; rfl,HSh2.out,ho4⟩
   case measure=>simp [intOf]; omega
  ·have hq:decide ((j:Int) < n) = false:=by simp; omega
   obtain rfl:j = n:=by omega
   have HV:=zi5 (Vec.owns (k:=1) (enc:=za2) (S:=fun b=>W.heap.size≤b) (fun _=>rfl) HO.out.1 (fun b hb _=>hb))
   obtain ⟨aL,cL,hvL⟩:=za1 HO.out.1;subst hvL;have HSr:=zi5 (HSW.out.moved HSne.out HO.out.2);have hneD:w.heap.size≠D:=by omega
   have mD:Moved D wr wr.drew:=(Moved.start HO.out.2.deck).drew;go_wp2_with fail
   go_cut [9,10] (fun s9 s10 wx=>∃ (rb:Nat) (er y:Int) (sv:Value) (r:RecL),s9 = .pointer (some ⟨rb,0,none⟩)∧s10 = .int .i64 er∧wx.heap[rb]? = some (.cells #[.int .i64 r.id,.int .i64 r.ver,sv] 29 (0,0))∧Vec wx (fun b=>w.heap.size + 2≤b) 1 za2 sv r.vals∧Hid (makeN s id (1 + y) L = (r,er))∧0≤y∧y < 3∧Moved D wr wx∧wr.heap.size≤rb)
   case first =>
    refine wp_region_noPanic ?_
    refine zat (by kernel_rfl) (fun w'=>w'.cell? ⟨w.heap.size,0,none⟩ = some (.slice af j cf)∧w'.cell? ⟨w.heap.size,1,none⟩ = some vt∧w'.cell? ⟨w.heap.size,2,none⟩ = some vn∧w'.cell? ⟨w.heap.size,3,none⟩ = some vs) 12 (⟨s0,s1,s2,s3⟩) (fun hHeld=>?_)
    refine tK 0 (h:=?_);refine tK 1 (h:=?_);refine tK 2 (h:=?_);refine tK 5 (h:=?_);refine za8 (rs:=[3,10]) (by kernel_rfl) (by simp) ?_
    refine AllReadyK.cons rfl (fun K hK=>?_) (AllReadyK.cons rfl (fun K hK=>?_) AllReadyK.nil)
    focus
     go_simp;refine (zb5 D _ 3 mD.deck (by omega) (by omega)).mono ?_;rintro e W1 ⟨y,rfl,y0,y1,mv⟩;have m1:=mD.trans mv;clear mv;have hwy:IntKind.i64.wrap (1 + y) = 1 + y:=by rw [IntKind.wrap_i64]; omega
     refine za5 hK (⟨(zan (m1.blk (k:=w.heap.size) hneD HSR.out)).1,(zan (m1.blk (k:=w.heap.size) hneD HSR.out)).2.1,(zan (m1.blk (k:=w.heap.size) hneD HSR.out)).2.2.1,(zan (m1.blk (k:=w.heap.size) hneD HSR.out)).2.2.2⟩) (fun hHeld=>?_)
     clear hK K;refine tK 4 (h:=?_);refine za8 (rs:=[6,10]) (by kernel_rfl) (by simp) ?_
     refine AllReadyK.cons rfl (fun K hK=>?_) (AllReadyK.cons rfl (fun K hK=>?_) AllReadyK.nil)
     focus
      go_simp;have hnum:zbo id (1 + y) = true:=by simp [zbo]; omega
      obtain ⟨⟨r,er⟩,hR⟩:∃ R,makeN s id (1 + y) L = R:=⟨_,rfl⟩;have hmk:=rmake_yes S _ (.slice af j cf) vt vn vs s id (1 + y) L (.slice aL L.length cL) _ (HSr.out.moved HSne.out m1) (HV.out.move (S':=fun b=>W.heap.size≤b) m1.size fun b hb hs=>⟨m1.grown.block b hb (by have hs':W.heap.size≤b:=hs; have h3:=HZW.out; have h4:=zD; simp; omega),hs⟩) HSD.out.check (HL.out.trans HN.out.symm) hnum (fun x hx=>by have:=HSh.out x hx; omega)
      rw [hR] at hmk;refine hmk.mono ?_;rintro e W2 ⟨_,rfl,⟨sv,rfl,hvv⟩,hb⟩;have m2:=m1.below hb;have hvv2:=hvv.move (w':=W2) (S':=fun b=>w.heap.size + 2≤b) xnl fun b hb' hs=>⟨rfl,by have h1:=m1.size; have h2:=HO.out.2.size; have h3:=HZW.out; have hs':=hs; omega⟩
      obtain ⟨asv,csv,esv⟩:=hvv2.slice; subst esv;have HRR:=zi5 hR;clear hb hvv hmk hR
      refine za5 hK (⟨(zan (m2.blk (k:=w.heap.size) hneD HSR.out)).1,(zan (m2.blk (k:=w.heap.size) hneD HSR.out)).2.1,(zan (m2.blk (k:=w.heap.size) hneD HSR.out)).2.2.1,(zan (m2.blk (k:=w.heap.size) hneD HSR.out)).2.2.2⟩) (fun hHeld=>?_)
      clear hK K;refine tK 7 (h:=?_);refine tK 8 (h:=?_);refine tK 9 (h:=?_)
      refine xrK 10 rfl fun K hK=>?_
      go_simp
      refine za5 hK (⟨(zan ((m2.alloc _).blk (k:=w.heap.size) hneD HSR.out)).1,(zan ((m2.alloc _).blk (k:=w.heap.size) hneD HSR.out)).2.1,(zan ((m2.alloc _).blk (k:=w.heap.size) hneD HSR.out)).2.2.1,(zan ((m2.alloc _).blk (k:=w.heap.size) hneD HSR.out)).2.2.2⟩) (fun hHeld=>?_)
      clear hK K
      refine zbb (fun W3 hW3=>?_)
      have m3:Moved D wr W3:=by rw [hW3]; exact m2.alloc (.cells #[.int .i64 0,.int .i64 0,.slice none 0 0] 29)
      have gb:W3.heap[W2.heap.size]? = some (.cells #[.int .i64 0,.int .i64 0,.slice none 0 0] 29 (0,0)):=by rw [hW3]; exact zac rfl
      have hrb:wr.heap.size≤W2.heap.size:=m2.size;have HX3:∀ b,b < W2.heap.size→W3.heap[b]? = W2.heap[b]?:=by rw [hW3]; exact fun b hb=>heap_alloc_old _ _ hb
      have hnrb:w.heap.size≠W2.heap.size:=by have:=hzs; omega
      clear hW3 hHeld;have hHeld:W3.cell? ⟨w.heap.size,0,none⟩ = some (.slice af j cf)∧W3.cell? ⟨w.heap.size,1,none⟩ = some vt∧W3.cell? ⟨w.heap.size,2,none⟩ = some vn∧W3.cell? ⟨w.heap.size,3,none⟩ = some vs:=⟨(zan (m3.blk (k:=w.heap.size) hneD HSR.out)).1,(zan (m3.blk (k:=w.heap.size) hneD HSR.out)).2.1,(zan (m3.blk (k:=w.heap.size) hneD HSR.out)).2.2.1,(zan (m3.blk (k:=w.heap.size) hneD HSR.out)).2.2.2⟩;have hvv3:=hvv2.move (w':=W3) (S':=fun b=>w.heap.size + 2≤b∧b≠W2.heap.size) (by have h9:=zaa gb; omega) fun b hb' hs=>⟨HX3 b hb',hs,by omega⟩
     rotate_left 1
     focus
      go_simp
      refine za5 hK (⟨(zan ((m1.alloc _).blk (k:=w.heap.size) hneD HSR.out)).1,(zan ((m1.alloc _).blk (k:=w.heap.size) hneD HSR.out)).2.1,(zan ((m1.alloc _).blk (k:=w.heap.size) hneD HSR.out)).2.2.1,(zan ((m1.alloc _).blk (k:=w.heap.size) hneD HSR.out)).2.2.2⟩) (fun hHeld=>?_)
      clear hK K
      refine zbb (fun W2 hW2=>?_)
      have m2:Moved D wr W2:=by rw [hW2]; exact m1.alloc (.cells #[.int .i64 0,.int .i64 0,.slice none 0 0] 29)
      have gb:W2.heap[W1.heap.size]? = some (.cells #[.int .i64 0,.int .i64 0,.slice none 0 0] 29 (0,0)):=by rw [hW2]; exact zac rfl
      have hrb:wr.heap.size≤W1.heap.size:=m1.size;have HX2:∀ b,b < W1.heap.size→W2.heap[b]? = W1.heap[b]?:=by rw [hW2]; exact fun b hb=>heap_alloc_old _ _ hb
      have hnrb:w.heap.size≠W1.heap.size:=by have:=hzs; omega
      clear hW2 hHeld;have hHeld:W2.cell? ⟨w.heap.size,0,none⟩ = some (.slice af j cf)∧W2.cell? ⟨w.heap.size,1,none⟩ = some vt∧W2.cell? ⟨w.heap.size,2,none⟩ = some vn∧W2.cell? ⟨w.heap.size,3,none⟩ = some vs:=⟨(zan (m2.blk (k:=w.heap.size) hneD HSR.out)).1,(zan (m2.blk (k:=w.heap.size) hneD HSR.out)).2.1,(zan (m2.blk (k:=w.heap.size) hneD HSR.out)).2.2.1,(zan (m2.blk (k:=w.heap.size) hneD HSR.out)).2.2.2⟩
      refine xrK 6 rfl fun K hK=>?_
      go_simp;have hlt0:W1.heap.size < _:=zaa gb;have hnum:zbo id (1 + y) = true:=by simp [zbo]; omega
      obtain ⟨⟨r,er⟩,hR⟩:∃ R,makeN s id (1 + y) L = R:=⟨_,rfl⟩;have hmk:=rmake_yes S _ (.slice af j cf) vt vn vs s id (1 + y) L (.slice aL L.length cL) _ (HSr.out.moved HSne.out m2) (HV.out.move (S':=fun b=>W.heap.size≤b) m2.size fun b hb hs=>⟨m2.grown.block b hb (by have hs':W.heap.size≤b:=hs; have h3:=HZW.out; have h4:=zD; simp; omega),hs⟩) HSD.out.check (HL.out.trans HN.out.symm) hnum (fun x hx=>by have:=HSh.out x hx; omega)
      rw [hR] at hmk;refine hmk.mono ?_;rintro e W3 ⟨_,rfl,⟨sv,rfl,hvv⟩,hb⟩;have m3:=m2.below hb;have gb:=zab hb (zaa gb) gb;have hvv2:=hvv.move (w':=W3) (S':=fun b=>w.heap.size + 2≤b∧b≠W1.heap.size) xnl fun b hb' hs=>⟨rfl,by have h1:=m2.size; have h2:=HO.out.2.size; have h3:=HZW.out; have hs':=hs; exact ⟨by omega,by omega⟩⟩
      obtain ⟨asv,csv,esv⟩:=hvv2.slice; subst esv;have HRR:=zi5 hR;clear hb hvv hmk hR
      refine za5 hK (⟨(zan (m3.blk (k:=w.heap.size) hneD HSR.out)).1,(zan (m3.blk (k:=w.heap.size) hneD HSR.out)).2.1,(zan (m3.blk (k:=w.heap.size) hneD HSR.out)).2.2.1,(zan (m3.blk (k:=w.heap.size) hneD HSR.out)).2.2.2⟩) (fun hHeld=>?_)
      clear hK K;refine tK 7 (h:=?_);refine tK 8 (h:=?_);refine tK 9 (h:=?_);have hvv3:=hvv2
    rotate_left 2
    focus
     go_simp
     refine za5 hK (⟨(zan ((mD.alloc _).blk (k:=w.heap.size) hneD HSR.out)).1,(zan ((mD.alloc _).blk (k:=w.heap.size) hneD HSR.out)).2.1,(zan ((mD.alloc _).blk (k:=w.heap.size) hneD HSR.out)).2.2.1,(zan ((mD.alloc _).blk (k:=w.heap.size) hneD HSR.out)).2.2.2⟩) (fun hHeld=>?_)
     clear hK K
     refine zbb (fun W1 hW1=>?_)
     have m1:Moved D wr W1:=by rw [hW1]; exact mD.alloc (.cells #[.int .i64 0,.int .i64 0,.slice none 0 0] 29)
     have gb:W1.heap[wr.heap.size]? = some (.cells #[.int .i64 0,.int .i64 0,.slice none 0 0] 29 (0,0)):=by rw [hW1]; exact zac rfl
     have hrb:wr.heap.size≤wr.heap.size:=mD.size;have HX1:∀ b,b < wr.heap.size→W1.heap[b]? = wr.heap[b]?:=by rw [hW1]; exact fun b hb=>heap_alloc_old _ _ hb
     have hnrb:w.heap.size≠wr.heap.size:=by have:=hzs; omega
     clear hW1 hHeld;have hHeld:W1.cell? ⟨w.heap.size,0,none⟩ = some (.slice af j cf)∧W1.cell? ⟨w.heap.size,1,none⟩ = some vt∧W1.cell? ⟨w.heap.size,2,none⟩ = some vn∧W1.cell? ⟨w.heap.size,3,none⟩ = some vs:=⟨(zan (m1.blk (k:=w.heap.size) hneD HSR.out)).1,(zan (m1.blk (k:=w.heap.size) hneD HSR.out)).2.1,(zan (m1.blk (k:=w.heap.size) hneD HSR.out)).2.2.1,(zan (m1.blk (k:=w.heap.size) hneD HSR.out)).2.2.2⟩
     refine xrK 3 rfl fun K hK=>?_
     go_simp;refine (zb5 D _ 3 m1.deck (by omega) (by omega)).mono ?_;rintro e W2 ⟨y,rfl,y0,y1,mv⟩;have m2:=m1.trans mv;have gb:=mv.blk (by have:=zD; omega) gb;clear mv;have hwy:IntKind.i64.wrap (1 + y) = 1 + y:=by rw [IntKind.wrap_i64]; omega
     refine za5 hK (⟨(zan (m2.blk (k:=w.heap.size) hneD HSR.out)).1,(zan (m2.blk (k:=w.heap.size) hneD HSR.out)).2.1,(zan (m2.blk (k:=w.heap.size) hneD HSR.out)).2.2.1,(zan (m2.blk (k:=w.heap.size) hneD HSR.out)).2.2.2⟩) (fun hHeld=>?_)
     clear hK K;refine tK 4 (h:=?_)
     refine xrK 6 rfl fun K hK=>?_
     go_simp;have hlt0:wr.heap.size < _:=zaa gb;have hnum:zbo id (1 + y) = true:=by simp [zbo]; omega
     obtain ⟨⟨r,er⟩,hR⟩:∃ R,makeN s id (1 + y) L = R:=⟨_,rfl⟩;have hmk:=rmake_yes S _ (.slice af j cf) vt vn vs s id (1 + y) L (.slice aL L.length cL) _ (HSr.out.moved HSne.out m2) (HV.out.move (S':=fun b=>W.heap.size≤b) m2.size fun b hb hs=>⟨m2.grown.block b hb (by have hs':W.heap.size≤b:=hs; have h3:=HZW.out; have h4:=zD; simp; omega),hs⟩) HSD.out.check (HL.out.trans HN.out.symm) hnum (fun x hx=>by have:=HSh.out x hx; omega)
     rw [hR] at hmk;refine hmk.mono ?_;rintro e W3 ⟨_,rfl,⟨sv,rfl,hvv⟩,hb⟩;have m3:=m2.below hb;have gb:=zab hb (zaa gb) gb;have hvv2:=hvv.move (w':=W3) (S':=fun b=>w.heap.size + 2≤b∧b≠wr.heap.size) xnl fun b hb' hs=>⟨rfl,by have h1:=m2.size; have h2:=HO.out.2.size; have h3:=HZW.out; have hs':=hs; exact ⟨by omega,by omega⟩⟩
     obtain ⟨asv,csv,esv⟩:=hvv2.slice; subst esv;have HRR:=zi5 hR;clear hb hvv hmk hR
     refine za5 hK (⟨(zan (m3.blk (k:=w.heap.size) hneD HSR.out)).1,(zan (m3.blk (k:=w.heap.size) hneD HSR.out)).2.1,(zan (m3.blk (k:=w.heap.size) hneD HSR.out)).2.2.1,(zan (m3.blk (k:=w.heap.size) hneD HSR.out)).2.2.2⟩) (fun hHeld=>?_)
     clear hK K;refine tK 7 (h:=?_);refine tK 8 (h:=?_);refine tK 9 (h:=?_);have hvv3:=hvv2
    all_goals
     obtain ⟨c0,c1,c2⟩:=zai gb; have f0:=frozen_of_row _ _ 0 _ _ gb; have f1:=frozen_of_row _ _ 1 _ _ gb; have f2:=frozen_of_row _ _ 2 _ _ gb; have za:=zaa gb;have hsx:=zam (a:=⟨_,2,none⟩) (v:=.slice asv r.vals.length csv) (zam (a:=⟨_,1,none⟩) (v:=.int .i64 r.ver) (zam (a:=⟨_,0,none⟩) (v:=.int .i64 r.id) (m3.blk (k:=w.heap.size) hneD HSR.out) hnrb) hnrb) hnrb
     refine xrK 11 rfl fun K hK=>?_
     go_simp
     refine za5 hK (⟨(zan hsx).1,(zan hsx).2.1,(zan hsx).2.2.1,(zan hsx).2.2.2⟩) (fun hHeld=>?_)
     clear hK K
     refine xrK 12 rfl fun K hK=>?_
     go_simp;refine zas hK (by decide) ?_;clear hK K;refine zap (by kernel_rfl) ?_ _;refine NoPanic.normal ?_;go_wp2_with fail
     go_meet;exact ⟨_,er,y,_,r,rfl,rfl,zad (zad (zad gb)),(((hvv3.far (fun b hb=>hb.2)).far (fun b hb=>hb.2)).far (fun b hb=>hb.2)).weaken (fun b hb=>hb.1),HRR,y0,y1,((m3.set hrb _).set hrb _).set hrb _,hrb⟩
   case rest =>
    obtain ⟨rb,er,y,sv,r,rfl,rfl,grb,hvr,HRR,y0,y1,mw,hrb⟩:=hcut;obtain ⟨asv,csv,rfl⟩:=hvr.slice;have hsz:=mw.blk (k:=w.heap.size) hneD HSR.out;have hres:=mw.blk (k:=w.heap.size + 1) (by omega) (HO.out.2.blk (k:=w.heap.size + 1) (by omega) HZ0.out);have hn1:rb≠w.heap.size + 1:=by have h1:=HO.out.2.size; have h2:=HZW.out; omega
    have lr:=zaa hres; have lb:=zaa grb; have lz:=zaa hsz;have HRES:=zi5 hres; have HMW:=zi5 (HM.out.trans (HO.out.2.trans mw)); have HVR:=zi5 hvr; have HGRB:=zi5 grb;obtain ⟨z0,z1,z2⟩:=zai hres; have f0:=frozen_of_row _ _ 0 _ _ hres; have f1:=frozen_of_row _ _ 1 _ _ hres; have f2:=frozen_of_row _ _ 2 _ _ hres;obtain ⟨c0,c1,c2⟩:=zai grb; have g0:=frozen_of_row _ _ 0 _ _ grb; have g1:=frozen_of_row _ _ 1 _ _ grb; have g2:=frozen_of_row _ _ 2 _ _ grb;clear s0 s1 s2 s3;obtain ⟨s0,s1,s2,s3⟩:=zan hsz;clear hsz hres grb hvr mw mD;by_cases he:er = 0
    ·subst he
     have d0:((0:Int) != 0) = false:=rfl;have HMd:=zi5 (rec_made HRR.out);clear g0 g1 g2;go_wp2_with fail
     exact za7 rfl rfl (zad (i:=2) (zad (i:=1) (zad (i:=0) HRES.out))) underlying29 rfl (by kernel_rfl)
      ⟨_,r,rfl,⟨_,rfl,(((HVR.out.far (fun b hb=>by show b≠w.heap.size + 1; have hb':w.heap.size + 2≤b:=hb; omega)).far (fun b hb=>by show b≠w.heap.size + 1; have hb':w.heap.size + 2≤b:=hb; omega)).far (fun b hb=>by show b≠w.heap.size + 1; have hb':w.heap.size + 2≤b:=hb; omega)).weaken (fun b hb=>by have hb':w.heap.size + 2≤b:=hb; show w.heap.size≤b; omega)⟩,HMd.out.1,HMd.out.2.1,HMd.out.2.2,
       ((HMW.out.set (a:=⟨w.heap.size + 1,0,none⟩) (Nat.le_succ _) _).set (a:=⟨w.heap.size + 1,1,none⟩) (Nat.le_succ _) _).set (a:=⟨w.heap.size + 1,2,none⟩) (Nat.le_succ _) _⟩
    ·have d0:(er != (0:Int)) = true:=by simpa using he
     have hmk:=run_make_row' (P:=prog) 27 9 (.string ⟨#[]⟩) 16 underlying27 zdi rfl .i64 .i64 j (by omega) (by omega);rw [made_strings] at hmk;clear HVR HRR he;go_upto_region 9 with fail
     refine zao (fun W9 hW9=>?_)
     have hrw:w.heap.size≤rb:=by have h1:=HO.out.2.size; have h2:=HZW.out; omega
     have hgb:W9.heap[rb]? = some (.cells #[.int .i64 id,.int .i64 1,.slice (some ⟨wc.heap.size,0,none⟩) j j] 29 (0,0)):=by rw [hW9]; exact zaf (zad (i:=2) (zad (i:=1) (zad (i:=0) HGRB.out)))
     have hg9:W9.heap[wc.heap.size]? = some (.cells ((List.replicate j ([]:List UInt8)).flatMap za2).toArray 9 (0,0)):=by rw [hW9]; exact zac (by simp [World.setCell])
     have hr9:W9.heap[w.heap.size + 1]? = some (.cells #[.int .i64 0,.int .i64 0,.slice none 0 0] 29 (0,0)):=by rw [hW9]; exact zaf (zam (zam (zam HRES.out hn1.symm) hn1.symm) hn1.symm)
     have m9:Moved D w W9:=by rw [hW9]; exact (((HMW.out.set (a:=⟨rb,0,none⟩) hrw _).set (a:=⟨rb,1,none⟩) hrw _).set (a:=⟨rb,2,none⟩) hrw _).alloc _
     have HG9:=zi5 hg9; have HR9:=zi5 hr9; have HM9:=zi5 m9;clear hW9 c0 c1 c2 z0 z1 z2 f0 f1 f2 g0 g1 g2 s0 s1 s2 s3 m9 hmk;obtain ⟨z0,z1,z2⟩:=zai hr9; have f0:=frozen_of_row _ _ 0 _ _ hr9; have f1:=frozen_of_row _ _ 1 _ _ hr9; have f2:=frozen_of_row _ _ 2 _ _ hr9;obtain ⟨c0,c1,c2⟩:=zai hgb;have l1:=zaa hr9; have l2:=zaa hgb;have HCk:=zi5 (show zb7 s ⟨id,1,List.replicate j []⟩ = 0 by rw [← HN.out]; exact rec_none HSD.out.check h1 h2);clear hr9 hgb hg9;go_wp2_with fail
     exact za7 rfl rfl (zad (i:=2) (zad (i:=1) (zad (i:=0) HR9.out))) underlying29 rfl (by kernel_rfl)
      ⟨_,⟨id,1,List.replicate j []⟩,rfl,⟨_,rfl,(((zcn (k:=1) (enc:=za2) (L:=List.replicate j ([]:List UInt8)) (S:=fun b=>w.heap.size≤b∧b≠w.heap.size + 1) (A:=wc.heap.size) (fun _=>rfl) HG9.out ⟨by omega,by omega⟩ j (by simp)).far (fun b hb=>hb.2)).far (fun b hb=>hb.2)).far (fun b hb=>hb.2) |>.weaken (fun b hb=>hb.1)⟩,rfl,HCk.out,(by intro x hx; have:=List.eq_of_mem_replicate hx; subst this; simp),
       ((HM9.out.set (a:=⟨w.heap.size + 1,0,none⟩) (Nat.le_succ _) _).set (a:=⟨w.heap.size + 1,1,none⟩) (Nat.le_succ _) _).set (a:=⟨w.heap.size + 1,2,none⟩) (Nat.le_succ _) _⟩
end
section
open Go.RowKit
section
variable {α:Type} {P:Program} {w:World} {ops:Array Oper} {rest:List Oper} {o:Oper} {a:Act} {Q:Exit→Act→World→Prop}
theorem wpList_append_mat (hgd:o.guard = none) (s x:Operand) (t:TypeId) (ho:o.op = .call { callee:=.builtin .append,args:=#[s,x],argTypes:=#[t,t] })
  (D e:Nat) (z:Value) (size bytes:Nat) (enc:α→List Value) (hk:∀ x,(enc x).length = size) (h1:∀ x,∀ u∈enc x,u.oneCell' = true) (ht:P.underlying t = some (.slice e)) (hinfo:(P.info? e).map (fun i=>(i.zero,i.size,i.bytes)) = some (some z,size,bytes))
  (hzs:z.cells.size = size) (hsz:0 < size) (hby:bytes≤128) {wA:World} {v u:Value} {A B:List α} (hs:a.eval s = v) (hown:OwnM D e size enc wA v A w) (hx:a.eval x = u) (hr:zco w size u B.length (B.flatMap enc)) (hn:A.length + B.length≤1000000000)
  (h:∀ v' w',OwnM D e size enc wA v' (A ++ B) w'→(∀ k o,some k≠v.ownBlock→w.heap[k]? = some o→w'.heap[k]? = some o)→w.heap.size≤w'.heap.size→(v'.ownBlock = none∨v.ownBlock = v'.ownBlock∨v'.ownBlock = some w.heap.size)→wpList P ops Q rest (a.put o.dst v') w'):wpList P ops Q (o :: rest) a w:=by
 refine wpList_plain hgd fun K hK=>?_
 refine zd7 s x t ho wA.heap.size e z size bytes ht hinfo hzs hsz v A.length (A.flatMap enc) hs hown.1 u B.length (B.flatMap enc) hx hr (fun u hu=>?_) (by unfold maxLen; omega) ?_ hown.2.size ?_
 ·obtain ⟨y,_,hy⟩:=List.mem_flatMap.1 hu
  exact h1 y u hy
 ·exact Nat.le_trans (Nat.mul_le_mul hn hby) (by decide)
 ·intro v' w' ho' hg hat
  refine hK _ _ (h v' w' ⟨by rw [List.length_append,List.flatMap_append]; exact ho',hown.2.grown' hg fun k hk=>?_⟩ (fun k o hk hko=>(hg.block k (zaa hko) hk).trans hko) hg.size hat)
  rcases hown.1.2 with ⟨rfl,_⟩ | ⟨g,cap,cur,rfl,hg1,_⟩
  ·simp [Value.ownBlock] at hk
  ·have:g = k:=by simpa [Value.ownBlock] using hk
   omega
end
end
section
open Go.RowKit Cal
attribute [local go_sem] zah zaj zar
theorem allA_ok {s:SchemaL}:∀ (R:List RecL) (p:Option Int),allA s p R = 0→∀ r∈R,zd0 s r = 0
 | [],_,_,r,hr=>by simp at hr
 | x :: R,p,h,r,hr=>by
  unfold allA at h;split at h
  ·next h1 =>
   split at h
   ·cases h
   ·rcases List.mem_cons.1 hr with rfl | h2
    ·exact h1
    ·exact allA_ok R _ h r h2
  ·next h1=>exact absurd h h1
theorem allN_ok {s:SchemaL} {R:List RecL} (h:allN s R = 0):zax s = 0∧R.length≤64∧∀ r∈R,zb7 s r = 0:=by
 unfold allN at h;split at h
 ·next h0 =>
  split at h
  ·next h1=>exact ⟨h0,h1,fun r hr=>by unfold zb7; rw [if_pos h0]; exact allA_ok R none h r hr⟩
  ·cases h
 ·next h0=>exact absurd h h0
structure RecsOk (s:SchemaL) (R:List RecL):Prop where
 all:allN s R = 0
 short:∀ r∈R,∀ x∈r.vals,x.length≤64
theorem check_short {s:SchemaL} {r:RecL} (h:zb7 s r = 0):∀ x∈r.vals,x.length≤64:=by
 obtain ⟨hc,_,hl,hno⟩:=zhe h;intro x hx;obtain ⟨j,hj,rfl⟩:=List.mem_iff_getElem.1 hx;by_cases h0:r.vals[j] = []
 ·rw [h0]; simp
 ·have hnj:=ziq s r.vals 0 hno j hj
  rw [Nat.zero_add,zbi _ _ hj] at hnj;have hfi:zbt s (j:Int) = ((s.fields.getD j default).2,0):=findN_in hc (by omega)
  have hown:ownK (s.fields.getD j default).2 s.rules r.vals[j] = true:=by
   unfold zau at hnj;rw [hfi,if_pos rfl,if_neg h0] at hnj;exact hnj
  have hkk:=zdz (s:=s) (f:=(j:Int)) (by rw [hfi]);rw [hfi] at hkk;exact (zio hown hkk).1
theorem infoR:(prog.info? 29).map (fun i=>(i.zero,i.size,i.bytes)) = some (some (.agg #[.int .i64 0,.int .i64 0,.slice none 0 0]),3,40):=by kernel_rfl
theorem zed:∀ x:RV,∀ u∈zdj x,u.oneCell' = true:=by intro x u hu; simp at hu; rcases hu with rfl | rfl | rfl <;> rfl
structure ROut (D:Nat) (W:World) (s:SchemaL) (v:Value) (C:List RV) (id:Int) (wr:World):Prop where
 own:OwnM D 29 3 zdj W v C wr
 vals:∀ x∈C,Vec wr (zgr W.heap.size v) 1 za2 (.slice x.a x.n x.c) x.vals
 ok:∀ x∈C,zb7 s (pR x) = 0∧∀ y∈x.vals,y.length≤64
 asc:C.Pairwise fun x y=>x.id < y.id
 le:∀ x∈C,x.id≤id
 id0:0≤id
 id3:id≤3 * C.length
theorem ROut.nil {D:Nat} {W wr:World} {s:SchemaL} (m:Moved D W wr):ROut D W s (.slice none 0 0) [] 0 wr:=⟨OwnM.nil m,fun x h=>by simp at h,fun x h=>by simp at h,List.Pairwise.nil,fun x h=>by simp at h,by omega,by simp⟩
theorem ROut.moved {D:Nat} {W wr wx:World} {s:SchemaL} {v:Value} {C:List RV} {id:Int} (h:ROut D W s v C id wr) (m:Moved D wr wx):ROut D W s v C id wx :=
 ⟨h.own.moved m,fun x hx=>(h.vals x hx).move m.size fun b hb hs=>⟨m.grown.block b hb (by have:=h.own.2.lt; have:=hs.1; simp; omega),hs⟩,h.ok,h.asc,h.le,h.id0,h.id3⟩
theorem recs_ok {s:SchemaL} {C:List RV} (h0:zax s = 0) (ok:∀ x∈C,zb7 s (pR x) = 0∧∀ y∈x.vals,y.length≤64) (asc:C.Pairwise fun x y=>x.id < y.id) (hl:C.length≤64):RecsOk s (C.map pR):=by
 refine ⟨?_,fun r hr=>?_⟩
 ·unfold allN
  rw [if_pos h0,if_pos (by simpa using hl)]
  refine allA_yes _ none (fun r hr=>?_) (fun q r hq=>by cases hq) (fun j hj=>?_)
  ·obtain ⟨x,hx,rfl⟩:=List.mem_map.1 hr
   have:=(ok x hx).1;unfold zb7 at this;rwa [if_pos h0] at this
  ·rw [List.getElem_map,List.getElem_map]
   exact List.pairwise_iff_getElem.1 asc j (j + 1) _ _ (by omega)
 ·obtain ⟨x,hx,rfl⟩:=List.mem_map.1 hr
  exact (ok x hx).2
def RecordsPost (D:Nat) (s:SchemaL) (most:Nat) (w:World) (e:Ending) (w':World):Prop:=∃ v R,e = .returned v∧RecsVec w' (fun b=>w.heap.size≤b) v R∧RecsOk s R∧R.length≤most∧(R.Pairwise fun x y=>x.id < y.id)∧Moved D w w'
def RecordsOwn (D:Nat) (s:SchemaL) (most:Nat) (w:World) (e:Ending) (w':World):Prop:=∃ (v:Value) (C:List RV) (W:World) (id:Int),e = .returned v∧ROut D W s v C id w'∧Moved D w W∧C.length≤most∧zax s = 0
theorem RecordsOwn.post {D:Nat} {s:SchemaL} {most:Nat} {w w':World} {e:Ending} (hm:most≤64) (h:RecordsOwn D s most w e w'):RecordsPost D s most w e w':=by
 obtain ⟨v,C,W,id,rfl,ho,mv,hl,hc⟩:=h;have hz:=mv.size
 refine ⟨_,C.map pR,rfl,⟨C,(OwnM.vec (size:=3) (enc:=zdj) (fun _=>rfl) ho.own).move xnl (fun x _ hx=>⟨rfl,by have hx':W.heap.size≤x:=hx; show w.heap.size≤x; omega⟩),rfl,fun y hy=>(ho.vals y hy).move xnl (fun x _ hx=>⟨rfl,by have hx':=hx.1; show w.heap.size≤x; omega⟩)⟩,recs_ok hc ho.ok ho.asc (by omega),by rw [List.length_map]; omega,?_,mv.trans ho.own.2⟩
 exact List.pairwise_map.2 ho.asc
theorem records_dealO (D:Nat) (S:Nat→Prop) (vf vt vn vs:Value) (s:SchemaL) (most:Nat) (w:World) (h:DeckAt w D) (hs:SchemaAt w S vf vt vn vs s) (hS:∀ b,S b→b≠D) (hd:SchemaD s) (hm:most≤64) :
  Calls prog 15 #[.pointer (some ⟨D,0,none⟩),.agg #[vf,vt,vn,vs],.int .i64 most] w (RecordsOwn D s most w):=by
 have zD:=h.lt;have M0:=zi5 (Moved.start h); clear h;have HS:=zi5 hs; have HSD:=zi5 hd; have HSne:=zi5 hS;clear hs hd hS;go_enter func15,ntmps15
 go_wp2_with fail
 refine zae (fun W hW=>?_)
 have hm0:Moved D w W:=by rw [hW]; exact M0.out.alloc _
 have hb0:=xal hW
 have hs0:W.heap[w.heap.size]? = some (.cells #[vf,vt,vn,vs] 44 (0,0)):=by rw [hW]; exact zac rfl
 have hzW:W.heap.size = w.heap.size + 1:=by rw [hW]; simp
 clear hW;have HM:=zi5 hm0; have HS0:=zi5 hs0; have HSW:=zi5 (HS.out.below hb0); have HZW:=zi5 hzW;clear hm0 hs0 hb0 hzW;refine (zb5 D _ (most + 1) HM.out.deck (by omega) (by omega)).mono ?_;rintro e w1 ⟨q,rfl,q0,q1,mv⟩;obtain ⟨q,rfl⟩:=Int.eq_ofNat_of_zero_le q0;have MW:=zi5 mv;clear mv;go_wp2_with fail
 go_loopw [7,8,9] (fun v t i wr=>∃ (j:Nat) (id:Int) (C:List RV),t = .int .i64 id∧i = .int .i64 j∧C.length + j = q∧ROut D W s v C id wr) (fun _ _ i _=>(intOf i).toNat)
 case atStart=>exact ⟨q,0,[],rfl,rfl,by simp,ROut.nil MW.out⟩
 case round =>
  obtain ⟨j,id,C,rfl,rfl,hj,ho⟩:=hrel;have HO:=zi5 ho; have HJ:=zi5 hj; clear ho hj;have hzr:=HO.out.own.2.size;by_cases hlt:0 < j
  ·have hq:decide ((0:Int) < (j:Int)) = true:=by simp; omega
   have hCl:C.length≤63:=by have:=HJ.out; omega
   have hjq:j≤65:=by have:=HJ.out; omega
   have hi0:=HO.out.id0; have hi3:=HO.out.id3;go_wp2_with fail
   refine (zb5 D _ 3 HO.out.own.2.deck (by omega) (by omega)).mono ?_;rintro e w2 ⟨x,rfl,x0,x1,mv⟩;have HO2:=zi5 (HO.out.moved mv);have hsx:=HO2.out.own.2.blk (k:=w.heap.size) (by omega) HS0.out;have HSX:=zi5 hsx;obtain ⟨s0,s1,s2,s3⟩:=zan hsx;have hzs:=zaa hsx;clear mv HO hsx;go_wp2_with fail
   refine (zen D S _ _ _ _ s (id + (1 + x)) w2 HO2.out.own.2.deck (HSW.out.moved HSne.out HO2.out.own.2) HSne.out HSD.out (by omega) (by omega)).mono ?_;rintro e w3 ⟨_,r,rfl,⟨sv,rfl,hv⟩,hid,hck,hsh,mv⟩;obtain ⟨av,cv,rfl⟩:=hv.slice;have hzw2:=HO2.out.own.2.size
   have hown6:∀ x,w2.heap.size≤x→some x≠u7.ownBlock:=by
    intro x hx'
    rcases HO2.out.own.1.2 with ⟨h0,_⟩ | ⟨g,cap,cur,h0,hg,hh,_⟩
    ·rw [h0]; simp [Value.ownBlock]
    ·rw [h0]; have:=zaa hh; simp [Value.ownBlock]; omega
   have HO3:=zi5 (HO2.out.moved mv);have HO4:=zi5 (HO3.out.own.moved ((Moved.start HO3.out.own.2.deck).alloc (.cells #[.int .i64 r.id,.int .i64 r.ver,.slice av r.vals.length cv] 29)));have HR4:=zi5 (show zco (w3.alloc (.cells #[.int .i64 r.id,.int .i64 r.ver,.slice av r.vals.length cv] 29)) 3 (.slice (some ⟨w3.heap.size,0,none⟩) 1 1) [(⟨r.id,r.ver,av,r.vals.length,cv,r.vals⟩:RV)].length ([(⟨r.id,r.ver,av,r.vals.length,cv,r.vals⟩:RV)].flatMap zdj) from zav (xs:=[(⟨r.id,r.ver,av,r.vals.length,cv,r.vals⟩:RV)].flatMap zdj) (fr:=(0,0)) (t:=29) (zac rfl) rfl);have HVN:=zi5 (hv.move (w':=w3) (S':=fun x=>some x≠u7.ownBlock∧W.heap.size≤x) xnl (fun x _ hx'=>⟨rfl,hown6 x hx',by have h':w2.heap.size≤x:=hx'; omega⟩))
   have HVO:=zi5 (fun y (hy:y∈C)=>(HO3.out.vals y hy).move (w':=w3) (S':=fun x=>some x≠u7.ownBlock∧W.heap.size≤x) xnl (fun x hx' hs=>⟨rfl,hs.2,hs.1⟩))
   have hcn:C.length + [(⟨r.id,r.ver,av,r.vals.length,cv,r.vals⟩:RV)].length≤1000000000:=by simp only [List.length_cons,List.length_nil]; omega
   have HCk:=zi5 (show zb7 s r = 0∧∀ y∈r.vals,y.length≤64 from ⟨hck,hsh⟩);have HId:=zi5 hid;have HAsc:=zi5 HO3.out.asc; have HLe:=zi5 HO3.out.le; have HOk3:=zi5 HO3.out.ok;obtain ⟨rid,rver,rvals⟩:=r;dsimp only at HO4 HR4 HVN hcn HCk HId;clear hv hid hck hsh mv s0 s1 s2 s3 hzs HSX HO2 HO3;go_wp2_with (at_builtin; refine wpList_append_mat rfl (.tmp 23) (.tmp 28) 50 rfl D 29 (.agg #[.int .i64 0,.int .i64 0,.slice none 0 0]) 3 40 zdj (fun _=>rfl) zed underlying50 infoR rfl (by decide) (by decide) (wA:=W) (v:=u7) (A:=C) (B:=[⟨rid,rver,av,rvals.length,cv,rvals⟩]) rfl HO4.out rfl HR4.out hcn ?_; intro v4 w4 ho4 hk4 hz4 hat4)
   go_roundw
   case rel =>
    have hmv:∀ b,b < w3.heap.size→(some b≠u7.ownBlock∧W.heap.size≤b)→w4.heap[b]? = w3.heap[b]?∧zgr W.heap.size v4 b:=by
     intro b hb hS;obtain ⟨q1,q2⟩:=hS;refine ⟨?_,q2,?_⟩
     ·obtain ⟨ob,hob⟩:∃ ob,w3.heap[b]? = some ob:=⟨_,Array.getElem?_eq_getElem hb⟩
      rw [hob];exact hk4 b ob q1 (zaf hob)
     ·rcases hat4 with h1 | h1 | h1
      ·rw [h1]; simp
      ·rw [← h1]; exact q1
      ·rw [h1]; simp; omega
    have hz34:w3.heap.size≤w4.heap.size:=by simp at hz4; omega
    have hidr:=HId.out
    refine ⟨j - 1,id + (1 + x),C ++ [⟨rid,rver,av,rvals.length,cv,rvals⟩],rfl,by go_num,by rw [List.length_append]; have:=HJ.out; show C.length + 1 + (j - 1) = q; omega,ho4,fun y hy=>?_,fun y hy=>?_,?_,fun y hy=>?_,by omega,by rw [List.length_append]; simp; omega⟩
    ·rcases List.mem_append.1 hy with h1 | h1
     ·exact (HVO.out y h1).move hz34 hmv
     ·simp at h1; subst h1; exact HVN.out.move hz34 hmv
    ·rcases List.mem_append.1 hy with h1 | h1
     ·exact HOk3.out y h1
     ·simp at h1; subst h1; exact HCk.out
    ·refine List.pairwise_append.2 ⟨HAsc.out,List.pairwise_singleton _ _,fun y hy z hz=>?_⟩
     simp at hz; subst hz;have:=HLe.out y hy;show y.id < rid; omega
    ·rcases List.mem_append.1 hy with h1 | h1
     ·have:=HLe.out y h1; omega
     ·simp at h1; subst h1; show rid≤_; omega
   case measure=>simp [intOf]; omega
  ·have hq:decide ((0:Int) < (j:Int)) = false:=by simp; omega
   obtain rfl:j = 0:=by omega
   go_wp2_with fail
   go_ret;exact ⟨_,C,W,id,rfl,HO.out,HM.out,by have:=HJ.out; omega,HSD.out.check⟩
theorem records_deal (D:Nat) (S:Nat→Prop) (vf vt vn vs:Value) (s:SchemaL) (most:Nat) (w:World) (h:DeckAt w D) (hs:SchemaAt w S vf vt vn vs s) (hS:∀ b,S b→b≠D) (hd:SchemaD s) (hm:most≤64) :
  Calls prog 15 #[.pointer (some ⟨D,0,none⟩),.agg #[vf,vt,vn,vs],.int .i64 most] w (RecordsPost D s most w) :=
 (records_dealO D S vf vt vn vs s most w h hs hS hd hm).mono fun _ _ h=>h.post hm
end
section
open Go.RowKit Cal
attribute [local go_sem] zah zaj zaq
def zgp:EncL:=⟨0,0,[]⟩
def zfj (s:SchemaL) (P:List ParL) (k:Int × Int) (r:RecL):EncL × Int :=
 if zb0 s P = 0 then (if zb7 s r = 0 then (ziz s P k r,0) else (zgp,zb7 s r)) else (zgp,zb0 s P)
def EncPair (p:EncL × Int) (w:World) (e:Ending) (w':World):Prop:=∃ v,e = .returned (.tuple #[v,.int .i64 p.2])∧EncVal w' (fun x=>w.heap.size≤x) v p.1∧Below w.heap.size w w'
theorem zij {s:SchemaL} {P:List ParL} {r:RecL} (hp:zb0 s P = 0) (hr:zb7 s r = 0):RecIn s P r:=by
 obtain ⟨h1,h2,h3⟩:=checkP_ok hp;exact ⟨h1,hr,h2,h3,check_short hr⟩
theorem EncVal.nil (w:World) (S:Nat→Prop):EncVal w S (.agg #[.int .i64 0,.int .i64 0,.slice none 0 0]) zgp:=⟨_,rfl,⟨[],Vec.nil _ _ _ _,rfl,fun n h1 _=>by simp at h1⟩⟩
theorem enc_bad {w w1:World} {er:Int} {z:Nat} (hz:w.heap.size≤z) (hb:Below w.heap.size w w1):EncPair (zgp,er) w (.returned (.tuple #[.agg #[.int .i64 0,.int .i64 0,.slice none 0 0],.int .i64 er])) (((w1.setCell ⟨z,0,none⟩ (.int .i64 0)).setCell ⟨z,1,none⟩ (.int .i64 0)).setCell ⟨z,2,none⟩ (.slice none 0 0)) :=
 ⟨_,rfl,EncVal.nil _ _,((hb.setCell (p:=⟨z,0,none⟩) hz _).setCell (p:=⟨z,1,none⟩) hz _).setCell (p:=⟨z,2,none⟩) hz _⟩
theorem erecord_any (S:Nat→Prop) (vf vt vn vs:Value) (s:SchemaL) (P:List ParL) (pv:Value) (k:Int × Int) (r:RecL) (sv:Value) (w:World) (h:SchemaAt w S vf vt vn vs s) (hp:Vec w zaw 3 zbc pv P) (hv:Vec w zaw 1 za2 sv r.vals) (hi:∀ p∈P,InI p.len) (hn:P.length≤1000000)
  (hs:∀ x∈r.vals,x.length≤1000000) (hm:r.vals.length≤1000000) :
  Calls prog 19 #[.agg #[vf,vt,vn,vs],pv,.agg #[.int .u64 k.1,.int .u64 k.2],.agg #[.int .i64 r.id,.int .i64 r.ver,sv]] w (EncPair (zfj s P k r) w):=by
 by_cases hc:zb0 s P = 0
 ·by_cases hcr:zb7 s r = 0
  ·have:zfj s P k r = (ziz s P k r,0):=by unfold zfj; rw [if_pos hc,if_pos hcr]
   rw [this];exact zia S vf vt vn vs s P pv k r sv w h hp hv (zij hc hcr)
  ·have hR:zfj s P k r = (zgp,zb7 s r):=by unfold zfj; rw [if_pos hc,if_neg hcr]
   rw [hR];obtain ⟨c,hcc⟩:∃ c,zb7 s r = c:=⟨_,rfl⟩;rw [hcc] at hcr ⊢;have dz:(c != 0) = true:=by simpa using hcr
   obtain ⟨a,cap,rfl⟩:=hp.slice;obtain ⟨av,cv,rfl⟩:=hv.slice;obtain ⟨rid,rver,vals⟩:=r;dsimp only at hv hs hm ⊢;have HP:=zi5 hp; have HV:=zi5 hv; have HS:=zi5 h.any; have HSh:=zi5 hs; have HC:=zi5 hc; have HCr:=zi5 hcc; have HI:=zi5 hi;clear hp hv h hs hc hcc hR hi hcr;go_enter func19,ntmps19
   go_wp2_with fail
   refine zae (fun W hW=>?_)
   have hb0:Below w.heap.size w W:=by rw [hW]; exact ((((Below.refl w.heap.size w).alloc xnl _).alloc (by simp) _).alloc (by simp; omega) _).alloc (by simp; omega) _
   have hs0:W.heap[w.heap.size]? = some (.cells #[vf,vt,vn,vs] 44 (0,0)):=by rw [hW]; exact zaf (zaf (zaf (zac rfl)))
   have hr0:W.heap[w.heap.size + 2]? = some (.cells #[.int .i64 rid,.int .i64 rver,.slice av vals.length cv] 29 (0,0)):=by rw [hW]; exact zaf (zac (by simp))
   have hz0:W.heap[w.heap.size + 3]? = some (.cells #[.int .i64 0,.int .i64 0,.slice none 0 0] 32 (0,0)):=by rw [hW]; exact zac (by simp)
   clear hW;refine (zhv zaw _ _ _ _ s P _ _ (HS.out.below hb0) (HP.out.below hb0) HI.out hn).mono ?_;rw [HC.out];rintro e w1 ⟨rfl,hb⟩;have hs1:=zab hb (zaa hs0) hs0; have hr1:=zab hb (zaa hr0) hr0; have hz1:=zab hb (zaa hz0) hz0;have HB1:=zi5 (hb0.trans (hb.mono hb0.size)); have HZ1:=zi5 hz1;obtain ⟨s0,s1,s2,s3⟩:=zan hs1; obtain ⟨r0,r1,r2⟩:=zai hr1;clear hb hb0 hs0 hr0 hz0 hs1 hr1 hz1;have d0:((0:Int) != 0) = false:=rfl;go_wp2_with fail
   refine (rcheck_all zaw _ _ _ _ s ⟨rid,rver,vals⟩ _ _ (HS.out.below HB1.out) (HV.out.below HB1.out) HSh.out hm).mono ?_;rw [HCr.out];rintro e w2 ⟨rfl,hb⟩;have HZ2:=zi5 (zab hb (zaa HZ1.out) HZ1.out); have HB2:=zi5 (HB1.out.trans (hb.mono HB1.out.size));have lz:=zaa HZ2.out;obtain ⟨z0,z1,z2⟩:=zai HZ2.out;have f0:=frozen_of_row _ _ 0 _ _ HZ2.out; have f1:=frozen_of_row _ _ 1 _ _ HZ2.out; have f2:=frozen_of_row _ _ 2 _ _ HZ2.out;clear hb s0 s1 s2 s3 r0 r1 r2;go_wp2_with fail
   exact zag rfl rfl (zad (i:=2) (v:=.slice none 0 0) (zad (i:=1) (v:=.int .i64 0) (zad (i:=0) (v:=.int .i64 0) HZ2.out))) underlying32 rfl (by kernel_rfl) (enc_bad (by omega) HB2.out)
 ·have hR:zfj s P k r = (zgp,zb0 s P):=by unfold zfj; rw [if_neg hc]
  rw [hR];obtain ⟨c,hcc⟩:∃ c,zb0 s P = c:=⟨_,rfl⟩;rw [hcc] at hc ⊢;have dz:(c != 0) = true:=by simpa using hc
  obtain ⟨a,cap,rfl⟩:=hp.slice;obtain ⟨av,cv,rfl⟩:=hv.slice;obtain ⟨rid,rver,vals⟩:=r;dsimp only at hv hs hm ⊢;have HP:=zi5 hp; have HS:=zi5 h.any; have HC:=zi5 hcc; have HI:=zi5 hi;clear hp hv h hs hcc hR hi hc;go_enter func19,ntmps19
  go_wp2_with fail
  refine zae (fun W hW=>?_)
  have hb0:Below w.heap.size w W:=by rw [hW]; exact ((((Below.refl w.heap.size w).alloc xnl _).alloc (by simp) _).alloc (by simp; omega) _).alloc (by simp; omega) _
  have hz0:W.heap[w.heap.size + 3]? = some (.cells #[.int .i64 0,.int .i64 0,.slice none 0 0] 32 (0,0)):=by rw [hW]; exact zac (by simp)
  clear hW;refine (zhv zaw _ _ _ _ s P _ _ (HS.out.below hb0) (HP.out.below hb0) HI.out hn).mono ?_;rw [HC.out];rintro e w1 ⟨rfl,hb⟩;have HZ2:=zi5 (zab hb (zaa hz0) hz0); have HB2:=zi5 (hb0.trans (hb.mono hb0.size));have lz:=zaa HZ2.out;obtain ⟨z0,z1,z2⟩:=zai HZ2.out;have f0:=frozen_of_row _ _ 0 _ _ HZ2.out; have f1:=frozen_of_row _ _ 1 _ _ HZ2.out; have f2:=frozen_of_row _ _ 2 _ _ HZ2.out;clear hb hb0 hz0;go_wp2_with fail
  exact zag rfl rfl (zad (i:=2) (v:=.slice none 0 0) (zad (i:=1) (v:=.int .i64 0) (zad (i:=0) (v:=.int .i64 0) HZ2.out))) underlying32 rfl (by kernel_rfl) (enc_bad (by omega) HB2.out)
end
section
open Go.RowKit Cal
attribute [local go_sem] zah zaj zaq
structure EV where
 id:Int
 ver:Int
 a:Option Addr
 n:Nat
 c:Nat
abbrev zck (x:EV):List Value:=[.int .i64 x.id,.int .i64 x.ver,.slice x.a x.n x.c]
theorem one_encEV:∀ x:EV,∀ u∈zck x,u.oneCell' = true:=by
 intro x u hu; simp at hu; rcases hu with rfl | rfl | rfl <;> rfl
theorem infoEV:(prog.info? 32).map (fun i=>(i.zero,i.size,i.bytes)) = some (some (.agg #[.int .i64 0,.int .i64 0,.slice none 0 0]),3,40):=by kernel_rfl
def EncsAll (w:World) (S:Nat→Prop) (C:List EV) (L:List EncL):Prop:=C.length = L.length∧∀ n (h1:n < C.length) (h2:n < L.length),EncVal w S (.agg (zck C[n]).toArray) L[n]
def EncsVec (w:World) (S:Nat→Prop) (v:Value) (L:List EncL):Prop:=∃ C,Vec w S 3 zck v C∧EncsAll w S C L
theorem EncVal.move {w w':World} {S T:Nat→Prop} {v:Value} {e:EncL} (h:EncVal w S v e) (hz:w.heap.size≤w'.heap.size) (hS:∀ x,x < w.heap.size→S x→w'.heap[x]? = w.heap[x]?∧T x):EncVal w' T v e:=by
 obtain ⟨s,rfl,h1⟩:=h; exact ⟨s,rfl,h1.move hz hS⟩
theorem EncVal.weaken {w:World} {S T:Nat→Prop} {v:Value} {e:EncL} (h:EncVal w S v e) (hS:∀ x,x < w.heap.size→S x→T x):EncVal w T v e:=h.move xnl fun x hx hs=>⟨rfl,hS x hx hs⟩
theorem EncVal.form {w:World} {S:Nat→Prop} {v:Value} {e:EncL} (h:EncVal w S v e):∃ c:EV,v = .agg (zck c).toArray∧EncVal w S (.agg (zck c).toArray) e:=by
 obtain ⟨s,rfl,h1⟩:=h;obtain ⟨a,cap,rfl⟩:=h1.slice;exact ⟨⟨e.id,e.ver,a,e.fields.length,cap⟩,rfl,_,rfl,h1⟩
theorem EncsAll.move {w w':World} {S T:Nat→Prop} {C:List EV} {L:List EncL} (h:EncsAll w S C L) (hz:w.heap.size≤w'.heap.size) (hS:∀ x,x < w.heap.size→S x→w'.heap[x]? = w.heap[x]?∧T x):EncsAll w' T C L :=
 ⟨h.1,fun n h1 h2=>(h.2 n h1 h2).move hz hS⟩
theorem EncsAll.snoc {w:World} {S:Nat→Prop} {C:List EV} {L:List EncL} {c:EV} {e:EncL} (h:EncsAll w S C L) (hc:EncVal w S (.agg (zck c).toArray) e):EncsAll w S (C ++ [c]) (L ++ [e]):=by
 refine ⟨by simp [h.1],fun n h1 h2=>?_⟩
 by_cases hn:n < C.length
 ·have hn2:n < L.length:=by rw [← h.1]; exact hn
  rw [List.getElem_append_left hn,List.getElem_append_left hn2];exact h.2 n hn hn2
 ·have hn2:¬ n < L.length:=by rw [← h.1]; exact hn
  rw [List.getElem_append_right (by omega),List.getElem_append_right (by omega)];have:n = C.length:=by simp at h1; omega
  subst this;simp only [Nat.sub_self,h.1];simpa using hc
theorem EncsVec.move {w w':World} {S T:Nat→Prop} {v:Value} {L:List EncL} (h:EncsVec w S v L) (hz:w.heap.size≤w'.heap.size) (hS:∀ x,x < w.heap.size→S x→w'.heap[x]? = w.heap[x]?∧T x):EncsVec w' T v L:=by
 obtain ⟨C,h1,h2⟩:=h; exact ⟨C,h1.move hz hS,h2.move hz hS⟩
theorem EncsVec.below {w w':World} {S:Nat→Prop} {v:Value} {L:List EncL} (h:EncsVec w S v L) (hb:Below w.heap.size w w'):EncsVec w' S v L:=h.move hb.size fun x hx hs=>⟨hb.block x hx,hs⟩
theorem EncsVec.slice {w:World} {S:Nat→Prop} {v:Value} {L:List EncL} (h:EncsVec w S v L):∃ a cap,v = .slice a L.length cap:=by
 obtain ⟨C,h1,h2⟩:=h;obtain ⟨a,cap,rfl⟩:=h1.slice;exact ⟨a,cap,by rw [h2.1]⟩
theorem EncsVec.nil (w:World) (S:Nat→Prop):EncsVec w S (.slice none 0 0) []:=⟨[],Vec.nil _ _ _ _,rfl,fun n h1 _=>by simp at h1⟩
theorem EncsVec.at {w:World} {S:Nat→Prop} {a:Option Addr} {n cap:Nat} {L:List EncL} (h:EncsVec w S (.slice a n cap) L) (j:Nat) (hj:j < L.length) :
  ∃ (b off:Nat) (c:EV),a = some ⟨b,off,none⟩∧b < w.heap.size∧(w.cell? ⟨b,off + j * 3,none⟩ = some (.int .i64 c.id)∧w.cell? ⟨b,off + j * 3 + 1,none⟩ = some (.int .i64 c.ver)∧w.cell? ⟨b,off + j * 3 + 2,none⟩ = some (.slice c.a c.n c.c))∧EncVal w S (.agg (zck c).toArray) L[j]:=by
 obtain ⟨C,hC,hA⟩:=h;have hj2:j < C.length:=by rw [hA.1]; exact hj
 obtain ⟨b,off,e,hb,hc⟩:=hC.get j hj2;exact ⟨b,off,C[j],e,hb,⟨hc 0 _ rfl,hc 1 _ rfl,hc 2 _ rfl⟩,hA.2 j hj2 hj⟩
theorem EncsAll.grow {w:World} {v v':Value} {C:List EV} {L:List EncL} {c:EV} {e:EncL} {wr wy w5:World} (h:EncsAll wr (zgr w.heap.size v) C L) (hown:∀ g,v.ownBlock = some g→g < wr.heap.size) (hwz:w.heap.size≤wr.heap.size) (hb:Below wr.heap.size wr wy) (hc:EncVal wy (fun b=>wr.heap.size≤b) (.agg (zck c).toArray) e)
  (hk:∀ q o,some q≠v.ownBlock→wy.heap[q]? = some o→w5.heap[q]? = some o) (hz:wy.heap.size≤w5.heap.size) (hat:v'.ownBlock = none∨v.ownBlock = v'.ownBlock∨∃ g,v'.ownBlock = some g∧wy.heap.size≤g):EncsAll w5 (zgr w.heap.size v') (C ++ [c]) (L ++ [e]):=by
 have hS:∀ b,b < wy.heap.size→zgr w.heap.size v b→w5.heap[b]? = wy.heap[b]?∧zgr w.heap.size v' b:=by
  intro b hb' hs;obtain ⟨ob,hob⟩:∃ ob,wy.heap[b]? = some ob:=⟨_,Array.getElem?_eq_getElem hb'⟩;rw [hob];refine ⟨hk b ob hs.2 hob,hs.1,?_⟩
  rcases hat with h1 | h1 | ⟨g,h1,h2⟩
  ·rw [h1]; simp
  ·rw [← h1]; exact hs.2
  ·rw [h1]; intro e; cases e; omega
 have h1:EncsAll wy (zgr w.heap.size v) C L:=h.move hb.size fun x hx hs=>⟨hb.block x hx,hs⟩
 have h2:EncVal wy (zgr w.heap.size v) (.agg (zck c).toArray) e:=hc.weaken fun b _ hb'=>⟨by omega,fun e=>by have:=hown b e.symm; omega⟩
 exact (h1.move hz hS).snoc (h2.move hz hS)
structure CapB (sb pb kb:Nat) (vf vt vn vs:Value) (s:SchemaL) (pa:Option Addr) (pc:Nat) (P:List ParL) (k:Int × Int) (w:World):Prop where
 bs:w.heap[sb]? = some (.cells #[vf,vt,vn,vs] 44 (0,0))
 bp:w.heap[pb]? = some (.cells #[.slice pa P.length pc] 23 (0,0))
 bk:w.heap[kb]? = some (.cells #[.int .u64 k.1,.int .u64 k.2] 26 (0,0))
 sch:SchemaAt w zaw vf vt vn vs s
 par:Vec w zaw 3 zbc (.slice pa P.length pc) P
theorem CapB.below {sb pb kb:Nat} {vf vt vn vs:Value} {s:SchemaL} {pa:Option Addr} {pc:Nat} {P:List ParL} {k:Int × Int} {w w':World} (h:CapB sb pb kb vf vt vn vs s pa pc P k w) (hb:Below w.heap.size w w'):CapB sb pb kb vf vt vn vs s pa pc P k w' :=
 ⟨zab hb (zaa h.bs) h.bs,zab hb (zaa h.bp) h.bp,zab hb (zaa h.bk) h.bk,h.sch.below hb,h.par.below hb⟩
theorem closB_yes (sb pb kb:Nat) (vf vt vn vs:Value) (s:SchemaL) (pa:Option Addr) (pc:Nat) (P:List ParL) (k:Int × Int) (i:Int) (r:RecL) (sv:Value) (w:World) (h:CapB sb pb kb vf vt vn vs s pa pc P k w) (hv:Vec w zaw 1 za2 sv r.vals) (hf:EncIn s P r.vals) :
  Calls prog 75 #[.int .i64 i,.agg #[.int .i64 r.id,.int .i64 r.ver,sv],.pointer (some ⟨sb,0,none⟩),.pointer (some ⟨pb,0,none⟩),.pointer (some ⟨kb,0,none⟩)] w (EncPost (ziz s P k r) w):=by
 obtain ⟨av,cv,rfl⟩:=hv.slice;obtain ⟨rid,rver,vals⟩:=r;dsimp only at hv hf ⊢;obtain ⟨X,hX⟩:∃ X,ziz s P k ⟨rid,rver,vals⟩ = X:=⟨_,rfl⟩;rw [hX];have HX:=zi5 hX; have HC:=zi5 h; have HV:=zi5 hv; have HF:=zi5 hf;obtain ⟨s0,s1,s2,s3⟩:=zan h.bs; obtain ⟨k0,k1⟩:=zak h.bk;have p0:w.cell? ⟨pb,0,none⟩ = some (.slice pa P.length pc):=by rw [cell_of_row _ _ _ _ _ _ h.bp]; rfl
 have ls:=zaa h.bs; have lp:=zaa h.bp; have lk:=zaa h.bk;clear h hv hf hX;go_enter func75,ntmps75
 go_wp2_with fail
 refine zae (fun W hW=>?_)
 have hb0:=xam hW
 have hz0:W.heap[w.heap.size + 1]? = some (.cells #[.int .i64 0,.int .i64 0,.slice none 0 0] 32 (0,0)):=by rw [hW]; exact zac (by simp)
 clear hW;have HB0:=zi5 hb0; have HZ0:=zi5 hz0;refine (encoded_yes zaw _ _ _ _ s P _ k ⟨rid,rver,vals⟩ _ _ (HC.out.sch.below hb0) (HC.out.par.below hb0) (HV.out.below hb0) HF.out).mono ?_;rw [HX.out];rintro e w1 ⟨_,rfl,hev,hb⟩;obtain ⟨⟨xi,xv,xa,xn,xc⟩,rfl,hev'⟩:=hev.form;have HEv:=zi5 hev';have HB1:=zi5 (HB0.out.trans (hb.mono HB0.out.size)); have HZ1:=zi5 (zab hb (zaa HZ0.out) HZ0.out);have lz0:=zaa HZ0.out;obtain ⟨z0,z1,z2⟩:=zai HZ1.out;have lz:=zaa HZ1.out;have f0:=frozen_of_row _ _ 0 _ _ HZ1.out; have f1:=frozen_of_row _ _ 1 _ _ HZ1.out; have f2:=frozen_of_row _ _ 2 _ _ HZ1.out;clear hb hb0 hz0 hev hev' s0 s1 s2 s3 k0 k1 p0;go_wp2_with fail
 refine zag rfl rfl (zad (i:=2) (v:=.slice xa xn xc) (zad (i:=1) (v:=.int .i64 xv) (zad (i:=0) (v:=.int .i64 xi) HZ1.out))) underlying32 rfl (by kernel_rfl)
  ⟨_,rfl,HEv.out.move (by simp [World.setCell]) (fun b hb hs=>?_),((HB1.out.setCell (p:=⟨w.heap.size + 1,0,none⟩) (by simp) _).setCell (p:=⟨w.heap.size + 1,1,none⟩) (by simp) _).setCell (p:=⟨w.heap.size + 1,2,none⟩) (by simp) _⟩
 have hs':W.heap.size≤b:=hs;rw [heap_setCell_other _ _ _ _ (by show b≠w.heap.size + 1; omega),heap_setCell_other _ _ _ _ (by show b≠w.heap.size + 1; omega),heap_setCell_other _ _ _ _ (by show b≠w.heap.size + 1; omega)];exact ⟨rfl,by omega⟩
def EachAllPost (L:List EncL) (w:World) (e:Ending) (w':World):Prop:=∃ v,e = .returned (.tuple #[v,.int .i64 0])∧EncsVec w' (fun x=>w.heap.size≤x) v L∧Below w.heap.size w w'
theorem eachE_yes (sb pb kb:Nat) (vf vt vn vs:Value) (s:SchemaL) (pa:Option Addr) (pc:Nat) (P:List ParL) (k:Int × Int) (rv:Value) (R:List RecL) (w:World) (h:CapB sb pb kb vf vt vn vs s pa pc P k w) (hr:RecsVec w zaw rv R) (hf:∀ r∈R,EncIn s P r.vals) (hR:R.length≤1000000) :
  Calls prog 74 #[rv,.func (.func 75) #[] #[.pointer (some ⟨sb,0,none⟩),.pointer (some ⟨pb,0,none⟩),.pointer (some ⟨kb,0,none⟩)]] w (EachAllPost (R.map (ziz s P k)) w):=by
 obtain ⟨a,cap,rfl⟩:=hr.slice;have HC:=zi5 h; have HR:=zi5 hr; have HF:=zi5 hf;clear h hr hf;go_enter func74,ntmps74
 go_wp2_with fail
 go_loopw [6,13] (fun v i wr=>∃ (j:Nat) (C:List EV),i = .int .i64 j∧j≤R.length∧C.length = j∧OwnV 32 3 zck w v C wr∧EncsAll wr (zgr w.heap.size v) C ((R.take j).map (ziz s P k))) (fun _ i _=>R.length - (intOf i).toNat)
 case atStart=>exact ⟨0,[],rfl,by omega,rfl,OwnV.start _ _ _ _,rfl,fun n h1 _=>by simp at h1⟩
 case round =>
  obtain ⟨j,C,rfl,hj,hCl,ho,hba⟩:=hrel;have HO:=zi5 ho; have HBA:=zi5 hba; have HCl:=zi5 hCl;obtain ⟨va,vc,ev⟩:=za1 ho.1;rw [hCl] at ev;subst ev;clear ho hba hCl;obtain ⟨WR,hWR⟩:∃ u,u = wr:=⟨_,rfl⟩;subst hWR;by_cases hlt:j < R.length
  ·have hq:decide ((j:Int) < R.length) = true:=by simp; omega
   have hji:(j:Int) < (R.length:Int):=by omega
   obtain ⟨b,off,id,ver,aa,nn,cc,vals,rfl,lb,c0,c1,c2,hRk,hvv⟩:=(HR.out.below HO.out.2).at j hlt;have hnn:=hvv.len.1;subst hnn;have hef:=HF.out _ (List.getElem_mem hlt);rw [hRk] at hef;have hts:(R.take (j + 1)).map (ziz s P k) = (R.take j).map (ziz s P k) ++ [ziz s P k ⟨id,ver,vals⟩]:=by rw [List.take_succ_eq_append_getElem hlt,hRk]; simp
   obtain ⟨X,hX⟩:∃ X,ziz s P k ⟨id,ver,vals⟩ = X:=⟨_,rfl⟩;rw [hX] at hts;have HEf:=zi5 hef; have HTs:=zi5 hts; have HVv:=zi5 hvv; have HX:=zi5 hX;clear hef hts hvv hRk hX;go_wp2_with fail
   have hbA:Below WR.heap.size WR (WR.alloc (.cells #[.int .i64 id,.int .i64 ver,.slice aa vals.length cc] 29)):=(Below.refl _ _).alloc xnl _;refine (closB_yes sb pb kb vf vt vn vs s pa pc P k (j:Int) ⟨id,ver,vals⟩ _ _ (HC.out.below (HO.out.2.trans (hbA.mono HO.out.2.size))) (HVv.out.below hbA) HEf.out).mono ?_;rw [HX.out];rintro e w1 ⟨_,rfl,hev,hb1⟩;obtain ⟨⟨xi,xv,xa,xn,xc⟩,rfl,hev'⟩:=hev.form;have hb2:Below WR.heap.size WR w1:=hbA.trans (hb1.mono hbA.size);have hev2:=hev'.weaken (T:=fun b=>WR.heap.size≤b) (fun b _ hb=>by have hb':(WR.alloc (.cells #[.int .i64 id,.int .i64 ver,.slice aa vals.length cc] 29)).heap.size≤b:=hb; simp at hb'; omega)
   have hb3:Below WR.heap.size WR ((w1.alloc (.cells (zck ⟨xi,xv,xa,xn,xc⟩).toArray 32)).alloc (.cells (zck ⟨xi,xv,xa,xn,xc⟩).toArray 32)):=(hb2.alloc hb2.size _).alloc (by have:=hb2.size; simp; omega) _;have HO2:=zi5 (HO.out.below hb3); have HB2:=zi5 hb2; have HEv:=zi5 hev2;have HR2:=zi5 (show zco ((w1.alloc (.cells (zck ⟨xi,xv,xa,xn,xc⟩).toArray 32)).alloc (.cells (zck ⟨xi,xv,xa,xn,xc⟩).toArray 32)) 3 (.slice (some ⟨w1.heap.size + 1,0,none⟩) 1 1) [(⟨xi,xv,xa,xn,xc⟩:EV)].length ([(⟨xi,xv,xa,xn,xc⟩:EV)].flatMap zck) from zav (xs:=[(⟨xi,xv,xa,xn,xc⟩:EV)].flatMap zck) (fr:=(0,0)) (t:=32) (zac (by simp)) rfl);have hcn:C.length + [(⟨xi,xv,xa,xn,xc⟩:EV)].length≤1000000000:=by rw [HCl.out]; simp only [List.length_cons,List.length_nil]; omega
   clear hev hev' hev2 hb1 hb2 hb3 hbA c0 c1 c2;go_wp2_with (at_builtin; refine zbq rfl (.tmp 28) (.tmp 30) 59 rfl 32 (.agg #[.int .i64 0,.int .i64 0,.slice none 0 0]) 3 40 zck (fun _=>rfl) one_encEV underlying59 infoEV rfl (by decide) (by decide) (w0:=w) (v:=.slice va j vc) (A:=C) (B:=[⟨xi,xv,xa,xn,xc⟩]) rfl HO2.out rfl HR2.out hcn ?_; intro v2 w2 ho2 hk2 hz2 hat2)
   go_roundw
   case rel =>
    refine ⟨j + 1,C ++ [⟨xi,xv,xa,xn,xc⟩],by go_num,by omega,by rw [List.length_append,HCl.out]; rfl,ho2,?_⟩;rw [HTs.out]
    exact HBA.out.grow (fun g e=>(World.ownsRow.lt HO.out.1 g e).2) HO.out.2.size HB2.out HEv.out (fun q o h1 h2=>hk2 q o h1 (zaf (zaf h2))) (Nat.le_trans (by simp; omega) hz2) (by
     rcases hat2 with h1 | h1 | h1
     ·exact .inl h1
     ·exact .inr (.inl h1)
     ·exact .inr (.inr ⟨_,h1,by simp; omega⟩))
   case measure=>simp [intOf]; omega
  ·have hq:decide ((j:Int) < R.length) = false:=by simp; omega
   obtain rfl:j = R.length:=by omega
   rw [List.take_of_length_le xnl] at HBA;go_wp2_with fail
   go_ret2;exact ⟨_,rfl,⟨C,OwnV.vec (size:=3) (enc:=zck) (fun _=>rfl) HO.out,HBA.out.move xnl fun x _ hx=>⟨rfl,hx.1⟩⟩,HO.out.2⟩
end
section
open Go.RowKit Go.WideShapes Go.ChangeShapes Go.Joins
instance:Inhabited BV:=⟨⟨0,none,0,0⟩⟩
instance:Inhabited BitsL:=⟨zba⟩
theorem wf_i64 {n:Int} (h:(Lit.int .i64 n).wf = true):InI n:=by
 have h1:IntKind.i64.min≤n∧n≤9223372036854775807:=by simpa [Lit.wf] using h
 have h2:IntKind.i64.min = -9223372036854775808:=by decide
 exact ⟨by omega,by omega⟩
theorem wf_u64 {n:Int} (h:(Lit.int .u64 n).wf = true):0≤n∧n < 18446744073709551616:=by
 have h1:IntKind.u64.min≤n∧n≤IntKind.u64.max:=by simpa [Lit.wf] using h
 have h2:IntKind.u64.min = 0:=by decide
 have h3:IntKind.u64.max = 18446744073709551615:=by decide
 exact ⟨by omega,by omega⟩
structure BitsOk (b:BitsL):Prop where
 hex:HexIn b
 words:b.words.length≤maxLen
section
variable {H:Type} {enc:TypeId × Value→H} {W:World} {base:Nat} {spare:Nat→Bool} {held:Bool}
theorem in_par {fuel:Nat} {cs:List Value} {x:DataW H × List MemPlace} (h:DataW.trod enc prog W base spare held fuel 49 cs = some x) (hl:cs.length = 3) :
  ∃ p:ParL,cs = zbc p∧InI p.len:=by
 obtain ⟨c0,c1,c2,rfl⟩:∃ c0 c1 c2,cs = [c0,c1,c2]:=by
  match cs,hl with
  | [c0,c1,c2],_=>exact ⟨c0,c1,c2,rfl⟩
 obtain ⟨xs,n,_,_,_,hlen,hx⟩:=DataW.trod_struct underlying49 h;have h0:=hx 0 _ rfl;have h1:=hx 1 _ rfl;have h2:=hx 2 _ rfl;rw [List.getElem?_eq_getElem (by rw [hlen]; decide)] at h0 h1 h2;obtain ⟨s0,e0,_,w0⟩:=DataW.trod_int underlying3 h0;obtain ⟨s1,e1,_⟩:=DataW.trod_int underlying3 h1;obtain ⟨s2,e2,_⟩:=DataW.trod_int underlying3 h2;have k3:prog.cellsOf 3 = 1:=by kernel_rfl
 simp [k3] at e0 e1 e2;exact ⟨⟨s0,s1,s2⟩,by rw [e0,e1,e2],wf_i64 w0⟩
theorem in_pars {fuel:Nat} {cs:List Value} {x:DataW H × List MemPlace} (h:DataW.trod enc prog W base spare held fuel 23 cs = some x):∃ v P,cs = [v]∧Vec W zaw 3 zbc v P∧(∀ p∈P,InI p.len)∧P.length≤maxLen:=by
 rcases Go.Deep.open_slice underlying23 h with ⟨rfl,_⟩ | ⟨a,len,cap,m,n,D,Pl,rfl,_,hl,hmx,hmm,_,hx⟩
 ·exact ⟨_,[],rfl,Vec.nil _ _ _ _,by simp,Nat.zero_le _⟩
 ·have hlm:len≤m:=by rw [hmm]; split <;> omega
  have ce:prog.cellsOf 49 = 3:=by kernel_rfl
  have each:∀ i,i < len→∃ q:ParL,(∀ j u,(zbc q)[j]? = some u→W.cell? (a.add (i * 3 + j)) = some u)∧InI q.len:=by
   intro i hi;obtain ⟨cs',h1,h2⟩:=hx i (by omega);rw [ce] at h1;obtain ⟨_,hlen,hcell⟩:=World.cells?_some h1;obtain ⟨q,rfl,hv⟩:=in_par h2 hlen
   refine ⟨q,fun j u hu=>?_,hv⟩
   have hj:j < 3:=by have:=(List.getElem?_eq_some_iff.1 hu).1; simpa using this
   have e0:=hcell j (by omega);rw [Go.Deep.add_add] at e0;rw [← hu];exact e0
  obtain ⟨q,hq⟩:=Go.Deep.choose_lt each
  refine ⟨_,(List.range len).map q,rfl,vec_in (k:=3) (enc:=zbc) q (fun _=>rfl) (by omega) hl fun i hi j u hu=>(hq i hi).1 j u hu,fun y hy=>?_,by simp; omega⟩
  obtain ⟨i,hi,rfl⟩:=List.mem_map.1 hy;exact (hq i (by simpa using hi)).2
theorem open_pars {r:Reach} {b0:Nat} {v:Value} {d:DataW H} {ps:List MemPlace} (hv:Value.okWide prog W r b0 23 v) (h:DataW.Trod enc prog W base spare held 23 v d ps):∃ P,Vec W zaw 3 zbc v P∧(∀ p∈P,InI p.len)∧P.length≤maxLen:=by
 obtain ⟨a,len,cap,rfl⟩:=okWide_slice underlying23 hv;obtain ⟨fuel,hf⟩:=h;obtain ⟨u,P,e,hk⟩:=in_pars hf;simp [Value.cells] at e;exact ⟨P,by rw [e]; exact hk⟩
theorem in_words {fuel:Nat} {cs:List Value} {x:DataW H × List MemPlace} (h:DataW.trod enc prog W base spare held fuel 76 cs = some x):∃ v L,cs = [v]∧Vec W zaw 1 zfx v L∧(∀ x∈L,0≤x∧x < 18446744073709551616)∧L.length≤maxLen:=by
 rcases open_ints underlying76 underlying24 (by kernel_rfl) h with ⟨rfl,_⟩ | ⟨a,len,cap,zs,rfl,_,hl,hmx,hz,_,hcell,hwz⟩
 ·exact ⟨_,[],rfl,Vec.nil _ _ _ _,by simp,Nat.zero_le _⟩
 ·have hlm:len≤zs.length:=by rw [hz]; split <;> omega
  refine ⟨_,(List.range len).map fun i=>zs.getD i 0,rfl,vec_in (k:=1) (enc:=zfx) (fun i=>zs.getD i 0) (fun _=>rfl) (by omega) hl fun i hi j u hu=>?_,fun y hy=>?_,by simp; omega⟩
  ·match j,hu with
   | 0,hu=>cases hu; rw [Nat.mul_one]; exact hcell i (by omega)
   | j + 1,hu=>simp at hu
  ·obtain ⟨i,hi,rfl⟩:=List.mem_map.1 hy
   have hi':i < zs.length:=by have:=List.mem_range.1 hi; omega
   rw [zbi _ _ hi'];exact wf_u64 (hwz _ (List.getElem_mem hi'))
theorem in_bits {fuel:Nat} {cs:List Value} {x:DataW H × List MemPlace} (h:DataW.trod enc prog W base spare held fuel 78 cs = some x) (hl:cs.length = 2) :
  ∃ (q:BV) (b:BitsL),cs = zbp q∧BitsAt W zaw (.agg (zbp q).toArray) b∧BitsOk b:=by
 obtain ⟨c0,c1,rfl⟩:∃ c0 c1,cs = [c0,c1]:=by
  match cs,hl with
  | [c0,c1],_=>exact ⟨c0,c1,rfl⟩
 obtain ⟨xs,n,_,_,_,hlen,hx⟩:=DataW.trod_struct underlying78 h;have h0:=hx 0 _ rfl;have h1:=hx 1 _ rfl;rw [List.getElem?_eq_getElem (by rw [hlen]; decide)] at h0 h1;obtain ⟨s0,e0,_,w0⟩:=DataW.trod_int underlying3 h0;obtain ⟨v,L,e1,hL,hw,hm⟩:=in_words h1;have k3:prog.cellsOf 3 = 1:=by kernel_rfl
 have k4:prog.cellsOf 76 = 1:=by kernel_rfl
 simp [k3,k4] at e0 e1;obtain ⟨va,vc,rfl⟩:=hL.slice;exact ⟨⟨s0,va,L.length,vc⟩,⟨s0,L⟩,by rw [e0,e1],⟨_,rfl,hL⟩,⟨wf_i64 w0,fun _=>hw⟩,hm⟩
theorem in_bitss {fuel:Nat} {cs:List Value} {x:DataW H × List MemPlace} (h:DataW.trod enc prog W base spare held fuel 30 cs = some x):∃ v L,cs = [v]∧BitsVec W zaw v L∧(∀ b∈L,BitsOk b)∧L.length≤maxLen:=by
 rcases Go.Deep.open_slice underlying30 h with ⟨rfl,_⟩ | ⟨a,len,cap,m,n,D,Pl,rfl,_,hl,hmx,hmm,_,hx⟩
 ·exact ⟨_,[],rfl,⟨[],Vec.nil _ _ _ _,rfl,fun n h1 _=>by simp at h1⟩,by simp,Nat.zero_le _⟩
 ·have hlm:len≤m:=by rw [hmm]; split <;> omega
  have ce:prog.cellsOf 78 = 2:=by kernel_rfl
  have each:∀ i,i < len→∃ q:BV × BitsL,(∀ j u,(zbp q.1)[j]? = some u→W.cell? (a.add (i * 2 + j)) = some u)∧BitsAt W zaw (.agg (zbp q.1).toArray) q.2∧BitsOk q.2:=by
   intro i hi;obtain ⟨cs',h1,h2⟩:=hx i (by omega);rw [ce] at h1;obtain ⟨_,hlen,hcell⟩:=World.cells?_some h1;obtain ⟨q,b,rfl,hv⟩:=in_bits h2 hlen
   refine ⟨(q,b),fun j u hu=>?_,hv⟩
   have hj:j < 2:=by have:=(List.getElem?_eq_some_iff.1 hu).1; simpa using this
   have e0:=hcell j (by omega);rw [Go.Deep.add_add] at e0;rw [← hu];exact e0
  obtain ⟨q,hq⟩:=Go.Deep.choose_lt each
  refine ⟨_,(List.range len).map fun i=>(q i).2,rfl,⟨(List.range len).map fun i=>(q i).1,vec_in (k:=2) (enc:=zbp) (fun i=>(q i).1) (fun _=>rfl) (by omega) hl fun i hi j u hu=>(hq i hi).1 j u hu,by simp,fun n h1 h2=>?_⟩,fun y hy=>?_,by simp; omega⟩
  ·rw [List.getElem_map,List.getElem_map,List.getElem_range]
   exact (hq n (by simpa using h1)).2.1
  ·obtain ⟨i,hi,rfl⟩:=List.mem_map.1 hy
   exact (hq i (by simpa using hi)).2.2
theorem open_enc {r:Reach} {b0:Nat} {v:Value} {d:DataW H} {ps:List MemPlace} (hv:Value.okWide prog W r b0 32 v) (h:DataW.Trod enc prog W base spare held 32 v d ps) :
  ∃ (id ver:Int) (sv:Value) (F:List BitsL),v = .agg #[.int .i64 id,.int .i64 ver,sv]∧BitsVec W zaw sv F∧(∀ b∈F,BitsOk b)∧F.length≤maxLen:=by
 obtain ⟨cs,rfl,hsz⟩:=okWide_struct underlying32 hv;obtain ⟨c0,c1,c2,rfl⟩:=array3 (hsz.trans (by kernel_rfl));obtain ⟨fuel,hf⟩:=h;obtain ⟨xs,n,_,_,_,hlen,hx⟩:=DataW.trod_struct underlying32 hf;have h0:=hx 0 _ rfl;have h1:=hx 1 _ rfl;have h2:=hx 2 _ rfl;rw [List.getElem?_eq_getElem (by rw [hlen]; decide)] at h0 h1 h2;simp only [Value.cells] at h0 h1 h2;obtain ⟨s0,e0,_⟩:=DataW.trod_int underlying3 h0;obtain ⟨s1,e1,_⟩:=DataW.trod_int underlying3 h1;obtain ⟨sv,F,e2,hF⟩:=in_bitss h2;have k3:prog.cellsOf 3 = 1:=by kernel_rfl
 have k4:prog.cellsOf 30 = 1:=by kernel_rfl
 simp [k3,k4] at e0 e1 e2;exact ⟨s0,s1,sv,F,by rw [e0,e1,e2],hF⟩
end
end
section
open Go.RowKit Cal
theorem esmall_any (S:Nat→Prop) (id ver:Int) (sv:Value) (F:List BitsL) (w:World) (h:BitsVec w S sv F) (hl:F.length≤maxLen) (hb:∀ b∈F,b.words.length≤maxLen) :
  Calls prog 10 #[.agg #[.int .i64 id,.int .i64 ver,sv]] w fun e w'=>(∃ b,e = .returned (.bool b)∧(b = true→F.length≤20∧∀ x∈F,x.words.length≤20))∧Below w.heap.size w w':=by
 obtain ⟨a,cap,rfl⟩:=h.slice;have HK:=zi5 h;have hl2:F.length≤9223372036854775807:=by unfold maxLen at hl; exact hl
 have HB:=zi5 (show ∀ b∈F,b.words.length≤9223372036854775807 from fun b hb'=>by have:=hb b hb'; unfold maxLen at this; exact this)
 clear h hl hb;go_enter func10,ntmps10
 go_wp2_with fail
 refine zao (fun W hW=>?_)
 have hb0:=xal hW
 have hs0:W.heap[w.heap.size]? = some (.cells #[.int .i64 id,.int .i64 ver,.slice a F.length cap] 32 (0,0)):=by rw [hW]; exact zac rfl
 have HB0:=zi5 hb0; have HS0:=zi5 hs0; have ls0:=zaa hs0;obtain ⟨z0,z1,z2⟩:=zai hs0;clear hW hb0 hs0;go_wp2_with fail
 go_loopw [3,7] (fun _ i wr=>∃ k:Nat,k≤F.length∧i = .int .i64 k∧Below W.heap.size W wr∧Hid (∀ j,j < k→(F.getD j zba).words.length≤20)) (fun _ i _=>F.length - (intOf i).toNat)
 case atStart=>exact ⟨0,by omega,rfl,Below.refl _ _,zi5 fun j hj=>by omega⟩
 case round =>
  obtain ⟨k,hk,rfl,hbw,HA⟩:=hrel;have HW:=zi5 hbw;have HWw:=zi5 (HB0.out.trans (hbw.mono HB0.out.size));obtain ⟨x0,x1,x2⟩:=zai (zab hbw ls0 HS0.out);have lx:=Nat.lt_of_lt_of_le ls0 hbw.size;by_cases hlt:k < F.length
  ·have hq:decide ((k:Int) < F.length) = true:=by simp; omega
   have hi:(k:Int) < (F.length:Int):=by omega
   obtain ⟨b,off,⟨bl,ba,bn,bc⟩,rfl,hb,c0,c1,hv⟩:=(HK.out.below HWw.out).at k hlt;dsimp only at c0 c1;obtain ⟨_,ev,hv⟩:=hv;have hmx:=HB.out _ (List.getElem_mem hlt);rw [← zbi _ zba hlt] at hmx;obtain ⟨m,hm⟩:∃ m,(F.getD k zba).words.length = m:=⟨_,rfl⟩;simp only [Value.agg.injEq] at ev;rw [hm] at hmx
   have hbn:bn = m:=by
    obtain ⟨va,vc,e2⟩:=hv.slice;rw [e2,hm] at ev;simp at ev;exact ev.2.2.1
   subst hbn;have HM:=zi5 hm;clear hbw hv hm ev;by_cases hxl:bn≤20
   ·have d:decide ((20:Int) < bn) = false:=by simp; omega
    go_wp2_with fail
    go_roundw
    case rel=>exact ⟨k + 1,by omega,by go_num,HW.out,zi5 fun j hj=>by
     by_cases e:j = k
     ·subst e; rw [HM.out]; exact hxl
     ·exact HA.out j (by omega)⟩
    case measure=>simp [intOf]; omega
   ·have d:decide ((20:Int) < bn) = true:=by simp; omega
    go_wp2_with fail
    go_ret;exact ⟨⟨false,rfl,fun h=>by cases h⟩,HWw.out⟩
  ·have hq:decide ((k:Int) < F.length) = false:=by simp; omega
   obtain rfl:k = F.length:=by omega
   have HE:=zi5 (show decide ((F.length:Int)≤20) = true→F.length≤20∧∀ x∈F,x.words.length≤20 by
    intro h
    refine ⟨by simp at h; omega,fun K hK=>?_⟩
    obtain ⟨j,hj,rfl⟩:=List.mem_iff_getElem.1 hK;have:=HA.out j (by omega);rw [zbi _ _ hj] at this
    exact this)
   clear hbw;go_wp2_with fail
   go_ret;exact ⟨⟨_,rfl,HE.out⟩,HWw.out⟩
end
section
open Go.RowKit
def ziu (n:Nat):Code→Bool
 | .region m _ _=>Nat.beq m n
 | .seq a b=>if ziu n a = true then true else ziu n b
 | .block _ c=>ziu n c
 | .loop c=>ziu n c
 | .scope c=>ziu n c
 | .cond _ a b=>if ziu n a = true then true else ziu n b
 | _=>false
def afterTop (n:Nat):Code→Option Code
 | .seq a b=>if ziu n a = true then some b else afterTop n b
 | _=>none
def stmtTop (n:Nat):Code→Option Code
 | .seq a b=>if ziu n a = true then some a else stmtTop n b
 | _=>none
noncomputable def restOf (fn:Func) (n:Nat):Code:=((fn.body.bind (afterTop n)).getD .skip)
noncomputable def stmtOf (fn:Func) (n:Nat):Code:=((fn.body.bind (stmtTop n)).getD .skip)
def rightOf:Code→Code
 | .seq _ b=>b
 | c=>c
def zhb (n:Nat):Code→Option Code
 | .region m o d=>if Nat.beq m n = true then some (.region m o d) else none
 | .seq a b=>(match zhb n a with | some c=>some c | none=>zhb n b)
 | .block _ c=>zhb n c
 | .loop c=>zhb n c
 | .scope c=>zhb n c
 | .cond _ a b=>(match zhb n a with | some c=>some c | none=>zhb n b)
 | _=>none
noncomputable def regOf (fn:Func) (n:Nat):Code:=((fn.body.bind (zhb n)).getD .skip)
end
section
open Go.RowKit
theorem eshort_any (S:Nat→Prop) (v:Value) (L:List (List UInt8)) (w:World) (h:Vec w S 1 za2 v L) (hn:L.length≤1000000) :
  Calls prog 9 #[v] w fun e w'=>e = .returned (.bool (L.all fun x=>decide (x.length≤200)))∧Below w.heap.size w w':=by
 obtain ⟨a,cap,rfl⟩:=h.slice;have HV:=zi5 h;have HF:=zi5 (show ∀ b,(L.all fun x=>decide (x.length≤200)) = b→Ending.returned (.bool b) = .returned (.bool (L.all fun x=>decide (x.length≤200))) from fun b h=>by rw [h])
 clear h;go_enter func9,ntmps9
 go_wp2_with fail
 go_loopw [3] (fun i wr=>∃ k:Nat,k≤L.length∧i = .int .i64 k∧Below w.heap.size w wr∧Hid (∀ j,j < k→(L.getD j []).length≤200)) (fun i _=>L.length - (intOf i).toNat)
 case atStart=>exact ⟨0,by omega,rfl,Below.refl _ _,zi5 fun j hj=>by omega⟩
 case round =>
  obtain ⟨k,hk,rfl,hbw,HA⟩:=hrel;have HW:=zi5 hbw;by_cases hlt:k < L.length
  ·have hq:decide ((k:Int) < L.length) = true:=by simp; omega
   have hi:(k:Int) < (L.length:Int):=by omega
   obtain ⟨b,off,rfl,_,hb,hc⟩:=zb9 HV.out (by omega);have c0:=(hbw.cell (p:=⟨b,off + k,none⟩) hb).trans (hc k hlt);obtain ⟨x,hx⟩:∃ x,L.getD k [] = x:=⟨_,rfl⟩;rw [hx] at c0;have HX:=zi5 hx;clear hbw hc hx;by_cases hxl:x.length≤200
   ·have d:decide ((200:Int) < x.length) = false:=by simp; omega
    go_wp2_with fail
    go_roundw
    case rel=>exact ⟨k + 1,by omega,by go_num,HW.out,zi5 fun j hj=>by
     by_cases e:j = k
     ·subst e; rw [HX.out]; exact hxl
     ·exact HA.out j (by omega)⟩
    case measure=>simp [intOf]; omega
   ·have d:decide ((200:Int) < x.length) = true:=by simp; omega
    have HE:=zi5 (show (L.all fun x=>decide (x.length≤200)) = false by
     rw [List.all_eq_false]
     exact ⟨x,by rw [← HX.out,List.getD,List.getElem?_eq_getElem hlt]; exact List.getElem_mem hlt,by simpa using hxl⟩)
    go_wp2_with fail
    go_ret;exact ⟨HF.out _ HE.out,HW.out⟩
  ·have hq:decide ((k:Int) < L.length) = false:=by simp; omega
   have HE:=zi5 (show (L.all fun x=>decide (x.length≤200)) = true by
    rw [List.all_eq_true];intro x hx;obtain ⟨j,hj,rfl⟩:=List.mem_iff_getElem.1 hx;have:=HA.out j (by omega);rw [List.getD,List.getElem?_eq_getElem hj] at this
    simpa using this)
   clear hbw;go_wp2_with fail
   go_ret;exact ⟨HF.out _ HE.out,HW.out⟩
end
section
open Go.RowKit Cal
def zhh (s:SchemaL) (P:List ParL) (k:Int × Int) (R:List RecL):List EncL × Int :=
 if zb0 s P = 0 then (if allN s R = 0 then (R.map (ziz s P k),0) else ([],allN s R)) else ([],zb0 s P)
def AllEPost (p:List EncL × Int) (w:World) (e:Ending) (w':World):Prop:=∃ v,e = .returned (.tuple #[v,.int .i64 p.2])∧EncsVec w' (fun x=>w.heap.size≤x) v p.1∧Below w.heap.size w w'
theorem encIn_all {s:SchemaL} {P:List ParL} {R:List RecL} (hc:zb0 s P = 0) (hR:allN s R = 0):∀ r∈R,EncIn s P r.vals:=fun r hr=>(zij hc ((allN_ok hR).2.2 r hr)).enc
theorem eall_any (S T:Nat→Prop) (vf vt vn vs rv:Value) (s:SchemaL) (P:List ParL) (pv:Value) (k:Int × Int) (R:List RecL) (w:World) (h:SchemaAt w S vf vt vn vs s) (hp:Vec w zaw 3 zbc pv P) (hr:RecsVec w T rv R) (hi:∀ p∈P,InI p.len) (hn:P.length≤1000000)
  (hs:∀ r∈R,∀ x∈r.vals,x.length≤1000000) (hm:∀ r∈R,r.vals.length≤1000000) (hR:R.length≤1000000) :
  Calls prog 24 #[.agg #[vf,vt,vn,vs],pv,.agg #[.int .u64 k.1,.int .u64 k.2],rv] w (AllEPost (zhh s P k R) w):=by
 obtain ⟨a,cap,rfl⟩:=hp.slice;obtain ⟨ar,cr,rfl⟩:=hr.slice;have HS:=zi5 h.any; have HP:=zi5 hp; have HR:=zi5 hr.any; have HI:=zi5 hi; have HSh:=zi5 hs; have HM:=zi5 hm;obtain ⟨ce,hce⟩:∃ c,zb0 s P = c:=⟨_,rfl⟩;obtain ⟨ca,hca⟩:∃ c,allN s R = c:=⟨_,rfl⟩;obtain ⟨Z,hZ⟩:∃ Z,zhh s P k R = Z:=⟨_,rfl⟩;rw [hZ];have HCe:=zi5 hce; have HCa:=zi5 hca; have HZ:=zi5 hZ;clear h hp hr hi hs hm hce hca hZ;go_enter func24,ntmps24
 go_wp2_with fail
 refine zae (fun W hW=>?_)
 have hb0:Below w.heap.size w W:=by rw [hW]; exact (((Below.refl w.heap.size w).alloc xnl _).alloc (by simp) _).alloc (by simp; omega) _
 have hs0:W.heap[w.heap.size]? = some (.cells #[vf,vt,vn,vs] 44 (0,0)):=by rw [hW]; exact zaf (zaf (zac rfl))
 have hp0:W.heap[w.heap.size + 1]? = some (.cells #[.slice a P.length cap] 23 (0,0)):=by rw [hW]; exact zaf (zac (by simp))
 have hk0:W.heap[w.heap.size + 2]? = some (.cells #[.int .u64 k.1,.int .u64 k.2] 26 (0,0)):=by rw [hW]; exact zac (by simp)
 clear hW;refine (zhv zaw _ _ _ _ s P _ _ (HS.out.below hb0) (HP.out.below hb0) HI.out hn).mono ?_;rw [HCe.out];rintro e w1 ⟨rfl,hb⟩;have HB1:=zi5 (hb0.trans (hb.mono hb0.size));have HX1:=zi5 (show CapB w.heap.size (w.heap.size + 1) (w.heap.size + 2) vf vt vn vs s a cap P k w1 from ⟨zab hb (zaa hs0) hs0,zab hb (zaa hp0) hp0,zab hb (zaa hk0) hk0,HS.out.below (hb0.trans (hb.mono hb0.size)),HP.out.below (hb0.trans (hb.mono hb0.size))⟩);clear hb hb0 hs0 hp0 hk0;obtain ⟨s0,s1,s2,s3⟩:=zan HX1.out.bs;have ls:=zaa HX1.out.bs;by_cases hc0:ce = 0;rotate_left
 ·have dz:(ce != 0) = true:=by simpa using hc0
  have hZ2:Z = ([],ce):=by rw [← HZ.out]; unfold zhh; rw [if_neg (by rw [HCe.out]; exact hc0),HCe.out]
  subst hZ2;clear HCe HCa HZ hc0;go_wp2_with fail
  go_ret2;exact ⟨_,rfl,EncsVec.nil _ _,HB1.out⟩
 have dz:(ce != 0) = false:=by simpa using hc0
 go_wp2_with fail
 refine (rall_any zaw zaw _ _ _ _ _ s R _ (HS.out.below HB1.out) (HR.out.below HB1.out) HSh.out HM.out hR).mono ?_;rw [HCa.out];rintro e w2 ⟨rfl,hb⟩;have HB2:=zi5 (HB1.out.trans (hb.mono HB1.out.size)); have HX2:=zi5 (HX1.out.below hb);clear hb s0 s1 s2 s3 ls;by_cases ha0:ca = 0;rotate_left
 ·have da:(ca != 0) = true:=by simpa using ha0
  have hZ2:Z = ([],ca):=by rw [← HZ.out]; unfold zhh; rw [if_pos (by rw [HCe.out]; exact hc0),if_neg (by rw [HCa.out]; exact ha0),HCa.out]
  subst hZ2;clear HCe HCa HZ hc0 ha0;go_wp2_with fail
  go_ret2;exact ⟨_,rfl,EncsVec.nil _ _,HB2.out⟩
 have da:(ca != 0) = false:=by simpa using ha0
 obtain ⟨L,hL⟩:∃ L,R.map (ziz s P k) = L:=⟨_,rfl⟩;have hZ2:Z = (L,0):=by rw [← HZ.out,← hL]; unfold zhh; rw [if_pos (by rw [HCe.out]; exact hc0),if_pos (by rw [HCa.out]; exact ha0)]
 have HEn:=zi5 (encIn_all (HCe.out.trans hc0) (HCa.out.trans ha0));have HZ3:=zi5 hZ2;have HL:=zi5 hL;clear HCe HCa HZ hc0 ha0 hZ2 hL;go_wp2_with fail
 refine (eachE_yes _ _ _ vf vt vn vs s a cap P k _ R _ HX2.out (HR.out.below HB2.out) HEn.out hR).mono ?_;rw [HL.out];rintro e w3 ⟨v,rfl,hv,hb⟩;obtain ⟨va,vc,rfl⟩:=hv.slice;have HV:=zi5 (hv.move (T:=fun x=>w.heap.size≤x) xnl fun x _ hx=>⟨rfl,by have hx':w2.heap.size≤x:=hx; have:=HB2.out.size; omega⟩)
 have HB3:=zi5 (HB2.out.trans (hb.mono HB2.out.size));clear hv hb;go_wp2_with fail
 go_ret2;rw [HZ3.out];exact ⟨_,rfl,HV.out,HB3.out⟩
end
section
open Go.RowKit Cal
abbrev Off (D:Nat):Nat→Prop:=fun b=>b≠D
theorem Vec.movedD {D:Nat} {w w':World} {α:Type} {k:Nat} {enc:α→List Value} {v:Value} {L:List α} (h:Vec w (Off D) k enc v L) (m:Moved D w w'):Vec w' (Off D) k enc v L :=
 h.move m.size fun b hb hs=>⟨m.grown.block b hb (by have:b≠D:=hs; simp; omega),hs⟩
theorem RecsVec.movedD {D:Nat} {w w':World} {v:Value} {R:List RecL} (h:RecsVec w (Off D) v R) (m:Moved D w w'):RecsVec w' (Off D) v R :=
 h.move m.size fun b hb hs=>⟨m.grown.block b hb (by have:b≠D:=hs; simp; omega),hs⟩
theorem Vec.off {D:Nat} {w:World} {S:Nat→Prop} {α:Type} {k:Nat} {enc:α→List Value} {v:Value} {L:List α} (h:Vec w S k enc v L) (hS:∀ b,b < w.heap.size→S b→b≠D):Vec w (Off D) k enc v L:=h.move xnl fun b hb hs=>⟨rfl,hS b hb hs⟩
theorem RecsVec.off {D:Nat} {w:World} {S:Nat→Prop} {v:Value} {R:List RecL} (h:RecsVec w S v R) (hS:∀ b,b < w.heap.size→S b→b≠D):RecsVec w (Off D) v R:=h.move xnl fun b hb hs=>⟨rfl,hS b hb hs⟩
def blkOf:Code→Code
 | .block _ c=>c
 | c=>c
structure ShortR (r:RecL):Prop where
 n:r.vals.length≤20
 s:∀ x∈r.vals,x.length≤200
theorem ShortR.n6 {r:RecL} (h:ShortR r):r.vals.length≤1000000:=by have:=h.n; omega
theorem ShortR.s6 {r:RecL} (h:ShortR r):∀ x∈r.vals,x.length≤1000000:=fun x hx=>by have:=h.s x hx; omega
theorem ShortR.of {s:SchemaL} {r:RecL} (hs:zax s = 0) (h:zb7 s r = 0):ShortR r:=by
 refine ⟨?_,fun x hx=>by have:=check_short h x hx; omega⟩
 have h1:=(zhe h).2.2.1;have h2:=(zcf hs).1.2;omega
theorem BitsVec.movedD {D:Nat} {w w':World} {v:Value} {L:List BitsL} (h:BitsVec w (Off D) v L) (m:Moved D w w'):BitsVec w' (Off D) v L :=
 h.move m.size fun b hb hs=>⟨m.grown.block b hb (by have:b≠D:=hs; simp; omega),hs⟩
theorem BitsVec.off {D:Nat} {w:World} {S:Nat→Prop} {v:Value} {L:List BitsL} (h:BitsVec w S v L) (hS:∀ b,b < w.heap.size→S b→b≠D):BitsVec w (Off D) v L:=h.move xnl fun b hb hs=>⟨rfl,hS b hb hs⟩
theorem BitsVec.any {w:World} {S:Nat→Prop} {v:Value} {L:List BitsL} (h:BitsVec w S v L):BitsVec w zaw v L:=h.move xnl fun b hb hs=>⟨rfl,trivial⟩
structure EX (D B Y:Nat) (W0:World) (key:Int × Int) (r:RecL) (ra:Option Addr) (rc:Nat) (o:EncL) (oa:Option Addr) (oc:Nat) (S:Nat→Prop) (vf vt vn vs:Value) (s:SchemaL) (rv:Value) (R:List RecL) (wr:World):Prop where
 m:Moved D W0 wr
 k:wr.heap[B]? = some (.cells #[.int .u64 key.1,.int .u64 key.2] 26 (0,0))
 x:wr.heap[B + 1]? = some (.cells #[.int .i64 r.id,.int .i64 r.ver,.slice ra r.vals.length rc] 29 (0,0))
 ob:wr.heap[B + 2]? = some (.cells #[.int .i64 o.id,.int .i64 o.ver,.slice oa o.fields.length oc] 32 (0,0))
 y:wr.heap[Y]? = some (.cells #[vf,vt,vn,vs] 44 (0,0))
 sa:SchemaAt wr S vf vt vn vs s
 rs:RecsVec wr (Off D) rv R
 vv:Vec wr (Off D) 1 za2 (.slice ra r.vals.length rc) r.vals
 oo:BitsVec wr (Off D) (.slice oa o.fields.length oc) o.fields
 ne:∀ b,S b→b≠D
 bD:B + 2 < D
 yD:Y≠D
theorem EX.moved {D B Y:Nat} {W0:World} {key:Int × Int} {r:RecL} {ra:Option Addr} {rc:Nat} {o:EncL} {oa:Option Addr} {oc:Nat} {S:Nat→Prop} {vf vt vn vs:Value} {s:SchemaL} {rv:Value} {R:List RecL} {wr wd:World} (h:EX D B Y W0 key r ra rc o oa oc S vf vt vn vs s rv R wr) (m:Moved D wr wd):EX D B Y W0 key r ra rc o oa oc S vf vt vn vs s rv R wd :=
 ⟨h.m.trans m,m.blk (by have:=h.bD; omega) h.k,m.blk (by have:=h.bD; omega) h.x,m.blk (by have:=h.bD; omega) h.ob,m.blk h.yD h.y,h.sa.moved h.ne m,h.rs.movedD m,h.vv.movedD m,h.oo.movedD m,h.ne,h.bD,h.yD⟩
theorem pars_bend {w:World} {S:Nat→Prop} {b off cap:Nat} {P:List ParL} (h:Vec w S 3 zbc (.slice (some ⟨b,off,none⟩) P.length cap) P) (i:Nat) (hi:i < P.length) (x:Int) :
  Vec (w.setCell ⟨b,off + i * 3 + 2,none⟩ (.int .i64 x)) S 3 zbc (.slice (some ⟨b,off,none⟩) P.length cap) (P.set i ⟨P[i].len,P[i].hashes,x⟩):=by
 obtain ⟨a,cap',h1,h2,h3⟩:=h;cases h1
 refine ⟨_,_,by rw [List.length_set],by rw [List.length_set]; exact h2,fun h0=>?_⟩
 obtain ⟨b',off',e,hS,hlt,hc⟩:=h3 (by omega);cases e
 refine ⟨b,off,rfl,hS,by simpa [World.setCell] using hlt,fun j y hj l u hu=>?_⟩
 have h2c:w.cell? ⟨b,off + i * 3 + 2,none⟩ = some (.int .i64 P[i].salt):=hc i P[i] (List.getElem?_eq_getElem hi) 2 _ rfl;have far:∀ q,q≠off + i * 3 + 2→(w.setCell ⟨b,off + i * 3 + 2,none⟩ (.int .i64 x)).cell? ⟨b,q,none⟩ = w.cell? ⟨b,q,none⟩:=fun q hq=>World.cell?_setCell_other _ _ _ _ (fun e=>hq (by simp at e; try omega))
 have hl3:l < 3:=by have:=(List.getElem?_eq_some_iff.1 hu).1; simpa using this
 by_cases hij:i = j
 ·subst hij
  rw [List.getElem?_set_self hi] at hj;cases hj
  match l,hu with
  | 0,hu=>cases hu; rw [far _ (by omega)]; exact hc i P[i] (List.getElem?_eq_getElem hi) 0 _ rfl
  | 1,hu=>cases hu; rw [far _ (by omega)]; exact hc i P[i] (List.getElem?_eq_getElem hi) 1 _ rfl
  | 2,hu=>cases hu; exact World.cell?_setCell_same _ _ _ h2c
  | l + 3,hu=>omega
 ·rw [List.getElem?_set_ne hij] at hj
  rw [far _ (by omega)];exact hc j y hj l u hu
theorem pars_in {n:Nat} {P:List ParL} (h:ParsD n n P):∀ p∈P,InI p.len:=by
 intro p hp;obtain ⟨i,hi,rfl⟩:=List.mem_iff_getElem.1 hp;have h1:=(h.par i (by rw [← h.len]; exact hi)).1;rw [zbi _ _ hi] at h1;exact ⟨by have:=h1.len1; omega,by have:=h1.len2; omega⟩
theorem bend_in {P:List ParL} (h:∀ p∈P,InI p.len) (i:Nat) (hi:i < P.length) (x:Int):∀ p∈P.set i ⟨P[i].len,P[i].hashes,x⟩,InI p.len:=by
 intro p hp
 rcases List.mem_or_eq_of_mem_set hp with h1 | rfl
 ·exact h p h1
 ·exact h P[i] (List.getElem_mem hi)
end
end Go.Proofs.YtpmpdonccgcehaaGreatDoor
