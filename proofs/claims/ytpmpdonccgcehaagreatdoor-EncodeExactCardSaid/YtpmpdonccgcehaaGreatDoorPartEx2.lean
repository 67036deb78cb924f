/- Parts of one proof: AddrD, AddrE, DateDig, MakeW, SchA, SchB, SchC, OpenSchema, CellOne, SipPlain, SchD, SchE, SchF, SchI, SchK, SchL, SchM, GramPlain, IterL, Iter, SchG, SchH, GramA, SchN, GramC, GramB, GramD, RecPlain, EncPlain, MakeA. -/
import Derived.Test.YtpmpdonccgcehaaGreatDoorPartEx1
import Derived.Deep.SlicePairs
import Derived.Deep.Strs
import Derived.Lib.SmallJoins
import Derived.OpenShut
import Derived.IntWalk
import Derived.Sort.KeysCollected
import Derived.Sort.Walk0
import Derived.Shelf.SlIter.Nil
import Derived.Shelf.SortM.Plain
import Derived.Shelf.SortM.SortNone
import Derived.Ground.GgzProg
import Derived.Ground.SlgmProg
import Derived.Maps.OwnSet
import Derived.StringKeys
import Derived.Lib.ItoaNum
set_option maxHeartbeats 16000000
set_option maxRecDepth 100000
open Go.Proofs.Tryz
set_option linter.unusedSimpArgs false
set_option linter.unusedVariables false
namespace Go.Proofs.YtpmpdonccgcehaaGreatDoor
section
open Go.RowKit
attribute [local go_sem] zah zaj
def zb8 (T:List (List UInt8)):List (List UInt8):=(T.filter fun x=>!zc1 x) ++ T.filter zc1
def zc3 (r:RulesL) (l:List UInt8):List UInt8 × Int :=
 if zaz r = 0 then (if zc6 l = true then (if 6 < (zcl (zb2 l)).length∨64 < (zay (zb8 ((zcl (zb2 l)).map (za3 r)))).length then ([],1) else (zay (zb8 ((zcl (zb2 l)).map (za3 r))),0)) else ([],3)) else ([],zaz r)
theorem addrTok_len {r:RulesL} (h:zcj r.streets = true) (x:List UInt8) (hx:x.length≤64):(za3 r x).length≤65:=by
 unfold za3;split
 ·have:=short_len x; omega
 ·have:=canon_len h x hx; omega
theorem order2_len (T:List (List UInt8)):(zb8 T).length≤2 * T.length:=by
 unfold zb8;have h1:=List.length_filter_le zc1 T;have h2:=List.length_filter_le (fun x=>!zc1 x) T
 simp; omega
theorem order2_mem {T:List (List UInt8)} {t:List UInt8} (h:t∈zb8 T):t∈T:=by
 unfold zb8 at h
 rcases List.mem_append.1 h with h | h
 ·exact (List.mem_filter.1 h).1
 ·exact (List.mem_filter.1 h).1
def AddrAt (w2:World) (A:Nat) (M:List (List UInt8)) (wr:World):Prop:=RowB wr A M∧Below w2.heap.size w2 wr∧w2.heap.size≤A
theorem AddrAt.below {w2 wr w':World} {A:Nat} {M:List (List UInt8)} (h:AddrAt w2 A M wr) (hb:Below wr.heap.size wr w'):AddrAt w2 A M w' :=
 ⟨zab hb (zaa h.1) h.1,h.2.1.trans (hb.mono h.2.1.size),h.2.2⟩
theorem AddrAt.set {w2 wr:World} {A:Nat} {M:List (List UInt8)} (h:AddrAt w2 A M wr) (k:Nat) (y:List UInt8):AddrAt w2 A (M.set k y) (wr.setCell ⟨A,k,none⟩ (zal y)) :=
 ⟨h.1.set k y,h.2.1.setCell h.2.2 _,h.2.2⟩
theorem addr_yes (S:Nat→Prop) (vt vn vs:Value) (r:RulesL) (s:ByteArray) (w:World) (h:RulesAt w S vt vn vs r) (hc:zaz r = 0) (hv:zc6 s.data.toList = true) :
  Calls prog 302 #[.agg #[vt,vn,vs],.string s] w fun e w'=>e = .returned (zdf (zc3 r s.data.toList))∧Below w.heap.size w w':=by
 have hs:s.size≤64:=by
  have:=zf9 hv;have h2:s.data.toList.length = s.size:=by simp
  omega
 obtain ⟨⟨k1,k2,k3⟩,g1,g2,g3,g4⟩:=zes hc;have G3:=zi5 g3;obtain ⟨avs,cvs,rfl⟩:=h.2.2.slice;have HR:=zi5 h.any;have HC:=zi5 hc; have HV:=zi5 hv;clear h hc hv g1 g2 g3 g4
 have hfin:zc3 r s.data.toList = (if 6 < (zcl (zb2 s.data.toList)).length∨64 < (zay (zb8 ((zcl (zb2 s.data.toList)).map (za3 r)))).length then ([],1) else (zay (zb8 ((zcl (zb2 s.data.toList)).map (za3 r))),0)):=by
  unfold zc3; rw [if_pos HC.out,if_pos HV.out]
 have HF:=zi5 hfin; clear hfin;go_enter func302,ntmps302
 go_wp2_with fail
 refine (zeo zaw vt vn _ r _ (HR.out.below ((Below.refl _ _).alloc xnl _))).mono ?_;rw [HC.out];rintro e w1 ⟨rfl,hb1⟩;have X1:w1.heap[w.heap.size]? = some (.cells #[vt,vn,.slice avs r.streets.length cvs] 42 (0,0)):=zab hb1 (by simp) (zac rfl);have HX1:=zi5 X1;have HB1:=zi5 (xbt hb1);clear X1 hb1;go_wp2_with fail
 refine (fold_yes s _ (by omega) HV.out).mono ?_;rintro e w2 ⟨rfl,hb2⟩;have HX2:=zi5 (zab hb2 (zaa HX1.out) HX1.out);have HB2:=zi5 (HB1.out.trans (hb2.mono HB1.out.size));clear hb2 HX1 HB1;go_wp2_with fail
 have hfl:(zb2 s.data.toList).length≤64:=by
  have:=zgn s.data.toList;have h2:s.data.toList.length = s.size:=by simp
  omega
 obtain ⟨fl,hfl'⟩:∃ fl,zb2 s.data.toList = fl:=⟨_,rfl⟩;have hasc:ascii fl:=hfl' ▸ zhs _;have HA:=zi5 hasc;rw [hfl'] at hfl HF ⊢;clear hasc hfl';refine (zfz fl _ HA.out (by omega)).mono ?_;rintro e w4 ⟨A,rfl,hA,ho,hb4⟩;have hrow:=(own_block ho).2;have htl:∀ t∈zcl fl,t.length≤64:=fun t ht=>by have:=toks_le fl [] t ht; simp at this; omega
 have htn:(zcl fl).length≤65:=by have:=(zdl fl []).2.1; unfold zcl; omega
 obtain ⟨T,hT⟩:∃ T,zcl fl = T:=⟨_,rfl⟩;rw [hT] at hrow htl htn HF ⊢;have HAt:=zi5 (show AddrAt w2 A T w4 from ⟨hrow,hb4,hA⟩); have HTL:=zi5 htl;have zX2:=zaa HX2.out;clear hb4 ho hrow hT htl hA;go_wp2_with fail
 go_loopw [33] (fun i wr=>∃ k:Nat,k≤T.length∧i = .int .i64 k∧AddrAt w2 A (midL (za3 r) T k) wr) (fun i _=>T.length - (intOf i).toNat)
 case atStart=>exact ⟨0,by omega,rfl,by simpa [midL] using HAt.out⟩
 case round =>
  obtain ⟨k,hk,rfl,ho⟩:=hrel;have HO:=zi5 ho; clear ho;by_cases hlt:k < T.length
  ·have hq:decide ((k:Int) < T.length) = true:=by simp; omega
   have hi:(k:Int) < (T.length:Int):=by omega
   have hml:=mid_len (za3 r) T k hk;have c1:=HO.out.1.cell k (by omega);rw [mid_get _ _ _ hlt] at c1;have hxl:(T.getD k []).length≤64:=TL_get HTL.out k hlt;have hset:=mid_set (za3 r) T k hlt;have hsame:=mid_same (za3 r) T k hlt;have hfx:za3 r (T.getD k []) = if zc1 (T.getD k []) = true then zbn (T.getD k []) else zbe r.streets (T.getD k []):=rfl
   have hcf:=zgc r.streets (T.getD k []);obtain ⟨x,hx⟩:∃ x,T.getD k [] = x:=⟨_,rfl⟩;rw [hx] at c1 hxl hset hsame hfx hcf;have HSet:=zi5 hset; have HSame:=zi5 hsame; have HFx:=zi5 hfx;clear hx hset hsame hfx hml;have hX:=zab HO.out.2.1 zX2 HX2.out;obtain ⟨p0,p1,p2⟩:=zai hX;have zX:=zaa hX;have HX:=zi5 hX; clear hX;go_wp2_with fail
   have eg:∀ args w,(callFunc 323 args).run prog w = .ok (.enter 323 args) w:=enters_of func323 (by kernel_rfl) rfl
   have KI:=idxP_any (fun y=>y.1 == x) 323 #[.pointer (some ⟨wr.heap.size,0,none⟩)] eg zaw (.slice avs r.streets.length cvs) r.streets (wr.alloc (.cells #[zal x] 9)) (HR.out.2.2.below (HB2.out.trans (HO.out.2.1.mono HB2.out.size) |>.alloc (by have:=HB2.out.size; have:=HO.out.2.1.size; omega) _)) (by omega) (pred_addr x wr.heap.size _ (by simp) (by simp))
   change Calls _ _ _ _ fun e w'=>e = .returned (.int .i64 (zix r.streets x))∧Below (wr.alloc (.cells #[zal x] 9)).heap.size (wr.alloc (.cells #[zal x] 9)) w' at KI
   obtain ⟨n,hn⟩:∃ n,zix r.streets x = n:=⟨_,rfl⟩;rw [hn] at KI hcf;refine KI.mono ?_;clear eg hn KI;rintro e w5 ⟨rfl,hb5⟩;have hal:Below wr.heap.size wr (wr.alloc (.cells #[zal x] 9)):=(Below.refl _ _).alloc xnl _;have HO5:=zi5 ((HO.out.below hal).below hb5);have hX5:w5.heap[w.heap.size]? = some (.cells #[vt,vn,.slice avs r.streets.length cvs] 42 (0,0)):=zab hb5 (by simp; omega) (zaf HX.out);have k0:w5.cell? ⟨wr.heap.size,0,none⟩ = some (zal x):=(hb5.cell (p:=⟨wr.heap.size,0,none⟩) (by simp)).trans (by simp);clear p0 p1 p2 hal hb5 HO c1;obtain ⟨p0,p1,p2⟩:=zai hX5;have hAl:=zaa HO5.out.1;have hml:=mid_len (za3 r) T k hk;have c5:w5.cell? ⟨A,k,none⟩ = some (zal ((midL (za3 r) T k).getD k [])):=HO5.out.1.cell k (by omega);have f5:w5.frozen? ⟨A,k,none⟩ = false:=frozen_of_row _ _ _ _ _ HO5.out.1;generalize (midL (za3 r) T k).getD k [] = old at c5;clear hX5 HX hml;go_wp2_with fail
   refine (zh6 x _).mono ?_;rintro e w6 ⟨rfl,rfl⟩;cases hd:zc1 x
   ·rw [hd,if_neg (by simp)] at HFx
    clear hd
    rcases hcf with ⟨h1,h2⟩ | ⟨j,hj,h1,h2⟩
    ·rw [h2] at HFx
     have HS:=zi5 (HSame.out HFx.out);clear h2 HSame HSet;go_wp2_with fail
     go_roundw
     case rel=>exact ⟨k + 1,by omega,by go_num,by rw [← HS.out]; exact HO5.out⟩
     case measure=>simp [intOf]; omega
    ·rw [← h2] at HFx
     have HS:=zi5 (HSet.out _ HFx.out);subst h1;obtain ⟨bs,offs,e1,_,hbs,hcs⟩:=zcm HR.out.2.2 (by omega);have hcs1:=hcs j hj 1 _ rfl;subst e1;have s1:w5.cell? ⟨bs,offs + j * 2 + 1,none⟩ = some (zal (r.streets.getD j default).2):=((HB2.out.trans (HO5.out.2.1.mono HB2.out.size)).cell (p:=⟨bs,offs + j * 2 + 1,none⟩) hbs).trans hcs1;obtain ⟨y,hy⟩:∃ y,(r.streets.getD j default).2 = y:=⟨_,rfl⟩;rw [hy] at s1 HS;have hj':(j:Int) < (r.streets.length:Int):=by omega
     clear hcs hcs1 hy h2 HSame HSet HFx;go_wp2_with fail
     go_roundw
     case rel=>exact ⟨k + 1,by omega,by go_num,by rw [← HS.out]; exact HO5.out.set k y⟩
     case measure=>simp [intOf]; omega
   ·rw [hd,if_pos rfl] at HFx
    have HS:=zi5 (HSet.out _ HFx.out);clear hd HSame HSet hcf;go_wp2_with fail
    refine (short_any x _ (by omega)).mono ?_;rintro e w6 ⟨rfl,rfl⟩;go_wp2_with fail
    go_roundw
    case rel=>exact ⟨k + 1,by omega,by go_num,by rw [← HS.out]; exact HO5.out.set k _⟩
    case measure=>simp [intOf]; omega
  ·have hq:decide ((k:Int) < T.length) = false:=by simp; omega
   obtain rfl:k = T.length:=by omega
   have hm:midL (za3 r) T T.length = T.map (za3 r):=by unfold midL; simp
   rw [hm] at HO;have hMl:(T.map (za3 r)).length = T.length:=by simp
   have hmem:∀ t∈T.map (za3 r),t.length≤65:=by
    intro t ht;obtain ⟨x,hx,rfl⟩:=List.mem_map.1 ht;exact addrTok_len G3.out x (HTL.out x hx)
   obtain ⟨M,hM⟩:∃ M,T.map (za3 r) = M:=⟨_,rfl⟩;rw [hM] at HO hMl hmem HF;have hjl:=join_le (zb8 M) (fun t ht=>hmem t (order2_mem ht))
   have hol:=order2_len M;have HVM:=zi5 (HO.out.1.vec T.length (by omega));rw [hMl] at HVM;have HML:=zi5 hMl;have HWr:=zi5 (HO.out.2.1.mono HB2.out.size);have HW:=zi5 (HB2.out.trans (HO.out.2.1.mono HB2.out.size))
   have hjb:(zay (zb8 M)).length≤1000000:=by
    have:(zb8 M).length * 66≤130 * 66:=Nat.mul_le_mul_right 66 (by omega);omega
   have hol':(zb8 M).length≤1000:=by omega
   have hM2:M.length≤100:=by omega
   clear hm hM hmem hjl hol hMl HO;go_wp2_with fail
   refine (part_any zaw _ M _ HVM.out (by omega)).mono ?_;rintro e w6 ⟨u,v,rfl,h2⟩;obtain ⟨o1,o2,o3,o4⟩:=h2;obtain ⟨i0,hi0,hz0,hz1,hz2⟩:=info_parts zdi;have hyl:=List.length_filter_le zc1 M;have hnl:=List.length_filter_le (fun x=>!zc1 x) M
   have hord:zb8 M = (M.filter fun x=>!zc1 x) ++ M.filter zc1:=rfl
   obtain ⟨Y,hY⟩:∃ Y,M.filter zc1 = Y:=⟨_,rfl⟩;obtain ⟨N,hN⟩:∃ N,(M.filter fun x=>!zc1 x) = N:=⟨_,rfl⟩
   rw [hY] at o1 hyl hord;rw [hN] at o2 hnl hord;have HW6:=zi5 (HW.out.trans (o4.mono HW.out.size));have hbz:=o4.size;have O2:=zi5 o2;have HO4:=zi5 o4;clear hY hN o3 o4 HW
   rcases o1 with ⟨o1l,⟨rfl,h0⟩ | ⟨g,cap,cur,rfl,hg,hh,hn1,hc1,hsz,ht1⟩⟩
   ·have hY0:Y = []:=List.length_eq_zero_iff.1 h0
    subst hY0;rw [List.append_nil] at hord;have HV7:=zi5 (Vec.owns (S:=zaw) (k:=1) (enc:=za2) (fun _=>rfl) o2 (fun _ _ _=>trivial))
    clear o1l h0 o2;rw [hord] at HF hjb hol';have HW7:=HW6;go_wp2_with (at_builtin; refine wpList_append_own_none rfl _ _ 27 rfl _ 9 i0 1 underlying27 hi0 _ _ _ rfl O2.out rfl ?_)
    refine (join_any zaw _ N _ HV7.out (by omega) (by omega)).mono ?_;rintro e w9 ⟨rfl,hb9⟩;rw [← hord] at HF hjb ⊢;clear hord hol';have HW9:=zi5 (HW7.out.trans (hb9.mono HW7.out.size)); clear hb9;obtain ⟨J,hJ⟩:∃ J,zay (zb8 M) = J:=⟨_,rfl⟩;rw [hJ] at HF hjb ⊢;clear hJ;by_cases g1:6 < T.length
    ·have d1:decide ((6:Int) < T.length) = true:=by simp; omega
     rw [if_pos (.inl g1)] at HF;go_wp2_with fail
     go_ret2;exact ⟨by rw [HF.out]; rfl,HW9.out⟩
    ·have d1:decide ((6:Int) < T.length) = false:=by simp; omega
     by_cases g2:64 < J.length
     ·have d2:decide ((64:Int) < J.length) = true:=by simp; omega
      rw [if_pos (.inr g2)] at HF;go_wp2_with fail
      go_ret2;exact ⟨by rw [HF.out]; rfl,HW9.out⟩
     ·have d2:decide ((64:Int) < J.length) = false:=by simp; omega
      rw [if_neg (by omega)] at HF;go_wp2_with fail
      go_ret2;exact ⟨by rw [HF.out]; rfl,HW9.out⟩
   ·have hcells:∀ j u,(Y.flatMap za2)[j]? = some u→w6.cell? ((⟨g,0,none⟩:Addr).add j) = some u:=by
     intro j u hu;have:(⟨g,0,none⟩:Addr).add j = ⟨g,j,none⟩:=by unfold Addr.add; split <;> simp_all
     rw [this,cell_of_row _ _ _ _ _ _ hh];rw [← ht1,List.getElem?_take] at hu;split at hu
     ·rw [← Array.getElem?_toList]; exact hu
     ·cases hu
    have HCl:=zi5 hcells
    have hone:∀ u∈Y.flatMap za2,u.oneCell' = true:=by
     intro u hu;obtain ⟨y,_,hy⟩:=List.mem_flatMap.1 hu;simp at hy; subst hy; rfl
    have HOne:=zi5 hone;have hYb:N.length + Y.length≤1000:=by omega
    have hmx:N.length + Y.length≤maxLen:=zc5 (by omega);have HMx:=zi5 hmx;clear o1l hg hh hn1 hc1 hsz ht1 hcells hone o2 hmx;go_wp2_with (at_builtin; refine wpList_append_own _ rfl _ _ 27 rfl wr.heap.size 9 i0 (.string ⟨#[]⟩) 1 16 underlying27 hi0 hz0 hz1 hz2 rfl (by decide) _ _ _ rfl O2.out ⟨g,0,none⟩ Y.length cap (Y.flatMap za2) rfl (by rw [flat_len1]; omega) HCl.out HOne.out HMx.out (by omega) hbz ?_; intro v7 w7 ho7 hg7 _)
    rw [show N.length + Y.length = (N ++ Y).length by simp,← List.flatMap_append,← hord] at ho7;have HV7:=zi5 (Vec.owns (S:=zaw) (k:=1) (enc:=za2) (fun _=>rfl) ho7 (fun _ _ _=>trivial))
    have hbw7:Below wr.heap.size wr w7:=HO4.out.grown hg7 hbz (fun j hj=>(O2.out.lt j hj).1)
    have HW7:=zi5 ((HB2.out.trans HWr.out).trans (hbw7.mono (HB2.out.trans HWr.out).size));clear ho7 hg7 hbw7 HCl HOne HMx;refine (join_any zaw _ (zb8 M) _ HV7.out (by omega) (by omega)).mono ?_;rintro e w9 ⟨rfl,hb9⟩;clear hord hol';have HW9:=zi5 (HW7.out.trans (hb9.mono HW7.out.size)); clear hb9;obtain ⟨J,hJ⟩:∃ J,zay (zb8 M) = J:=⟨_,rfl⟩;rw [hJ] at HF hjb ⊢;clear hJ;by_cases g1:6 < T.length
    ·have d1:decide ((6:Int) < T.length) = true:=by simp; omega
     rw [if_pos (.inl g1)] at HF;go_wp2_with fail
     go_ret2;exact ⟨by rw [HF.out]; rfl,HW9.out⟩
    ·have d1:decide ((6:Int) < T.length) = false:=by simp; omega
     by_cases g2:64 < J.length
     ·have d2:decide ((64:Int) < J.length) = true:=by simp; omega
      rw [if_pos (.inr g2)] at HF;go_wp2_with fail
      go_ret2;exact ⟨by rw [HF.out]; rfl,HW9.out⟩
     ·have d2:decide ((64:Int) < J.length) = false:=by simp; omega
      rw [if_neg (by omega)] at HF;go_wp2_with fail
      go_ret2;exact ⟨by rw [HF.out]; rfl,HW9.out⟩
end
section
open Go.RowKit
attribute [local go_sem] zah zaj
theorem addr_no (S:Nat→Prop) (vt vn vs:Value) (r:RulesL) (s:ByteArray) (w:World) (h:RulesAt w S vt vn vs r) (hs:s.size≤9223372036854775000) (hc:zaz r = 0) (hv:zc6 s.data.toList = false) :
  Calls prog 302 #[.agg #[vt,vn,vs],.string s] w fun e w'=>e = .returned (zdf (zc3 r s.data.toList))∧Below w.heap.size w w':=by
 have HR:=zi5 h.any;have HC:=zi5 hc; have HV:=zi5 hv;clear h hc hv;have HF:=zi5 (show zc3 r s.data.toList = ([],3) by unfold zc3; rw [if_pos HC.out,if_neg (by rw [HV.out]; simp)]);go_enter func302,ntmps302
 go_wp2_with fail
 refine (zeo zaw vt vn vs r _ (HR.out.below ((Below.refl _ _).alloc xnl _))).mono ?_;rw [HC.out];rintro e w1 ⟨rfl,hb1⟩;have HB1:=zi5 (xbt hb1);clear hb1;go_wp2_with fail
 refine (fold_no s _ hs HV.out).mono ?_;rintro e w2 ⟨rfl,hb2⟩;have HB2:=zi5 (HB1.out.trans (hb2.mono HB1.out.size));clear hb2 HB1;go_wp2_with fail
 go_ret2;exact ⟨by rw [HF.out]; rfl,HB2.out⟩
theorem addr_bad (S:Nat→Prop) (vt vn vs:Value) (r:RulesL) (s:ByteArray) (w:World) (h:RulesAt w S vt vn vs r) (hc:zaz r≠0) :
  Calls prog 302 #[.agg #[vt,vn,vs],.string s] w fun e w'=>e = .returned (zdf (zc3 r s.data.toList))∧Below w.heap.size w w':=by
 have HR:=zi5 h.any;have HF:=zi5 (show zc3 r s.data.toList = ([],zaz r) by unfold zc3; rw [if_neg hc]);have hne:(zaz r != 0) = true:=by simpa using hc
 clear h hc;go_enter func302,ntmps302
 go_wp2_with fail
 refine (zeo zaw vt vn vs r _ (HR.out.below ((Below.refl _ _).alloc xnl _))).mono ?_;obtain ⟨c,hcc⟩:∃ c,zaz r = c:=⟨_,rfl⟩;rw [hcc] at hne HF ⊢;clear hcc;rintro e w1 ⟨rfl,hb1⟩;have HB1:=zi5 (xbt hb1);clear hb1;go_wp2_with fail
 go_ret2;exact ⟨by rw [HF.out]; rfl,HB1.out⟩
theorem addr_any (S:Nat→Prop) (vt vn vs:Value) (r:RulesL) (s:ByteArray) (w:World) (h:RulesAt w S vt vn vs r) (hs:s.size≤9223372036854775000) :
  Calls prog 302 #[.agg #[vt,vn,vs],.string s] w fun e w'=>e = .returned (zdf (zc3 r s.data.toList))∧Below w.heap.size w w':=by
 by_cases hc:zaz r = 0
 ·cases hv:zc6 s.data.toList with
  | true=>exact addr_yes S vt vn vs r s w h hc hv
  | false=>exact addr_no S vt vn vs r s w h hs hc hv
 ·exact addr_bad S vt vn vs r s w h hc
theorem anormal_any (S:Nat→Prop) (vt vn vs:Value) (r:RulesL) (s:ByteArray) (w:World) (h:RulesAt w S vt vn vs r) (hs:s.size≤9223372036854775000) :
  Calls prog 303 #[.agg #[vt,vn,vs],.string s] w fun e w'=>e = .returned (.bool (zee (zc3 r s.data.toList) s.data.toList))∧Below w.heap.size w w':=by
 have HR:=zi5 h.any; clear h;have HS:=zi5 (Lib.toList_data s);go_enter func303,ntmps303
 go_wp2_with fail
 refine (addr_any zaw vt vn vs r s _ (HR.out.below ((Below.refl _ _).alloc xnl _)) hs).mono ?_;obtain ⟨p,hp⟩:∃ p,zc3 r s.data.toList = p:=⟨_,rfl⟩;rw [hp];have HP:=zi5 hp; clear hp;obtain ⟨pl,pe⟩:=p;unfold zdf;rintro e w1 ⟨rfl,hb1⟩;have HB1:=zi5 (xbt hb1);clear hb1;cases he:(pe == 0)
 all_goals
  go_wp2_with fail
  go_ret;refine ⟨za0 ?_,HB1.out⟩;rw [HP.out];simp [zee,he,HS.out]
def zdn (l:List UInt8):List UInt8 × Int :=
 if zc6 l = true then (if 12 < (zcl (zb2 l)).flatten.length then ([],1) else ((zcl (zb2 l)).flatten,0)) else ([],3)
theorem join_flat (L:List (List UInt8)):Lib.join L [] = L.flatten:=by
 induction L with
 | nil=>rfl
 | cons a L ih =>
  rw [Lib.join_cons,List.flatten_cons];congr 1;unfold Lib.joinTail;simp
theorem flat_le (l:List UInt8):∀ p,(zby p l).flatten.length≤p.length + l.length:=by
 induction l with
 | nil=>intro p; simp only [zby]; split <;> simp
 | cons c l ih =>
  intro p;by_cases hc:c = 32
  ·subst hc
   by_cases hp:p = []
   ·subst hp; rw [zbm]; have:=ih []; simp at *; omega
   ·rw [zb3 _ _ hp]; have:=ih []; simp at *; omega
  ·rw [zb4 _ _ _ hc]; have:=ih (p ++ [c]); simp at *; omega
theorem code_any (s:ByteArray) (w:World) (hs:s.size≤9223372036854775000) :
  Calls prog 298 #[.string s] w fun e w'=>e = .returned (zdf (zdn s.data.toList))∧Below w.heap.size w w':=by
 cases hv:zc6 s.data.toList
 ·have HV:=zi5 hv
  have HF:=zi5 (show zdn s.data.toList = ([],3) by unfold zdn; rw [if_neg (by rw [hv]; simp)]);clear hv;go_enter func298,ntmps298
  go_wp2_with fail
  refine (fold_no s _ hs HV.out).mono ?_;rintro e w2 ⟨rfl,hb2⟩;go_wp2_with fail
  go_ret2;exact ⟨by rw [HF.out]; rfl,hb2⟩
 ·have hs64:s.size≤64:=by
   have:=zf9 hv;have h2:s.data.toList.length = s.size:=by simp
   omega
  have hfl:(zb2 s.data.toList).length≤64:=by
   have:=zgn s.data.toList;have h2:s.data.toList.length = s.size:=by simp
   omega
  have HV:=zi5 hv
  have hfin:zdn s.data.toList = (if 12 < (zcl (zb2 s.data.toList)).flatten.length then ([],1) else ((zcl (zb2 s.data.toList)).flatten,0)):=by
   unfold zdn; rw [if_pos hv]
  clear hv;obtain ⟨fl,hfl'⟩:∃ fl,zb2 s.data.toList = fl:=⟨_,rfl⟩;have HA:=zi5 (show ascii fl from hfl' ▸ zhs _);rw [hfl'] at hfl hfin;have HFl:=zi5 hfl';have HF:=zi5 hfin; clear hfin hfl';go_enter func298,ntmps298
  go_wp2_with fail
  refine (fold_yes s _ (by omega) HV.out).mono ?_;rw [HFl.out];rintro e w2 ⟨rfl,hb2⟩;have HB2:=zi5 hb2; clear hb2;go_wp2_with fail
  refine (zfz fl _ HA.out (by omega)).mono ?_;rintro e w4 ⟨A,rfl,hA,ho,hb4⟩;have hrow:=(own_block ho).2;have HB4:=zi5 (HB2.out.trans (hb4.mono HB2.out.size));have htn:(zcl fl).length≤65:=by have:=(zdl fl []).2.1; unfold zcl; omega
  have hfle:(zcl fl).flatten.length≤64:=by have:=flat_le fl []; simp at this; unfold zcl; simp; omega
  obtain ⟨T,hT⟩:∃ T,zcl fl = T:=⟨_,rfl⟩;rw [hT] at hrow htn hfle HF ⊢
  have hjj:Lib.join ((T.map mkS).map (·.data.toList)) [] = T.flatten:=by
   rw [List.map_map,← join_flat]; congr 1; conv=>rhs; rw [← List.map_id T]
   exact List.map_congr_left fun x _=>by simp [mkS]
  have hj:=Tryz.strings_Join A 0 T.length (T.map mkS) ⟨#[]⟩ w4 (fun j x hx=>by
    rw [List.getElem?_map] at hx;obtain ⟨y,hy,rfl⟩:=Option.map_eq_some_iff.1 hx;have hj':j < T.length:=(List.getElem?_eq_some_iff.1 hy).1;have:=hrow.cell j hj';rw [List.getD,hy] at this
    simpa [mkS] using this) (zaa hrow) (by simp; omega) (by simp) (by rw [show (⟨#[]⟩:ByteArray).data.toList = [] from rfl,hjj]; omega)
  rw [show (⟨#[]⟩:ByteArray).data.toList = [] from rfl,hjj,List.length_map] at hj;have HJ:=zi5 hj;clear hb4 ho hrow hT hA hj hjj HB2;go_wp2_with fail
  refine HJ.out.mono ?_;obtain ⟨J,hJ⟩:∃ J,T.flatten = J:=⟨_,rfl⟩;rw [hJ] at HF hfle ⊢;clear hJ HJ;rintro e w5 ⟨rfl,hb5⟩;have HB5:=zi5 (HB4.out.trans (hb5.mono HB4.out.size)); clear hb5 HB4;by_cases g1:12 < J.length
  ·have d1:decide ((12:Int) < J.length) = true:=by simp; omega
   rw [if_pos g1] at HF;go_wp2_with fail
   go_ret2;exact ⟨by rw [HF.out]; rfl,HB5.out⟩
  ·have d1:decide ((12:Int) < J.length) = false:=by simp; omega
   rw [if_neg g1] at HF;go_wp2_with fail
   go_ret2;exact ⟨by rw [HF.out]; rfl,HB5.out⟩
theorem normed_any (s:ByteArray) (w:World) (hs:s.size≤9223372036854775000) :
  Calls prog 300 #[.string s] w fun e w'=>e = .returned (.bool (zee (zdn s.data.toList) s.data.toList))∧Below w.heap.size w w':=by
 have HS:=zi5 (Lib.toList_data s);go_enter func300,ntmps300
 go_wp2_with fail
 refine (code_any s _ hs).mono ?_;obtain ⟨p,hp⟩:∃ p,zdn s.data.toList = p:=⟨_,rfl⟩;rw [hp];have HP:=zi5 hp; clear hp;obtain ⟨pl,pe⟩:=p;unfold zdf;rintro e w1 ⟨rfl,hb1⟩;have HB1:=zi5 hb1;clear hb1;cases he:(pe == 0)
 all_goals
  go_wp2_with fail
  go_ret;refine ⟨za0 ?_,HB1.out⟩;rw [HP.out];simp [zee,he,HS.out]
end
section
open Go.RowKit Cal
def isDig (l:List UInt8):Prop:=∀ c∈l,48≤c.toNat∧c.toNat≤57
def valD:List UInt8→Nat
 | []=>0
 | c :: cs=>(c.toNat - 48) * 10 ^ cs.length + valD cs
theorem valD_append (l r:List UInt8):valD (l ++ r) = valD l * 10 ^ r.length + valD r:=by
 induction l with
 | nil=>simp [valD]
 | cons c cs ih=>simp only [List.cons_append,valD,ih,List.length_append,Nat.pow_add,Nat.add_mul]; rw [Nat.mul_assoc]; omega
theorem numFrom_dig (l:List UInt8) (h:isDig l):∀ n:Nat,za4 (n:Int) l = some ((n * 10 ^ l.length + valD l:Nat):Int):=by
 induction l with
 | nil=>intro n; simp [za4,valD]
 | cons c cs ih =>
  intro n;have h1:=h c (by simp);have h2:=ih fun x hx=>h x (by simp [hx])
  have e:(10 * (n:Int) + ((c.toNat:Int) - 48)) = ((10 * n + (c.toNat - 48):Nat):Int):=by omega
  rw [za4,if_pos (by omega),e,h2];congr 2;simp only [valD,List.length_cons,Nat.pow_succ,Nat.add_mul];have:10 * n * 10 ^ cs.length = n * (10 ^ cs.length * 10):=by rw [Nat.mul_comm 10 n,Nat.mul_assoc,Nat.mul_comm 10]
  omega
theorem numI_dig (l:List UInt8) (h:isDig l):zdy l = valD l:=by
 unfold zdy;have:=numFrom_dig l h 0;simp only [Int.natCast_zero] at this;rw [show (0:Int) = ((0:Nat):Int) from rfl,numFrom_dig l h 0];simp
theorem zel (k:Nat):∀ n,(dg n k).length = k:=by
 induction k with
 | zero=>intro n; rfl
 | succ k ih=>intro n; simp [dg,ih]
theorem dg_dig (k:Nat):∀ n:Int,0≤n→isDig (dg n k):=by
 induction k with
 | zero=>intro n _ c hc; simp [dg] at hc
 | succ k ih =>
  intro n hn c hc;simp only [dg,List.mem_append,List.mem_singleton] at hc
  rcases hc with hc | rfl
  ·exact ih (n / 10) (by omega) c hc
  ·have:(UInt8.ofNat (48 + (n % 10).toNat)).toNat = 48 + (n % 10).toNat:=by rw [UInt8.toNat_ofNat']; omega
   omega
theorem dg_val (k:Nat):∀ n:Int,0≤n→n < 10 ^ k→(valD (dg n k):Int) = n:=by
 induction k with
 | zero=>intro n h0 h1; simp at h1; simp [dg,valD]; omega
 | succ k ih =>
  intro n hn h1;have e:(UInt8.ofNat (48 + (n % 10).toNat)).toNat = 48 + (n % 10).toNat:=by rw [UInt8.toNat_ofNat']; omega
  have h2:n / 10 < 10 ^ k:=by rw [Int.pow_succ] at h1; omega
  have:=ih (n / 10) (by omega) h2;simp only [dg,valD_append,valD,List.length_cons,List.length_nil,e];simp;omega
theorem digits8_len (y m d:Int):(zdk y m d).length = 8:=by simp [zdk,zel]
end
section
open Go.RowKit Cal
attribute [local go_sem] zel
@[local go_sem] theorem zar (a b:List UInt8):(⟨a.toArray⟩:ByteArray) ++ ⟨b.toArray⟩ = ⟨(a ++ b).toArray⟩:=by
 apply ByteArray.ext; simp
theorem ret_str {a b:List UInt8} (h:a = b):Ending.returned (.string ⟨a.toArray⟩) = .returned (.string ⟨b.toArray⟩):=by rw [h]
theorem dgb (n:Int) (h:0≤n):ze1 (UInt8.ofNat (48 + (n % 10).toNat)) = .int .u8 (48 + n % 10):=by
 have:(UInt8.ofNat (48 + (n % 10).toNat)).toNat = 48 + (n % 10).toNat:=by rw [UInt8.toNat_ofNat']; omega
 unfold ze1; rw [this]; congr 1; omega
theorem owns_new {w:World} {B:Nat} {e:TypeId} (l:List UInt8) (hB:B≤w.heap.size) (hl:l.length≤1000) :
  (w.alloc (.cells (l.map ze1).toArray e)).ownsRow B e 1 (.slice (some ⟨w.heap.size,0,none⟩) l.length l.length) l.length (l.map ze1) :=
 ⟨by simp,.inr ⟨_,_,_,rfl,hB,zac rfl,Nat.le_refl _,zc5 (by omega),by simp,by rw [List.take_of_length_le (by simp)]⟩⟩
theorem two_any (n:Int) (w:World) (h0:0≤n) (h1:n≤99) :
  Calls prog 171 #[.int .i64 n] w fun e w'=>e = .returned (.string ⟨(dg n 2).toArray⟩)∧Below w.heap.size w w':=by
 have ha:0≤n / 10 % 10∧n / 10 % 10≤9:=by omega
 have hb:0≤n % 10∧n % 10≤9:=by omega
 obtain ⟨ha1,ha2⟩:=ha;obtain ⟨hb1,hb2⟩:=hb
 have hcv:∀ w:World,(convert 181 9 (.slice (some ⟨w.heap.size,0,none⟩) 2 2)).run prog (w.alloc (.cells #[.int .u8 (48 + n / 10 % 10),.int .u8 (48 + n % 10)] 5)) = .ok (.string ⟨(dg n 2).toArray⟩) (w.alloc (.cells #[.int .u8 (48 + n / 10 % 10),.int .u8 (48 + n % 10)] 5)):=by
  intro w;have ho:=owns_new (w:=w) (B:=0) (e:=5) (dg n 2) (Nat.zero_le _) (by rw [zel]; omega);rw [zel] at ho
  have e1:(dg n 2).map ze1 = [.int .u8 (48 + n / 10 % 10),.int .u8 (48 + n % 10)]:=by
   simp only [dg,List.nil_append,List.cons_append,List.map_cons,List.map_nil];rw [dgb _ (by omega),dgb _ h0]
  rw [e1] at ho;exact zb1 (dg n 2) (by rw [e1]; exact ho) underlying181 underlying5 underlying9
 go_enter func171,ntmps171
 go_wp2
 go_ret;exact ⟨rfl,(Below.refl _ _).alloc xnl _⟩
theorem dg_two (n:Int):dg n 4 = dg (n / 100) 2 ++ dg n 2:=by
 simp only [dg,List.nil_append,List.append_assoc];have e1:n / 10 / 10 = n / 100:=by omega
 rw [e1]
theorem dg_mod (n:Int) (h:0≤n):dg (n % 100) 2 = dg n 2:=by
 simp only [dg,List.nil_append];have e1:n % 100 / 10 % 10 = n / 10 % 10:=by omega
 have e2:n % 100 % 10 = n % 10:=by omega
 rw [e1,e2]
def writtenL (y m d form:Int):List UInt8 :=
 if form = 0 then dg y 4 ++ [45] ++ dg m 2 ++ [45] ++ dg d 2 else if form = 1 then dg d 2 ++ [46] ++ dg m 2 ++ [46] ++ dg y 4 else dg m 2 ++ [47] ++ dg d 2 ++ [47] ++ dg y 4
theorem mod_any (x n:Int) (w:World) (hx:0≤x) (hx2:x≤1000000000000) (hn:1≤n) (hn2:n≤1000000000) :
  Calls prog 172 #[.int .i64 x,.int .i64 n] w fun e w'=>e = .returned (.int .i64 (x % n))∧w = w':=by
 have h1:0≤x % n:=Int.emod_nonneg _ (by omega);have h2:x % n < n:=Int.emod_lt_of_pos _ (by omega);have h3:0≤x % n + n:=by omega
 have H4:=zi5 (show (x % n + n) % n = x % n by rw [Int.add_emod_right]; exact Int.emod_eq_of_lt h1 h2);go_enter func172,ntmps172
 go_wp2
 go_ret;exact ⟨ret_int (by have:=H4.out; simp [this]),rfl⟩
theorem written_any (y m d form:Int) (w:World) (hb:1800≤y∧y≤2199∧0≤m∧m≤13∧1≤d∧d≤32) (hf:0≤form∧form≤2) :
  Calls prog 120 #[.agg #[.int .i64 y,.int .i64 m,.int .i64 d],.int .i64 form] w fun e w'=>e = .returned (.string ⟨(writtenL y m d form).toArray⟩)∧Below w.heap.size w w':=by
 obtain ⟨b1,b2,b3,b4,b5,b6⟩:=hb;obtain ⟨f1,f2⟩:=hf;have q1:0≤y / 100∧y / 100≤99:=by omega
 have q2:0≤y % 100∧y % 100≤99:=by omega
 obtain ⟨q1,q1'⟩:=q1;obtain ⟨q2,q2'⟩:=q2;have HM:=fun w=>zi5 (mod_any form 3 w f1 (by omega) (by omega) (by omega))
 rw [show form % 3 = form by omega] at HM;go_enter func120,ntmps120
 go_wp2_with fail
 have m99:m≤99:=by omega
 have d99:d≤99:=by omega
 have d0:0≤d:=by omega
 have e1:IntKind.i64.wrap (y.tdiv 100) = y / 100:=by rw [Int.tdiv_eq_ediv_of_nonneg (by omega)]; exact IntWalk.i64_in _ ⟨by omega,by omega⟩
 have e2:y.tmod 100 = y % 100:=Int.tmod_eq_emod_of_nonneg (by omega);refine wp_region_noPanic ?_
 refine wp_region_held_drew (S:=(fun w'=>w'.cell? ⟨w.heap.size,0,none⟩ = some (.int .i64 y)∧w'.cell? ⟨w.heap.size,1,none⟩ = some (.int .i64 m)∧w'.cell? ⟨w.heap.size,2,none⟩ = some (.int .i64 d))) (by kernel_rfl) (⟨by simp,by simp,by simp⟩) (fun hHeld=>?_)
 refine tH 0 (h:=?_);refine tH 1 (h:=?_);refine tH 2 (h:=?_);refine tH 4 (h:=?_);refine tH 5 (h:=?_);refine tH 6 (h:=?_);refine tH 9 (h:=?_);refine tH 10 (h:=?_);refine tH 12 (h:=?_);refine tH 13 (h:=?_);refine wpAnyH_ready (rs:=[3]) (by kernel_rfl) (by simp) ?_
 refine AllReadyH.cons rfl (fun K hK=>?_) AllReadyH.nil
 go_simp;refine (two_any _ _ q1 q1').mono ?_; rintro e w1 ⟨rfl,hb1⟩; have z1:w.heap.size < w1.heap.size:=(by clear e1 e2; have:=hb1.size; simp at this; omega); have HB1:=zi5 ((((Below.refl _ _).alloc xnl _).drew).trans (hb1.mono (by simp))); have c01:w1.cell? ⟨w.heap.size,0,none⟩ = some (.int .i64 y):=(hb1.cell (p:=⟨w.heap.size,0,none⟩) (by simp)).trans (by simp); have c11:w1.cell? ⟨w.heap.size,1,none⟩ = some (.int .i64 m):=(hb1.cell (p:=⟨w.heap.size,1,none⟩) (by simp)).trans (by simp); have c21:w1.cell? ⟨w.heap.size,2,none⟩ = some (.int .i64 d):=(hb1.cell (p:=⟨w.heap.size,2,none⟩) (by simp)).trans (by simp); clear hb1
 refine hK.out _ _ (⟨c01,c11,c21⟩) (fun hHeld=>?_)
 clear hK K;refine wpAnyH_ready (rs:=[7]) (by kernel_rfl) (by simp) ?_
 refine AllReadyH.cons rfl (fun K hK=>?_) AllReadyH.nil
 go_simp;refine (two_any _ _ q2 q2').mono ?_; rintro e w2 ⟨rfl,hb2⟩; have z2:w.heap.size < w2.heap.size:=(by clear e1 e2; have:=hb2.size; omega); have HB2:=zi5 (HB1.out.trans (hb2.mono HB1.out.size)); have c02:=(hb2.cell (p:=⟨w.heap.size,0,none⟩) z1).trans c01; have c12:=(hb2.cell (p:=⟨w.heap.size,1,none⟩) z1).trans c11; have c22:=(hb2.cell (p:=⟨w.heap.size,2,none⟩) z1).trans c21; clear hb2 c01 c11 c21
 refine hK.out _ _ (⟨c02,c12,c22⟩) (fun hHeld=>?_)
 clear hK K;refine tH 8 (h:=?_);refine wpAnyH_ready (rs:=[11]) (by kernel_rfl) (by simp) ?_
 refine AllReadyH.cons rfl (fun K hK=>?_) AllReadyH.nil
 go_simp;refine (two_any _ _ b3 m99).mono ?_; rintro e w3 ⟨rfl,hb3⟩; have z3:w.heap.size < w3.heap.size:=(by clear e1 e2; have:=hb3.size; omega); have HB3:=zi5 (HB2.out.trans (hb3.mono HB2.out.size)); have c03:=(hb3.cell (p:=⟨w.heap.size,0,none⟩) z2).trans c02; have c13:=(hb3.cell (p:=⟨w.heap.size,1,none⟩) z2).trans c12; have c23:=(hb3.cell (p:=⟨w.heap.size,2,none⟩) z2).trans c22; clear hb3 c02 c12 c22
 refine hK.out _ _ (⟨c03,c13,c23⟩) (fun hHeld=>?_)
 clear hK K;refine wpAnyH_ready (rs:=[14]) (by kernel_rfl) (by simp) ?_
 refine AllReadyH.cons rfl (fun K hK=>?_) AllReadyH.nil
 go_simp;refine (two_any _ _ d0 d99).mono ?_; rintro e w4 ⟨rfl,hb4⟩; have z4:w.heap.size < w4.heap.size:=(by clear e1 e2; have:=hb4.size; omega); have HB4:=zi5 (HB3.out.trans (hb4.mono HB3.out.size)); have c04:=(hb4.cell (p:=⟨w.heap.size,0,none⟩) z3).trans c03; have c14:=(hb4.cell (p:=⟨w.heap.size,1,none⟩) z3).trans c13; have c24:=(hb4.cell (p:=⟨w.heap.size,2,none⟩) z3).trans c23; clear hb4 c03 c13 c23
 refine hK.out _ _ (⟨c04,c14,c24⟩) (fun hHeld=>?_)
 clear hK K;refine tH 15 (h:=?_);refine tH 16 (h:=?_);refine tH 17 (h:=?_);refine wpAnyH_done (by kernel_rfl) ?_ _;refine NoPanic.normal ?_;clear e1 e2;go_wp2_with fail
 refine (HM _).out.mono ?_; rintro e w' ⟨rfl,rfl⟩;go_wp2_with fail
 all_goals
  go_ret;refine ⟨ret_str ?_,HB4.out⟩;simp only [beq_iff_eq,beq_eq_false_iff_ne,ne_eq] at *;simp [writtenL,dg_two y,dg_mod y (by omega), *]
end
section
open Go.RowKit Cal
attribute [local go_sem] zah zaj
abbrev fnV (g:Nat):Value:=.func (.func g) #[] #[]
def zez:Array Value:=#[.string ⟨#[]⟩,.nilFunc,.nilFunc,.nilFunc]
def kind1:Array Value:=#[.string ⟨#[110,97,109,101]⟩,fnV 290,fnV 291,fnV 292]
def kind2:Array Value:=#[.string ⟨#[100,97,116,101]⟩,fnV 293,fnV 294,fnV 296]
def kind3:Array Value:=#[.string ⟨#[99,111,100,101]⟩,fnV 297,fnV 299,fnV 301]
def kind4:Array Value:=#[.string ⟨#[97,100,100,114,101,115,115]⟩,fnV 302,fnV 303,fnV 292]
def kindsV:Array Value:=zez ++ kind1 ++ kind2 ++ kind3 ++ kind4
theorem kinds_any (w:World) :
  Calls prog 262 #[] w fun e w'=>e = .returned (.agg kindsV)∧Below w.heap.size w w':=by
 go_enter func262,ntmps262
 go_upto_region 1 with (fail)
 rename_i hK;refine wp_region_list ?_;refine wpList_buildTo rfl 250 _ rfl (some 1) rfl kind1 (by kernel_rfl) ?_;refine wpList_buildTo rfl 250 _ rfl (some 2) rfl kind2 (by kernel_rfl) ?_;refine wpList_buildTo rfl 250 _ rfl (some 3) rfl kind3 (by kernel_rfl) ?_;refine wpList_buildTo rfl 250 _ rfl (some 4) rfl kind4 (by kernel_rfl) ?_;refine wpList_buildTo rfl 281 _ rfl (some 5) rfl kindsV (by kernel_rfl) ?_;refine wpList_store_row rfl 281 _ _ rfl w.heap.size kindsV rfl rfl 281 _ (heap_alloc_new w _) (by kernel_rfl) (by kernel_rfl) (by kernel_rfl) ?_;refine wpList_nil ?_;rw [World.setRow_alloc_new];refine hK _ _ ?_;go_wp2_with fail
 exact za7 rfl rfl (heap_alloc_new w _) underlying281 rfl (by kernel_rfl) ⟨rfl,(Below.refl _ _).alloc xnl _⟩
def wordB (l:List UInt8):Bool:=bif l.isEmpty then false else bif decide (l.length≤12) then za6 l == l else false
theorem word_is (l:List UInt8) (w:World) :
  Calls prog 114 #[zal l] w fun e w'=>e = .returned (.bool (wordB l))∧Below w.heap.size w w':=by
 unfold wordB;by_cases h0:l = []
 ·subst h0
  go_enter func114,ntmps114
  go_wp2
  go_ret;exact ⟨rfl,Below.refl _ _⟩
 ·have h1:l.isEmpty = false:=by simpa using h0
  have h2:(l == []) = false:=by simpa using h0
  rw [h1];by_cases h3:l.length≤12
  ·have h4:decide (l.length≤12) = true:=by simpa using h3
   have h5:decide ((l.length:Int)≤12) = true:=by simp; omega
   rw [h4];clear h0 h4;go_enter func114,ntmps114
   go_wp2_with fail
   refine (zh7 ⟨l.toArray⟩ _ (by rw [zaj]; omega)).mono ?_;rintro e w1 ⟨rfl,hb⟩;go_wp2_with fail
   go_ret;exact ⟨rfl,hb⟩
  ·have h4:decide (l.length≤12) = false:=by simpa using h3
   have h5:decide ((l.length:Int)≤12) = false:=by simp; omega
   rw [h4];clear h0 h4;go_enter func114,ntmps114
   go_wp2_with fail
   go_ret;exact ⟨rfl,Below.refl _ _⟩
end
section
open Go.RowKit Cal
attribute [local go_sem] zah zaj
def dayF (y m d:List UInt8):List UInt8 × Int:=bif vldB (zdy y) (zdy m) (zdy d) then (zdk (zdy y) (zdy m) (zdy d),0) else ([],4)
def byteL (l:List UInt8) (i:Nat):Int:=((l.getD i 0).toNat:Int)
def dayN (l:List UInt8):List UInt8 × Int :=
 if l.length = 10 then
  if byteL l 4 = 45∧byteL l 7 = 45 then dayF (l.take 4) ((l.drop 5).take 2) ((l.drop 8).take 2)
  else if byteL l 2 = 46∧byteL l 5 = 46 then dayF ((l.drop 6).take 4) ((l.drop 3).take 2) (l.take 2)
  else if byteL l 2 = 47∧byteL l 5 = 47 then dayF ((l.drop 6).take 4) (l.take 2) ((l.drop 3).take 2)
  else ([],4)
 else ([],4)
def DayIs (x:Value) (p:List UInt8 × Int):Prop:=(∃ a b c:Int,vldB a b c = true∧x = .tuple #[.agg #[.int .i64 a,.int .i64 b,.int .i64 c],.int .i64 0]∧p = (zdk a b c,0))∨(x = .tuple #[.agg #[.int .i64 0,.int .i64 0,.int .i64 0],.int .i64 4]∧p = ([],4))
theorem dateL_is (y m d:List UInt8):DayIs (dateL y m d) (dayF y m d):=by
 unfold dateL dateR dayF;cases h:vldB (zdy y) (zdy m) (zdy d)
 ·exact .inr ⟨rfl,rfl⟩
 ·exact .inl ⟨_,_,_,h,rfl,rfl⟩
theorem parse_is (s:ByteArray):DayIs (parseV s) (dayN s.data.toList):=by
 have hl:s.data.toList.length = s.size:=by simp
 unfold parseV dayN;rw [hl];show DayIs _ (if s.size = 10 then if zfs s 4 = 45∧zfs s 7 = 45 then _ else if zfs s 2 = 46∧zfs s 5 = 46 then _ else if zfs s 2 = 47∧zfs s 5 = 47 then _ else _ else _);split
 ·split
  ·exact dateL_is _ _ _
  ·split
   ·exact dateL_is _ _ _
   ·split
    ·exact dateL_is _ _ _
    ·exact .inr ⟨rfl,rfl⟩
 ·exact .inr ⟨rfl,rfl⟩
def readB (l:List UInt8):Bool:=bif decide (l.length = 8) then vldB (zdy (l.take 4)) (zdy ((l.drop 4).take 2)) (zdy ((l.drop 6).take 2)) else false
theorem read_is (s:ByteArray):∃ a b c:Int,(bif decide (s.size = 8) then dateL (s.data.toList.take 4) ((s.data.toList.drop 4).take 2) ((s.data.toList.drop 6).take 2) else dateV false 0 0 0 4) = .tuple #[.agg #[.int .i64 a,.int .i64 b,.int .i64 c],.int .i64 (cd (readB s.data.toList) 4)]:=by
 have hl:s.data.toList.length = s.size:=by simp
 unfold readB;rw [hl];cases decide (s.size = 8)
 ·exact ⟨0,0,0,rfl⟩
 ·exact ⟨_,_,_,rfl⟩
theorem kind1_any (vt vn vs:Value) (s:ByteArray) (w:World) :
  Calls prog 294 #[.agg #[vt,vn,vs],.string s] w fun e w'=>e = .returned (.bool (readB s.data.toList))∧Below w.heap.size w w':=by
 obtain ⟨a,b,c,hr⟩:=read_is s;have HR:=zi5 hr; clear hr;go_enter func294,ntmps294
 go_wp2_with fail
 refine (read_any s _).mono ?_;rw [HR.out];obtain ⟨v,hv⟩:∃ v,readB s.data.toList = v:=⟨_,rfl⟩;rw [hv];have HV:=zi5 hv; clear hv HR;rintro e w1 ⟨rfl,hb1⟩;have HB1:=zi5 (xbt hb1);clear hb1;cases v
 all_goals
  simp only [cd_false,cd_true];go_wp2_with fail
  go_ret;exact ⟨za0 (by rw [HV.out]; try rfl),HB1.out.alloc HB1.out.size _⟩
theorem kind3_any (vt vn vs:Value) (s:ByteArray) (w:World) (hs:s.size≤9223372036854775000) :
  Calls prog 299 #[.agg #[vt,vn,vs],.string s] w fun e w'=>e = .returned (.bool (zee (zdn s.data.toList) s.data.toList))∧Below w.heap.size w w':=by
 go_enter func299,ntmps299
 go_wp2_with fail
 refine (normed_any s _ hs).mono ?_;rintro e w1 ⟨rfl,hb1⟩;have HB1:=zi5 (xbt hb1);clear hb1;go_wp2_with fail
 go_ret;exact ⟨rfl,HB1.out⟩
end
section
open Go.RowKit Cal
attribute [local go_sem] zah zaj
abbrev F2:=List UInt8 × Int
def encF (x:F2):List Value:=[zal x.1,.int .i64 x.2]
structure SchemaL where
 fields:List F2
 rules:RulesL
def SchemaAt (w:World) (S:Nat→Prop) (vf vt vn vs:Value) (s:SchemaL):Prop:=Vec w S 2 encF vf s.fields∧RulesAt w S vt vn vs s.rules
theorem SchemaAt.below {w w':World} {S:Nat→Prop} {vf vt vn vs:Value} {s:SchemaL} (h:SchemaAt w S vf vt vn vs s) (hb:Below w.heap.size w w'):SchemaAt w' S vf vt vn vs s:=⟨h.1.below hb,h.2.below hb⟩
theorem SchemaAt.any {w:World} {S:Nat→Prop} {vf vt vn vs:Value} {s:SchemaL} (h:SchemaAt w S vf vt vn vs s):SchemaAt w zaw vf vt vn vs s:=⟨h.1.any,h.2.any⟩
theorem Vec.take {α:Type} {w:World} {S:Nat→Prop} {k:Nat} {enc:α→List Value} {a:Option Addr} {n cap:Nat} {L:List α} (h:Vec w S k enc (.slice a n cap) L) (i:Nat) (hi:i≤L.length):Vec w S k enc (.slice a i cap) (L.take i):=by
 obtain ⟨a',cap',h1,h2,h3⟩:=h;cases h1
 refine ⟨a,cap,by rw [List.length_take,Nat.min_eq_left hi],by rw [List.length_take]; omega,fun h0=>?_⟩
 rw [List.length_take] at h0;obtain ⟨b,off,h4,h5,h5',h6⟩:=h3 (by omega)
 refine ⟨b,off,h4,h5,h5',fun j x hj=>h6 j x ?_⟩
 rw [List.getElem?_take] at hj;split at hj
 ·exact hj
 ·cases hj
theorem zbz {w:World} {b:Nat} {x y z u:Value} {t:TypeId} {fr:Nat × Nat} (h:w.heap[b]? = some (.cells #[x,y,z,u] t fr)) :
  w.cell? ⟨b,0,none⟩ = some x∧w.cell? ⟨b,1,none⟩ = some y∧w.cell? ⟨b,2,none⟩ = some z∧w.cell? ⟨b,3,none⟩ = some u:=by
 refine ⟨?_,?_,?_,?_⟩ <;> (rw [cell_of_row _ _ _ _ _ _ h]; rfl)
theorem pred_field (nm:List UInt8) (B:Nat) (w:World) (hB:B < w.heap.size) (hcell:w.cell? ⟨B,0,none⟩ = some (zal nm)) :
  PredBelow prog 113 #[.pointer (some ⟨B,0,none⟩)] (fun x=>.agg (encF x).toArray) (fun x=>x.1 == nm) w:=fun W x hb=>by
 have hc:W.cell? ⟨B,0,none⟩ = some (zal nm):=(hb.cell (p:=⟨B,0,none⟩) hB).trans hcell;have hBW:B < W.heap.size:=Nat.lt_of_lt_of_le hB hb.size;have hne:B≠W.heap.size:=by omega
 have HBb:=zi5 hb; clear hb hcell;obtain ⟨xn,xk⟩:=x;show Calls prog 113 #[.agg #[zal xn,.int .i64 xk],.pointer (some ⟨B,0,none⟩)] W _;go_enter func113,ntmps113
 go_wp2
 go_ret;exact ⟨rfl,HBb.out.alloc HBb.out.size _⟩
theorem idxF_nil (a:Option Addr) (c:Nat) (f:Value) (w:World) :
  Calls prog 159 #[.slice a 0 c,f] w fun e w'=>e = .returned (.int .i64 (-1))∧w = w':=by
 go_enter func159,ntmps159
 go_wp2
 refine wp_loop_rounds 1 ?_; rw [rounds_succ];go_wp2
 go_ret;exact ⟨rfl,rfl⟩
theorem contF_nil (a:Option Addr) (c:Nat) (f:Value) (w:World) :
  Calls prog 112 #[.slice a 0 c,f] w fun e w'=>e = .returned (.bool false)∧w = w':=by
 go_enter func112,ntmps112
 go_wp2_with fail
 refine (idxF_nil a c _ _).mono ?_;rintro e w1 ⟨rfl,rfl⟩;go_wp2_with fail
 go_ret;exact ⟨rfl,rfl⟩
theorem contF_any (p:F2→Bool) (g:Nat) (lb:Array Value) (eg:∀ args w,(callFunc g args).run prog w = .ok (.enter g args) w) (S:Nat→Prop) (v:Value) (L:List F2) (w:World) (h:Vec w S 2 encF v L) (hn:L.length≤1000000) (hp:PredBelow prog g lb (fun x=>.agg (encF x).toArray) p w) :
  Calls prog 112 #[v,.func (.func g) #[] lb] w fun e w'=>e = .returned (.bool (L.any p))∧Below w.heap.size w w':=by
 obtain ⟨a,cap,rfl,hcap,h0⟩:=h;by_cases hz:L = []
 ·subst hz
  exact (contF_nil a cap _ w).mono fun e w' ⟨he,hw⟩=>⟨he,by rw [← hw]; exact Below.refl _ _⟩
 ·obtain ⟨b,off,rfl,_,hb,hc⟩:=h0 (List.length_pos_iff.2 hz)
  have hcon:=AnyQ.slices_ContainsFunc Tryz.laysCF 2 Tryz.isAgg95 Tryz.sizeOf95 encF (fun _=>rfl) p g lb eg b off L.length cap L w hp xnl (by omega) hb (fun j hj i u hi=>by
    have e:L[j]? = some L[j]!:=by rw [List.getElem?_eq_getElem hj,getElem!_pos L j hj]
    exact hc j _ e i u hi)
  rw [List.take_of_length_le xnl] at hcon;exact hcon
def zcd (F:List F2) (j:Nat):Bool:=wordB (F.getD j default).1 && !((F.take j).any fun x=>x.1 == (F.getD j default).1) && decide (1≤(F.getD j default).2) && decide ((F.getD j default).2≤4)
def zfi (F:List F2):Bool:=(List.range F.length).all (zcd F)
def zax (s:SchemaL):Int:=if s.fields.length < 1∨5 < s.fields.length then 6 else if zfi s.fields = true then zaz s.rules else 6
theorem zdw (S:Nat→Prop) (vf vt vn vs:Value) (s:SchemaL) (w:World) (h:SchemaAt w S vf vt vn vs s) :
  Calls prog 56 #[.agg #[vf,vt,vn,vs]] w fun e w'=>e = .returned (.int .i64 (zax s))∧Below w.heap.size w w':=by
 obtain ⟨F,r⟩:=s;obtain ⟨h1,h2⟩:=h;dsimp only at h1 h2;obtain ⟨af,cf,rfl⟩:=h1.slice;have H1:=zi5 h1.any; have H2:=zi5 h2.any;clear h1 h2;have hfin:∀ n:Int,zax ⟨F,r⟩ = n→Ending.returned (.int .i64 n) = .returned (.int .i64 (zax ⟨F,r⟩)):=fun n h=>by rw [h]
 have HF:=zi5 hfin; clear hfin;by_cases g1:F.length < 1
 ·have d1:decide ((F.length:Int) < 1) = true:=by simp; omega
  go_enter func56,ntmps56
  go_wp2_with fail
  go_ret;exact ⟨HF.out 6 (by unfold zax; rw [if_pos (.inl g1)]),(Below.refl _ _).alloc xnl _⟩
 ·have d1:decide ((F.length:Int) < 1) = false:=by simp; omega
  by_cases g2:5 < F.length
  ·have d2:decide ((5:Int) < F.length) = true:=by simp; omega
   go_enter func56,ntmps56
   go_wp2_with fail
   go_ret;exact ⟨HF.out 6 (by unfold zax; rw [if_pos (.inr g2)]),(Below.refl _ _).alloc xnl _⟩
  ·have d2:decide ((5:Int) < F.length) = false:=by simp; omega
   have HN:=zi5 (show ¬ (F.length < 1∨5 < F.length) by omega);obtain ⟨b,off,rfl,_,hb,hc⟩:=zcm H1.out (by omega);have HC:=zi5 hc; clear hc;go_enter func56,ntmps56
   go_wp2_with fail
   clear d1 d2;go_loopw [19] (fun i wr=>∃ k:Nat,k≤F.length∧i = .int .i64 k∧wr.heap[w.heap.size]? = some (.cells #[.slice (some ⟨b,off,none⟩) F.length cf,vt,vn,vs] 44 (0,0))∧Below w.heap.size w wr∧∀ j,j < k→zcd F j = true) (fun i _=>F.length - (intOf i).toNat)
   case atStart=>exact ⟨0,by omega,rfl,zac rfl,(Below.refl _ _).alloc xnl _,fun j hj=>by omega⟩
   case round =>
    obtain ⟨k,hk,rfl,hX,hbw,ha⟩:=hrel;have HA:=zi5 ha; clear ha;obtain ⟨p0,p1,p2,p3⟩:=zbz hX;have zX:=zaa hX;have HX:=zi5 hX; clear hX;have HW:=zi5 hbw;by_cases hlt:k < F.length
    ·have hq:decide ((k:Int) < F.length) = true:=by simp; omega
     have hi:(k:Int) < (F.length:Int):=by omega
     have hcap:=H1.out.len.2;obtain ⟨x,hx⟩:∃ x,F.getD k default = x:=⟨_,rfl⟩;have hc:=HC.out k hlt;rw [hx] at hc;have c0:wr.cell? ⟨b,off + k * 2,none⟩ = some (zal x.1):=(hbw.cell (p:=⟨b,off + k * 2,none⟩) hb).trans (hc 0 _ rfl);have c1:wr.cell? ⟨b,off + k * 2 + 1,none⟩ = some (.int .i64 x.2):=(hbw.cell (p:=⟨b,off + k * 2 + 1,none⟩) hb).trans (hc 1 _ rfl);have hfa:zcd F k = (wordB x.1 && !((F.take k).any fun y=>y.1 == x.1) && decide (1≤x.2) && decide (x.2≤4)):=by simp only [zcd]; rw [hx]
     have HFa:=zi5 hfa;obtain ⟨nm,kd⟩:=x;dsimp only at c0 c1 HFa;clear hx hc hbw hfa;go_wp2_with fail
     have eg:∀ args w,(callFunc 113 args).run prog w = .ok (.enter 113 args) w:=enters_of func113 (by kernel_rfl) rfl
     refine (contF_any (fun y=>y.1 == nm) 113 #[.pointer (some ⟨wr.heap.size,0,none⟩)] eg zaw _ (F.take k) _ ((H1.out.take k (by omega)).below (HW.out.alloc HW.out.size _)) (by have:=List.length_take_le k F; omega) (pred_field nm wr.heap.size _ (by simp) (by simp))).mono ?_
     obtain ⟨u,hu⟩:∃ u,(F.take k).any (fun y=>y.1 == nm) = u:=⟨_,rfl⟩
     rw [hu] at HFa ⊢;clear eg hu;rintro e w2 ⟨rfl,hb2⟩;have hX2:w2.heap[w.heap.size]? = some (.cells #[.slice (some ⟨b,off,none⟩) F.length cf,vt,vn,vs] 44 (0,0)):=zab hb2 (by simp; omega) (zaf HX.out);have hY2:w2.heap[wr.heap.size]? = some (.cells #[zal nm,.int .i64 kd] 95 (0,0)):=zab hb2 (by simp) (zac rfl);have HW2:=zi5 ((HW.out.alloc HW.out.size (.cells #[zal nm,.int .i64 kd] 95)).trans (hb2.mono (by have:=HW.out.size; simp; omega)));have q0:w2.cell? ⟨wr.heap.size,0,none⟩ = some (zal nm):=by rw [cell_of_row _ _ _ _ _ _ hY2]; rfl
     have q1:w2.cell? ⟨wr.heap.size,1,none⟩ = some (.int .i64 kd):=by rw [cell_of_row _ _ _ _ _ _ hY2]; rfl
     have zX2:=zaa hX2; have zY2:=zaa hY2;have HX2:=zi5 hX2; have HY2:=zi5 hY2;clear hb2 hX2 hY2 p0 p1 p2 p3 HX HW c0 c1;go_wp2_with fail
     refine (word_is nm _).mono ?_;obtain ⟨wb,hwb⟩:∃ wb,wordB nm = wb:=⟨_,rfl⟩;rw [hwb] at HFa ⊢;clear hwb;rintro e w3 ⟨rfl,hb3⟩;have q0:w3.cell? ⟨wr.heap.size,0,none⟩ = some (zal nm):=(hb3.cell (p:=⟨wr.heap.size,0,none⟩) zY2).trans q0;have q1:w3.cell? ⟨wr.heap.size,1,none⟩ = some (.int .i64 kd):=(hb3.cell (p:=⟨wr.heap.size,1,none⟩) zY2).trans q1;have HX3:=zi5 (zab hb3 zX2 HX2.out);have HW3:=zi5 (HW2.out.trans (hb3.mono HW2.out.size));clear hb3 HX2 HW2 HY2;cases wb
     ·have HFa:=zi5 (show zcd F k = false by rw [HFa.out]; rfl)
      go_wp2_with fail
      go_ret;exact ⟨HF.out 6 (by unfold zax; rw [if_neg HN.out,if_neg (by rw [zfi,zcb hlt HFa.out]; simp)]),HW3.out⟩
     ·cases u
      ·by_cases k1:1≤kd
       ·by_cases k4:kd≤4
        ·have HFa:=zi5 (show zcd F k = true by rw [HFa.out]; simp [k1,k4])
         go_wp2_with fail
         go_roundw
         case rel=>exact ⟨k + 1,by omega,by go_num,HX3.out,HW3.out,fun j hj=>by
          by_cases e:j = k
          ·subst e; exact HFa.out
          ·exact HA.out j (by omega)⟩
         case measure=>simp [intOf]; omega
        ·have HFa:=zi5 (show zcd F k = false by rw [HFa.out]; simp [k4])
         have k5:4 < kd:=by omega
         go_wp2_with fail
         go_ret;exact ⟨HF.out 6 (by unfold zax; rw [if_neg HN.out,if_neg (by rw [zfi,zcb hlt HFa.out]; simp)]),HW3.out⟩
       ·have HFa:=zi5 (show zcd F k = false by rw [HFa.out]; simp [k1])
        have k5:kd < 1:=by omega
        go_wp2_with fail
        go_ret;exact ⟨HF.out 6 (by unfold zax; rw [if_neg HN.out,if_neg (by rw [zfi,zcb hlt HFa.out]; simp)]),HW3.out⟩
      ·have HFa:=zi5 (show zcd F k = false by rw [HFa.out]; simp)
       go_wp2_with fail
       go_ret;exact ⟨HF.out 6 (by unfold zax; rw [if_neg HN.out,if_neg (by rw [zfi,zcb hlt HFa.out]; simp)]),HW3.out⟩
    ·have hq:decide ((k:Int) < F.length) = false:=by simp; omega
     clear hbw;go_wp2_with fail
     refine (zeo zaw vt vn vs r _ (H2.out.below HW.out)).mono ?_;obtain ⟨c,hc⟩:∃ c,zaz r = c:=⟨_,rfl⟩;rw [hc];have HCc:=zi5 hc; clear hc;rintro e w3 ⟨rfl,hb3⟩;have HW3:=zi5 (HW.out.trans (hb3.mono HW.out.size));clear hb3;go_wp2_with fail
     go_ret;exact ⟨HF.out c (by unfold zax; rw [if_neg HN.out,if_pos (by rw [zfi]; exact zi2 fun j hj=>HA.out j (by have hj':j < F.length:=hj; omega))]; exact HCc.out),HW3.out⟩
end
section
open Go.RowKit Go.WideShapes Go.ChangeShapes Go.Joins
theorem vec_in {α:Type} {w:World} {a:Addr} {len cap k:Nat} {enc:α→List Value} (g:Nat→α) (hk:∀ x,(enc x).length = k) (hk0:0 < k) (hl:len≤cap)
  (hc:∀ i,i < len→∀ j u,(enc (g i))[j]? = some u→w.cell? (a.add (i * k + j)) = some u):Vec w zaw k enc (.slice (some a) len cap) ((List.range len).map g):=by
 refine ⟨some a,cap,by simp,by simpa using hl,fun h0=>?_⟩
 have h0:0 < len:=by simpa using h0
 obtain ⟨b,off,spot⟩:=a;obtain ⟨u,hu⟩:∃ u,(enc (g 0))[0]? = some u:=⟨_,List.getElem?_eq_getElem (by rw [hk]; exact hk0)⟩;have c0:=hc 0 h0 0 u hu
 have hs:spot = none:=by
  cases spot with
  | none=>rfl
  | some s =>
   exfalso;have he:((⟨b,off,some s⟩:Addr).add (0 * k + 0)).spot.isSome = true:=by unfold Addr.add; split <;> simp_all
   unfold World.cell? at c0;split at c0
   ·rw [if_pos he] at c0; cases c0
   ·cases c0
 subst hs
 refine ⟨b,off,rfl,trivial,?_,fun j x hj i u hu=>?_⟩
 ·rw [zdo] at c0; exact World.block_lt_of_cell? _ _ c0
 ·have hjl:j < len:=by have:=(List.getElem?_eq_some_iff.1 hj).1; simpa using this
  rw [List.getElem?_map,List.getElem?_range hjl] at hj;obtain rfl:=Option.some.inj hj;have:=hc j hjl i u hu;rw [zdo] at this;rw [Nat.add_assoc]; exact this
def bytesOf (v:Value):List UInt8:=match v with | .string s=>s.data.toList | _=>[]
theorem bytesOf_mk (s:ByteArray):Value.string s = zal (bytesOf (.string s)):=by
 show Value.string s = .string ⟨s.data.toList.toArray⟩;simp
section
variable {H:Type} {enc:TypeId × Value→H} {W:World} {base:Nat} {spare:Nat→Bool} {held:Bool}
theorem in_strs {fuel:Nat} {cs:List Value} {x:DataW H × List MemPlace} (h:DataW.trod enc prog W base spare held fuel 27 cs = some x):∃ v L,cs = [v]∧Vec W zaw 1 za2 v L:=by
 rcases Go.Deep.open_strs underlying27 underlying9 (by kernel_rfl) h with ⟨rfl,_⟩ | ⟨a,len,cap,m,Sx,rfl,_,hl,_,hm,_,hx⟩
 ·exact ⟨_,[],rfl,Vec.nil _ _ _ _⟩
 ·have hlm:len≤m:=by rw [hm]; split <;> omega
  refine ⟨_,_,rfl,vec_in (fun i=>(Sx i).data.toList) (fun _=>rfl) (by omega) hl fun i hi j u hu=>?_⟩
  cases j with
  | zero=>cases hu; rw [Nat.mul_one]; rw [show zal (Sx i).data.toList = .string (Sx i) from (bytesOf_mk _).symm]; exact (hx i (by omega)).1
  | succ j=>simp [za2] at hu
end
end
section
open Go.RowKit
theorem cell1 {w:World} {b:Nat} {x:Value} {t:TypeId} {fr:Nat × Nat} (h:w.heap[b]? = some (.cells #[x] t fr)):w.cell? ⟨b,0,none⟩ = some x:=by rw [cell_of_row _ _ _ _ _ _ h]; rfl
end
section
open Go.RowKit
def xr (a b:Int):Int:=bits .xor .u64 a b
def ad (a b:Int):Int:=IntKind.u64.wrap (a + b)
def zih (p q x:Int):Int:=bits .or .u64 (IntKind.u64.wrap (x * p)) (x / q)
structure Sip where
 a:Int
 b:Int
 c:Int
 d:Int
def rndP (s:Sip):Sip :=
 let a:=ad s.a s.b
 let b:=xr (zih 8192 2251799813685248 s.b) a
 let a:=zih 4294967296 4294967296 a
 let c:=ad s.c s.d
 let d:=xr (zih 65536 281474976710656 s.d) c
 let a:=ad a d
 let d:=xr (zih 2097152 8796093022208 d) a
 let c:=ad c b
 let b:=xr (zih 131072 140737488355328 b) c
 ⟨a,b,zih 4294967296 4294967296 c,d⟩
def wordP (s:Sip) (m:Int):Sip :=
 let s:=rndP (rndP ⟨s.a,s.b,s.c,xr s.d m⟩)
 ⟨xr s.a m,s.b,s.c,s.d⟩
def numP (i:Nat) (m:Int):List UInt8→Int
 | []=>m
 | x :: l=>numP (i + 1) (bits .or .u64 m (IntKind.u64.wrap (IntKind.u64.wrap (x.toNat:Int) * 2 ^ (8 * i)))) l
def zi0 (s:Sip) (l:List UInt8):Nat→Sip × List UInt8
 | 0=>(s,l)
 | n + 1=>zi0 (wordP s (numP 0 0 (l.take 8))) (l.drop 8) n
def sumP (ka kb:Int) (l:List UInt8):Int :=
 let p:=zi0 ⟨xr ka 8317987319222330741,xr kb 7237128888997146477,xr ka 7816392313619706465,xr kb 8387220255154660723⟩ l (l.length / 8)
 let s:=wordP p.1 (bits .or .u64 (numP 0 0 p.2) (IntKind.u64.wrap ((l.length:Int) * 72057594037927936)))
 let s:=rndP (rndP (rndP (rndP ⟨s.a,s.b,xr s.c 255,s.d⟩)))
 xr (xr (xr s.a s.b) s.c) s.d
def partP (t:List UInt8):List UInt8:=UInt8.ofNat (min t.length 65535 / 256) :: UInt8.ofNat (min t.length 65535) :: t.take 65535
def zc8 (ka kb:Int) (L:List (List UInt8)):Int:=sumP ka kb (L.flatMap partP)
def zda (ka kb:Int) (l:List UInt8):Int × Int:=(zc8 ka kb [l,[97]],zc8 ka kb [l,[98]])
end
section
open Go.RowKit Cal
attribute [local go_sem] zah zaj
def zbs (k:Int):Array Value:=if k = 1 then kind1 else if k = 2 then kind2 else if k = 3 then kind3 else if k = 4 then kind4 else zez
def zbt (s:SchemaL) (f:Int):Int × Int:=if zax s = 0 then (if 0≤f∧f < s.fields.length then ((s.fields.getD f.toNat default).2,0) else (0,2)) else (0,zax s)
def findV (p:Int × Int):Value:=.tuple #[.agg (zbs p.1),.int .i64 p.2]
theorem zcf {s:SchemaL} (h:zax s = 0):(1≤s.fields.length∧s.fields.length≤5)∧zfi s.fields = true∧zaz s.rules = 0:=by
 unfold zax at h;split at h
 ·omega
 ·split at h
  ·rename_i h1 h2; exact ⟨by omega,h2,h⟩
  ·omega
theorem field_kind {F:List F2} (h:zfi F = true) (j:Nat) (hj:j < F.length):1≤(F.getD j default).2∧(F.getD j default).2≤4:=by
 have:=List.all_eq_true.1 h j (List.mem_range.2 hj);unfold zcd at this;simp only [Bool.and_eq_true,decide_eq_true_iff] at this;exact ⟨this.1.2,this.2⟩
theorem zh9 {w:World} {g:Nat} {old cs:Array Value} {t:TypeId} {fr:Nat × Nat} (h:w.heap[g]? = some (.cells old t fr)):(w.setRow g cs).heap[g]? = some (.cells cs t fr):=by
 have hlt:=zaa h;have h':w.heap[g] = .cells old t fr:=by simpa [Array.getElem?_eq_getElem hlt] using h
 show (w.heap.modify g _)[g]? = _;rw [Array.getElem?_eq_getElem (by simpa using hlt),Array.getElem_modify_self,h']
theorem zhf {B g:Nat} {a w:World} {cs:Array Value} (h:Below B a w) (hg:B≤g):Below B a (w.setRow g cs):=by
 refine ⟨h.os,h.tape,h.output,by simpa [World.setRow] using h.size,fun k hk=>?_⟩
 show (w.heap.modify g _)[k]? = _;rw [Array.getElem?_modify,if_neg (by omega)];exact h.block k hk
theorem find_bad (S:Nat→Prop) (vf vt vn vs:Value) (s:SchemaL) (f:Int) (w:World) (h:SchemaAt w S vf vt vn vs s) (hc:zax s≠0) :
  Calls prog 230 #[.agg #[vf,vt,vn,vs],.int .i64 f] w fun e w'=>e = .returned (findV (zbt s f))∧Below w.heap.size w w':=by
 have HS:=zi5 h.any;have HF:=zi5 (show zbt s f = (0,zax s) by unfold zbt; rw [if_neg hc]);have hne:(zax s != 0) = true:=by simpa using hc
 clear h hc;go_enter func230,ntmps230
 go_wp2_with fail
 refine (zdw zaw vf vt vn vs s _ (HS.out.below (((Below.refl _ _).alloc xnl _).alloc (by simp) _))).mono ?_;obtain ⟨c,hcc⟩:∃ c,zax s = c:=⟨_,rfl⟩;rw [hcc] at hne HF ⊢;clear hcc;rintro e w1 ⟨rfl,hb1⟩;have X1:w1.heap[w.heap.size + 1]? = some (.cells zez 250 (0,0)):=zab hb1 (by simp) (heap_alloc2_new _ _ _);have HB1:=zi5 ((((Below.refl w.heap.size w).alloc xnl (.cells #[vf,vt,vn,vs] 44)).alloc (by simp) (.cells zez 250)).trans (hb1.mono (by simp; omega)));have HX1:=zi5 X1;have z1:=zaa X1;clear hb1 X1;go_wp2_with (refine wpList_store_row rfl 250 (.tmp 4) (.tmp 11) rfl (w.heap.size + 1) zez rfl rfl 250 zez HX1.out (by kernel_rfl) (by kernel_rfl) (by kernel_rfl) ?_)
 exact zag rfl rfl (zh9 HX1.out) underlying250 rfl (by kernel_rfl) ⟨by rw [HF.out]; rfl,zhf HB1.out (by omega)⟩
theorem find_out (S:Nat→Prop) (vf vt vn vs:Value) (s:SchemaL) (f:Int) (w:World) (h:SchemaAt w S vf vt vn vs s) (hc:zax s = 0) (hf:f < 0∨(s.fields.length:Int)≤f) :
  Calls prog 230 #[.agg #[vf,vt,vn,vs],.int .i64 f] w fun e w'=>e = .returned (findV (zbt s f))∧Below w.heap.size w w':=by
 obtain ⟨af,cf,rfl⟩:=h.1.slice;have HS:=zi5 h.any;have HF:=zi5 (show zbt s f = (0,2) by unfold zbt; rw [if_pos hc,if_neg (by omega)]);have HC:=zi5 hc;clear h hc;have hf':f < 0∨(0≤f∧(s.fields.length:Int)≤f):=by omega
 clear hf
 rcases hf' with hf | ⟨hf0,hf⟩
 all_goals
  go_enter func230,ntmps230
  go_wp2_with fail
  refine (zdw zaw _ vt vn vs s _ (HS.out.below (((Below.refl _ _).alloc xnl _).alloc (by simp) _))).mono ?_;rw [HC.out];rintro e w1 ⟨rfl,hb1⟩;have X0:w1.heap[w.heap.size]? = some (.cells #[.slice af s.fields.length cf,vt,vn,vs] 44 (0,0)):=zab hb1 (by simp; omega) (heap_alloc2_old _ _ _);have X1:w1.heap[w.heap.size + 1]? = some (.cells zez 250 (0,0)):=zab hb1 (by simp) (heap_alloc2_new _ _ _);have HB1:=zi5 ((((Below.refl w.heap.size w).alloc xnl (.cells #[.slice af s.fields.length cf,vt,vn,vs] 44)).alloc (by simp) (.cells zez 250)).trans (hb1.mono (by simp; omega)));have HX1:=zi5 X1;have z1:=zaa X1; have z0:=zaa X0;obtain ⟨p0,p1,p2,p3⟩:=zbz X0;clear hb1 X1 X0;go_wp2_with (refine wpList_store_row rfl 250 (.tmp 4) (.tmp 22) rfl (w.heap.size + 1) zez rfl rfl 250 zez HX1.out (by kernel_rfl) (by kernel_rfl) (by kernel_rfl) ?_)
  exact zag rfl rfl (zh9 HX1.out) underlying250 rfl (by kernel_rfl) ⟨by rw [HF.out]; rfl,zhf HB1.out (by omega)⟩
theorem setRow_other {w:World} {g k:Nat} {cs:Array Value} (h:k≠g):(w.setRow g cs).heap[k]? = w.heap[k]?:=by
 show (w.heap.modify g _)[k]? = _;rw [Array.getElem?_modify,if_neg (fun e=>h e.symm)]
theorem index_kind (kd:Int) (h1:1≤kd) (h4:kd≤4):∀ w,(Instr.index 281 (.agg kindsV) (.int .i64 kd)).run prog w = .ok (.agg (zbs kd)) w:=by
 obtain rfl | rfl | rfl | rfl:kd = 1∨kd = 2∨kd = 3∨kd = 4:=by omega
 ·exact fun w=>by kernel_rfl
 ·exact fun w=>by kernel_rfl
 ·exact fun w=>by kernel_rfl
 ·exact fun w=>by kernel_rfl
theorem kindAt_one (kd:Int):(zbs kd).all (·.oneCell') = true∧(zbs kd).size = 4:=by
 unfold zbs;repeat' split
 all_goals exact ⟨by kernel_rfl,by kernel_rfl⟩
theorem find_in' (S:Nat→Prop) (vf vt vn vs:Value) (s:SchemaL) (f:Nat) (w:World) (h:SchemaAt w S vf vt vn vs s) (hc:zax s = 0) (hf:f < s.fields.length) :
  Calls prog 230 #[.agg #[vf,vt,vn,vs],.int .i64 f] w fun e w'=>e = .returned (findV (zbt s f))∧Below w.heap.size w w':=by
 obtain ⟨af,cf,rfl⟩:=h.1.slice;obtain ⟨⟨g1,g2⟩,g3,g4⟩:=zcf hc;obtain ⟨b,off,rfl,_,hb,hcc⟩:=zcm h.1 (by omega);have hc1:=hcc f hf 1 _ rfl;obtain ⟨k1,k4⟩:=field_kind g3 f hf;have HF':=zi5 (show zbt s f = ((s.fields.getD f default).2,0) by unfold zbt; rw [if_pos hc,if_pos (by omega)]; simp);obtain ⟨kd,hkd⟩:∃ kd,(s.fields.getD f default).2 = kd:=⟨_,rfl⟩;rw [hkd] at HF' hc1 k1 k4;have HF:=HF';have HS:=zi5 h.any;have HC:=zi5 hc;have hix:=index_kind kd k1 k4;obtain ⟨ko,ks⟩:=kindAt_one kd;have KO:=zi5 ko; have KS:=zi5 ks;have HIX:=zi5 hix;have HC1:=zi5 hc1;clear h hc g3 g4 hcc hkd HF' ko ks hix hc1;have hlt':(f:Int) < (s.fields.length:Int):=by omega
 go_enter func230,ntmps230
 go_wp2_with fail
 refine (zdw zaw _ vt vn vs s _ (HS.out.below (((Below.refl _ _).alloc xnl _).alloc (by simp) _))).mono ?_;rw [HC.out];rintro e w1 ⟨rfl,hb1⟩;have X0:w1.heap[w.heap.size]? = some (.cells #[.slice (some ⟨b,off,none⟩) s.fields.length cf,vt,vn,vs] 44 (0,0)):=zab hb1 (by simp; omega) (heap_alloc2_old _ _ _);have X1:w1.heap[w.heap.size + 1]? = some (.cells zez 250 (0,0)):=zab hb1 (by simp) (heap_alloc2_new _ _ _);have HB1:=zi5 ((((Below.refl w.heap.size w).alloc xnl (.cells #[.slice (some ⟨b,off,none⟩) s.fields.length cf,vt,vn,vs] 44)).alloc (by simp) (.cells zez 250)).trans (hb1.mono (by simp; omega)));have c1:w1.cell? ⟨b,off + f * 2 + 1,none⟩ = some (.int .i64 kd):=(HB1.out.cell (p:=⟨b,off + f * 2 + 1,none⟩) hb).trans HC1.out;have HX1:=zi5 X1;have z1:=zaa X1; have z0:=zaa X0;have zb:b < w1.heap.size:=Nat.lt_of_lt_of_le hb HB1.out.size;obtain ⟨p0,p1,p2,p3⟩:=zbz X0;clear hb1 X1 X0;go_wp2_with fail
 refine wp_region_noPanic ?_
 refine wp_region_held_drew (S:=(fun w'=>w'.cell? ⟨w.heap.size,0,none⟩ = some (.slice (some ⟨b,off,none⟩) s.fields.length cf)∧w'.cell? ⟨b,off + f * 2 + 1,none⟩ = some (.int .i64 kd))) (by kernel_rfl) (⟨p0,c1⟩) (fun hHeld=>?_)
 refine tH 1 (h:=?_);refine tH 2 (h:=?_);refine tH 3 (h:=?_);refine tH 4 (h:=?_);refine tH 5 (h:=?_);refine tH 6 (h:=?_);refine wpAnyH_ready (rs:=[0]) (by kernel_rfl) (by simp) ?_
 refine AllReadyH.cons rfl (fun K hK=>?_) AllReadyH.nil
 go_simp;refine (kinds_any _).mono ?_; rintro e w2 ⟨rfl,hb2⟩; have p0a:=(hb2.cell (p:=⟨w.heap.size,0,none⟩) z0).trans p0; have c1a:=(hb2.cell (p:=⟨b,off + f * 2 + 1,none⟩) zb).trans c1; have HB2:=zi5 (HB1.out.drew.trans (hb2.mono HB1.out.size)); have HX2:=zi5 (zab hb2 z1 HX1.out)
 refine hK.out _ _ (⟨p0a,c1a⟩) (fun hHeld=>?_)
 clear hK K;have hix:=HIX.out;refine tH 7 (h:=?_);refine wpAnyH_ready (rs:=[8]) (by kernel_rfl) (by simp) ?_
 refine AllReadyH.cons rfl (fun K hK=>?_) AllReadyH.nil
 refine wp_store_row 250 (.tmp 4) (.tmp 30) rfl (w.heap.size + 1) (zbs kd) rfl rfl 250 zez HX2.out (by rw [KS.out]; kernel_rfl) (by rw [KS.out]; rfl) KO.out ?_;have p0b:(w2.setRow (w.heap.size + 1) (zbs kd)).cell? ⟨w.heap.size,0,none⟩ = some (.slice (some ⟨b,off,none⟩) s.fields.length cf):=(World.cell?_of_block (w:=w2) (a:=⟨w.heap.size,0,none⟩) (setRow_other (show w.heap.size≠w.heap.size + 1 by omega))).trans p0a;have c1b:(w2.setRow (w.heap.size + 1) (zbs kd)).cell? ⟨b,off + f * 2 + 1,none⟩ = some (.int .i64 kd):=(World.cell?_of_block (w:=w2) (a:=⟨b,off + f * 2 + 1,none⟩) (setRow_other (show b≠w.heap.size + 1 by omega))).trans c1a
 refine hK.out _ _ ⟨p0b,c1b⟩ (fun hHeld=>?_)
 clear hK K;refine tH 9 (h:=?_);refine wpAnyH_done (by kernel_rfl) ?_ _;refine NoPanic.normal ?_;go_wp2_with fail
 exact zag rfl rfl (zh9 HX2.out) underlying250 rfl (by rw [KS.out]; kernel_rfl) ⟨by rw [HF.out]; rfl,zhf HB2.out (by omega)⟩
theorem find_s (S:Nat→Prop) (vf vt vn vs:Value) (s:SchemaL) (f:Int) (w:World) (h:SchemaAt w S vf vt vn vs s) :
  Calls prog 230 #[.agg #[vf,vt,vn,vs],.int .i64 f] w fun e w'=>e = .returned (findV (zbt s f))∧Below w.heap.size w w':=by
 by_cases hc:zax s = 0
 ·by_cases hf:0≤f∧f < s.fields.length
  ·obtain ⟨n,rfl⟩:=Int.eq_ofNat_of_zero_le hf.1
   exact find_in' S vf vt vn vs s n w h hc (by omega)
  ·exact find_out S vf vt vn vs s f w h hc (by omega)
 ·exact find_bad S vf vt vn vs s f w h hc
end
section
open Go.RowKit Cal
attribute [local go_sem] zah zaj
def normK (k:Int) (r:RulesL) (l:List UInt8):List UInt8 × Int:=if k = 1 then zc2 r l else if k = 2 then dayN l else if k = 3 then zdn l else zc3 r l
def zcp (s:SchemaL) (f:Int) (l:List UInt8):List UInt8 × Int:=if (zbt s f).2 = 0 then (if l = [] then ([],0) else normK (zbt s f).1 s.rules l) else ([],(zbt s f).2)
def ownK (k:Int) (r:RulesL) (l:List UInt8):Bool:=if k = 1 then zee (zc2 r l) l else if k = 2 then readB l else if k = 3 then zee (zdn l) l else zee (zc3 r l) l
def zau (s:SchemaL) (f:Int) (l:List UInt8):Bool:=if (zbt s f).2 = 0 then (if l = [] then true else ownK (zbt s f).1 s.rules l) else false
theorem zdz {s:SchemaL} {f:Int} (h:(zbt s f).2 = 0):(zbt s f).1 = 1∨(zbt s f).1 = 2∨(zbt s f).1 = 3∨(zbt s f).1 = 4:=by
 by_cases hc:zax s = 0
 ·unfold zbt at h ⊢
  rw [if_pos hc] at h ⊢;by_cases hf:0≤f∧f < s.fields.length
  ·rw [if_pos hf]
   have:=field_kind (zcf hc).2.1 f.toNat (by omega);dsimp only;omega
  ·rw [if_neg hf] at h
   simp at h
 ·unfold zbt at h
  rw [if_neg hc] at h;exact absurd h hc
end
section
open Go.RowKit Cal
attribute [local go_sem] zah zaj
theorem zgm (S:Nat→Prop) (vf vt vn vs:Value) (s:SchemaL) (f:Int) (x:ByteArray) (w:World) (h:SchemaAt w S vf vt vn vs s) (hx:x.size≤9223372036854775000) :
  Calls prog 179 #[.agg #[vf,vt,vn,vs],.int .i64 f,.string x] w fun e w'=>e = .returned (.bool (zau s f x.data.toList))∧Below w.heap.size w w':=by
 have HS:=zi5 h.any;have HL:=zi5 (Lib.toList_data x);have hfin:∀ p,zau s f x.data.toList = p→Ending.returned (.bool p) = .returned (.bool (zau s f x.data.toList)):=fun p h=>by rw [h]
 have HF:=zi5 hfin;clear h hfin;have K:=find_s zaw vf vt vn vs s f (w.alloc (.cells #[vf,vt,vn,vs] 44)) (HS.out.below ((Below.refl _ _).alloc xnl _));have hkk:=zdz (s:=s) (f:=f);have hval:zau s f x.data.toList = if (zbt s f).2 = 0 then (if x.data.toList = [] then true else ownK (zbt s f).1 s.rules x.data.toList) else false:=rfl
 obtain ⟨⟨kd,er⟩,hp⟩:∃ p,zbt s f = p:=⟨_,rfl⟩;rw [hp] at K hkk hval;dsimp only at hkk hval;change Calls _ _ _ _ fun e w'=>e = .returned (.tuple #[.agg (zbs kd),.int .i64 er])∧_ at K
 have HK:=zi5 K;have HVal:=zi5 hval;obtain ⟨ko,ks⟩:=kindAt_one kd;have KO:=zi5 ko; have KS:=zi5 ks;clear K hp hval ko ks;by_cases he:er = 0
 ·subst he
  have hkd:=hkk rfl;clear hkk;by_cases hx0:x.data.toList = []
  ·have e1:x.toList = []:=by rw [HL.out,hx0]
   have HE:=zi5 (show zau s f x.data.toList = true by rw [HVal.out,if_pos rfl,if_pos hx0]);clear hx0 hkd;go_enter func179,ntmps179
   go_wp2_with fail
   refine HK.out.mono ?_;rintro e w1 ⟨rfl,hb1⟩;have HB1:=zi5 (xbt hb1);have HX1:=zi5 (xbn hb1);clear hb1 HK;go_wp2_with (refine wpList_store_row rfl 250 (.tmp 7) (.tmp 13) rfl w1.heap.size (zbs kd) rfl rfl 250 zez (heap_alloc_new w1 _) (by rw [KS.out]; kernel_rfl) (by rw [KS.out]; rfl) KO.out ?_; rw [World.setRow_alloc_new])
   go_ret;exact ⟨HF.out _ HE.out,HB1.out.alloc HB1.out.size _⟩
  ·have e1:(x.toList == []) = false:=by rw [HL.out]; simpa using hx0
   have e2:x.toList.isEmpty = false:=by rw [HL.out]; simpa using hx0
   have HE:=zi5 (show zau s f x.data.toList = ownK kd s.rules x.data.toList by rw [HVal.out,if_pos rfl,if_neg hx0]);clear hx0
   rcases hkd with rfl | rfl | rfl | rfl
   ·have HE2:=zi5 (show zau s f x.data.toList = zee (zc2 s.rules x.data.toList) x.data.toList from HE.out)
    go_enter func179,ntmps179
    go_wp2_with fail
    refine HK.out.mono ?_;rintro e w1 ⟨rfl,hb1⟩;have HB1:=zi5 (xbt hb1);have HX1:=zi5 (xbn hb1);clear hb1 HK;have cf:(w1.alloc (.cells (zbs 1) 250)).cell? ⟨w1.heap.size,2,none⟩ = some (fnV 291):=by rw [cell_of_row _ _ _ _ _ _ (heap_alloc_new w1 _)]; rfl
    have z0:=zaa HX1.out;obtain ⟨p0,p1,p2,p3⟩:=zbz HX1.out;go_wp2_with (refine wpList_store_row rfl 250 (.tmp 7) (.tmp 13) rfl w1.heap.size (zbs 1) rfl rfl 250 zez (heap_alloc_new w1 _) (by rw [KS.out]; kernel_rfl) (by rw [KS.out]; rfl) KO.out ?_; rw [World.setRow_alloc_new])
    have HB2:=HB1.out.alloc HB1.out.size (.cells (zbs 1) 250);have HB2':=zi5 HB2;refine (normal_any zaw vt vn vs s.rules x _ (HS.out.2.below HB2) hx).mono ?_;clear HB2;rw [← HE2.out];obtain ⟨pb,hpp⟩:∃ p,zau s f x.data.toList = p:=⟨_,rfl⟩;rw [hpp];have HPP:=zi5 hpp;rintro e w3 ⟨rfl,hb3⟩;have HB3:=zi5 (HB2'.out.trans (hb3.mono HB2'.out.size));clear hb3 hpp HE HE2 cf p0 p1 p2 p3;go_wp2_with fail
    go_ret;exact ⟨HF.out _ HPP.out,HB3.out⟩
   ·have HE2:=zi5 (show zau s f x.data.toList = readB x.data.toList from HE.out)
    go_enter func179,ntmps179
    go_wp2_with fail
    refine HK.out.mono ?_;rintro e w1 ⟨rfl,hb1⟩;have HB1:=zi5 (xbt hb1);have HX1:=zi5 (xbn hb1);clear hb1 HK;have cf:(w1.alloc (.cells (zbs 2) 250)).cell? ⟨w1.heap.size,2,none⟩ = some (fnV 294):=by rw [cell_of_row _ _ _ _ _ _ (heap_alloc_new w1 _)]; rfl
    have z0:=zaa HX1.out;obtain ⟨p0,p1,p2,p3⟩:=zbz HX1.out;go_wp2_with (refine wpList_store_row rfl 250 (.tmp 7) (.tmp 13) rfl w1.heap.size (zbs 2) rfl rfl 250 zez (heap_alloc_new w1 _) (by rw [KS.out]; kernel_rfl) (by rw [KS.out]; rfl) KO.out ?_; rw [World.setRow_alloc_new])
    have HB2:=HB1.out.alloc HB1.out.size (.cells (zbs 2) 250);have HB2':=zi5 HB2;refine (kind1_any vt vn vs x _).mono ?_;clear HB2;rw [← HE2.out];obtain ⟨pb,hpp⟩:∃ p,zau s f x.data.toList = p:=⟨_,rfl⟩;rw [hpp];have HPP:=zi5 hpp;rintro e w3 ⟨rfl,hb3⟩;have HB3:=zi5 (HB2'.out.trans (hb3.mono HB2'.out.size));clear hb3 hpp HE HE2 cf p0 p1 p2 p3;go_wp2_with fail
    go_ret;exact ⟨HF.out _ HPP.out,HB3.out⟩
   ·have HE2:=zi5 (show zau s f x.data.toList = zee (zdn x.data.toList) x.data.toList from HE.out)
    go_enter func179,ntmps179
    go_wp2_with fail
    refine HK.out.mono ?_;rintro e w1 ⟨rfl,hb1⟩;have HB1:=zi5 (xbt hb1);have HX1:=zi5 (xbn hb1);clear hb1 HK;have cf:(w1.alloc (.cells (zbs 3) 250)).cell? ⟨w1.heap.size,2,none⟩ = some (fnV 299):=by rw [cell_of_row _ _ _ _ _ _ (heap_alloc_new w1 _)]; rfl
    have z0:=zaa HX1.out;obtain ⟨p0,p1,p2,p3⟩:=zbz HX1.out;go_wp2_with (refine wpList_store_row rfl 250 (.tmp 7) (.tmp 13) rfl w1.heap.size (zbs 3) rfl rfl 250 zez (heap_alloc_new w1 _) (by rw [KS.out]; kernel_rfl) (by rw [KS.out]; rfl) KO.out ?_; rw [World.setRow_alloc_new])
    have HB2:=HB1.out.alloc HB1.out.size (.cells (zbs 3) 250);have HB2':=zi5 HB2;refine (kind3_any vt vn vs x _ hx).mono ?_;clear HB2;rw [← HE2.out];obtain ⟨pb,hpp⟩:∃ p,zau s f x.data.toList = p:=⟨_,rfl⟩;rw [hpp];have HPP:=zi5 hpp;rintro e w3 ⟨rfl,hb3⟩;have HB3:=zi5 (HB2'.out.trans (hb3.mono HB2'.out.size));clear hb3 hpp HE HE2 cf p0 p1 p2 p3;go_wp2_with fail
    go_ret;exact ⟨HF.out _ HPP.out,HB3.out⟩
   ·have HE2:=zi5 (show zau s f x.data.toList = zee (zc3 s.rules x.data.toList) x.data.toList from HE.out)
    go_enter func179,ntmps179
    go_wp2_with fail
    refine HK.out.mono ?_;rintro e w1 ⟨rfl,hb1⟩;have HB1:=zi5 (xbt hb1);have HX1:=zi5 (xbn hb1);clear hb1 HK;have cf:(w1.alloc (.cells (zbs 4) 250)).cell? ⟨w1.heap.size,2,none⟩ = some (fnV 303):=by rw [cell_of_row _ _ _ _ _ _ (heap_alloc_new w1 _)]; rfl
    have z0:=zaa HX1.out;obtain ⟨p0,p1,p2,p3⟩:=zbz HX1.out;go_wp2_with (refine wpList_store_row rfl 250 (.tmp 7) (.tmp 13) rfl w1.heap.size (zbs 4) rfl rfl 250 zez (heap_alloc_new w1 _) (by rw [KS.out]; kernel_rfl) (by rw [KS.out]; rfl) KO.out ?_; rw [World.setRow_alloc_new])
    have HB2:=HB1.out.alloc HB1.out.size (.cells (zbs 4) 250);have HB2':=zi5 HB2;refine (anormal_any zaw vt vn vs s.rules x _ (HS.out.2.below HB2) hx).mono ?_;clear HB2;rw [← HE2.out];obtain ⟨pb,hpp⟩:∃ p,zau s f x.data.toList = p:=⟨_,rfl⟩;rw [hpp];have HPP:=zi5 hpp;rintro e w3 ⟨rfl,hb3⟩;have HB3:=zi5 (HB2'.out.trans (hb3.mono HB2'.out.size));clear hb3 hpp HE HE2 cf p0 p1 p2 p3;go_wp2_with fail
    go_ret;exact ⟨HF.out _ HPP.out,HB3.out⟩
 ·have hne:(er == 0) = false:=by simpa using he
  have HE:=zi5 (show zau s f x.data.toList = false by rw [HVal.out,if_neg he]);clear he hkk;go_enter func179,ntmps179
  go_wp2_with fail
  refine HK.out.mono ?_;rintro e w1 ⟨rfl,hb1⟩;have HB1:=zi5 (xbt hb1);have HX1:=zi5 (xbn hb1);clear hb1 HK;go_wp2_with (refine wpList_store_row rfl 250 (.tmp 7) (.tmp 13) rfl w1.heap.size (zbs kd) rfl rfl 250 zez (heap_alloc_new w1 _) (by rw [KS.out]; kernel_rfl) (by rw [KS.out]; rfl) KO.out ?_; rw [World.setRow_alloc_new])
  go_ret;exact ⟨HF.out _ HE.out,HB1.out.alloc HB1.out.size _⟩
end
section
open Go.RowKit Cal
attribute [local go_sem] zah zaj
def posL:Nat→List UInt8→List (List UInt8)
 | _,[]=>[]
 | j,c :: l=>[UInt8.ofNat (97 + j),c] :: posL (j + 1) l
theorem zik (l:List UInt8):∀ j,(posL j l).length = l.length:=by
 induction l with
 | nil=>intro j; rfl
 | cons c l ih=>intro j; simp [posL,ih]
theorem posL_snoc (l:List UInt8) (c:UInt8):∀ j,posL j (l ++ [c]) = posL j l ++ [[UInt8.ofNat (97 + (j + l.length)),c]]:=by
 induction l with
 | nil=>intro j; simp [posL]
 | cons d l ih=>intro j; simp only [List.cons_append,posL,ih,List.length_cons]; rw [show j + 1 + l.length = j + (l.length + 1) by omega]
theorem two_bytes (w:World) (a b:UInt8):(convert 181 9 (.slice (some ⟨w.heap.size,0,none⟩) 2 2)).run prog (w.alloc (.cells #[.int .u8 a.toNat,.int .u8 b.toNat] 5)) = .ok (zal [a,b]) (w.alloc (.cells #[.int .u8 a.toNat,.int .u8 b.toNat] 5)):=by
 have ho:(w.alloc (.cells (([a,b]:List UInt8).map ze1).toArray 5)).ownsRow 0 5 1 (.slice (some ⟨w.heap.size,0,none⟩) 2 2) 2 (([a,b]:List UInt8).map ze1) :=
  ⟨by simp,.inr ⟨_,_,_,rfl,Nat.zero_le _,zac rfl,Nat.le_refl _,zc5 (by omega),by simp,by simp⟩⟩
 exact zb1 [a,b] ho underlying181 underlying5 underlying9
theorem zfn {P:Program} {w:World} {ops:Array Oper} {rest:List Oper} {o:Oper} {a:Act} {Q:Exit→Act→World→Prop} (hgd:o.guard = none) (s x:Operand) (t:TypeId)
  (ho:o.op = .call { callee:=.builtin .append,args:=#[s,x],argTypes:=#[t,t] })
  (base:Nat) (e:TypeId) (size bytes:Nat) (z:Value) (ht:P.underlying t = some (.slice e)) (hinfo:(P.info? e).map (fun i=>(i.zero,i.size,i.bytes)) = some (some z,size,bytes))
  (hzs:z.cells.size = size) (hsz:0 < size) (hby:bytes≤128)
  (v:Value) (n:Nat) (xs:List Value) (hs:a.eval s = v) (hown:w.ownsRow base e size v n xs) (k:Nat) (hk:k = w.heap.size)
  (cs:Array Value) (c:Nat) (hx:a.eval x = .slice (some ⟨k,0,none⟩) 1 c) (hcs:cs.size = size) (h1:∀ u∈cs.toList,u.oneCell' = true)
  (hn:n < 1099511627776) (hbase:base≤w.heap.size)
  (h:∀ v' w',w'.ownsRow base e size v' (n + 1) (xs ++ cs.toList)→(∀ W,Below base W w→Below base W w')→wpList P ops Q rest (a.put o.dst v') w') :
  wpList P ops Q (o :: rest) a (w.alloc (.cells cs e)):=by
 subst hk;exact zbf hgd s x t ho base e size bytes z ht hinfo hzs hsz hby v n xs hs hown cs c hx hcs h1 hn hbase h
theorem positional_any (s:ByteArray) (w:World) (hs:s.size≤26) :
  Calls prog 296 #[.string s] w fun e w'=>∃ v,e = .returned v∧OwnAt w v (posL 0 s.data.toList) w':=by
 have hl:s.data.toList.length = s.size:=by simp
 have HL:=zi5 hl; clear hl;have d1:decide ((26:Int) < s.size) = false:=by simp; omega
 go_enter func296,ntmps296
 go_wp2_with fail
 clear d1;go_loopw [3,10] (fun v i wr=>∃ k:Nat,k≤s.size∧i = .int .i64 k∧OwnAt w v (posL 0 (s.data.toList.take k)) wr) (fun _ i _=>s.size - (intOf i).toNat)
 case atStart=>exact ⟨0,by omega,rfl,OwnAt.start w⟩
 case round =>
  obtain ⟨k,hk,rfl,ho⟩:=hrel;have HO:=zi5 ho; clear ho;by_cases hlt:k < s.size
  ·have hq:decide ((k:Int) < s.size) = true:=by simp; omega
   have ht:=zem s k hlt;have hsn:=posL_snoc (s.data.toList.take k) s[k] 0;have htl:(s.data.toList.take k).length = k:=by rw [List.length_take,HL.out]; omega
   rw [htl,Nat.zero_add] at hsn;have HT:=zi5 ht; have HSn:=zi5 hsn;have hpl:(posL 0 (s.data.toList.take k)).length < 1099511627776:=by rw [zik,htl]; omega
   have hbz:=HO.out.2.size;have ha:((UInt8.ofNat (97 + k)).toNat:Int) = 97 + (k:Int):=by rw [UInt8.toNat_ofNat']; omega
   have hcv:=two_bytes wr (UInt8.ofNat (97 + k)) s[k];rw [ha] at hcv;obtain ⟨z,hz⟩:∃ z,[UInt8.ofNat (97 + k),s[k]] = z:=⟨_,rfl⟩;rw [hz] at hcv;have HZ:=zi5 hz;have hone:∀ u∈(#[zal z]:Array Value).toList,u.oneCell' = true:=by intro u hu; simp at hu; subst hu; rfl
   have HO2:=zi5 (HO.out.below (w':=wr.alloc (.cells #[.int .u8 (97 + (k:Int)),.int .u8 s[k].toNat] 5)) ((Below.refl _ _).alloc xnl _));have HK1:=zi5 (show wr.heap.size + 1 = (wr.alloc (.cells #[.int .u8 (97 + (k:Int)),.int .u8 s[k].toNat] 5)).heap.size by simp);clear ht hsn htl ha hz;go_wp2_with (at_builtin; refine zfn rfl _ _ 27 rfl w.heap.size 9 1 16 (.string ⟨#[]⟩) underlying27 zdi rfl (by decide) (by decide) _ _ _ rfl HO2.out.1 (wr.heap.size + 1) HK1.out #[zal z] 1 rfl rfl hone hpl HO2.out.2.size ?_; intro v2 w8 ho8 hw8)
   go_roundw
   case rel=>exact ⟨k + 1,by omega,by go_num,by rw [HT.out,HSn.out]; exact ⟨by rw [List.length_append,zdm,HZ.out]; exact ho8,hw8 _ HO2.out.2⟩⟩
   case measure=>simp [intOf]; omega
  ·have hq:decide ((k:Int) < s.size) = false:=by simp; omega
   rw [List.take_of_length_le (by rw [HL.out]; omega)] at HO;go_wp2_with fail
   go_ret;exact ⟨_,rfl,HO.out⟩
end
section
open Go.RowKit Cal
def okT (t:List UInt8):Prop:=t≠[]∧∀ b∈t,okB b = true∧b≠32
theorem toksA_run (t:List UInt8) (h:∀ b∈t,b≠32):∀ p r,zby p (t ++ r) = zby (p ++ t) r:=by
 induction t with
 | nil=>intro p r; simp
 | cons c t ih =>
  intro p r;rw [List.cons_append,zb4 _ _ _ (h c List.mem_cons_self),ih (fun b hb=>h b (List.mem_cons_of_mem _ hb)),List.append_assoc]
  rfl
theorem toks_join:∀ (L:List (List UInt8)),(∀ t∈L,okT t)→zcl (zay L) = L:=by
 intro L;induction L with
 | nil=>intro _; rfl
 | cons t L ih =>
  intro h;obtain ⟨h1,h2⟩:=h t List.mem_cons_self;have hr:=ih fun x hx=>h x (List.mem_cons_of_mem _ hx)
  unfold zcl at hr ⊢;by_cases hL:L = []
  ·subst hL
   rw [show zay [t] = t ++ [] by simp [zay],toksA_run t (fun b hb=>(h2 b hb).2),List.nil_append,zea _ h1]
  ·rw [zbk _ _ hL,List.append_assoc,toksA_run t (fun b hb=>(h2 b hb).2),List.nil_append,List.cons_append,List.nil_append,zb3 _ _ h1,hr]
theorem join_ok (L:List (List UInt8)) (h:∀ t∈L,okT t):∀ b∈zay L,okB b = true:=by
 intro b hb
 rcases join_mem L b hb with h1 | ⟨t,ht,hbt⟩
 ·subst h1; rfl
 ·exact ((h t ht).2 b hbt).1
theorem ok_plain {b:UInt8} (h:okB b = true):zbr b = [b]:=by
 have hlt:=okB_lt h;unfold zbr;by_cases hu:isUp b = true
 ·exfalso
  unfold okB at h;simp only [Bool.or_eq_true,zdh,zer,decide_eq_true_iff,beq_iff_eq] at h;rw [up_iff,decide_eq_true_iff] at hu
  rcases h with (h | h) | h
  ·omega
  ·omega
  ·subst h; simp at hu
 ·rw [if_neg hu]
  unfold okB at h;simp only [Bool.or_eq_true,beq_iff_eq] at h
  rcases h with h | h
  ·rw [if_pos (by simpa using h)]
  ·subst h; rfl
theorem ok_pair {a b:UInt8} (h:okB a = true):zit a b = false:=by
 have hlt:=okB_lt h;rw [zhp]; simp; omega
theorem ok_byte {b:UInt8} (h:okB b = true):ze5 b = true:=by
 unfold okB at h;simp only [Bool.or_eq_true,zdh,zer,decide_eq_true_iff,beq_iff_eq] at h;rw [ok_iff,decide_eq_true_iff]
 rcases h with (h | h) | h
 ·omega
 ·omega
 ·subst h; decide
theorem raw_same (l:List UInt8) (h:∀ b∈l,okB b = true):rawL l = l∧zcq l = true:=by
 induction l using rawL.induct with
 | case1=>exact ⟨rfl,rfl⟩
 | case2 a=>exact ⟨by simp only [rawL]; exact ok_plain (h a (by simp)),by simp only [zcq]; exact ok_byte (h a (by simp))⟩
 | case3 a b r hp ih=>exfalso; rw [ok_pair (h a (by simp))] at hp; cases hp
 | case4 a b r hp ih =>
  have hp':=ok_pair (a:=a) (b:=b) (h a (by simp));have:=ih fun x hx=>h x (List.mem_cons_of_mem _ hx)
  refine ⟨?_,?_⟩
  ·rw [rawL,hp']; simp only [Bool.false_eq_true,if_false]; rw [this.1,ok_plain (h a (by simp))]; rfl
  ·rw [zcq,hp']; simp only [Bool.false_eq_true,if_false]; rw [this.2,ok_byte (h a (by simp))]; rfl
theorem fold_same (L:List (List UInt8)) (h:∀ t∈L,okT t):zb2 (zay L) = zay L∧zcl (zb2 (zay L)) = L:=by
 have h1:=(raw_same (zay L) (join_ok L h)).1;have h2:=toks_join L h;have h3:zb2 (zay L) = zay L:=by unfold zb2; rw [h1,h2]
 exact ⟨h3,by rw [h3,h2]⟩
theorem foldV_join (L:List (List UInt8)) (h:∀ t∈L,okT t) (hl:(zay L).length≤64):zc6 (zay L) = true:=by
 unfold zc6;rw [(raw_same (zay L) (join_ok L h)).2]; simpa using hl
theorem toksA_ne (l:List UInt8):∀ p,∀ t∈zby p l,t≠[]:=by
 induction l with
 | nil =>
  intro p t ht;simp only [zby] at ht;split at ht
  ·simp at ht
  ·simp at ht; subst ht; assumption
 | cons c l ih =>
  intro p t ht;by_cases hc:c = 32
  ·subst hc
   by_cases hp:p = []
   ·subst hp; rw [zbm] at ht; exact ih [] t ht
   ·rw [zb3 _ _ hp] at ht
    rcases List.mem_cons.1 ht with rfl | ht
    ·exact hp
    ·exact ih [] t ht
  ·rw [zb4 _ _ _ hc] at ht; exact ih _ t ht
theorem toks_ok (l:List UInt8):∀ t∈zcl (zb2 l),okT t:=by
 intro t ht
 refine ⟨toksA_ne _ [] t ht,fun b hb=>?_⟩
 rcases toksA_mem _ [] t ht b hb with h | h
 ·simp at h
 ·exact ⟨fold_ok l b h.1,h.2⟩
end
section
open Go.RowKit Cal
theorem letters_low (t:List UInt8):∀ b∈za6 t,zfl b = true:=fun b hb=>(List.mem_filter.1 hb).2
theorem low_same {t:List UInt8} (h:∀ b∈t,zfl b = true):za6 t = t:=List.filter_eq_self.2 h
theorem low_okT {t:List UInt8} (h0:t≠[]) (h:∀ b∈t,zfl b = true):okT t:=⟨h0,fun b hb=>⟨by simp [okB,h b hb],by
 intro e; subst e; have:=h 32 hb; rw [zdh] at this; simp at this⟩⟩
theorem token_low {t:List UInt8} (h:zca t = true):t≠[]∧∀ b∈t,zfl b = true:=by
 unfold zca at h;cases h1:t.isEmpty
 ·simp only [h1,cond_false] at h
  cases h2:decide (t.length≤64)
  ·simp [h2] at h
  ·simp only [h2,cond_true,beq_iff_eq] at h
   exact ⟨by simpa using h1,fun b hb=>letters_low t b (by rw [h]; exact hb)⟩
 ·simp [h1] at h
theorem pair_facts {L:List P2} (h:zcj L = true) (j:Nat) (hj:j < L.length):zca (L.getD j default).1 = true∧zca (L.getD j default).2 = true∧zix L (L.getD j default).2 < 0:=by
 have:=pairs_at h j hj;unfold zdg at this;simp only [Bool.and_eq_true,decide_eq_true_iff] at this;exact ⟨this.1.1.1,this.1.1.2,this.2⟩
theorem canon_neg {L:List P2} {s:List UInt8} (h:zix L s < 0):zbe L s = s:=by
 rcases zgc L s with ⟨_,h2⟩ | ⟨k,_,h1,_⟩
 ·exact h2
 ·omega
theorem zib {L:List P2} (h:zcj L = true) (s:List UInt8):(zbe L s = s)∨(∃ k,k < L.length∧zbe L s = (L.getD k default).2∧zca (zbe L s) = true∧zbe L (zbe L s) = zbe L s):=by
 rcases zgc L s with ⟨_,h2⟩ | ⟨k,hk,h1,h3⟩
 ·exact .inl h2
 ·right
  obtain ⟨_,g2,g3⟩:=pair_facts h k hk;rw [h3] at g2 g3;exact ⟨k,hk,h3.symm,g2,canon_neg g3⟩
theorem normTok_same {r:RulesL} (hc:zaz r = 0) {x t:List UInt8} (ht:t∈zct r x):okT t∧zct r t = [t]:=by
 obtain ⟨_,_,h2,_,h4⟩:=zes hc;unfold zct at ht;by_cases hd:((za6 x).isEmpty || zg9 r.titles (za6 x)) = true
 ·rw [if_pos hd] at ht; simp at ht
 ·rw [if_neg hd] at ht
  simp at ht;simp only [Bool.or_eq_true,not_or,Bool.not_eq_true] at hd;obtain ⟨hd1,hd2⟩:=hd
  have key:∀ y:List UInt8,y≠[]→(∀ b∈y,zfl b = true)→zg9 r.titles y = false→zbe r.nicks y = y→okT y∧zct r y = [y]:=by
   intro y h0 h1 h3 h5;refine ⟨low_okT h0 h1,?_⟩;unfold zct;rw [low_same h1,h3,h5,if_neg (by simpa using h0)]
  rcases zib h2 (za6 x) with hs | ⟨k,hk,e1,e2,e3⟩
  ·rw [hs] at ht
   subst ht;exact key _ (by simpa using hd1) (letters_low x) hd2 hs
  ·rw [← ht] at e1 e2 e3
   obtain ⟨g1,g2⟩:=token_low e2;refine key t g1 g2 ?_ e3;rw [e1];have:=List.any_eq_false.1 h4 (r.nicks.getD k default) (by rw [List.getD,List.getElem?_eq_getElem hk]; exact List.getElem_mem hk);simpa using this
theorem zir {r:RulesL} (hc:zaz r = 0) (T:List (List UInt8)):(∀ t∈za9 r T,okT t)∧za9 r (za9 r T) = za9 r T:=by
 have h:∀ t∈za9 r T,okT t∧zct r t = [t]:=by
  intro t ht;obtain ⟨x,_,hx⟩:=List.mem_flatMap.1 ht;exact normTok_same hc hx
 refine ⟨fun t ht=>(h t ht).1,?_⟩
 have:∀ L:List (List UInt8),(∀ t∈L,zct r t = [t])→za9 r L = L:=by
  intro L;induction L with
  | nil=>intro _; rfl
  | cons t L ih =>
   intro hL;have:=ih fun x hx=>hL x (List.mem_cons_of_mem _ hx)
   unfold za9 at this ⊢;rw [List.flatMap_cons,this,hL t List.mem_cons_self]; rfl
 exact this _ fun t ht=>(h t ht).2
theorem nameN_same {r:RulesL} {l v:List UInt8} (h:zc2 r l = (v,0)):zc2 r v = (v,0):=by
 unfold zc2 at h;by_cases hc:zaz r = 0
 ·rw [if_pos hc] at h
  by_cases hv:zc6 l = true
  ·rw [if_pos hv] at h
   obtain ⟨h1,h2⟩:=zir hc (zcl (zb2 l));generalize za9 r (zcl (zb2 l)) = N at h h1 h2;by_cases hb:6 < N.length∨64 < (zay N).length
   ·rw [if_pos hb] at h; simp at h
   ·rw [if_neg hb] at h
    obtain rfl:zay N = v:=congrArg Prod.fst h;obtain ⟨f1,f2⟩:=fold_same N h1;unfold zc2;rw [if_pos hc,if_pos (foldV_join N h1 (by omega)),f2,h2,if_neg hb]
  ·rw [if_neg hv] at h; simp at h
 ·rw [if_neg hc] at h
  exact absurd (congrArg Prod.snd h) hc
theorem codeN_same {l v:List UInt8} (h:zdn l = (v,0)):zdn v = (v,0):=by
 unfold zdn at h;by_cases hv:zc6 l = true
 ·rw [if_pos hv] at h
  have hok:=toks_ok l;generalize zcl (zb2 l) = T at h hok;by_cases hb:12 < T.flatten.length
  ·rw [if_pos hb] at h; simp at h
  ·rw [if_neg hb] at h
   obtain rfl:T.flatten = v:=congrArg Prod.fst h
   have hbytes:∀ b∈T.flatten,okB b = true∧b≠32:=by
    intro b hb';obtain ⟨t,ht,hbt⟩:=List.mem_flatten.1 hb';exact (hok t ht).2 b hbt
   by_cases h0:T.flatten = []
   ·rw [h0]; rfl
   ·have hL:∀ t∈[T.flatten],okT t:=by
     intro t ht; simp at ht; subst ht; exact ⟨h0,hbytes⟩
    obtain ⟨f1,f2⟩:=fold_same [T.flatten] hL;have f3:=foldV_join [T.flatten] hL (by simp [zay]; simp at hb; omega);rw [show zay [T.flatten] = T.flatten from rfl] at f1 f2 f3;unfold zdn;rw [if_pos f3,f2];simp only [List.flatten_cons,List.flatten_nil,List.append_nil];rw [if_neg hb]
 ·rw [if_neg hv] at h; simp at h
end
section
open Go.RowKit Cal
theorem dropWhile_fix (l:List UInt8):(l.dropWhile (· == 48)).dropWhile (· == 48) = l.dropWhile (· == 48):=by
 induction l with
 | nil=>rfl
 | cons c l ih =>
  by_cases hc:(c == 48) = true
  ·rw [List.dropWhile_cons,if_pos hc,ih]
  ·rw [List.dropWhile_cons,if_neg hc,List.dropWhile_cons,if_neg hc]
theorem short_num (x:List UInt8):zc1 (zbn x) = true:=by
 unfold zbn;split
 ·assumption
 ·rfl
theorem short_same (x:List UInt8):zbn (zbn x) = zbn x:=by
 have hd:=dropWhile_fix x;generalize hr:x.dropWhile (· == 48) = r at hd;have e:zbn x = if zc1 r = true then r else 48 :: r:=by unfold zbn; rw [hr]
 by_cases hn:zc1 r = true
 ·rw [e,if_pos hn]; unfold zbn; rw [hd,if_pos hn]
 ·rw [e,if_neg hn]; unfold zbn
  rw [show (48 :: r).dropWhile (· == 48) = r.dropWhile (· == 48) from rfl,hd,if_neg hn]
theorem dropWhile_mem (l:List UInt8):∀ b∈l.dropWhile (· == 48),b∈l:=by
 induction l with
 | nil=>intro b hb; simp at hb
 | cons c l ih =>
  intro b hb;by_cases hc:(c == 48) = true
  ·rw [List.dropWhile_cons,if_pos hc] at hb; exact List.mem_cons_of_mem _ (ih b hb)
  ·rw [List.dropWhile_cons,if_neg hc] at hb; exact hb
theorem short_ok {x:List UInt8} (h:okT x):okT (zbn x):=by
 have h1:∀ b∈x.dropWhile (· == 48),okB b = true∧b≠32:=fun b hb=>h.2 b (dropWhile_mem x b hb)
 unfold zbn;split
 ·rename_i hn
  refine ⟨fun e=>?_,h1⟩
  rw [e] at hn; cases hn
 ·refine ⟨by simp,fun b hb=>?_⟩
  rcases List.mem_cons.1 hb with rfl | hb
  ·exact ⟨by decide,by decide⟩
  ·exact h1 b hb
theorem low_not_num {t:List UInt8} (h:∀ b∈t,zfl b = true):zc1 t = false:=by
 cases t with
 | nil=>rfl
 | cons c t =>
  have:=h c List.mem_cons_self;rw [zdh,decide_eq_true_iff] at this;show isDgt c = false;rw [zer]; simp; omega
theorem addrTok_same {r:RulesL} (h:zcj r.streets = true) {x:List UInt8} (hx:okT x):okT (za3 r x)∧za3 r (za3 r x) = za3 r x:=by
 by_cases hn:zc1 x = true
 ·have e:za3 r x = zbn x:=by unfold za3; rw [if_pos hn]
  rw [e];refine ⟨short_ok hx,?_⟩;unfold za3;rw [if_pos (short_num x),short_same]
 ·have e:za3 r x = zbe r.streets x:=by unfold za3; rw [if_neg hn]
  rw [e]
  rcases zib h x with hs | ⟨k,hk,e1,e2,e3⟩
  ·rw [hs]; exact ⟨hx,by rw [e,hs]⟩
  ·obtain ⟨g1,g2⟩:=token_low e2
   refine ⟨low_okT g1 g2,?_⟩;unfold za3;rw [low_not_num g2,e3]; simp
theorem order2_same (T:List (List UInt8)):zb8 (zb8 T) = zb8 T:=by
 have hn:∀ L:List (List UInt8),L.filter (fun _=>false) = []:=fun L=>by induction L with
  | nil=>rfl
  | cons x L ih=>rw [List.filter_cons]; simp
 unfold zb8;simp [List.filter_append,List.filter_filter,hn]
theorem zip (T:List (List UInt8)):(zb8 T).length = T.length:=by
 induction T with
 | nil=>rfl
 | cons t T ih =>
  unfold zb8 at ih ⊢;cases h:zc1 t <;> simp [List.filter_cons,h] at ih ⊢ <;> omega
theorem map_same {f:List UInt8→List UInt8}:∀ (T:List (List UInt8)),(∀ t∈T,f t = t)→T.map f = T:=by
 intro T;induction T with
 | nil=>intro _; rfl
 | cons t T ih=>intro h; rw [List.map_cons,h t List.mem_cons_self,ih fun x hx=>h x (List.mem_cons_of_mem _ hx)]
theorem addrN_same {r:RulesL} {l v:List UInt8} (h:zc3 r l = (v,0)):zc3 r v = (v,0):=by
 unfold zc3 at h;by_cases hc:zaz r = 0
 ·rw [if_pos hc] at h
  obtain ⟨_,_,_,h3,_⟩:=zes hc;by_cases hv:zc6 l = true
  ·rw [if_pos hv] at h
   have hok:=toks_ok l;generalize zcl (zb2 l) = T at h hok
   have hM:∀ t∈zb8 (T.map (za3 r)),okT t∧za3 r t = t:=by
    intro t ht;obtain ⟨x,hx,rfl⟩:=List.mem_map.1 (order2_mem ht);exact addrTok_same h3 (hok x hx)
   have hlen:(zb8 (T.map (za3 r))).length = T.length:=by rw [zip,List.length_map]
   by_cases hb:6 < T.length∨64 < (zay (zb8 (T.map (za3 r)))).length
   ·rw [if_pos hb] at h; simp at h
   ·rw [if_neg hb] at h
    have hs:=order2_same (T.map (za3 r));generalize zb8 (T.map (za3 r)) = M at h hM hlen hb hs;obtain rfl:zay M = v:=congrArg Prod.fst h;have h1:∀ t∈M,okT t:=fun t ht=>(hM t ht).1
    obtain ⟨f1,f2⟩:=fold_same M h1;unfold zc3;rw [if_pos hc,if_pos (foldV_join M h1 (by omega)),f2,map_same M fun t ht=>(hM t ht).2,hs,if_neg (by rw [hlen]; exact hb)]
  ·rw [if_neg hv] at h; simp at h
 ·rw [if_neg hc] at h
  exact absurd (congrArg Prod.snd h) hc
theorem numI_dg (n:Int) (k:Nat) (h0:0≤n) (h:n < 10 ^ k):zdy (dg n k) = n:=by
 rw [numI_dig _ (dg_dig k n h0),dg_val k n h0 h]
theorem day_read {a b c:Int} (h:vldB a b c = true):readB (zdk a b c) = true:=by
 obtain ⟨b1,b2,b3,b4,b5,b6⟩:=vld_bd h
 have e1:(zdk a b c).take 4 = dg a 4:=by
  unfold zdk; rw [List.append_assoc,List.take_append_of_le_length (by rw [zel]; omega),List.take_of_length_le (by rw [zel]; omega)]
 have e2:((zdk a b c).drop 4).take 2 = dg b 2:=by
  unfold zdk; rw [List.append_assoc,List.drop_append_of_le_length (by rw [zel]; omega),List.drop_eq_nil_of_le (by rw [zel]; omega),List.nil_append,List.take_append_of_le_length (by rw [zel]; omega),List.take_of_length_le (by rw [zel]; omega)]
 have e3:((zdk a b c).drop 6).take 2 = dg c 2:=by
  unfold zdk; rw [List.drop_append_of_le_length (by simp [zel]),List.drop_eq_nil_of_le (by simp [zel]),List.nil_append,List.take_of_length_le (by rw [zel]; omega)]
 unfold readB;rw [digits8_len,e1,e2,e3,numI_dg a 4 (by omega) (by omega),numI_dg b 2 (by omega) (by omega),numI_dg c 2 (by omega) (by omega),h];rfl
theorem dayN_read {l v:List UInt8} (h:dayN l = (v,0)):readB v = true:=by
 rcases parse_is ⟨l.toArray⟩ with ⟨a,b,c,hv,_,hd⟩ | ⟨_,hd⟩
 ·rw [show (⟨l.toArray⟩:ByteArray).data.toList = l by simp,h] at hd
  obtain rfl:v = zdk a b c:=congrArg Prod.fst hd;exact day_read hv
 ·rw [show (⟨l.toArray⟩:ByteArray).data.toList = l by simp,h] at hd
  simp at hd
theorem own_of {p:List UInt8 × Int} {v:List UInt8} (h:p = (v,0)):zee p v = true:=by subst h; simp [zee]
theorem value_normal {s:SchemaL} {f:Int} {l v:List UInt8} (h:zcp s f l = (v,0)):zau s f v = true∧zau s f [] = true∧((zbt s f).1 = 2∨zcp s f v = (v,0)):=by
 unfold zcp at h;by_cases he:(zbt s f).2 = 0
 ·have hk:=zdz he
  have e2:zau s f [] = true:=by unfold zau; rw [if_pos he,if_pos rfl]
  by_cases hv0:v = []
  ·subst hv0
   exact ⟨e2,e2,.inr (by unfold zcp; rw [if_pos he,if_pos rfl])⟩
  ·rw [if_pos he] at h
   by_cases hl:l = []
   ·rw [if_pos hl] at h
    exact absurd (congrArg Prod.fst h).symm hv0
   ·rw [if_neg hl] at h
    have e1:zau s f v = ownK (zbt s f).1 s.rules v:=by unfold zau; rw [if_pos he,if_neg hv0]
    have e3:zcp s f v = normK (zbt s f).1 s.rules v:=by unfold zcp; rw [if_pos he,if_neg hv0]
    rw [e1,e3]
    rcases hk with hk | hk | hk | hk
    ·rw [hk] at h ⊢
     have:=nameN_same (r:=s.rules) h;exact ⟨own_of this,e2,.inr this⟩
    ·rw [hk] at h ⊢
     exact ⟨dayN_read (show dayN l = (v,0) from h),e2,.inl rfl⟩
    ·rw [hk] at h ⊢
     have:=codeN_same (show zdn l = (v,0) from h);exact ⟨own_of this,e2,.inr this⟩
    ·rw [hk] at h ⊢
     have:=addrN_same (r:=s.rules) h;exact ⟨own_of this,e2,.inr this⟩
 ·rw [if_neg he] at h
  exact absurd (congrArg Prod.snd h) he
end
section
open Go.RowKit Go.Maps
def setL (L:List (List UInt8)):List (List UInt8):=L.eraseDups.mergeSort leB
theorem erase_nodup (L:List (List UInt8)):∀ n,L.length≤n→L.eraseDups.Nodup:=by
 intro n;induction n generalizing L with
 | zero=>intro h; have:L = []:=List.length_eq_zero_iff.1 (by omega); subst this; simp
 | succ n ih =>
  intro h;cases L with
  | nil=>simp
  | cons a L =>
   rw [List.eraseDups_cons];refine List.nodup_cons.2 ⟨?_,ih _ ?_⟩
   ·rw [List.mem_eraseDups]; simp
   ·have:=List.length_filter_le (fun b=>!b == a) L; simp at h ⊢; omega
theorem erase_len (L:List (List UInt8)):∀ n,L.length≤n→L.eraseDups.length≤L.length:=by
 intro n;induction n generalizing L with
 | zero=>intro h; have:L = []:=List.length_eq_zero_iff.1 (by omega); subst this; simp
 | succ n ih =>
  intro h;cases L with
  | nil=>simp
  | cons a L =>
   rw [List.eraseDups_cons,List.length_cons,List.length_cons];have h1:=List.length_filter_le (fun b=>!b == a) L
   have:=ih (L.filter fun b=>!b == a) (by simp at h ⊢; omega)
   omega
theorem set_mem (L:List (List UInt8)) (x:List UInt8):x∈setL L ↔ x∈L:=by
 unfold setL; rw [List.mem_mergeSort,List.mem_eraseDups]
theorem set_len (L:List (List UInt8)):(setL L).length≤L.length:=by
 unfold setL; rw [(List.mergeSort_perm _ _).length_eq]; exact erase_len L _ xnl
def AscB (L:List (List UInt8)):Prop:=∀ i,i + 1 < L.length→Op.bytesLess (L.getD i []) (L.getD (i + 1) []) = true
theorem set_of_perm {L ss:List (List UInt8)} (hn:ss.Nodup) (hm:∀ x,x∈ss ↔ x∈L):ss.mergeSort leB = setL L:=by
 refine mergeSort_of_perm ((List.perm_ext_iff_of_nodup hn (erase_nodup L _ xnl)).2 fun x=>?_)
 rw [hm,List.mem_eraseDups]
def bigrA:List UInt8→List (List UInt8)
 | a :: b :: r=>[a,b] :: bigrA (b :: r)
 | _=>[]
theorem zhw:∀ l:List UInt8,(bigrA l).length = l.length - 1:=by
 intro l;induction l using bigrA.induct with
 | case1 a b r ih=>simp [bigrA,ih]
 | case2 l h =>
  match l,h with
  | [],_=>rfl
  | [a],_=>rfl
  | a :: b :: r,h=>exact absurd rfl (h a b r)
def zdq (t:List UInt8):List UInt8:=[95] ++ t ++ [95]
def zbh (T:List (List UInt8)):List (List UInt8):=T.flatMap fun t=>bigrA (zdq t)
def ze0 (l:List UInt8):List (List UInt8):=setL (zbh (zcl l))
theorem gramsAll_len (T:List (List UInt8)):T≠[]→(zbh T).length = (zay T).length + 1:=by
 induction T with
 | nil=>intro h; exact absurd rfl h
 | cons t T ih =>
  intro _
  have e:(zbh (t :: T)).length = t.length + 1 + (zbh T).length:=by
   simp only [zbh,List.flatMap_cons,List.length_append,zhw,zdq]; simp; try omega
  by_cases hT:T = []
  ·subst hT; rw [e]; simp [zbh,zay]
  ·rw [e,ih hT,zbk _ _ hT]; simp; omega
theorem grams_bound {l:List UInt8} (h:l.length≤64):(ze0 l).length≤65:=by
 have h1:=set_len (zbh (zcl l));have h2:=(zdl l []).1;by_cases hT:zcl l = []
 ·unfold ze0; rw [hT]; simp [zbh,setL]
 ·have h3:=gramsAll_len (zcl l) hT
  unfold ze0; unfold zcl at *; simp at h2; omega
theorem pos_asc (l:List UInt8):∀ j,j + l.length≤26→AscB (posL j l):=by
 intro j hj i hi
 have key:∀ (l:List UInt8) (j i:Nat),i < l.length→(posL j l).getD i [] = [UInt8.ofNat (97 + (j + i)),l.getD i 0]:=by
  intro l;induction l with
  | nil=>intro j i hi; simp at hi
  | cons c l ih =>
   intro j i hi;cases i with
   | zero=>rfl
   | succ i =>
    have:=ih (j + 1) i (by simp at hi; omega);simp only [posL,List.getD_cons_succ] at this ⊢;rw [this]; congr 2; congr 1; omega
 rw [zik] at hi;rw [key l j i (by omega),key l j (i + 1) (by omega),bytesLess_eq,decide_eq_true_iff];refine List.cons_lt_cons_iff.2 (.inl ?_);rw [UInt8.lt_iff_toNat_lt,UInt8.toNat_ofNat',UInt8.toNat_ofNat']; omega
end
end Go.Proofs.YtpmpdonccgcehaaGreatDoor
section
namespace Go.Proofs
open Go.Shelf
def Tryz.keys335_ren:Go.Shelf.Ren:=⟨fun | 7=>335 | 10=>344 | n=>n,fun | 23=>335 | 26=>9 | 3=>336 | 28=>332 | 0=>0 | 27=>331 | 33=>164 | 4=>4 | n=>n,fun | n=>n⟩
theorem Tryz.keys335:Go.Proofs.SlLaysZ.n7 prog Tryz.keys335_ren:={
 mixed:=by kernel_rfl
 f7:=⟨Tryz.f335.name,by decide,func335.trans (congrArg some (by kernel_rfl))⟩
 f10:=⟨Tryz.f344.name,by decide,func344.trans (congrArg some (by kernel_rfl))⟩
 t0:=underlying0
 a0:=Tryz.isAgg0
 z0:=Tryz.sizeOf0
 v0:=Tryz.zeroValue0
 t4:=underlying4
 a4:=Tryz.isAgg4
 z4:=Tryz.sizeOf4
 v4:=Tryz.zeroValue4
 t23:=underlying335
 a23:=Tryz.isAgg335
 z23:=Tryz.sizeOf335
 v23:=Tryz.zeroValue335
 t26:=underlying9
 a26:=Tryz.isAgg9
 z26:=Tryz.sizeOf9
 v26:=Tryz.zeroValue9
 t27:=underlying331
 a27:=Tryz.isAgg331
 z27:=Tryz.sizeOf331
 v27:=Tryz.zeroValue331
 t28:=underlying332
 a28:=Tryz.isAgg332
 z28:=Tryz.sizeOf332
 v28:=Tryz.zeroValue332
 t33:=underlying164
 a33:=Tryz.isAgg164
 z33:=Tryz.sizeOf164
 v33:=Tryz.zeroValue164 }
def Tryz.sorted334_ren:Go.Shelf.Ren:=⟨fun | 6=>334 | 8=>342 | 9=>343 | 11=>350 | 13=>249 | 12=>351 | 23=>288 | 24=>265 | 14=>355 | 15=>356 | 16=>357 | 17=>358 | 18=>359 | 19=>360 | 20=>361 | 21=>362 | 22=>363 | 25=>365 | 26=>311 | 27=>312 | 28=>366 | 29=>367 | 30=>368 | 31=>371 | n=>n,fun | 26=>9 | 28=>332 | 24=>27 | 0=>0 | 3=>3 | 37=>101 | 48=>287 | 50=>24 | 4=>4 | 40=>300 | 39=>299 | 45=>145 | 5=>5 | 9=>9 | 51=>314 | 55=>317 | 57=>322 | 58=>323 | 33=>164 | n=>n,fun | n=>n⟩
theorem Tryz.sorted334:Go.Proofs.SlLaysZ.n6 prog Tryz.sorted334_ren:={
 mixed:=by kernel_rfl
 f6:=⟨Tryz.f334.name,by decide,func334.trans (congrArg some (by kernel_rfl))⟩
 f8:=⟨Tryz.f342.name,by decide,func342.trans (congrArg some (by kernel_rfl))⟩
 f11:=⟨Tryz.f350.name,by decide,func350.trans (congrArg some (by kernel_rfl))⟩
 t0:=underlying0
 a0:=Tryz.isAgg0
 z0:=Tryz.sizeOf0
 v0:=Tryz.zeroValue0
 t24:=underlying27
 a24:=Tryz.isAgg27
 z24:=Tryz.sizeOf27
 v24:=Tryz.zeroValue27
 t26:=underlying9
 a26:=Tryz.isAgg9
 z26:=Tryz.sizeOf9
 v26:=Tryz.zeroValue9
 t28:=underlying332
 a28:=Tryz.isAgg332
 z28:=Tryz.sizeOf332
 v28:=Tryz.zeroValue332
 i26:=by kernel_rfl }
def Tryz.sort343_ren:Go.Shelf.Ren:=⟨fun | 6=>343 | 8=>249 | 9=>351 | 19=>288 | 20=>265 | 21=>355 | 22=>356 | 23=>357 | 24=>358 | 25=>359 | 26=>360 | 27=>361 | 28=>362 | 29=>363 | 36=>365 | 31=>311 | 32=>312 | 37=>366 | 38=>367 | 39=>368 | 41=>371 | n=>n,fun | 27=>27 | 29=>9 | 3=>3 | 32=>101 | 26=>27 | 0=>0 | 44=>287 | 46=>24 | 4=>4 | 36=>300 | 35=>299 | 41=>145 | 5=>5 | 9=>9 | 53=>314 | 57=>317 | 63=>322 | 64=>323 | n=>n,fun | n=>n⟩
theorem Tryz.sort343:Go.Proofs.SlLaysM.n6 prog Tryz.sort343_ren:={
 mixed:=by kernel_rfl
 f6:=⟨Tryz.f343.name,by decide,func343.trans (congrArg some (by kernel_rfl))⟩
 f8:=func249.trans (congrArg some (by kernel_rfl))
 f9:=⟨Tryz.f351.name,by decide,func351.trans (congrArg some (by kernel_rfl))⟩
 f19:=func288.trans (congrArg some (by kernel_rfl))
 f20:=func265.trans (congrArg some (by kernel_rfl))
 f21:=⟨Tryz.f355.name,by decide,func355.trans (congrArg some (by kernel_rfl))⟩
 f22:=⟨Tryz.f356.name,by decide,func356.trans (congrArg some (by kernel_rfl))⟩
 f23:=⟨Tryz.f357.name,by decide,func357.trans (congrArg some (by kernel_rfl))⟩
 f24:=⟨Tryz.f358.name,by decide,func358.trans (congrArg some (by kernel_rfl))⟩
 f25:=⟨Tryz.f359.name,by decide,func359.trans (congrArg some (by kernel_rfl))⟩
 f26:=⟨Tryz.f360.name,by decide,func360.trans (congrArg some (by kernel_rfl))⟩
 f27:=⟨Tryz.f361.name,by decide,func361.trans (congrArg some (by kernel_rfl))⟩
 f28:=⟨Tryz.f362.name,by decide,func362.trans (congrArg some (by kernel_rfl))⟩
 f29:=⟨Tryz.f363.name,by decide,func363.trans (congrArg some (by kernel_rfl))⟩
 f31:=func311.trans (congrArg some (by kernel_rfl))
 f32:=func312.trans (congrArg some (by kernel_rfl))
 f36:=⟨Tryz.f365.name,by decide,func365.trans (congrArg some (by kernel_rfl))⟩
 f37:=⟨Tryz.f366.name,by decide,func366.trans (congrArg some (by kernel_rfl))⟩
 f38:=⟨Tryz.f367.name,by decide,func367.trans (congrArg some (by kernel_rfl))⟩
 f39:=⟨Tryz.f368.name,by decide,func368.trans (congrArg some (by kernel_rfl))⟩
 f41:=⟨Tryz.f371.name,by decide,func371.trans (congrArg some (by kernel_rfl))⟩
 t0:=underlying0
 a0:=Tryz.isAgg0
 z0:=Tryz.sizeOf0
 v0:=Tryz.zeroValue0
 t3:=underlying3
 a3:=Tryz.isAgg3
 z3:=Tryz.sizeOf3
 v3:=Tryz.zeroValue3
 t4:=underlying4
 a4:=Tryz.isAgg4
 z4:=Tryz.sizeOf4
 v4:=Tryz.zeroValue4
 t5:=underlying5
 a5:=Tryz.isAgg5
 z5:=Tryz.sizeOf5
 v5:=Tryz.zeroValue5
 t9:=underlying9
 a9:=Tryz.isAgg9
 z9:=Tryz.sizeOf9
 v9:=Tryz.zeroValue9
 t26:=underlying27
 a26:=Tryz.isAgg27
 z26:=Tryz.sizeOf27
 v26:=Tryz.zeroValue27
 t27:=underlying27
 a27:=Tryz.isAgg27
 z27:=Tryz.sizeOf27
 v27:=Tryz.zeroValue27
 t29:=underlying9
 a29:=Tryz.isAgg9
 z29:=Tryz.sizeOf9
 v29:=Tryz.zeroValue9
 t32:=underlying101
 a32:=Tryz.isAgg101
 z32:=Tryz.sizeOf101
 v32:=Tryz.zeroValue101
 t35:=underlying299
 a35:=Tryz.isAgg299
 z35:=Tryz.sizeOf299
 v35:=Tryz.zeroValue299
 t36:=underlying300
 a36:=Tryz.isAgg300
 z36:=Tryz.sizeOf300
 v36:=Tryz.zeroValue300
 t41:=underlying145
 a41:=Tryz.isAgg145
 z41:=Tryz.sizeOf145
 v41:=Tryz.zeroValue145
 t44:=underlying287
 a44:=Tryz.isAgg287
 z44:=Tryz.sizeOf287
 v44:=Tryz.zeroValue287
 t46:=underlying24
 a46:=Tryz.isAgg24
 z46:=Tryz.sizeOf24
 v46:=Tryz.zeroValue24
 t53:=underlying314
 a53:=Tryz.isAgg314
 z53:=Tryz.sizeOf314
 v53:=Tryz.zeroValue314
 t57:=underlying317
 a57:=Tryz.isAgg317
 z57:=Tryz.sizeOf317
 v57:=Tryz.zeroValue317
 t63:=underlying322
 a63:=Tryz.isAgg322
 z63:=Tryz.sizeOf322
 v63:=Tryz.zeroValue322
 t64:=underlying323
 a64:=Tryz.isAgg323
 z64:=Tryz.sizeOf323
 v64:=Tryz.zeroValue323 }
end Go.Proofs
end
section
namespace Go.Proofs
open Go.RowKit Go.Maps Go.Sort Go.Shelf
theorem Tryz.sorts334 (m:Nat):AnyZ.SortsIn prog Tryz.sorted334_ren Fence.wide m :=
 ⟨fun blk off cap ss W hH hblk hsz=>callsIn_wide.2 (AnyM.slices_Sort_string Tryz.sort343 blk off cap ss W hH hblk hsz),
  fun p cap W=>callsIn_wide.2 (AnyM.slices_Sort_string_none Tryz.sort343 p cap W)⟩
theorem Tryz.maps_Keys (mb:Option Nat) (W:World):CallsIn Fence.wide 5 prog 335 #[.map mb] W fun e w'=>e = .returned (.func (.func 344) #[] #[.pointer (some ⟨W.heap.size,0,none⟩)])∧w' = W.alloc (.cells #[.map mb] 335) :=
 AnyZ.keys_in Tryz.keys335 Fence.wide 5 trivial rfl mb W
theorem Tryz.slices_Sorted_keys {H:Type} (b nn:Nat) (D0:DataW H) (R:Value→Option (DataW H × List MemPlace)) (w:World) (hown:w.ownsMap prog 9 R b nn D0) (hmax:Maps.size D0≤maxLen) (hbytes:Maps.size D0 * 16≤140737488355328) :
  CallsIn Fence.wide 5 prog 334 #[.func (.func 344) #[] #[.pointer (some ⟨w.heap.size,0,none⟩)]] (w.alloc (.cells #[.map (some b)] 335)) fun e w'=>∃ (v:Value) (ss:List (List UInt8)),e = .returned v∧ss.Perm (strKeys D0) ∧
   w'.ownsRow (w.alloc (.cells #[.map (some b)] 335)).heap.size 9 1 v ss.length ((ss.mergeSort (fun x y=>decide (x≤y))).map encStr)∧(v = .slice none 0 0 ↔ ss = [])∧Below (w.alloc (.cells #[.map (some b)] 335)).heap.size (w.alloc (.cells #[.map (some b)] 335)) w':=by
 have hbl:=hown.lt
 have hseq:SeqGives Fence.wide 2 prog 344 #[.pointer (some ⟨w.heap.size,0,none⟩)] encStr (fun ss=>ss.Perm (strKeys D0)) (Maps.size D0) (w.alloc (.cells #[.map (some b)] 335)) :=
  AnyZ.keys_gives (ρ:=Tryz.keys335_ren) { Tryz.keys335 with } Fence.wide _ trivial rfl (by omega) w.heap.size b nn D0 _ (by simp) (by simp) (by
   obtain ⟨es,clock,hb,Ft,hs,hD⟩:=hown
   exact ⟨es,clock,(Below.heap_alloc _ _ b hbl).trans hb,Ft,hs,hD⟩)
 exact AnyZ.sorted_in Tryz.sorted334 Fence.wide 5 trivial trivial trivial trivial rfl (by omega) (Tryz.sorts334 _) (enters_of func343 (by kernel_rfl) rfl) 344 #[.pointer (some ⟨w.heap.size,0,none⟩)] trivial (enters_of func344 (by kernel_rfl) rfl) _ _ hmax hbytes _ hseq
end Go.Proofs
end
namespace Go.Proofs.YtpmpdonccgcehaaGreatDoor
section
open Go.RowKit Cal
attribute [local go_sem] zah zaj
end
section
open Go.RowKit Cal
attribute [local go_sem] zah zaj
theorem vec_block {w:World} {A:Nat} {L:List (List UInt8)} (h:w.heap[A]? = some (.cells (L.flatMap za2).toArray 9 (0,0))) (n:Nat) (hn:n = L.length):Vec w zaw 1 za2 (.slice (some ⟨A,0,none⟩) n n) L:=by
 subst hn; exact RowB.vec h _ xnl
theorem zfa {α:Type} [Inhabited α] (T:List α) (k:Nat) (h:k < T.length):T.take (k + 1) = T.take k ++ [T.getD k default]:=by
 rw [List.take_succ_eq_append_getElem h,List.getD,List.getElem?_eq_getElem h]; rfl
end
section
open Go.RowKit Go.Maps
attribute [local go_sem] zah zaj
theorem lawS:Keyed prog 9:=string_keyed underlying9
def unitD:DataW Unit:=.agg []
def setD (L:List (List UInt8)):DataW Unit:=setOf unitD (L.map Lit.string)
theorem keyLit (L:List (List UInt8)):∀ x∈L.map Lit.string,WideAt.IsKeyLit x:=by
 intro x hx;obtain ⟨y,_,rfl⟩:=List.mem_map.1 hx;trivial
theorem setD_snoc (L:List (List UInt8)) (x:List UInt8):setD (L ++ [x]) = (setD L).put (.string x) unitD:=by
 unfold setD; rw [List.map_append,List.map_cons,List.map_nil,setOf_snoc]
theorem of_any (S:Nat→Prop) (v:Value) (L:List (List UInt8)) (w:World) (h:Vec w S 1 za2 v L) (hn:L.length≤1000000) (hL:∀ t∈L,t.length≤1000000) :
  Calls prog 336 #[v] w fun e w'=>e = .returned (.map (some w.heap.size))∧w'.ownsMap prog 9 unitElem w.heap.size L.length (setD L)∧Below w.heap.size w w':=by
 have hmm:=@run_makeMap prog;obtain ⟨a,cap,rfl⟩:=h.slice;by_cases hz:L = []
 ·subst hz
  clear h;go_enter func336,ntmps336
  go_wp2
  refine wp_loop_rounds 1 ?_; rw [rounds_succ];go_wp2
  go_ret;exact ⟨rfl,World.ownsMap_made _ _ _ _,(Below.refl _ _).alloc xnl _⟩
 ·obtain ⟨b,off,rfl,_,hb,hc⟩:=zb9 h (List.length_pos_iff.2 hz)
  have HC:=zi5 hc; have HLn:=zi5 hL;clear hc h hz hL;go_enter func336,ntmps336
  go_wp2
  go_loopw [9] (fun i wr=>∃ k:Nat,k≤L.length∧i = .int .i64 k∧wr.ownsMap prog 9 unitElem w.heap.size k (setD (L.take k))∧Below w.heap.size w wr) (fun i _=>L.length - (intOf i).toNat)
  case atStart=>exact ⟨0,by omega,rfl,World.ownsMap_made _ _ _ _,(Below.refl _ _).alloc xnl _⟩
  case round =>
   obtain ⟨k,hk,rfl,ho,hbw⟩:=hrel;have HO:=zi5 ho; have HB:=zi5 hbw;by_cases hlt:k < L.length
   ·have hq:decide ((k:Int) < L.length) = true:=by simp; omega
    have c1:wr.cell? ⟨b,off + k,none⟩ = some (zal (L.getD k [])):=(hbw.cell (p:=⟨b,off + k,none⟩) hb).trans (HC.out k hlt);have hx1:(L.getD k []).length≤1000000:=by rw [List.getD,List.getElem?_eq_getElem hlt]; exact HLn.out _ (List.getElem_mem hlt)
    have htk:=zfa L k hlt;rw [show (default:List UInt8) = [] from rfl] at htk;obtain ⟨x,hx⟩:∃ x,L.getD k [] = x:=⟨_,rfl⟩;rw [hx] at c1 hx1 htk;have HT:=zi5 htk;have hkey:=zi5 (WideMaps.keyOf_string_mk (P:=prog) (k:=9) (s:=⟨x.toArray⟩) underlying9 (by rw [zaj]; unfold maxLen; omega));clear hx htk hbw ho;go_wp2_with (at_mapUpdate; refine wpList_mapUpdate_own _ rfl _ _ _ 335 rfl 9 336 lawS underlying335 (unitElem (H:=Unit)) w.heap.size k _ rfl HO.out (by unfold maxLen; omega) _ _ _ rfl rfl hkey.out _ [] unitElem_mk ?_; intro w1 hown1 hgrow1)
    go_roundw
    case rel=>exact ⟨k + 1,by omega,by go_num,by rw [HT.out,setD_snoc]; exact hown1,HB.out.grown hgrow1 HB.out.size (fun j hj=>by cases hj; exact Nat.le_refl _)⟩
    case measure=>simp [intOf]; omega
   ·have hq:decide ((k:Int) < L.length) = false:=by simp; omega
    go_wp2_with fail
    go_ret;exact ⟨rfl,by rw [List.take_of_length_le (by omega)] at HO; exact HO.out.mono hk,HB.out⟩
theorem keyStr {l:Lit} (h:KeysOf prog 9 l):∃ x,l = .string x:=by
 obtain ⟨v,hv⟩:=h;obtain ⟨x,_,h2,_⟩:=keyOf_str underlying9 hv;exact ⟨x,h2⟩
theorem setD_perm {w:World} {b n:Nat} {L:List (List UInt8)} (h:w.ownsMap prog 9 unitElem b n (setD L)):L.eraseDups.Perm (strKeys (setD L)):=by
 have ht:=tidy_setOf unitD (L.map Lit.string) (keyLit L);obtain ⟨es,e1,hk⟩:=h.keysOf;obtain ⟨es',e2,hp⟩:=ht;have e3:setD L = .map es':=e2;have hes:es = es':=by rw [e1] at e3; cases e3; rfl
 subst hes;rw [e1]
 refine perm_strKeys hp (fun p hp'=>keyStr (hk p hp')) (erase_nodup L _ xnl) fun x=>?_
 rw [← e1,List.mem_eraseDups];unfold setD;rw [has_setOf _ _ _ (keyLit L),List.any_map,List.any_eq_true];constructor
 ·intro hx; exact ⟨x,hx,by simp [Lit.sameKey]⟩
 ·rintro ⟨y,hy,he⟩
  have:=WideAt.sameKey_eq (show (Lit.string y).sameKey (Lit.string x) = true from he);cases this; exact hy
theorem flat_enc (L:List (List UInt8)):L.map encStr = L.flatMap za2:=by
 induction L with
 | nil=>rfl
 | cons a L ih=>rw [List.map_cons,List.flatMap_cons,ih]; rfl
theorem set_any (S:Nat→Prop) (v:Value) (L:List (List UInt8)) (w:World) (h:Vec w S 1 za2 v L) (hn:L.length≤1000000) (hL:∀ t∈L,t.length≤1000000) :
  Calls prog 319 #[v] w fun e w'=>∃ v',e = .returned v'∧OwnAt w v' (setL L) w':=by
 have HV:=zi5 h; have HLn:=zi5 hL;clear h hL;go_enter func319,ntmps319
 go_wp2_with fail
 refine (of_any S v L _ HV.out hn HLn.out).mono ?_;rintro e w1 ⟨rfl,ho,hb⟩;have HO:=zi5 ho; have HB:=zi5 hb;clear ho hb;go_wp2_with fail
 refine ((callsIn_wide (n:=5)).1 (Tryz.maps_Keys _ _)).mono ?_;rintro e w' ⟨rfl,rfl⟩;go_wp2_with fail
 refine ((callsIn_wide (n:=5)).1 (Tryz.slices_Sorted_keys w.heap.size L.length (setD L) unitElem w1 HO.out (by have:=HO.out.size_le; unfold maxLen; omega) (by have:=HO.out.size_le; omega))).mono ?_;rintro e w2 ⟨v',ss,rfl,hp,hrow,_,hb2⟩;have e1:ss.mergeSort leB = setL L:=mergeSort_of_perm (hp.trans (setD_perm HO.out).symm);have e2:ss.length = (setL L).length:=by rw [← e1,(List.mergeSort_perm _ _).length_eq]
 have hrow2:w2.ownsRow (w1.alloc (.cells #[.map (some w.heap.size)] 335)).heap.size 9 1 v' (setL L).length ((setL L).flatMap za2):=by
  rw [← flat_enc,← e2,← e1]; exact hrow
 have HR:=zi5 hrow2;have HB2:=zi5 ((HB.out.alloc HB.out.size (.cells #[.map (some w.heap.size)] 335)).trans (hb2.mono (by have:=HB.out.size; simp; omega)));clear e1 e2 hrow hrow2 hp hb2;have hbz:=HB.out.size;go_wp2_with fail
 go_ret;exact ⟨v',rfl,ownsRow_base_a HR.out (by simp; omega),HB2.out⟩
end
section
open Go.RowKit Cal
def FormOk (p:List UInt8 × Int):Prop:=p.1.length≤64∧(p.2≠0→p.1 = [])
theorem FormOk.err (e:Int):FormOk ([],e):=⟨by simp,fun _=>rfl⟩
theorem nameN_form (r:RulesL) (l:List UInt8):FormOk (zc2 r l):=by
 unfold zc2;repeat' split
 all_goals first | exact FormOk.err _ | skip
 all_goals exact ⟨by dsimp only; omega,fun h=>absurd rfl h⟩
theorem addrN_form (r:RulesL) (l:List UInt8):FormOk (zc3 r l):=by
 unfold zc3;repeat' split
 all_goals first | exact FormOk.err _ | skip
 all_goals exact ⟨by dsimp only; omega,fun h=>absurd rfl h⟩
theorem codeN_form (l:List UInt8):FormOk (zdn l):=by
 unfold zdn;repeat' split
 all_goals first | exact FormOk.err _ | skip
 all_goals exact ⟨by dsimp only; omega,fun h=>absurd rfl h⟩
theorem dayF_form (y m d:List UInt8):FormOk (dayF y m d):=by
 unfold dayF;cases vldB (zdy y) (zdy m) (zdy d)
 ·exact FormOk.err _
 ·exact ⟨by show (zdk _ _ _).length≤64; rw [digits8_len]; omega,fun h=>absurd rfl h⟩
theorem dayN_form (l:List UInt8):FormOk (dayN l):=by
 unfold dayN;repeat' split
 all_goals first | exact FormOk.err _ | exact dayF_form _ _ _
theorem valueN_form (s:SchemaL) (f:Int) (l:List UInt8):FormOk (zcp s f l):=by
 unfold zcp normK;repeat' split
 all_goals first | exact FormOk.err _ | exact nameN_form _ _ | exact dayN_form _ | exact codeN_form _ | exact addrN_form _ _
theorem findN_in {s:SchemaL} {f:Nat} (h:zax s = 0) (hf:f < s.fields.length):zbt s f = ((s.fields.getD f default).2,0):=by
 unfold zbt;rw [if_pos h,if_pos (by omega),Int.toNat_natCast]
end
section
open Go.RowKit Cal
theorem nameN_toks {r:RulesL} {l v:List UInt8} (h:zc2 r l = (v,0)):∃ M:List (List UInt8),(∀ t∈M,okT t)∧v = zay M∧M.length≤6∧v.length≤64:=by
 unfold zc2 at h;by_cases hc:zaz r = 0
 ·rw [if_pos hc] at h
  by_cases hv:zc6 l = true
  ·rw [if_pos hv] at h
   obtain ⟨h1,_⟩:=zir hc (zcl (zb2 l));generalize za9 r (zcl (zb2 l)) = M at h h1;by_cases hb:6 < M.length∨64 < (zay M).length
   ·rw [if_pos hb] at h; simp at h
   ·rw [if_neg hb] at h
    obtain rfl:zay M = v:=congrArg Prod.fst h;exact ⟨M,h1,rfl,by omega,by omega⟩
  ·rw [if_neg hv] at h; simp at h
 ·rw [if_neg hc] at h
  exact absurd (congrArg Prod.snd h) hc
theorem addrN_toks {r:RulesL} {l v:List UInt8} (h:zc3 r l = (v,0)):∃ M:List (List UInt8),(∀ t∈M,okT t)∧v = zay M∧M.length≤6∧v.length≤64:=by
 unfold zc3 at h;by_cases hc:zaz r = 0
 ·rw [if_pos hc] at h
  obtain ⟨_,_,_,h3,_⟩:=zes hc;by_cases hv:zc6 l = true
  ·rw [if_pos hv] at h
   have hok:=toks_ok l;generalize zcl (zb2 l) = T at h hok
   have hM:∀ t∈zb8 (T.map (za3 r)),okT t:=by
    intro t ht;obtain ⟨x,hx,rfl⟩:=List.mem_map.1 (order2_mem ht);exact (addrTok_same h3 (hok x hx)).1
   have hlen:(zb8 (T.map (za3 r))).length = T.length:=by rw [zip,List.length_map]
   by_cases hb:6 < T.length∨64 < (zay (zb8 (T.map (za3 r)))).length
   ·rw [if_pos hb] at h; simp at h
   ·rw [if_neg hb] at h
    obtain rfl:zay (zb8 (T.map (za3 r))) = v:=congrArg Prod.fst h;exact ⟨_,hM,rfl,by omega,by omega⟩
  ·rw [if_neg hv] at h; simp at h
 ·rw [if_neg hc] at h
  exact absurd (congrArg Prod.snd h) hc
def zfq (k:Int) (l:List UInt8):List (List UInt8):=if l = [] then [] else if k = 2 then posL 0 l else if k = 3 then [61 :: l] else ze0 l
end
section
open Go.RowKit
attribute [local go_sem] zah zaj zar
theorem wrapT_cons (t:List UInt8):zdq t = 95 :: (t ++ [95]):=rfl
theorem bigr_getD (l:List UInt8):∀ j,j + 1 < l.length→(bigrA l).getD j [] = [l.getD j 0,l.getD (j + 1) 0]:=by
 induction l using bigrA.induct with
 | case1 a b r ih =>
  intro j hj;cases j with
  | zero=>rfl
  | succ j =>
   have:=ih j (by simp at hj ⊢; omega);simp only [bigrA,List.getD_cons_succ] at this ⊢;exact this
 | case2 l h =>
  intro j hj
  match l,h with
  | [],_=>simp at hj
  | [a],_=>simp at hj
  | a :: b :: r,h=>exact absurd rfl (h a b r)
theorem take_two (l:List UInt8) (j:Nat) (h:j + 1 < l.length):((⟨l.toArray⟩:ByteArray).extract j (j + 2)) = ⟨[l.getD j 0,l.getD (j + 1) 0].toArray⟩:=by
 have:=ext_mk l j (j + 2) (by omega);unfold mkS at this;rw [this];congr 2;rw [List.drop_take,List.drop_eq_getElem_cons (by omega),List.drop_eq_getElem_cons (by omega),List.getD,List.getD,List.getElem?_eq_getElem (by omega),List.getElem?_eq_getElem h];rw [show j + 2 - j = 2 by omega]; rfl
theorem ziw (T:List (List UInt8)) (k:Nat) (h:k < T.length):zbh (T.take (k + 1)) = zbh (T.take k) ++ bigrA (zdq (T.getD k [])):=by
 have:=zfa T k h;rw [show (default:List UInt8) = [] from rfl] at this;rw [this]; simp [zbh]
theorem zeu (T:List (List UInt8)) (h:∀ t∈T,t.length≤64):(zbh T).length≤65 * T.length:=by
 induction T with
 | nil=>simp [zbh]
 | cons t T ih =>
  have h1:=ih fun x hx=>h x (List.mem_cons_of_mem _ hx)
  have h2:=h t List.mem_cons_self
  have e:(zbh (t :: T)).length = t.length + 1 + (zbh T).length:=by
   simp only [zbh,List.flatMap_cons,List.length_append,zhw,zdq]; simp; try omega
  rw [e,List.length_cons]; omega
theorem toks_len (l:List UInt8) (h:l.length≤64):(zcl l).length≤65∧∀ t∈zcl l,t.length≤64:=by
 have h1:=zdl l [];unfold zcl
 refine ⟨by simp at h1; omega,fun t ht=>?_⟩
 have:∀ (L:List (List UInt8)),t∈L→t.length≤(zay L).length:=by
  intro L;induction L with
  | nil=>intro h; simp at h
  | cons a L ih =>
   intro h;by_cases hL:L = []
   ·subst hL; simp at h; subst h; exact Nat.le_refl _
   ·rw [zbk _ _ hL]
    rcases List.mem_cons.1 h with rfl | h
    ·simp
    ·have:=ih h; simp; omega
 have:=this _ ht;simp at h1; omega
theorem ggrams_any (s:ByteArray) (w:World) (hs:s.size≤64) (ha:ascii s.data.toList) :
  Calls prog 292 #[.string s] w fun e w'=>∃ v,e = .returned v∧Vec w' zaw 1 za2 v (ze0 s.data.toList)∧Below w.heap.size w w':=by
 have hl:s.data.toList.length = s.size:=by simp
 obtain ⟨hT1,hT2⟩:=toks_len s.data.toList (by omega);have hc:=zfz s.data.toList w ha (by omega);rw [show zal s.data.toList = .string s by simp] at hc;obtain ⟨T,hT⟩:∃ T,zcl s.data.toList = T:=⟨_,rfl⟩;have hG:ze0 s.data.toList = setL (zbh T):=by unfold ze0; rw [hT]
 rw [hT] at hT1 hT2 hc;rw [hG];have HC:=zi5 hc; have HT2:=zi5 hT2;have d1:decide ((64:Int) < s.size) = false:=by simp; omega
 clear hl hc hT hG hT2 ha;go_enter func292,ntmps292
 go_wp2_with fail
 refine HC.out.mono ?_;rintro e w1 ⟨A,rfl,hA,ho,hb1⟩;have HR:=zi5 (own_block ho).2;have zA:=zaa HR.out;have HB1:=zi5 hb1;clear ho hb1 HC d1;go_wp2_with fail
 go_loopw [3,13] (fun v i wr=>∃ k:Nat,k≤T.length∧i = .int .i64 k∧OwnAt w1 v (zbh (T.take k)) wr) (fun _ i _=>T.length - (intOf i).toNat)
 case atStart=>exact ⟨0,by omega,rfl,OwnAt.start w1⟩
 case round =>
  obtain ⟨k,hk,rfl,ho⟩:=hrel;have HO:=zi5 ho; clear ho;by_cases hlt:k < T.length
  ·have hq:decide ((k:Int) < T.length) = true:=by simp; omega
   have hgl:=zeu (T.take k) (fun t ht=>HT2.out t (List.mem_of_mem_take ht))
   have htl:=List.length_take_le k T;have hx1:(T.getD k []).length≤64:=by rw [List.getD,List.getElem?_eq_getElem hlt]; exact HT2.out _ (List.getElem_mem hlt)
   have c1:=(show RowB _ A T from zab HO.out.2 zA HR.out).cell k hlt;have HG:=zi5 (ziw T k hlt);obtain ⟨t,ht⟩:∃ t,T.getD k [] = t:=⟨_,rfl⟩;rw [ht] at c1 hx1 HG;clear ht;obtain ⟨wo,rfl⟩:∃ wo:World,wo = wr:=⟨_,rfl⟩;go_wp2_with fail
   go_loopw [3,23] (fun v i wr=>∃ j:Nat,j≤1 + t.length∧i = .int .i64 j∧OwnAt w1 v (zbh (T.take k) ++ (bigrA (zdq t)).take j) wr) (fun _ i _=>1 + t.length - (intOf i).toNat)
   case atStart=>exact ⟨0,by omega,rfl,by simpa using HO.out⟩
   case round =>
    obtain ⟨j,hj,rfl,ho2⟩:=hrel;have HO2:=zi5 ho2; clear ho2;have hwl:(zdq t).length = t.length + 2:=by simp [zdq]
    by_cases hlj:j < 1 + t.length
    ·have hq2:decide ((j:Int) < 1 + t.length) = true:=by simp; omega
     have hext:=take_two (zdq t) j (by omega);have hbg:=bigr_getD (zdq t) j (by omega);have hbl:j < (bigrA (zdq t)).length:=by rw [zhw]; omega
     have htk:=zfa (bigrA (zdq t)) j hbl;rw [show (default:List UInt8) = [] from rfl,hbg] at htk;obtain ⟨z,hz⟩:∃ z,[(zdq t).getD j 0,(zdq t).getD (j + 1) 0] = z:=⟨_,rfl⟩;rw [hz] at hext htk;rw [wrapT_cons] at hext;have HTK:=zi5 htk
     have hln:(zbh (T.take k) ++ (bigrA (zdq t)).take j).length < 1099511627776:=by
      have:=List.length_take_le j (bigrA (zdq t));simp only [List.length_append]; omega
     have hone:∀ u∈(#[zal z]:Array Value).toList,u.oneCell' = true:=by intro u hu; simp at hu; subst hu; rfl
     clear hbg hbl htk hz hwl;go_wp2_with (at_builtin; refine zbf rfl _ _ 27 rfl w1.heap.size 9 1 16 (.string ⟨#[]⟩) underlying27 zdi rfl (by decide) (by decide) _ _ _ rfl HO2.out.1 #[zal z] 1 rfl rfl hone hln HO2.out.2.size ?_; intro v2 w8 ho8 hw8)
     go_roundw
     case rel=>exact ⟨j + 1,by omega,by go_num,by rw [HTK.out,← List.append_assoc]; exact ⟨by rw [List.length_append,zdm]; exact ho8,hw8 _ HO2.out.2⟩⟩
     case measure=>simp [intOf]; omega
    ·have hq2:decide ((j:Int) < 1 + t.length) = false:=by simp; omega
     rw [show (bigrA (zdq t)).take j = bigrA (zdq t) from List.take_of_length_le (by rw [zhw]; omega),← HG.out] at HO2;go_wp2_with fail
     go_roundw
     case rel=>exact ⟨k + 1,by omega,by go_num,HO2.out⟩
     case measure=>simp [intOf]; omega
  ·have hq:decide ((k:Int) < T.length) = false:=by simp; omega
   rw [List.take_of_length_le (by omega)] at HO;have hgl:=zeu T HT2.out;have HV:=zi5 (Vec.owns (S:=zaw) (k:=1) (enc:=za2) (fun _=>rfl) HO.out.1 (fun _ _ _=>trivial))
   have hsm:∀ x∈zbh T,x.length≤1000000:=by
    intro x hx;obtain ⟨t,ht,hx⟩:=List.mem_flatMap.1 hx
    have key:∀ l:List UInt8,∀ x∈bigrA l,x.length = 2:=by
     intro l;induction l using bigrA.induct with
     | case1 a b r ih =>
       intro x hx;simp only [bigrA] at hx
       rcases List.mem_cons.1 hx with rfl | hx
       · rfl
       · exact ih x hx
     | case2 l h =>
      intro x hx
      match l,h with
      | [],_=>simp [bigrA] at hx
      | [a],_=>simp [bigrA] at hx
      | a :: b :: r,h=>exact absurd rfl (h a b r)
    have:=key _ x hx; omega
   have HSm:=zi5 hsm; clear hsm;go_wp2_with fail
   refine (set_any zaw _ (zbh T) _ HV.out (by omega) HSm.out).mono ?_;rintro e w3 ⟨v3,rfl,ho3⟩;have HV3:=zi5 (Vec.owns (S:=zaw) (k:=1) (enc:=za2) (fun _=>rfl) ho3.1 (fun _ _ _=>trivial))
   have HB3:=zi5 ((HB1.out.trans (HO.out.2.mono HB1.out.size)).trans (ho3.2.mono (Nat.le_trans HB1.out.size HO.out.2.size)));clear ho3;go_wp2_with fail
   go_ret;exact ⟨v3,rfl,HV3.out,HB3.out⟩
end
section
open Go.RowKit Cal
attribute [local go_sem] zah zaj zar
theorem kind4_any (s:ByteArray) (w:World) (hs:s.size≤1000) :
  Calls prog 301 #[.string s] w fun e w'=>∃ v,e = .returned v∧Vec w' zaw 1 za2 v [61 :: s.data.toList]∧Below w.heap.size w w':=by
 have hs2:(⟨#[61]⟩:ByteArray) ++ s = ⟨(61 :: s.data.toList).toArray⟩:=by
  apply ByteArray.ext; simp
 go_enter func301,ntmps301
 go_wp2
 go_ret;exact ⟨_,rfl,vec_block (L:=[61 :: s.data.toList]) (zac rfl) 1 rfl,(Below.refl _ _).alloc xnl _⟩
def zfh (s:SchemaL) (f:Int) (l:List UInt8):List (List UInt8) × Int:=if (zbt s f).2 = 0 then (if zau s f l = true then (zfq (zbt s f).1 l,0) else ([],7)) else ([],(zbt s f).2)
def GramsIs (p:List (List UInt8) × Int) (w:World) (e:Ending) (w':World):Prop:=∃ v,e = .returned (.tuple #[v,.int .i64 p.2])∧Vec w' zaw 1 za2 v p.1∧Below w.heap.size w w'
theorem own_small {p:List UInt8 × Int} {l:List UInt8} (h:zee p l = true) (hf:FormOk p):l.length≤64∧p = (l,0):=by
 obtain ⟨a,b⟩:=p;unfold zee at h;cases hb:(b == (0:Int))
 ·rw [hb] at h; cases h
 ·rw [hb] at h
  simp only [cond_true,beq_iff_eq] at h hb;subst h hb;exact ⟨hf.1,rfl⟩
theorem join_ascii {M:List (List UInt8)} (h:∀ t∈M,okT t):ascii (zay M):=fun b hb=>okB_lt (join_ok M h b hb)
theorem zio {k:Int} {r:RulesL} {l:List UInt8} (h:ownK k r l = true) (hk:k = 1∨k = 2∨k = 3∨k = 4):l.length≤64∧(k = 1∨k = 4→ascii l)∧(k = 2→l.length = 8):=by
 unfold ownK at h
 rcases hk with rfl | rfl | rfl | rfl
 ·obtain ⟨h1,h2⟩:=own_small (show zee (zc2 r l) l = true from h) (nameN_form r l)
  obtain ⟨M,g1,g2,_⟩:=nameN_toks h2;exact ⟨h1,fun _=>by rw [g2]; exact join_ascii g1,fun e=>by omega⟩
 ·have hr:readB l = true:=h
  unfold readB at hr;cases hd:decide (l.length = 8)
  ·rw [hd] at hr; cases hr
  ·have:l.length = 8:=by simpa using hd
   exact ⟨by omega,fun e=>by omega,fun _=>this⟩
 ·obtain ⟨h1,h2⟩:=own_small (show zee (zdn l) l = true from h) (codeN_form l)
  exact ⟨h1,fun e=>by omega,fun e=>by omega⟩
 ·obtain ⟨h1,h2⟩:=own_small (show zee (zc3 r l) l = true from h) (addrN_form r l)
  obtain ⟨M,g1,g2,_⟩:=addrN_toks h2;exact ⟨h1,fun _=>by rw [g2]; exact join_ascii g1,fun e=>by omega⟩
theorem grams_s (S:Nat→Prop) (vf vt vn vs:Value) (s:SchemaL) (f:Int) (x:ByteArray) (w:World) (h:SchemaAt w S vf vt vn vs s) (hx:x.size≤9223372036854775000) :
  Calls prog 180 #[.agg #[vf,vt,vn,vs],.int .i64 f,.string x] w (GramsIs (zfh s f x.data.toList) w):=by
 have HS:=zi5 h.any;have HL:=zi5 (Lib.toList_data x);clear h;have K:=find_s zaw vf vt vn vs s f (w.alloc (.cells #[vf,vt,vn,vs] 44)) (HS.out.below ((Below.refl _ _).alloc xnl _));have hkk:=zdz (s:=s) (f:=f);have hval:zfh s f x.data.toList = if (zbt s f).2 = 0 then (if zau s f x.data.toList = true then (zfq (zbt s f).1 x.data.toList,0) else ([],7)) else ([],(zbt s f).2):=rfl
 have hown:(zbt s f).2 = 0→x.data.toList≠[]→zau s f x.data.toList = ownK (zbt s f).1 s.rules x.data.toList:=fun h0 h1=>by unfold zau; rw [if_pos h0,if_neg h1]
 obtain ⟨⟨kd,er⟩,hp⟩:∃ p,zbt s f = p:=⟨_,rfl⟩;rw [hp] at K hkk hval hown;dsimp only at hkk hval hown;change Calls _ _ _ _ fun e w'=>e = .returned (.tuple #[.agg (zbs kd),.int .i64 er])∧_ at K
 have HK:=zi5 K;have HVal:=zi5 hval; have HOwn:=zi5 hown;obtain ⟨ko,ks⟩:=kindAt_one kd;have KO:=zi5 ko; have KS:=zi5 ks;clear K hp hval ko ks hown;by_cases he:er = 0
 ·subst he
  have hkd:=hkk rfl;clear hkk;cases hno:zau s f x.data.toList
  ·have HE:=zi5 (show zfh s f x.data.toList = ([],7) by rw [HVal.out,if_pos rfl,hno,if_neg (by simp)])
   have HN:=zi5 hno;clear hno hkd;rw [HE.out];go_enter func180,ntmps180
   go_wp2_with fail
   refine HK.out.mono ?_;rintro e w1 ⟨rfl,hb1⟩;have HB1:=zi5 (xbt hb1);have HX1:=zi5 (xbn hb1);clear hb1 HK;have z0:=zaa HX1.out;obtain ⟨p0,p1,p2,p3⟩:=zbz HX1.out;go_wp2_with (refine wpList_store_row rfl 250 (.tmp 8) (.tmp 14) rfl w1.heap.size (zbs kd) rfl rfl 250 zez (heap_alloc_new w1 _) (by rw [KS.out]; kernel_rfl) (by rw [KS.out]; rfl) KO.out ?_; rw [World.setRow_alloc_new])
   have HB2:=zi5 (HB1.out.alloc HB1.out.size (.cells (zbs kd) 250));refine (zgm zaw vf vt vn vs s f x _ (HS.out.below HB2.out) hx).mono ?_;rw [HN.out];rintro e w3 ⟨rfl,hb3⟩;have HB3:=zi5 (HB2.out.trans (hb3.mono HB2.out.size));clear hb3 p0 p1 p2 p3;go_wp2_with fail
   go_ret2;exact ⟨_,rfl,Vec.nil _ _ _ _,HB3.out⟩
  ·by_cases hx0:x.data.toList = []
   ·have e1:x.toList = []:=by rw [HL.out,hx0]
    have HE:=zi5 (show zfh s f x.data.toList = ([],0) by rw [HVal.out,if_pos rfl,hno,if_pos rfl]; unfold zfq; rw [if_pos hx0]);have HN:=zi5 hno;clear hno hkd hx0;rw [HE.out];go_enter func180,ntmps180
    go_wp2_with fail
    refine HK.out.mono ?_;rintro e w1 ⟨rfl,hb1⟩;have HB1:=zi5 (xbt hb1);have HX1:=zi5 (xbn hb1);clear hb1 HK;have z0:=zaa HX1.out;obtain ⟨p0,p1,p2,p3⟩:=zbz HX1.out;go_wp2_with (refine wpList_store_row rfl 250 (.tmp 8) (.tmp 14) rfl w1.heap.size (zbs kd) rfl rfl 250 zez (heap_alloc_new w1 _) (by rw [KS.out]; kernel_rfl) (by rw [KS.out]; rfl) KO.out ?_; rw [World.setRow_alloc_new])
    have HB2:=zi5 (HB1.out.alloc HB1.out.size (.cells (zbs kd) 250));refine (zgm zaw vf vt vn vs s f x _ (HS.out.below HB2.out) hx).mono ?_;rw [HN.out];rintro e w3 ⟨rfl,hb3⟩;have HB3:=zi5 (HB2.out.trans (hb3.mono HB2.out.size));clear hb3 p0 p1 p2 p3;go_wp2_with fail
    go_ret2;exact ⟨_,rfl,Vec.nil _ _ _ _,HB3.out⟩
   ·have e1:(x.toList == []) = false:=by rw [HL.out]; simpa using hx0
    have e2:x.toList.isEmpty = false:=by rw [HL.out]; simpa using hx0
    have ho:=HOwn.out rfl hx0;rw [hno] at ho;obtain ⟨g1,g2,g3⟩:=zio ho.symm hkd;have hl:x.data.toList.length = x.size:=by simp
    rw [hl] at g1 g3;have HG2:=zi5 g2;have HE:=zi5 (show zfh s f x.data.toList = (zfq kd x.data.toList,0) by rw [HVal.out,if_pos rfl,hno,if_pos rfl]);have HGK:=zi5 (show zfq kd x.data.toList = if kd = 2 then posL 0 x.data.toList else if kd = 3 then [61 :: x.data.toList] else ze0 x.data.toList by unfold zfq; rw [if_neg hx0]);have HN:=zi5 hno;clear hno hx0 ho hl g2;rw [HE.out,HGK.out]
    rcases hkd with rfl | rfl | rfl | rfl
    ·rw [if_neg (by omega),if_neg (by omega)]
     (first | have HAs:=zi5 (HG2.out (by omega)) | skip);clear HG2 HE HGK HOwn HVal;go_enter func180,ntmps180
     go_wp2_with fail
     refine HK.out.mono ?_;rintro e w1 ⟨rfl,hb1⟩;have HB1:=zi5 (xbt hb1);have HX1:=zi5 (xbn hb1);clear hb1 HK;have z0:=zaa HX1.out;obtain ⟨p0,p1,p2,p3⟩:=zbz HX1.out;go_wp2_with (refine wpList_store_row rfl 250 (.tmp 8) (.tmp 14) rfl w1.heap.size (zbs 1) rfl rfl 250 zez (heap_alloc_new w1 _) (by rw [KS.out]; kernel_rfl) (by rw [KS.out]; rfl) KO.out ?_; rw [World.setRow_alloc_new])
     have HB2:=zi5 (HB1.out.alloc HB1.out.size (.cells (zbs 1) 250));refine (zgm zaw vf vt vn vs s f x _ (HS.out.below HB2.out) hx).mono ?_;rw [HN.out];rintro e w3 ⟨rfl,hb3⟩;have HB3:=zi5 (HB2.out.trans (hb3.mono HB2.out.size));have HX3:=zi5 (zab (b:=w1.heap.size) (o:=.cells (zbs 1) 250 (0,0)) hb3 (by simp) (zac rfl));have cf:w3.cell? ⟨w1.heap.size,3,none⟩ = some (fnV 292):=by rw [cell_of_row _ _ _ _ _ _ HX3.out]; rfl
     clear hb3 p0 p1 p2 p3;go_wp2_with fail
     refine (ggrams_any x _ g1 HAs.out).mono ?_;rintro e w4 ⟨v,rfl,ho⟩;have HO:=zi5 ho; clear ho;go_wp2_with fail
     go_ret2;exact ⟨v,rfl,HO.out.1,HB3.out.trans ((HO.out.2).mono HB3.out.size)⟩
    ·rw [if_pos rfl]
     have g4:x.size≤26:=by have:=g3 rfl; omega
     (first | have HAs:=zi5 (HG2.out (by omega)) | skip);clear HG2 HE HGK HOwn HVal;go_enter func180,ntmps180
     go_wp2_with fail
     refine HK.out.mono ?_;rintro e w1 ⟨rfl,hb1⟩;have HB1:=zi5 (xbt hb1);have HX1:=zi5 (xbn hb1);clear hb1 HK;have z0:=zaa HX1.out;obtain ⟨p0,p1,p2,p3⟩:=zbz HX1.out;go_wp2_with (refine wpList_store_row rfl 250 (.tmp 8) (.tmp 14) rfl w1.heap.size (zbs 2) rfl rfl 250 zez (heap_alloc_new w1 _) (by rw [KS.out]; kernel_rfl) (by rw [KS.out]; rfl) KO.out ?_; rw [World.setRow_alloc_new])
     have HB2:=zi5 (HB1.out.alloc HB1.out.size (.cells (zbs 2) 250));refine (zgm zaw vf vt vn vs s f x _ (HS.out.below HB2.out) hx).mono ?_;rw [HN.out];rintro e w3 ⟨rfl,hb3⟩;have HB3:=zi5 (HB2.out.trans (hb3.mono HB2.out.size));have HX3:=zi5 (zab (b:=w1.heap.size) (o:=.cells (zbs 2) 250 (0,0)) hb3 (by simp) (zac rfl));have cf:w3.cell? ⟨w1.heap.size,3,none⟩ = some (fnV 296):=by rw [cell_of_row _ _ _ _ _ _ HX3.out]; rfl
     clear hb3 p0 p1 p2 p3;go_wp2_with fail
     refine (positional_any x _ (by omega)).mono ?_;rintro e w4 ⟨v,rfl,ho⟩;have HO:=zi5 ho; clear ho;go_wp2_with fail
     go_ret2;exact ⟨v,rfl,Vec.owns (k:=1) (enc:=za2) (fun _=>rfl) HO.out.1 (fun _ _ _=>trivial),HB3.out.trans ((HO.out.2).mono HB3.out.size)⟩
    ·rw [if_neg (by omega),if_pos rfl]
     (first | have HAs:=zi5 (HG2.out (by omega)) | skip);clear HG2 HE HGK HOwn HVal;go_enter func180,ntmps180
     go_wp2_with fail
     refine HK.out.mono ?_;rintro e w1 ⟨rfl,hb1⟩;have HB1:=zi5 (xbt hb1);have HX1:=zi5 (xbn hb1);clear hb1 HK;have z0:=zaa HX1.out;obtain ⟨p0,p1,p2,p3⟩:=zbz HX1.out;go_wp2_with (refine wpList_store_row rfl 250 (.tmp 8) (.tmp 14) rfl w1.heap.size (zbs 3) rfl rfl 250 zez (heap_alloc_new w1 _) (by rw [KS.out]; kernel_rfl) (by rw [KS.out]; rfl) KO.out ?_; rw [World.setRow_alloc_new])
     have HB2:=zi5 (HB1.out.alloc HB1.out.size (.cells (zbs 3) 250));refine (zgm zaw vf vt vn vs s f x _ (HS.out.below HB2.out) hx).mono ?_;rw [HN.out];rintro e w3 ⟨rfl,hb3⟩;have HB3:=zi5 (HB2.out.trans (hb3.mono HB2.out.size));have HX3:=zi5 (zab (b:=w1.heap.size) (o:=.cells (zbs 3) 250 (0,0)) hb3 (by simp) (zac rfl));have cf:w3.cell? ⟨w1.heap.size,3,none⟩ = some (fnV 301):=by rw [cell_of_row _ _ _ _ _ _ HX3.out]; rfl
     clear hb3 p0 p1 p2 p3;go_wp2_with fail
     refine (kind4_any x _ (by omega)).mono ?_;rintro e w4 ⟨v,rfl,ho⟩;have HO:=zi5 ho; clear ho;go_wp2_with fail
     go_ret2;exact ⟨v,rfl,HO.out.1,HB3.out.trans ((HO.out.2).mono HB3.out.size)⟩
    ·rw [if_neg (by omega),if_neg (by omega)]
     (first | have HAs:=zi5 (HG2.out (by omega)) | skip);clear HG2 HE HGK HOwn HVal;go_enter func180,ntmps180
     go_wp2_with fail
     refine HK.out.mono ?_;rintro e w1 ⟨rfl,hb1⟩;have HB1:=zi5 (xbt hb1);have HX1:=zi5 (xbn hb1);clear hb1 HK;have z0:=zaa HX1.out;obtain ⟨p0,p1,p2,p3⟩:=zbz HX1.out;go_wp2_with (refine wpList_store_row rfl 250 (.tmp 8) (.tmp 14) rfl w1.heap.size (zbs 4) rfl rfl 250 zez (heap_alloc_new w1 _) (by rw [KS.out]; kernel_rfl) (by rw [KS.out]; rfl) KO.out ?_; rw [World.setRow_alloc_new])
     have HB2:=zi5 (HB1.out.alloc HB1.out.size (.cells (zbs 4) 250));refine (zgm zaw vf vt vn vs s f x _ (HS.out.below HB2.out) hx).mono ?_;rw [HN.out];rintro e w3 ⟨rfl,hb3⟩;have HB3:=zi5 (HB2.out.trans (hb3.mono HB2.out.size));have HX3:=zi5 (zab (b:=w1.heap.size) (o:=.cells (zbs 4) 250 (0,0)) hb3 (by simp) (zac rfl));have cf:w3.cell? ⟨w1.heap.size,3,none⟩ = some (fnV 292):=by rw [cell_of_row _ _ _ _ _ _ HX3.out]; rfl
     clear hb3 p0 p1 p2 p3;go_wp2_with fail
     refine (ggrams_any x _ g1 HAs.out).mono ?_;rintro e w4 ⟨v,rfl,ho⟩;have HO:=zi5 ho; clear ho;go_wp2_with fail
     go_ret2;exact ⟨v,rfl,HO.out.1,HB3.out.trans ((HO.out.2).mono HB3.out.size)⟩
 ·have hne:(er != 0) = true:=by simpa using he
  have HE:=zi5 (show zfh s f x.data.toList = ([],er) by rw [HVal.out,if_neg he]);clear he hkk;rw [HE.out];go_enter func180,ntmps180
  go_wp2_with fail
  refine HK.out.mono ?_;rintro e w1 ⟨rfl,hb1⟩;have HB1:=zi5 (xbt hb1);clear hb1 HK;go_wp2_with (refine wpList_store_row rfl 250 (.tmp 8) (.tmp 14) rfl w1.heap.size (zbs kd) rfl rfl 250 zez (heap_alloc_new w1 _) (by rw [KS.out]; kernel_rfl) (by rw [KS.out]; rfl) KO.out ?_; rw [World.setRow_alloc_new])
  go_ret2;exact ⟨_,rfl,Vec.nil _ _ _ _,HB1.out.alloc HB1.out.size _⟩
end
section
open Go.RowKit
structure RecL where
 id:Int
 ver:Int
 vals:List (List UInt8)
def noRec:RecL:=⟨0,0,[]⟩
def zbo (i v:Int):Bool:=decide (1≤i) && decide (i≤1048576) && decide (1≤v) && decide (v≤1048576)
def zex (s:SchemaL):Nat→List (List UInt8)→Bool
 | _,[]=>true
 | i,x :: l=>zau s i x && zex s (i + 1) l
def zd0 (s:SchemaL) (r:RecL):Int:=if (zbo r.id r.ver && (r.vals.length == s.fields.length) && zex s 0 r.vals) = true then 0 else 7
def zb7 (s:SchemaL) (r:RecL):Int:=if zax s = 0 then zd0 s r else zax s
def zep (s:SchemaL):Nat→List (List UInt8)→List (List UInt8)→List (List UInt8) × Int
 | _,C,[]=>(C,0)
 | i,C,x :: l=>if (zcp s i x).2 = 0 then zep s (i + 1) (C ++ [(zcp s i x).1]) l else ([],(zcp s i x).2)
def makeN (s:SchemaL) (id ver:Int) (raws:List (List UInt8)):RecL × Int :=
 if zax s = 0 then
  if raws.length = s.fields.length then
   if zbo id ver = true then (if (zep s 0 [] raws).2 = 0 then (⟨id,ver,(zep s 0 [] raws).1⟩,0) else (noRec,(zep s 0 [] raws).2))
   else (noRec,7)
  else (noRec,8)
 else (noRec,zax s)
theorem makeA_len (s:SchemaL) (raws:List (List UInt8)):∀ i C,(zep s i C raws).2 = 0→(zep s i C raws).1.length = C.length + raws.length:=by
 induction raws with
 | nil=>intro i C _; simp [zep]
 | cons x l ih =>
  intro i C h;unfold zep at h ⊢;split at h
  ·rename_i h0
   rw [if_pos h0,ih _ _ h]; simp; omega
  ·rename_i h0
   exact absurd h h0
theorem normA_append (s:SchemaL) (A B:List (List UInt8)):∀ i,zex s i (A ++ B) = (zex s i A && zex s (i + A.length) B):=by
 induction A with
 | nil=>intro i; simp [zex]
 | cons x A ih=>intro i; simp only [List.cons_append,zex,ih,List.length_cons,Bool.and_assoc]; rw [show i + 1 + A.length = i + (A.length + 1) by omega]
theorem ziq (s:SchemaL) (L:List (List UInt8)):∀ i,zex s i L = true→∀ j,j < L.length→zau s (i + j:Nat) (L.getD j []) = true:=by
 induction L with
 | nil=>intro i _ j hj; simp at hj
 | cons x L ih =>
  intro i h j hj;simp only [zex,Bool.and_eq_true] at h;cases j with
  | zero=>simpa using h.1
  | succ j =>
   have:=ih (i + 1) h.2 j (by simpa using hj);rw [show i + (j + 1) = i + 1 + j by omega];simpa using this
theorem normA_of (s:SchemaL) (L:List (List UInt8)):∀ i,(∀ j,j < L.length→zau s (i + j:Nat) (L.getD j []) = true)→zex s i L = true:=by
 induction L with
 | nil=>intro i _; rfl
 | cons x L ih =>
  intro i h;simp only [zex,Bool.and_eq_true]
  refine ⟨by simpa using h 0 (by simp),ih (i + 1) fun j hj=>?_⟩
  have:=h (j + 1) (by simpa using hj);rw [show i + (j + 1) = i + 1 + j by omega] at this;simpa using this
theorem makeA_norm (s:SchemaL) (raws:List (List UInt8)):∀ i C,(zep s i C raws).2 = 0→i = C.length→zex s 0 C = true→zex s 0 (zep s i C raws).1 = true:=by
 induction raws with
 | nil=>intro i C _ _ h; simpa [zep] using h
 | cons x l ih =>
  intro i C h hi hC;unfold zep at h ⊢;split at h
  ·rename_i h0
   rw [if_pos h0];refine ih _ _ h (by simp; omega) ?_;rw [normA_append,hC,Bool.true_and,Nat.zero_add];obtain ⟨⟨v,e⟩,hp⟩:∃ p,zcp s i x = p:=⟨_,rfl⟩;rw [hp] at h0 ⊢;dsimp only at h0;subst h0;simp only [zex,Bool.and_true];rw [← hi];exact (value_normal hp).1
  ·rename_i h0
   exact absurd h h0
theorem makeN_ok {s:SchemaL} {id ver:Int} {raws:List (List UInt8)} {r:RecL} (h:makeN s id ver raws = (r,0)) :
  zax s = 0∧r.id = id∧r.ver = ver∧zbo id ver = true∧r.vals.length = s.fields.length∧raws.length = s.fields.length∧zex s 0 r.vals = true∧r.vals = (zep s 0 [] raws).1∧(zep s 0 [] raws).2 = 0:=by
 unfold makeN at h;split at h
 ·rename_i h1
  split at h
  ·rename_i h2
   split at h
   ·rename_i h3
    split at h
    ·rename_i h4
     obtain rfl:RecL.mk id ver (zep s 0 [] raws).1 = r:=congrArg Prod.fst h;exact ⟨h1,rfl,rfl,h3,by simpa [h2] using makeA_len s raws 0 [] h4,h2,makeA_norm s raws 0 [] h4 rfl rfl,rfl,h4⟩
    ·rename_i h4
     exact absurd (congrArg Prod.snd h) h4
   ·exact absurd (congrArg Prod.snd h) (show (7:Int)≠0 by decide)
  ·exact absurd (congrArg Prod.snd h) (show (8:Int)≠0 by decide)
 ·rename_i h1
  exact absurd (congrArg Prod.snd h) h1
theorem checkN_of {s:SchemaL} {r:RecL} (h0:zax s = 0) (h1:zbo r.id r.ver = true) (h2:r.vals.length = s.fields.length) (h3:zex s 0 r.vals = true):zb7 s r = 0:=by
 unfold zb7 zd0;rw [if_pos h0,h1,h3,h2]; simp
theorem zhe {s:SchemaL} {r:RecL} (h:zb7 s r = 0):zax s = 0∧zbo r.id r.ver = true∧r.vals.length = s.fields.length∧zex s 0 r.vals = true:=by
 unfold zb7 at h;split at h
 ·rename_i h0
  unfold zd0 at h;split at h
  ·rename_i h1
   simp only [Bool.and_eq_true,beq_iff_eq] at h1;exact ⟨h0,h1.1.1,h1.1.2,h1.2⟩
  ·exact absurd h (by decide)
 ·rename_i h0; exact absurd h h0
theorem normalB_nil {s:SchemaL} {f:Int} (h:(zbt s f).2 = 0):zau s f [] = true:=by
 unfold zau; rw [if_pos h,if_pos rfl]
theorem none_norm {s:SchemaL} (h:zax s = 0):zex s 0 (List.replicate s.fields.length []) = true:=by
 refine normA_of _ _ _ fun j hj=>?_
 rw [List.length_replicate] at hj;have e:(List.replicate s.fields.length ([]:List UInt8)).getD j [] = []:=by simp [List.getD,List.getElem?_replicate]; split <;> rfl
 rw [e];refine normalB_nil ?_;rw [findN_in h (by simpa using hj)]
end
section
open Go.RowKit
structure BitsL where
 len:Int
 words:List Int
def zba:BitsL:=⟨0,[]⟩
structure ParL where
 len:Int
 hashes:Int
 salt:Int
instance:Inhabited ParL:=⟨⟨0,0,0⟩⟩
structure EncL where
 id:Int
 ver:Int
 fields:List BitsL
def zb6 (n:Int):Bool:=decide (64≤n) && decide (n≤512) && (n % 64 == 0)
def zc7 (p:ParL):Bool:=zb6 p.len && decide (1≤p.hashes) && decide (p.hashes≤16) && decide (-1≤p.salt) && decide (p.salt < 5)
def posN (len y:Int):Nat→Int→List Int
 | 0,_=>[]
 | n + 1,x=>x :: posN len y n ((x + y) % len)
def zga (p:ParL) (k:Int × Int) (g:List UInt8):Int:=(zc8 k.1 k.2 [[49],g]) % p.len
def zhx (p:ParL) (k:Int × Int) (g:List UInt8):Int:=1 + (zc8 k.1 k.2 [[50],g]) % (p.len - 1)
def zbx (p:ParL) (k:Int × Int) (g:List UInt8):List Int:=posN p.len (zhx p k g) p.hashes.toNat (zga p k g)
def zfk (ws:List Int) (i:Int):List Int:=ws.set (i / 64).toNat (bits .or .u64 (ws.getD (i / 64).toNat 0) (IntKind.u64.wrap (2 ^ (i % 64).toNat)))
def zec (p:ParL) (k:Int × Int) (ws:List Int) (g:List UInt8):List Int:=(zbx p k g).foldl zfk ws
def zej (n:Int):List Int:=List.replicate (n / 64).toNat 0
def zgq (p:ParL) (k:Int × Int) (G:List (List UInt8)):BitsL × Int :=
 if zc7 p = true then (if G.length≤80 then (⟨p.len,G.foldl (zec p k) (zej p.len)⟩,0) else (zba,1)) else (zba,10)
structure ParOk (p:ParL):Prop where
 len1:64≤p.len
 len2:p.len≤512
 len3:p.len % 64 = 0
 h1:1≤p.hashes
 h2:p.hashes≤16
 s1:-1≤p.salt
 s2:p.salt < 5
theorem ParOk.right {p:ParL} (h:ParOk p):zb6 p.len = true:=by
 have h1:=h.len1; have h2:=h.len2; have h3:=h.len3;simp [zb6,h1,h2,h3]
theorem ParOk.bloom {p:ParL} (h:ParOk p):zc7 p = true:=by
 have h0:=h.right; have h1:=h.h1; have h2:=h.h2; have h3:=h.s1; have h4:=h.s2;simp [zc7,h0,h1,h2,h3,h4]
theorem orBit_len (ws:List Int) (i:Int):(zfk ws i).length = ws.length:=by simp [zfk]
theorem orBits_len (l:List Int):∀ ws:List Int,(l.foldl zfk ws).length = ws.length:=by
 induction l with
 | nil=>intro ws; rfl
 | cons x l ih=>intro ws; rw [List.foldl_cons,ih,orBit_len]
theorem orGrams_len (p:ParL) (k:Int × Int) (G:List (List UInt8)):∀ ws:List Int,(G.foldl (zec p k) ws).length = ws.length:=by
 induction G with
 | nil=>intro ws; rfl
 | cons x l ih=>intro ws; rw [List.foldl_cons,ih]; exact orBits_len _ _
def zcg (t:List UInt8):List UInt8:=[102,105,101,108,100] ++ t
def zcr (t:List UInt8):List UInt8:=[115,97,108,116,61] ++ t
def keyN (k:Int × Int) (num:List UInt8) (salted:Bool) (salt:List UInt8):Int × Int :=
 let x:=zda k.1 k.2 (zcg num)
 bif salted then zda x.1 x.2 (zcr salt) else x
def saltOf (p:ParL) (vals:List (List UInt8)):List UInt8:=if 0≤p.salt then vals.getD p.salt.toNat [] else []
def zeh (s:SchemaL) (p:ParL) (k:Int × Int) (vals:List (List UInt8)) (i:Nat):BitsL :=
 if vals.getD i [] = [] then zba else (zgq p (keyN k (Lib.decDigits i) (decide (0≤p.salt)) (saltOf p vals)) (zfh s i (vals.getD i [])).1).1
theorem bigrams_two:∀ (l:List UInt8),∀ x∈bigrA l,x.length = 2
 | [],x,h=>by simp [bigrA] at h
 | [a],x,h=>by simp [bigrA] at h
 | a :: b :: l,x,h=>by
  simp only [bigrA,List.mem_cons] at h
  rcases h with rfl | h
  ·rfl
  ·exact bigrams_two (b :: l) x h
theorem posL_two:∀ (l:List UInt8) (j:Nat),∀ x∈posL j l,x.length = 2
 | [],j,x,h=>by simp [posL] at h
 | c :: l,j,x,h=>by
  simp only [posL,List.mem_cons] at h
  rcases h with rfl | h
  ·rfl
  ·exact posL_two l (j + 1) x h
theorem gramsL_two (l:List UInt8):∀ x∈ze0 l,x.length = 2:=by
 intro x h;unfold ze0 at h;rw [set_mem] at h;unfold zbh at h;obtain ⟨t,_,ht⟩:=List.mem_flatMap.1 h;exact bigrams_two _ _ ht
theorem ziv {s:SchemaL} {i:Int} {l:List UInt8} (h:zau s i l = true) (hi:(zbt s i).2 = 0):(zfh s i l).2 = 0∧(zfh s i l).1.length≤80∧(∀ g∈(zfh s i l).1,g.length≤100)∧l.length≤64:=by
 unfold zfh;rw [if_pos hi,if_pos h];by_cases h0:l = []
 ·subst h0; simp [zfq]
 ·have ho:ownK (zbt s i).1 s.rules l = true:=by unfold zau at h; rw [if_pos hi,if_neg h0] at h; exact h
  obtain ⟨g1,g2,g3⟩:=zio ho (zdz hi);refine ⟨rfl,?_,?_,g1⟩
  ·unfold zfq
   rw [if_neg h0];split
   ·rw [zik]; omega
   ·split
    ·simp
    ·have:=grams_bound g1; show (ze0 l).length≤80; omega
  ·unfold zfq
   rw [if_neg h0];split
   ·intro g hg; rw [posL_two _ _ g hg]; omega
   ·split
    ·intro g hg; simp at hg; subst hg; simp; omega
    ·intro g hg; rw [gramsL_two _ g hg]; omega
end
section
open Go.RowKit
theorem zic (op:BinOp) (x y:Int):0≤bits op .u64 x y∧bits op .u64 x y < 18446744073709551616:=by
 have:∃ e,bits op .u64 x y = IntKind.u64.wrap e:=by unfold bits; exact ⟨_,rfl⟩
 obtain ⟨e,he⟩:=this;rw [he];simp only [IntKind.wrap,IntKind.bits,IntKind.signed];simp;omega
theorem zeq (w:World) (r:Option Nat):w.grownBy w r:=⟨rfl,rfl,rfl,Nat.le_refl _,fun _ _ _=>rfl⟩
theorem zc9 {w w1 w2:World} {r:Option Nat} (h:w.grownBy w1 r) (h':w1.grownBy w2 r):w.grownBy w2 r :=
 ⟨h'.os.trans h.os,h'.tape.trans h.tape,h'.output.trans h.output,Nat.le_trans h.size h'.size,fun k hk hr=>(h'.block k (Nat.lt_of_lt_of_le hk h.size) hr).trans (h.block k hk hr)⟩
theorem zfg {w w1:World} {r:Option Nat} (h:w.grownBy w1 r) (n:Nat):w.grownBy (w1.drewN n) r:=⟨h.os,h.tape,h.output,h.size,h.block⟩
theorem zha {w w1:World} {D i:Nat} {v:Value} (h:w.grownBy w1 (some D)):w.grownBy (w1.setCell ⟨D,i,none⟩ v) (some D) :=
 zc9 h ⟨rfl,rfl,rfl,by simp [World.setCell],fun k hk hr=>heap_setCell_other _ _ _ _ (fun e=>hr (by rw [e]))⟩
theorem grown_below {w w1:World} {r:Option Nat} (h:Below w.heap.size w w1):w.grownBy w1 r:=⟨h.os,h.tape,h.output,h.size,fun k hk _=>h.block k hk⟩
theorem grown_blk {w w1:World} {D k:Nat} {o:Obj} (h:w.grownBy w1 (some D)) (ho:w.heap[k]? = some o) (hk:k≠D):w1.heap[k]? = some o:=by
 have hlt:k < w.heap.size:=by
  rcases Nat.lt_or_ge k w.heap.size with h' | h'
  ·exact h'
  ·simp [Array.getElem?_eq_none h'] at ho
 rw [h.block k hlt (by simpa using hk)]; exact ho
def ListAt (w:World) (D:Nat) (s:Value) (n:Nat):Prop :=
 ∃ a cap,s = .slice a n cap∧n≤400∧(0 < n→∃ b off,a = some ⟨b,off,none⟩∧b < D∧∀ i,i < n→∃ x:Int,w.cell? ⟨b,off + i,none⟩ = some (.int .i64 x))
theorem ListAt.same {w w1:World} {D n:Nat} {s:Value} (h:ListAt w D s n) (hg:∀ k,k < D→w1.heap[k]? = w.heap[k]?):ListAt w1 D s n:=by
 obtain ⟨a,cap,h1,h2,h3⟩:=h
 refine ⟨a,cap,h1,h2,fun hn=>?_⟩
 obtain ⟨b,off,h4,h5,h7⟩:=h3 hn
 refine ⟨b,off,h4,h5,fun i hi=>?_⟩
 obtain ⟨x,hx⟩:=h7 i hi;exact ⟨x,(World.cell?_of_block (w:=w) (a:=⟨b,off + i,none⟩) (hg b h5)).trans hx⟩
def DeckAt (w:World) (D:Nat):Prop :=
 ∃ (s:Value) (n:Nat) (t st:Int),w.heap[D]? = some (.cells #[s,.int .i64 t,.int .u64 st] 97 (0,0))∧ListAt w D s n∧0≤t∧t≤n
theorem DeckAt.lt {w:World} {D:Nat} (h:DeckAt w D):D < w.heap.size:=by
 obtain ⟨s,n,t,st,h,_⟩:=h;exact (Array.getElem?_eq_some_iff.1 h).1
theorem DeckAt.same {w w1:World} {D:Nat} (h:DeckAt w D) (hg:∀ k,k≤D→w1.heap[k]? = w.heap[k]?):DeckAt w1 D:=by
 obtain ⟨s,n,t,st,h1,h2,h3⟩:=h;exact ⟨s,n,t,st,(hg D xnl).trans h1,h2.same fun k hk=>hg k (Nat.le_of_lt hk),h3⟩
theorem DeckAt.below {w w1:World} {D:Nat} (h:DeckAt w D) (hb:Below w.heap.size w w1):DeckAt w1 D:=by
 have hlt:=h.lt;exact h.same fun k hk=>hb.block k (by omega)
structure Moved (D:Nat) (w w':World):Prop where
 grown:w.grownBy w' (some D)
 deck:DeckAt w' D
 lt:D < w.heap.size
theorem Moved.start {D:Nat} {w:World} (h:DeckAt w D):Moved D w w:=⟨zeq _ _,h,h.lt⟩
theorem Moved.trans {D:Nat} {w w1 w2:World} (h:Moved D w w1) (h':Moved D w1 w2):Moved D w w2:=⟨zc9 h.grown h'.grown,h'.deck,h.lt⟩
theorem Moved.below {D:Nat} {w w1 w2:World} (h:Moved D w w1) (hb:Below w1.heap.size w1 w2):Moved D w w2:=⟨zc9 h.grown (grown_below hb),h.deck.below hb,h.lt⟩
theorem Moved.alloc {D:Nat} {w w1:World} (h:Moved D w w1) (o:Obj):Moved D w (w1.alloc o):=h.below ((Below.refl _ _).alloc xnl _)
theorem Moved.drew {D:Nat} {w w1:World} (h:Moved D w w1):Moved D w w1.drew:=h.below (Below.refl _ _).drew
theorem Moved.set {D:Nat} {w w1:World} (h:Moved D w w1) {a:Addr} (ha:w.heap.size≤a.block) (v:Value):Moved D w (w1.setCell a v):=by
 have:=h.lt
 refine ⟨⟨h.grown.os,h.grown.tape,h.grown.output,by simpa [World.setCell] using h.grown.size,fun k hk hr=>?_⟩,h.deck.same fun k hk=>heap_setCell_other _ _ _ _ (by omega),this⟩
 rw [heap_setCell_other _ _ _ _ (by omega)]; exact h.grown.block k hk hr
theorem Moved.blk {D k:Nat} {w w1:World} {o:Obj} (h:Moved D w w1) (hk:k≠D) (ho:w.heap[k]? = some o):w1.heap[k]? = some o:=grown_blk h.grown ho hk
theorem Moved.size {D:Nat} {w w1:World} (h:Moved D w w1):w.heap.size≤w1.heap.size:=h.grown.size
theorem Moved.base {D B:Nat} {w0 w w1:World} (h:Moved D w w1) (hb:Below B w0 w) (hB:B≤D):Below B w0 w1 :=
 hb.trans ⟨h.grown.os,h.grown.tape,h.grown.output,h.grown.size,fun k hk=>h.grown.block k (by have:=h.lt; omega) (by simp; omega)⟩
def WordPost (D:Nat) (w:World) (e:Ending) (w':World):Prop :=
 ∃ r:Int,e = .returned (.int .u64 r)∧0≤r∧r < 18446744073709551616∧Moved D w w'
theorem word_done {D n:Nat} {w w':World} {s:Value} {r t st:Int} (hL:ListAt w D s n) (hg:w.grownBy w' (some D)) (hD:w'.heap[D]? = some (.cells #[s,.int .i64 t,.int .u64 st] 97 (0,0)))
  (hlt:D < w.heap.size) (h0:0≤t) (h1:t≤n) (hr:0≤r∧r < 18446744073709551616):WordPost D w (.returned (.int .u64 r)) w' :=
 ⟨r,rfl,hr.1,hr.2,hg,⟨s,n,t,st,hD,hL.same fun k hk=>hg.block k (by omega) (by simp; omega),h0,h1⟩,hlt⟩
theorem word_more (D:Nat) (w:World) (b off n cap:Nat) (t st x:Int) (hD:w.heap[D]? = some (.cells #[.slice (some ⟨b,off,none⟩) n cap,.int .i64 t,.int .u64 st] 97 (0,0)))
  (hL:ListAt w D (.slice (some ⟨b,off,none⟩) n cap) n) (hn:n≤400) (h0:0≤t) (h1:t < n) (hb:b < D) (hx:w.cell? ⟨b,off + t.toNat,none⟩ = some (.int .i64 x)) :
  Calls prog 55 #[.pointer (some ⟨D,0,none⟩)] w (WordPost D w):=by
 obtain ⟨p0,p1,p2⟩:=zai hD;obtain ⟨f0,f1,f2⟩:=free3 hD;obtain ⟨t,rfl⟩:=Int.eq_ofNat_of_zero_le h0;rw [Int.toNat_natCast] at hx;have hlt:=zaa hD;have HD:=zi5 hD; clear hD;go_enter func55,ntmps55
 go_wp2
 go_quiet (fail)
 go_wp2
 go_quiet (fail)
 go_wp2
 go_quiet (fail)
 go_wp2
 go_ret;exact word_done hL (zfg (zha (zha (zfg (zeq w _) _))) _) (zad (zad HD.out)) hlt (by omega) (by omega) (zic _ _ _)
theorem word_end (D:Nat) (w:World) (a:Option Addr) (n cap:Nat) (t st:Int) (hD:w.heap[D]? = some (.cells #[.slice a n cap,.int .i64 t,.int .u64 st] 97 (0,0)))
  (hL:ListAt w D (.slice a n cap) n) (hn:n≤400) (h0:0≤t) (h1:t = n) :
  Calls prog 55 #[.pointer (some ⟨D,0,none⟩)] w (WordPost D w):=by
 subst h1;obtain ⟨p0,p1,p2⟩:=zai hD;obtain ⟨f0,f1,f2⟩:=free3 hD;have hlt:=zaa hD;have HD:=zi5 hD; clear hD;go_enter func55,ntmps55
 go_wp2
 go_quiet (fail)
 go_wp2
 go_quiet (fail)
 go_wp2
 go_ret;exact word_done hL (zfg (zha (zfg (zeq w _) _)) _) (zad HD.out) hlt (by omega) (by omega) (zic _ _ _)
theorem word_any (D:Nat) (w:World) (h:DeckAt w D) :
  Calls prog 55 #[.pointer (some ⟨D,0,none⟩)] w (WordPost D w):=by
 obtain ⟨s,n,t,st,hD,hL,h0,h1⟩:=h;have hL':=hL;obtain ⟨a,cap,rfl,hn,h2⟩:=hL;by_cases ht:t = n
 ·exact word_end D w a n cap t st hD hL' hn h0 ht
 ·have ht':t < n:=by clear h2 hL'; omega
  obtain ⟨b,off,rfl,hb,hc⟩:=h2 (by clear h2 hL'; omega);obtain ⟨x,hx⟩:=hc t.toNat (by clear hc h2 hL'; omega);exact word_more D w b off n cap t st x hD hL' hn h0 ht' hb hx
theorem next_val {r k:Int} (h0:0≤r) (h1:r < 18446744073709551616) (hk:1≤k):0≤(wrap64 (r / 2)).tmod k∧(wrap64 (r / 2)).tmod k < k:=by
 have e:wrap64 (r / 2) = r / 2:=IntWalk.wrap64_in (r / 2) (by constructor <;> omega);have h2:0≤r / 2:=by omega
 rw [e,Int.tmod_eq_emod_of_nonneg h2];exact ⟨Int.emod_nonneg _ (by omega),Int.emod_lt_of_pos _ (by omega)⟩
def NextPost (D:Nat) (w:World) (k:Int) (e:Ending) (w':World):Prop :=
 ∃ r:Int,e = .returned (.int .i64 r)∧0≤r∧r < k∧Moved D w w'
theorem zb5 (D:Nat) (w:World) (k:Int) (h:DeckAt w D) (hk:1≤k) (hk2:k≤1000000000) :
  Calls prog 14 #[.pointer (some ⟨D,0,none⟩),.int .i64 k] w (NextPost D w k):=by
 go_enter func14,ntmps14
 go_wp2_with fail
 refine (word_any D _ h).mono ?_;rintro e w1 ⟨r,rfl,h0,h1,h2⟩;have H1:=zi5 h1; clear h1;have H2:=zi5 h2; clear h2;go_wp2_with fail
 go_ret;have hv:=next_val h0 H1.out hk;exact ⟨_,rfl,hv.1,hv.2,H2.out⟩
theorem few_any (a:Option Addr) (n cap:Nat) (w:World) :
  Calls prog 8 #[.slice a n cap] w fun e w'=>e = .returned (.bool (decide (n≤400)))∧w = w':=by
 go_enter func8,ntmps8
 go_wp2
 go_ret;exact ⟨za0 (by simp; omega),rfl⟩
theorem new_any (a:Option Addr) (n cap:Nat) (w:World) :
  Calls prog 11 #[.slice a n cap] w fun e w'=>e = .returned (.pointer (some ⟨w.heap.size,0,none⟩))∧w.alloc (.cells #[.slice a n cap,.int .i64 0,.int .u64 11400714819323198485] 97) = w':=by
 go_enter func11,ntmps11
 go_wp2
 go_ret;exact ⟨rfl,rfl⟩
theorem deck_new {w:World} {a:Option Addr} {n cap:Nat} (hn:n≤400) (h:0 < n→∃ b off,a = some ⟨b,off,none⟩∧b < w.heap.size∧∀ i,i < n→∃ x:Int,w.cell? ⟨b,off + i,none⟩ = some (.int .i64 x)) :
  DeckAt (w.alloc (.cells #[.slice a n cap,.int .i64 0,.int .u64 11400714819323198485] 97)) w.heap.size:=by
 refine ⟨_,n,0,_,zac rfl,⟨a,cap,rfl,hn,fun h0=>?_⟩,by omega,by omega⟩
 obtain ⟨b,off,h1,h2,h3⟩:=h h0
 refine ⟨b,off,h1,h2,fun i hi=>?_⟩
 obtain ⟨x,hx⟩:=h3 i hi;exact ⟨x,(World.cell?_of_block (w:=w) (a:=⟨b,off + i,none⟩) (((Below.refl _ _).alloc xnl _).block b h2)).trans hx⟩
end
end Go.Proofs.YtpmpdonccgcehaaGreatDoor
