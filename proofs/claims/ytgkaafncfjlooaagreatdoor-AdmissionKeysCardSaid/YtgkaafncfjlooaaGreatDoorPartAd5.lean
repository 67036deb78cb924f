/- Parts of one proof: RefNameC, RefNameD, RefSchA, RefAddrA, RefAddrB, RefAddrC, RefDateA, RefDateB, RefSchB, RefSchC, MakeZZ, DeckRec, Drawn, DeckRecB. -/
import Derived.Test.YtgkaafncfjlooaaGreatDoorPartAd4
import Derived.Deep.RegionWith
set_option maxHeartbeats 16000000
set_option maxRecDepth 100000
open Go.Proofs.Tryz
set_option linter.unusedSimpArgs false
set_option linter.unusedVariables false
namespace Go.Proofs.YtgkaafncfjlooaaGreatDoor
section
open Go.RowKit
attribute [local go_sem] zag zaj zbb
theorem titles_is {L:List (List UInt8)} (h:∀ j,j < L.length→zb6 (L.getD j []) = true):zfc L = ascL L:=by
 unfold zfc ascL
 refine Bool.eq_iff_iff.2 ⟨fun g=>?_,fun g=>?_⟩
 ·refine List.all_eq_true.2 fun j hj=>?_
  have:=List.all_eq_true.1 g j hj;unfold zfl at this;rw [Bool.and_eq_true] at this;exact this.2
 ·refine List.all_eq_true.2 fun j hj=>?_
  have:=List.all_eq_true.1 g j hj;unfold zfl;rw [h j (List.mem_range.1 hj)];exact this
theorem titles_no {L:List (List UInt8)} {j:Nat} (h:j < L.length) (ht:zb6 (L.getD j []) = false):zfc L = false:=by
 unfold zfc;exact zb7 h (by unfold zfl; rw [ht]; rfl)
theorem zd8 (S:Nat→Prop) (vt vn vs:Value) (r:RulesL) (w:World) (h:RulesAt w S vt vn vs r) :
  Calls prog 113 #[.agg #[vt,vn,vs]] w fun e w'=>e = .returned (.int .i64 (zay r))∧Below w.heap.size w w':=by
 obtain ⟨lt,ln,ls⟩:=r;obtain ⟨h1,h2,h3⟩:=h;dsimp only at h1 h2 h3;obtain ⟨at1,ct,rfl⟩:=h1.slice;obtain ⟨an,cn,rfl⟩:=h2.slice;obtain ⟨as',cs,rfl⟩:=h3.slice;have H1:=zjp h1.any; have H2:=zjp h2.any; have H3:=zjp h3.any;clear h1 h2 h3;have hfin:∀ n:Int,zay ⟨lt,ln,ls⟩ = n→Ending.returned (.int .i64 n) = .returned (.int .i64 (zay ⟨lt,ln,ls⟩)):=fun n h=>by rw [h]
 have HF:=zjp hfin; clear hfin;by_cases g1:32 < lt.length
 ·have e1:decide ((32:Int) < lt.length) = true:=by simp; omega
  go_enter func113,ntmps113
  go_wp2_with fail
  go_ret;exact ⟨HF.out 1 (by unfold zay; rw [if_pos (.inl g1)]),(Below.refl _ _).alloc xnl _⟩
 ·have e1:decide ((32:Int) < lt.length) = false:=by simp; omega
  by_cases g2:32 < ln.length
  ·have e2:decide ((32:Int) < ln.length) = true:=by simp; omega
   go_enter func113,ntmps113
   go_wp2_with fail
   go_ret;exact ⟨HF.out 1 (by unfold zay; rw [if_pos (.inr (.inl g2))]),(Below.refl _ _).alloc xnl _⟩
  ·have e2:decide ((32:Int) < ln.length) = false:=by simp; omega
   by_cases g3:32 < ls.length
   ·have e3:decide ((32:Int) < ls.length) = true:=by simp; omega
    go_enter func113,ntmps113
    go_wp2_with fail
    go_ret;exact ⟨HF.out 1 (by unfold zay; rw [if_pos (.inr (.inr g3))]),(Below.refl _ _).alloc xnl _⟩
   ·have e3:decide ((32:Int) < ls.length) = false:=by simp; omega
    have hle:¬ (32 < lt.length∨32 < ln.length∨32 < ls.length):=by omega
    have HLe:=zjp hle; clear hle;go_enter func113,ntmps113
    go_wp2_with fail
    clear e1 e2 e3
    refine zam (fun W hW=>?_)
    have HX:=zjp (show W.heap[w.heap.size]? = some (.cells #[.slice at1 lt.length ct,.slice an ln.length cn,.slice as' ls.length cs] 31 (0,0)) from by rw [hW]; exact zac rfl);have HB:=zjp (show Below w.heap.size w W from by rw [hW]; exact (Below.refl _ _).alloc xnl _);have zW:w.heap.size < W.heap.size:=zaa HX.out;clear hW;obtain ⟨p0,p1,p2⟩:=zao HX.out;go_loop [3] (fun i=>∃ k:Nat,k≤lt.length∧i = .int .i64 k∧Hid (∀ j,j < k→zb6 (lt.getD j []) = true)) (fun i=>lt.length - (intOf i).toNat)
    case atStart=>exact ⟨0,by omega,rfl,zjp fun j hj=>by omega⟩
    case round =>
     obtain ⟨k,hk,rfl,HA⟩:=hrel;by_cases hlt:k < lt.length
     ·have hq:decide ((k:Int) < lt.length) = true:=by simp; omega
      obtain ⟨b,off,rfl,_,hb,hc⟩:=zcc (H1.out.below HB.out) (by omega);have c1:=hc k hlt;obtain ⟨x,hx⟩:∃ x,lt.getD k [] = x:=⟨_,rfl⟩;rw [hx] at c1;have HXx:=zjp hx;clear hc hx;go_wp2_with fail
      refine (rtoken_any x _).mono ?_;cases ht:zb6 x
      ·rintro e w' ⟨rfl,rfl⟩
       have HT:=zjp ht; clear ht;go_wp2_with fail
       go_ret;exact ⟨HF.out 5 (by unfold zay; rw [if_neg HLe.out,titles_no (j:=k) hlt (by rw [HXx.out]; exact HT.out)]; simp),HB.out⟩
      ·rintro e w' ⟨rfl,rfl⟩
       have HT:=zjp ht; clear ht;go_wp2_with fail
       go_round
       case rel=>exact ⟨k + 1,by omega,by go_num,zjp fun j hj=>by
        by_cases e:j = k
        ·subst e; rw [HXx.out]; exact HT.out
        ·exact HA.out j (by omega)⟩
       case measure=>simp [intOf]; omega
     ·have hq:decide ((k:Int) < lt.length) = false:=by simp; omega
      have hti:=zjp (titles_is (L:=lt) (fun j hj=>HA.out j (by omega)))
      go_wp2_with fail
      refine (rasc_any zav _ lt _ (H1.out.below HB.out) (by omega)).mono ?_;rw [← hti.out];rintro e w1 ⟨rfl,hb1⟩;have HX1:=zjp (zab hb1 zW HX.out);have HB1:=zjp (HB.out.trans (hb1.mono HB.out.size));clear hb1 p0 p1 p2;obtain ⟨p0,p1,p2⟩:=zao HX1.out;have z1:w.heap.size < w1.heap.size:=zaa HX1.out;cases ht:zfc lt
      ·have HT:=zjp ht; clear ht
       go_wp2_with fail
       go_ret;exact ⟨HF.out 5 (by unfold zay; rw [if_neg HLe.out,HT.out]; simp),HB1.out⟩
      ·have HT:=zjp ht; clear ht
       go_wp2_with fail
       refine (rpairs_any zav _ ln _ (H2.out.below HB1.out) (by omega)).mono ?_;rintro e w2 ⟨rfl,hb2⟩;have HX2:=zjp (zab hb2 z1 HX1.out);have HB2:=zjp (HB1.out.trans (hb2.mono HB1.out.size));clear hb2 p0 p1 p2;obtain ⟨p0,p1,p2⟩:=zao HX2.out;have z2:w.heap.size < w2.heap.size:=zaa HX2.out;cases hp:zcd ln
       ·have HP:=zjp hp; clear hp
        go_wp2_with fail
        go_ret;exact ⟨HF.out 5 (by unfold zay; rw [if_neg HLe.out,HT.out,HP.out]; simp),HB2.out⟩
       ·have HP:=zjp hp; clear hp
        go_wp2_with fail
        refine (rpairs_any zav _ ls _ (H3.out.below HB2.out) (by omega)).mono ?_;rintro e w3 ⟨rfl,hb3⟩;have HX3:=zjp (zab hb3 z2 HX2.out);have HB3:=zjp (HB2.out.trans (hb3.mono HB2.out.size));clear hb3 p0 p1 p2;cases hs:zcd ls
        ·have HS:=zjp hs; clear hs
         go_wp2_with fail
         go_ret;exact ⟨HF.out 5 (by unfold zay; rw [if_neg HLe.out,HT.out,HP.out,HS.out]; simp),HB3.out⟩
        ·have HS:=zjp hs; clear hs
         have hck:zay ⟨lt,ln,ls⟩ = if (ln.any fun x=>zhh lt x.2) = true then 5 else 0:=by
          unfold zay;rw [if_neg HLe.out,HT.out,HP.out,HS.out]; simp
         have HCk:=zjp hck; clear hck;go_wp2_with fail
         go_loopw [4] (fun i wr=>∃ k:Nat,k≤ln.length∧i = .int .i64 k∧Below w3.heap.size w3 wr∧Hid (∀ j,j < k→zhh lt (ln.getD j default).2 = false)) (fun i _=>ln.length - (intOf i).toNat)
         case atStart=>exact ⟨0,by omega,rfl,Below.refl _ _,zjp fun j hj=>by omega⟩
         case round =>
          obtain ⟨k,hk2,rfl,hbw,HH⟩:=hrel;have HW:=zjp (HB3.out.trans (hbw.mono HB3.out.size));have HXw:=zjp (zab hbw (zaa HX3.out) HX3.out);have HBw:=zjp hbw;clear hbw;have zw:=zaa HXw.out;obtain ⟨p0,p1,p2⟩:=zao HXw.out;by_cases hlt2:k < ln.length
          ·have hq2:decide ((k:Int) < ln.length) = true:=by simp; omega
           have hi:(k:Int) < (ln.length:Int):=by omega
           obtain ⟨b,off,rfl,_,hb,hc⟩:=zck (H2.out.below HW.out) (by omega);have c1:=hc k hlt2 1 _ rfl;obtain ⟨⟨y,z⟩,hy⟩:∃ y,ln.getD k default = y:=⟨_,rfl⟩;have hmem:ln.getD k default∈ln:=by rw [List.getD,List.getElem?_eq_getElem hlt2]; exact List.getElem_mem hlt2
           rw [hy] at c1 hmem;dsimp only at c1;have HY:=zjp hy; have HM:=zjp hmem;clear hc hy hmem;go_wp2_with fail
           refine wp_region_noPanic ?_
           refine wp_region_held_drew (S:=(fun w'=>w'.cell? ⟨w.heap.size,0,none⟩ = some (.slice at1 lt.length ct)∧w'.cell? ⟨w.heap.size,1,none⟩ = some (.slice (some ⟨b,off,none⟩) ln.length cn)∧w'.cell? ⟨b,off + k * 2 + 1,none⟩ = some (zal z))) (by kernel_rfl) (⟨p0,p1,c1⟩) (fun hHeld=>?_)
           refine tH 0 (h:=?_);refine tH 1 (h:=?_);refine tH 2 (h:=?_);refine tH 3 (h:=?_);refine tH 4 (h:=?_);refine tH 5 (h:=?_);refine tH 6 (h:=?_);refine tH 7 (h:=?_);refine wpAnyH_ready (rs:=[8]) (by kernel_rfl) (by simp) ?_
           refine AllReadyH.cons rfl (fun K hK=>?_) AllReadyH.nil
           go_simp;refine (rhas_any zav _ lt z _ ((H1.out.below HW.out).below (Below.refl _ _).drew) (by omega)).mono ?_; rintro e w' ⟨rfl,rfl⟩
           refine hK.out _ _ (hHeld) (fun hHeld=>?_)
           clear hK K;refine wpAnyH_done (by kernel_rfl) ?_ _;refine NoPanic.normal ?_;cases hh:zhh lt z
           ·have HHz:=zjp hh; clear hh
            go_wp2_with fail
            go_roundw
            case rel=>exact ⟨k + 1,by omega,by go_num,HBw.out.drew,zjp fun j hj=>by
             by_cases e:j = k
             ·subst e; rw [HY.out]; exact HHz.out
             ·exact HH.out j (by omega)⟩
            case measure=>simp [intOf]; omega
           ·have HHz:=zjp hh; clear hh
            go_wp2_with fail
            go_ret;exact ⟨HF.out 5 (by rw [HCk.out,if_pos (List.any_eq_true.2 ⟨_,HM.out,HHz.out⟩)]),HW.out.drew⟩
          ·have hq2:decide ((k:Int) < ln.length) = false:=by simp; omega
           have hany:(ln.any fun x=>zhh lt x.2) = false:=by
            rw [List.any_eq_false];intro y hy;obtain ⟨j,hj,rfl⟩:=List.getElem_of_mem hy;have:=HH.out j (by omega);rw [List.getD,List.getElem?_eq_getElem hj] at this;simpa using this
           have HAny:=zjp hany; clear hany;go_wp2_with fail
           go_ret;exact ⟨HF.out 0 (by rw [HCk.out,HAny.out]; simp),HW.out⟩
end
section
open Go.RowKit
attribute [local go_sem] zag zaj
theorem rnorm_yes (S:Nat→Prop) (vt vn vs:Value) (r:RulesL) (s:ByteArray) (w:World) (h:RulesAt w S vt vn vs r) (hc:zay r = 0) (hv:zdd s.data.toList = true) :
  Calls prog 124 #[.agg #[vt,vn,vs],.string s] w fun e w'=>e = .returned (zds (zc9 r s.data.toList))∧Below w.heap.size w w':=by
 have hs:s.size≤64:=by
  have:=zgl hv;have h2:s.data.toList.length = s.size:=by simp
  omega
 obtain ⟨⟨k1,k2,k3⟩,g1,g2,g3,g4⟩:=zex hc;have G2:=zjp g2;have HR:=zjp h.any;have HC:=zjp hc; have HV:=zjp hv;clear h hc hv g1 g2 g3 g4
 have hfin:zc9 r s.data.toList = (if 6 < (za9 r (zcq (zbv s.data.toList))).length∨64 < (za0 (za9 r (zcq (zbv s.data.toList)))).length then ([],1) else (za0 (za9 r (zcq (zbv s.data.toList))),0)):=by
  unfold zc9; rw [if_pos HC.out,if_pos HV.out]
 have HF:=zjp hfin; clear hfin;go_enter func124,ntmps124
 go_wp2_with fail
 refine (zd8 zav vt vn vs r _ (HR.out.below ((Below.refl _ _).alloc xnl _))).mono ?_;rw [HC.out];rintro e w1 ⟨rfl,hb1⟩;have X1:w1.heap[w.heap.size]? = some (.cells #[vt,vn,vs] 31 (0,0)):=zab hb1 (by simp) (zac rfl);have HX1:=zjp X1;have HB1:=zjp (xbt hb1);clear X1 hb1;go_wp2_with fail
 refine (rfold_yes s _ HV.out).mono ?_;rintro e w2 ⟨rfl,hb2⟩;have HX2:=zjp (zab hb2 (zaa HX1.out) HX1.out);have HB2:=zjp (HB1.out.trans (hb2.mono HB1.out.size));clear hb2 HX1 HB1;go_wp2_with fail
 have hfl:(zbv s.data.toList).length≤64:=by
  have:=zgy s.data.toList;have h2:s.data.toList.length = s.size:=by simp
  omega
 obtain ⟨fl,hfl'⟩:∃ fl,zbv s.data.toList = fl:=⟨_,rfl⟩;have hasc:ascii fl:=hfl' ▸ zhz _;have HA:=zjp hasc;rw [hfl'] at hfl HF ⊢;clear hasc hfl';refine (zia ⟨fl.toArray⟩ _ (by rw [zaj]; omega)).mono ?_;rw [show (⟨fl.toArray⟩:ByteArray).data.toList = fl by simp];rintro e w4 ⟨v4,rfl,ho⟩;obtain ⟨aT,cT,rfl⟩:=zau ho.1;have hb4:=ho.2;have HX4:=zjp (zab hb4 (zaa HX2.out) HX2.out);have HB4:=zjp (HB2.out.trans (hb4.mono HB2.out.size));have hV:=Vec.owns (S:=zav) (k:=1) (enc:=zba) (fun _=>rfl) ho.1 (fun _ _ _=>trivial)
 have htl:∀ t∈zcq fl,t.length≤64:=fun t ht=>by have:=toks_le fl [] t ht; simp at this; omega
 have htn:(zcq fl).length≤65:=by have:=(zdy fl []).2.1; unfold zcq; omega
 obtain ⟨T,hT⟩:∃ T,zcq fl = T:=⟨_,rfl⟩;rw [hT] at hV htl htn HF ⊢;have HV4:=zjp hV; have HTL:=zjp htl;clear hb4 HX2 HB2 ho hV hT htl;go_wp2_with fail
 go_loopw [10,11] (fun v i wr=>∃ k:Nat,k≤T.length∧i = .int .i64 k∧OwnAt w4 v (za9 r (T.take k)) wr) (fun _ i _=>T.length - (intOf i).toNat)
 case atStart=>exact ⟨0,by omega,rfl,OwnAt.start w4⟩
 case round =>
  obtain ⟨k,hk,rfl,ho⟩:=hrel;by_cases hlt:k < T.length
  ·have hq:decide ((k:Int) < T.length) = true:=by simp; omega
   have hi:(k:Int) < (T.length:Int):=by omega
   obtain ⟨b,off,rfl,_,hb,hcx⟩:=zcc HV4.out (by omega)
   have htk:T.take (k + 1) = T.take k ++ [T.getD k []]:=by
    rw [List.take_succ_eq_append_getElem hlt,List.getD,List.getElem?_eq_getElem hlt]; rfl
   have hxl:(T.getD k []).length≤64:=TL_get HTL.out k hlt;have hcx':=hcx k hlt;obtain ⟨x,hx⟩:∃ x,T.getD k [] = x:=⟨_,rfl⟩;rw [hx] at htk hxl hcx';have c1:wr.cell? ⟨b,off + k,none⟩ = some (zal x):=(ho.2.cell (p:=⟨b,off + k,none⟩) hb).trans hcx';have HT:=zjp htk; have HO:=zjp ho;have hnl:=zf5 r (T.take k);have hnl2:(za9 r (T.take k)).length < 1099511627776:=by have:=List.length_take_le k T; omega
   clear hx htk hcx hcx' ho hnl;go_wp2_with fail
   refine (zhb (mkS x) _ (by rw [show (mkS x).size = x.length from zaj x]; omega)).mono ?_;rw [show (mkS x).data.toList = x by simp [mkS]];rintro e w' ⟨rfl,rfl⟩;have HO5:=HO;have hX5:=zab (HO5.out.2) (zaa HX4.out) HX4.out;clear HO;have HNT:=zjp (show zcv r x = if (za8 x).isEmpty || zhh r.titles (za8 x) then [] else [zbd r.nicks (za8 x)] from rfl);have hyl:=zfo x;obtain ⟨y,hy⟩:∃ y,za8 x = y:=⟨_,rfl⟩;rw [hy] at HNT hyl ⊢;clear hy;have HX5:=zjp hX5;obtain ⟨p0,p1,p2⟩:=zao hX5;clear hX5;by_cases hye:y = []
   ·have e1:(y == []) = true:=by simpa using hye
    have e2:y.isEmpty = true:=by simpa using hye
    have HN:=zjp (show zcv r x = [] by rw [HNT.out,e2]; rfl);clear hye HNT;go_wp2_with fail
    go_roundw
    case rel=>exact ⟨k + 1,by omega,by go_num,by rw [HT.out,zdn,HN.out,List.append_nil]; exact HO5.out⟩
    case measure=>simp [intOf]; omega
   ·have e1:(y == []) = false:=by simpa using hye
    have e2:y.isEmpty = false:=by simpa using hye
    rw [e2,Bool.false_or] at HNT;clear hye;go_wp2_with fail
    refine (rdropped_any zav vt vn vs r.titles y _ (HR.out.1.below (HB4.out.trans (HO5.out.2.mono HB4.out.size))) (by omega)).mono ?_;rintro e w6 ⟨rfl,hb6⟩;have HO6:=zjp (HO5.out.below hb6);have hX6:=zab hb6 (zaa HX5.out) HX5.out;clear p0 p1 p2 HX5 hb6 HO5;obtain ⟨p0,p1,p2⟩:=zao hX6;have HX6:=zjp hX6; clear hX6;cases hd:zhh r.titles y
    ·have HN:=zjp (show zcv r x = [zbd r.nicks y] by rw [HNT.out,hd]; rfl)
     clear hd HNT;go_wp2_with fail
     refine (rcanonical_any zav vt vn vs r.nicks y _ (HR.out.2.1.below (HB4.out.trans (HO6.out.2.mono HB4.out.size))) (by omega)).mono ?_;rintro e w7 ⟨rfl,hb7⟩;have HO7:=zjp (HO6.out.below hb7);clear p0 p1 p2 HX6 hb7 HO6;obtain ⟨z,hz⟩:∃ z,zbd r.nicks y = z:=⟨_,rfl⟩;rw [hz] at HN ⊢;clear hz;have hbz:w4.heap.size≤w7.heap.size:=HO7.out.2.size;go_wp2_with (at_builtin; refine za6 rfl _ _ 28 rfl w4.heap.size 9 1 16 (.string ⟨#[]⟩) underlying28 zdv rfl (by decide) (by decide) _ _ _ rfl HO7.out.1 #[zal z] 1 rfl rfl (by simp [Value.oneCell']) hnl2 hbz ?_; intro v2 w8 ho8 hw8)
     go_roundw
     case rel=>exact ⟨k + 1,by omega,by go_num,by rw [HT.out,zdn,HN.out]; exact ⟨by rw [List.length_append,zdz]; exact ho8,hw8 _ HO7.out.2⟩⟩
     case measure=>simp [intOf]; omega
    ·have HN:=zjp (show zcv r x = [] by rw [HNT.out,hd]; rfl)
     clear hd HNT;go_wp2_with fail
     go_roundw
     case rel=>exact ⟨k + 1,by omega,by go_num,by rw [HT.out,zdn,HN.out,List.append_nil]; exact HO6.out⟩
     case measure=>simp [intOf]; omega
  ·have hq:decide ((k:Int) < T.length) = false:=by simp; omega
   rw [List.take_of_length_le (by omega)] at ho;have HV5:=zjp (Vec.owns (S:=zav) (k:=1) (enc:=zba) (fun _=>rfl) ho.1 (fun _ _ _=>trivial))
   have HW:=zjp (HB4.out.trans (ho.2.mono HB4.out.size));have hnl:=zf5 r T;have hjl:=join_le (za9 r T) (nameToks_le G2.out HTL.out);clear ho;obtain ⟨N,hN⟩:∃ N,za9 r T = N:=⟨_,rfl⟩;rw [hN] at HV5 hnl hjl HF;clear hN
   have hjb:(za0 N).length≤1000000:=by
    have:N.length * 65≤65 * 65:=Nat.mul_le_mul_right 65 (by omega);omega
   clear hjl;obtain ⟨av,cv,rfl⟩:=HV5.out.slice;go_wp2_with fail
   refine (rjoin_any zav _ N _ HV5.out (by omega) (by omega)).mono ?_;rintro e w' ⟨rfl,rfl⟩;have HW9:=HW;obtain ⟨J,hJ⟩:∃ J,za0 N = J:=⟨_,rfl⟩;rw [hJ] at HF hjb ⊢;clear hJ;by_cases g1:6 < N.length
   ·have d1:decide ((6:Int) < N.length) = true:=by simp; omega
    rw [if_pos (.inl g1)] at HF;go_wp2_with fail
    go_ret2;exact ⟨by rw [HF.out]; rfl,HW9.out⟩
   ·have d1:decide ((6:Int) < N.length) = false:=by simp; omega
    by_cases g2:64 < J.length
    ·have d2:decide ((64:Int) < J.length) = true:=by simp; omega
     rw [if_pos (.inr g2)] at HF;go_wp2_with fail
     go_ret2;exact ⟨by rw [HF.out]; rfl,HW9.out⟩
    ·have d2:decide ((64:Int) < J.length) = false:=by simp; omega
     rw [if_neg (by omega)] at HF;go_wp2_with fail
     go_ret2;exact ⟨by rw [HF.out]; rfl,HW9.out⟩
theorem rnorm_no (S:Nat→Prop) (vt vn vs:Value) (r:RulesL) (s:ByteArray) (w:World) (h:RulesAt w S vt vn vs r) (hs:s.size≤9223372036854775000) (hc:zay r = 0) (hv:zdd s.data.toList = false) :
  Calls prog 124 #[.agg #[vt,vn,vs],.string s] w fun e w'=>e = .returned (zds (zc9 r s.data.toList))∧Below w.heap.size w w':=by
 have HR:=zjp h.any;have HC:=zjp hc; have HV:=zjp hv;clear h hc hv;have HF:=zjp (show zc9 r s.data.toList = ([],3) by unfold zc9; rw [if_pos HC.out,if_neg (by rw [HV.out]; simp)]);go_enter func124,ntmps124
 go_wp2_with fail
 refine (zd8 zav vt vn vs r _ (HR.out.below ((Below.refl _ _).alloc xnl _))).mono ?_;rw [HC.out];rintro e w1 ⟨rfl,hb1⟩;have HB1:=zjp (xbt hb1);clear hb1;go_wp2_with fail
 refine (rfold_no s _ hs HV.out).mono ?_;rintro e w2 ⟨rfl,hb2⟩;have HB2:=zjp (HB1.out.trans (hb2.mono HB1.out.size));clear hb2 HB1;go_wp2_with fail
 go_ret2;exact ⟨by rw [HF.out]; rfl,HB2.out⟩
theorem rnorm_bad (S:Nat→Prop) (vt vn vs:Value) (r:RulesL) (s:ByteArray) (w:World) (h:RulesAt w S vt vn vs r) (hc:zay r≠0) :
  Calls prog 124 #[.agg #[vt,vn,vs],.string s] w fun e w'=>e = .returned (zds (zc9 r s.data.toList))∧Below w.heap.size w w':=by
 have HR:=zjp h.any;have HF:=zjp (show zc9 r s.data.toList = ([],zay r) by unfold zc9; rw [if_neg hc]);have hne:(zay r != 0) = true:=by simpa using hc
 clear h hc;go_enter func124,ntmps124
 go_wp2_with fail
 refine (zd8 zav vt vn vs r _ (HR.out.below ((Below.refl _ _).alloc xnl _))).mono ?_;obtain ⟨c,hcc⟩:∃ c,zay r = c:=⟨_,rfl⟩;rw [hcc] at hne HF ⊢;clear hcc;rintro e w1 ⟨rfl,hb1⟩;have HB1:=zjp (xbt hb1);clear hb1;go_wp2_with fail
 go_ret2;exact ⟨by rw [HF.out]; rfl,HB1.out⟩
theorem rnorm_any (S:Nat→Prop) (vt vn vs:Value) (r:RulesL) (s:ByteArray) (w:World) (h:RulesAt w S vt vn vs r) (hs:s.size≤9223372036854775000) :
  Calls prog 124 #[.agg #[vt,vn,vs],.string s] w fun e w'=>e = .returned (zds (zc9 r s.data.toList))∧Below w.heap.size w w':=by
 by_cases hc:zay r = 0
 ·cases hv:zdd s.data.toList with
  | true=>exact rnorm_yes S vt vn vs r s w h hc hv
  | false=>exact rnorm_no S vt vn vs r s w h hs hc hv
 ·exact rnorm_bad S vt vn vs r s w h hc
theorem rnormal_any (S:Nat→Prop) (vt vn vs:Value) (r:RulesL) (s:ByteArray) (w:World) (h:RulesAt w S vt vn vs r) (hs:s.size≤9223372036854775000) :
  Calls prog 157 #[.agg #[vt,vn,vs],.string s] w fun e w'=>e = .returned (.bool (zel (zc9 r s.data.toList) s.data.toList))∧Below w.heap.size w w':=by
 have HR:=zjp h.any; clear h;have HS:=zjp (Lib.toList_data s);go_enter func157,ntmps157
 go_wp2_with fail
 refine (rnorm_any zav vt vn vs r s _ (HR.out.below ((Below.refl _ _).alloc xnl _)) hs).mono ?_;obtain ⟨p,hp⟩:∃ p,zc9 r s.data.toList = p:=⟨_,rfl⟩;rw [hp];have HP:=zjp hp; clear hp;obtain ⟨pl,pe⟩:=p;unfold zds;rintro e w1 ⟨rfl,hb1⟩;have HB1:=zjp (xbt hb1);clear hb1;cases he:(pe == 0)
 all_goals
  go_wp2_with fail
  go_ret;refine ⟨zaw ?_,HB1.out⟩;rw [HP.out];simp [zel,he,HS.out]
end
section
open Go.RowKit
attribute [local go_sem] zag zaj zbb
theorem rword_any (l:List UInt8) (w:World) :
  Calls prog 112 #[zal l] w fun e w'=>e = .returned (.bool (wordB l))∧w = w':=by
 unfold wordB;by_cases h0:l = []
 ·subst h0
  go_enter func112,ntmps112
  go_wp2
  go_ret;exact ⟨rfl,rfl⟩
 ·have h1:l.isEmpty = false:=by simpa using h0
  have h2:(l == []) = false:=by simpa using h0
  have h2':(l != []) = true:=by simpa using h0
  rw [h1];by_cases h3:l.length≤12
  ·have h4:decide (l.length≤12) = true:=by simpa using h3
   have h5:decide ((l.length:Int)≤12) = true:=by simp; omega
   rw [h4];clear h0 h4;go_enter func112,ntmps112
   go_wp2_with fail
   refine (zhb ⟨l.toArray⟩ _ (by rw [zaj]; omega)).mono ?_;rw [show (⟨l.toArray⟩:ByteArray).data.toList = l by simp];rintro e w1 ⟨rfl,rfl⟩;go_wp2_with fail
   go_ret;exact ⟨rfl,rfl⟩
  ·have h4:decide (l.length≤12) = false:=by simpa using h3
   have h5:decide ((l.length:Int)≤12) = false:=by simp; omega
   rw [h4];clear h0 h4;go_enter func112,ntmps112
   go_wp2_with fail
   go_ret;exact ⟨rfl,rfl⟩
theorem any_take_true {F:List F2} {k j:Nat} {nm:List UInt8} (hj:j < k) (hk:k≤F.length) (h:((F.getD j default).1 == nm) = true) :
  (F.take k).any (fun y=>y.1 == nm) = true:=by
 rw [List.any_eq_true];refine ⟨F.getD j default,?_,h⟩;have h1:j < F.length:=by omega
 rw [List.mem_take_iff_getElem];exact ⟨j,by omega,by simp [List.getD,List.getElem?_eq_getElem h1]⟩
theorem any_take_false {F:List F2} {k:Nat} {nm:List UInt8} (h:∀ j,j < k→((F.getD j default).1 == nm) = false) :
  (F.take k).any (fun y=>y.1 == nm) = false:=by
 rw [List.any_eq_false];intro x hx;obtain ⟨j,hj,rfl⟩:=List.mem_take_iff_getElem.1 hx;have h1:j < F.length:=by omega
 have:=h j (by omega);simp [List.getD,List.getElem?_eq_getElem h1] at this;simpa using this
theorem zd7 (S:Nat→Prop) (vf vt vn vs:Value) (s:SchemaL) (w:World) (h:SchemaAt w S vf vt vn vs s) :
  Calls prog 74 #[.agg #[vf,vt,vn,vs]] w fun e w'=>e = .returned (.int .i64 (zax s))∧Below w.heap.size w w':=by
 obtain ⟨F,r⟩:=s;obtain ⟨h1,h2⟩:=h;dsimp only at h1 h2;obtain ⟨af,cf,rfl⟩:=h1.slice;have H1:=zjp h1.any; have H2:=zjp h2.any;clear h1 h2;have hfin:∀ n:Int,zax ⟨F,r⟩ = n→Ending.returned (.int .i64 n) = .returned (.int .i64 (zax ⟨F,r⟩)):=fun n h=>by rw [h]
 have HF:=zjp hfin; clear hfin;by_cases g1:F.length < 1
 ·have d1:decide ((F.length:Int) < 1) = true:=by simp; omega
  go_enter func74,ntmps74
  go_wp2_with fail
  go_ret;exact ⟨HF.out 6 (by unfold zax; rw [if_pos (.inl g1)]),(Below.refl _ _).alloc xnl _⟩
 ·have d1:decide ((F.length:Int) < 1) = false:=by simp; omega
  by_cases g2:5 < F.length
  ·have d2:decide ((5:Int) < F.length) = true:=by simp; omega
   go_enter func74,ntmps74
   go_wp2_with fail
   go_ret;exact ⟨HF.out 6 (by unfold zax; rw [if_pos (.inr g2)]),(Below.refl _ _).alloc xnl _⟩
  ·have d2:decide ((5:Int) < F.length) = false:=by simp; omega
   have HN:=zjp (show ¬ (F.length < 1∨5 < F.length) by omega);obtain ⟨b,off,rfl,_,hb,hc⟩:=zck H1.out (by omega);have HC:=zjp hc; clear hc;go_enter func74,ntmps74
   go_wp2_with fail
   clear d1 d2;go_loopw [3] (fun i wr=>∃ k:Nat,k≤F.length∧i = .int .i64 k∧wr.heap[w.heap.size]? = some (.cells #[.slice (some ⟨b,off,none⟩) F.length cf,vt,vn,vs] 33 (0,0))∧Below w.heap.size w wr∧∀ j,j < k→zb9 F j = true) (fun i _=>F.length - (intOf i).toNat)
   case atStart=>exact ⟨0,by omega,rfl,zac rfl,(Below.refl _ _).alloc xnl _,fun j hj=>by omega⟩
   case round =>
    obtain ⟨k,hk,rfl,hX,hbw,ha⟩:=hrel;have HA:=zjp ha; clear ha;obtain ⟨p0,p1,p2,p3⟩:=zbq hX;have zX:=zaa hX;have HX:=zjp hX; clear hX;have HW:=zjp hbw;by_cases hlt:k < F.length
    ·obtain ⟨wu,rfl⟩:∃ wu:World,wu = wr:=⟨_,rfl⟩
     have hq:decide ((k:Int) < F.length) = true:=by simp; omega
     have hi:(k:Int) < (F.length:Int):=by omega
     obtain ⟨x,hx⟩:∃ x,F.getD k default = x:=⟨_,rfl⟩;have hc:=HC.out k hlt;rw [hx] at hc;have c0:wu.cell? ⟨b,off + k * 2,none⟩ = some (zal x.1):=(hbw.cell (p:=⟨b,off + k * 2,none⟩) hb).trans (hc 0 _ rfl);have c1:wu.cell? ⟨b,off + k * 2 + 1,none⟩ = some (.int .i64 x.2):=(hbw.cell (p:=⟨b,off + k * 2 + 1,none⟩) hb).trans (hc 1 _ rfl);have hfa:zb9 F k = (wordB x.1 && !((F.take k).any fun y=>y.1 == x.1) && decide (1≤x.2) && decide (x.2≤4)):=by simp only [zb9]; rw [hx]
     have HFa:=zjp hfa;obtain ⟨nm,kd⟩:=x;dsimp only at c0 c1 HFa;clear hx hc hbw hfa;have hYF:∀ x:Bool,zb9 F k = false→Ending.returned (.int .i64 6) = Ending.returned (.int .i64 (zax ⟨F,r⟩)):=fun _ hf=>HF.out 6 (by unfold zax; rw [if_neg HN.out,if_neg (by rw [zfs,zb7 hlt hf]; simp)])
     have HYF:=zjp (hYF true); clear hYF;go_wp2_with fail
     refine (rword_any nm _).mono ?_;obtain ⟨wb,hwb⟩:∃ wb,wordB nm = wb:=⟨_,rfl⟩;rw [hwb] at HFa ⊢;clear hwb;rintro e w3 ⟨rfl,rfl⟩;cases wb
     ·have HFa:=zjp (show zb9 F k = false by rw [HFa.out]; rfl)
      go_wp2_with fail
      go_ret;exact ⟨HYF.out HFa.out,HW.out.alloc HW.out.size _⟩
     ·by_cases k1:1≤kd
      ·have k1':decide (kd < 1) = false:=by simp; omega
       by_cases k4:kd≤4
       ·have k4':decide (4 < kd) = false:=by simp; omega
        have HFa:=zjp (show zb9 F k = !((F.take k).any fun y=>y.1 == nm) by rw [HFa.out]; simp [k1,k4])
        go_wp2_with fail
        go_loopw [5] (fun i wr=>∃ j:Nat,j≤k∧i = .int .i64 j∧wr.heap[w.heap.size]? = some (.cells #[.slice (some ⟨b,off,none⟩) F.length cf,vt,vn,vs] 33 (0,0))∧wr.heap[wu.heap.size]? = some (.cells #[zal nm,.int .i64 kd] 85 (0,0))∧Below w.heap.size w wr∧∀ m,m < j→((F.getD m default).1 == nm) = false) (fun i _=>k - (intOf i).toNat)
        case atStart=>exact ⟨0,by omega,rfl,zaf HX.out,zac rfl,HW.out.alloc HW.out.size _,fun m hm=>by omega⟩
        case round =>
         obtain ⟨j,hj,rfl,hX,hY2,hbi,ha⟩:=hrel;have HAi:=zjp ha; clear ha;obtain ⟨p0,p1,p2,p3⟩:=zbq hX;have q0:wr.cell? ⟨wu.heap.size,0,none⟩ = some (zal nm):=by rw [cell_of_row _ _ _ _ _ _ hY2]; rfl
         have zXi:=zaa hX; have zYi:=zaa hY2;have HXi:=zjp hX; have HYi:=zjp hY2; have HWi:=zjp hbi;clear hX hY2;by_cases hjk:j < k
         ·have hqj:decide ((j:Int) < k) = true:=by simp; omega
          have hij:(j:Int) < (F.length:Int):=by omega
          obtain ⟨y,hy⟩:∃ y,F.getD j default = y:=⟨_,rfl⟩;have hcj:=HC.out j (by omega);rw [hy] at hcj;have e0:wr.cell? ⟨b,off + j * 2,none⟩ = some (zal y.1):=(hbi.cell (p:=⟨b,off + j * 2,none⟩) hb).trans (hcj 0 _ rfl);have HE:=zjp (show ((F.getD j default).1 == nm) = (y.1 == nm) by rw [hy]);obtain ⟨ny,ky⟩:=y;dsimp only at e0 HE;clear hcj hy hbi;cases hn:ny == nm
          ·rw [hn] at HE
           go_wp2_with fail
           go_quiet (fail)
           go_wp2_with fail
           go_roundw
           case rel=>exact ⟨j + 1,by omega,by go_num,zab (below_drewN (Below.refl _ _) _) zXi HXi.out,zab (below_drewN (Below.refl _ _) _) zYi HYi.out,below_drewN HWi.out _,fun m hm=>by
            by_cases e:m = j
            ·subst e; exact HE.out
            ·exact HAi.out m (by omega)⟩
           case measure=>simp [intOf]; omega
          ·rw [hn] at HE
           go_wp2_with fail
           go_quiet (fail)
           go_wp2_with fail
           go_ret;exact ⟨HYF.out (by rw [HFa.out,any_take_true hjk hk HE.out]; rfl),below_drewN HWi.out _⟩
         ·have hqj:decide ((j:Int) < k) = false:=by simp; omega
          have hjk':j = k:=by omega
          subst hjk';clear hbi;go_wp2_with fail
          go_roundw
          case rel=>exact ⟨j + 1,by omega,by go_num,HXi.out,HWi.out,fun m hm=>by
           by_cases e:m = j
           ·subst e; rw [HFa.out,any_take_false HAi.out]; rfl
           ·exact HA.out m (by omega)⟩
          case measure=>simp [intOf]; omega
       ·have k4':decide (4 < kd) = true:=by simp; omega
        have HFa:=zjp (show zb9 F k = false by rw [HFa.out]; simp [k4]);go_wp2_with fail
        go_ret;exact ⟨HYF.out HFa.out,HW.out.alloc HW.out.size _⟩
      ·have k1':decide (kd < 1) = true:=by simp; omega
       have HFa:=zjp (show zb9 F k = false by rw [HFa.out]; simp [k1]);go_wp2_with fail
       go_ret;exact ⟨HYF.out HFa.out,HW.out.alloc HW.out.size _⟩
    ·have hq:decide ((k:Int) < F.length) = false:=by simp; omega
     clear hbw;go_wp2_with fail
     refine (zd8 zav vt vn vs r _ (H2.out.below HW.out)).mono ?_;obtain ⟨c,hc⟩:∃ c,zay r = c:=⟨_,rfl⟩;rw [hc];have HCc:=zjp hc; clear hc;rintro e w3 ⟨rfl,hb3⟩;have HW3:=zjp (HW.out.trans (hb3.mono HW.out.size));clear hb3;go_wp2_with fail
     go_ret;exact ⟨HF.out c (by unfold zax; rw [if_neg HN.out,if_pos (by rw [zfs]; exact zjn fun j hj=>HA.out j (by have hj':j < F.length:=hj; omega))]; exact HCc.out),HW3.out⟩
end
section
open Go.RowKit
attribute [local go_sem] zag zaj zbb
@[local go_sem] theorem get_zero4 (c:UInt8) (l:List UInt8) (h:0 < (⟨(c :: l).toArray⟩:ByteArray).size):(⟨(c :: l).toArray⟩:ByteArray)[0]'h = c:=rfl
@[local go_sem] theorem get_one4 (c d:UInt8) (l:List UInt8) (h:1 < (⟨(c :: d :: l).toArray⟩:ByteArray).size):(⟨(c :: d :: l).toArray⟩:ByteArray)[1]'h = d:=rfl
theorem rnumeral_any (l:List UInt8) (w:World) :
  Calls prog 200 #[zal l] w fun e w'=>e = .returned (.bool (zc8 l))∧w = w':=by
 cases l with
 | nil =>
  go_enter func200,ntmps200
  go_wp2
  go_ret;exact ⟨rfl,rfl⟩
 | cons c l =>
  have HD:=zjp (zew c)
  by_cases h1:48≤(c.toNat:Int) <;> by_cases h2:(c.toNat:Int)≤57
  all_goals
   go_enter func200,ntmps200
   go_wp2
   go_ret;exact ⟨zaw (by rw [show zc8 (c :: l) = isDgt c from rfl,HD.out]; simp; try omega),rfl⟩
theorem short_stop {c:UInt8} {l:List UInt8} (h:zc8 (c :: l) = true) (hs:c≠48∨zc8 l = false):zbk (c :: l) = c :: l:=by
 by_cases hc:c = 48
 ·subst hc
  have hn:zc8 l = false:=hs.resolve_left (fun h=>h rfl)
  have hd:l.dropWhile (· == 48) = l:=by
   cases l with
   | nil=>rfl
   | cons d r =>
    rw [List.dropWhile_cons,if_neg];intro e;have:d = 48:=by simpa using e
    subst this;have h48:zc8 (48 :: r) = true:=rfl;rw [h48] at hn; cases hn
  unfold zbk;rw [show (48 :: l).dropWhile (· == 48) = l.dropWhile (· == 48) from rfl,hd,if_neg (by rw [hn]; simp)]
 ·unfold zbk
  have hd:(c :: l).dropWhile (· == 48) = c :: l:=by rw [List.dropWhile_cons,if_neg (by simpa using hc)]
  rw [hd,if_pos h]
theorem short_next {l:List UInt8}:zbk (48 :: l) = zbk l:=by
 unfold zbk; rfl
theorem rtrimmed_any (x:List UInt8) (w:World) (hx:zc8 x = true) (hl:x.length≤1000000) :
  Calls prog 171 #[zal x] w fun e w'=>e = .returned (zal (zbk x))∧w = w':=by
 have HX:=zjp hx; clear hx;go_enter func171,ntmps171
 go_wp2_with fail
 go_loop [0] (fun s=>∃ l:List UInt8,s = zal l∧l.length≤1000000∧Hid (zc8 l = true)∧Hid (zbk x = zbk l)) (fun s=>match s with | .string b=>b.size | _=>0)
 case atStart=>exact ⟨x,rfl,hl,HX,zjp rfl⟩
 case round =>
  obtain ⟨l,rfl,hlen,HN,HS⟩:=hrel;cases l with
  | nil=>exact absurd HN.out (by decide)
  | cons c l =>
   cases l with
   | nil =>
    have hfin:zbk x = [c]:=by rw [HS.out]; exact short_stop HN.out (.inr rfl)
    have HF:=zjp hfin; clear hfin;go_wp2_with fail
    go_ret;exact ⟨by show Ending.returned (zal [c]) = _; rw [HF.out],rfl⟩
   | cons d r =>
    have hb:=c.toNat_lt;have hb2:=d.toNat_lt;have hl2:1 < (c :: d :: r).length:=by simp
    by_cases hc:c = 48
    ·have e1:((c.toNat:Int) == 48) = true:=by rw [hc]; rfl
     cases hd:isDgt d
     ·have hfin:zbk x = c :: d :: r:=by rw [HS.out]; exact short_stop HN.out (.inr hd)
      have HF:=zjp hfin; clear hfin;rw [zew,decide_eq_false_iff_not] at hd;have hcd:(48≤(d.toNat:Int)∧57 < (d.toNat:Int))∨(d.toNat:Int) < 48:=by omega
      clear hd hc
      rcases hcd with ⟨g1,g2⟩ | g1
      all_goals
       go_wp2_with fail
       go_ret;exact ⟨by show Ending.returned (zal (c :: d :: r)) = _; rw [HF.out],rfl⟩
     ·have HN2:=zjp (show zc8 (d :: r) = true from hd)
      have HS2:=zjp (show zbk x = zbk (d :: r) by rw [HS.out,hc]; exact short_next);rw [zew,decide_eq_true_iff] at hd;obtain ⟨g1,g2⟩:=hd
      have hext:(⟨(c :: d :: r).toArray⟩:ByteArray).extract 1 (r.length + 1 + 1) = ⟨(d :: r).toArray⟩:=by
       have:=ext_mk (c :: d :: r) 1 (r.length + 1 + 1) (by simp);unfold mkS at this;rw [this,List.take_of_length_le (by simp)]; rfl
      clear hc;go_wp2_with fail
      go_round
      case rel=>exact ⟨d :: r,rfl,by simp at hlen ⊢; omega,HN2,HS2⟩
      case measure=>simp [zaj]
    ·have e1:((c.toNat:Int) == 48) = false:=by
      simp only [beq_eq_false_iff_ne,ne_eq]; intro e; apply hc; rw [← UInt8.toNat_inj]; simp; omega
     have hfin:zbk x = c :: d :: r:=by rw [HS.out]; exact short_stop HN.out (.inl hc)
     have HF:=zjp hfin; clear hfin hc;go_wp2_with fail
     go_ret;exact ⟨by show Ending.returned (zal (c :: d :: r)) = _; rw [HF.out],rfl⟩
def PartsPost (L:List (List UInt8)) (w:World) (e:Ending) (w':World):Prop:=∃ u v,e = .returned (.tuple #[u,v])∧TwoAt w v u (L.filter zc8) (L.filter fun x=>!zc8 x) w'
theorem rparts_any (S:Nat→Prop) (v:Value) (L:List (List UInt8)) (w:World) (h:Vec w S 1 zba v L) (hn:L.length≤1000000) :
  Calls prog 169 #[v] w (PartsPost L w):=by
 obtain ⟨a,cap,rfl⟩:=h.slice;have HV:=zjp h; clear h;go_enter func169,ntmps169
 go_wp2_with fail
 go_loopw [4,5,6] (fun n y i wr=>∃ k:Nat,k≤L.length∧i = .int .i64 k∧TwoAt w y n ((L.take k).filter zc8) ((L.take k).filter fun x=>!zc8 x) wr) (fun _ _ i _=>L.length - (intOf i).toNat)
 case atStart=>exact ⟨0,by omega,rfl,TwoAt.start w⟩
 case round =>
  obtain ⟨k,hk,rfl,ho⟩:=hrel;have HO:=zjp ho; clear ho;by_cases hlt:k < L.length
  ·have hq:decide ((k:Int) < L.length) = true:=by simp; omega
   have hi:(k:Int) < (L.length:Int):=by omega
   obtain ⟨b,off,rfl,_,hb,hcx⟩:=zcc HV.out (by omega);have htk:=zhp L k hlt;have hcx':=hcx k hlt;obtain ⟨x,hx⟩:∃ x,L.getD k [] = x:=⟨_,rfl⟩;rw [hx] at htk hcx';have c1:wr.cell? ⟨b,off + k,none⟩ = some (zal x):=(HO.out.2.2.2.cell (p:=⟨b,off + k,none⟩) hb).trans hcx';have HT:=zjp htk;have l1:((L.take k).filter zc8).length < 1099511627776:=by have:=List.length_filter_le zc8 (L.take k); have:=List.length_take_le k L; omega
   have l2:((L.take k).filter fun x=>!zc8 x).length < 1099511627776:=by have:=List.length_filter_le (fun x=>!zc8 x) (L.take k); have:=List.length_take_le k L; omega
   have hbz:w.heap.size≤wr.heap.size:=HO.out.2.2.2.size;clear hx htk hcx hcx';go_wp2_with fail
   refine (rnumeral_any x _).mono ?_;rintro e w' ⟨rfl,rfl⟩;cases hd:zc8 x
   ·have F1:=zjp (zez (p:=zc8) (L.take k) x hd)
    have F2:=zjp (zem (p:=fun x=>!zc8 x) (L.take k) x (by simp [hd]))
    clear hd;go_wp2_with (at_builtin; refine zcz rfl _ _ 28 rfl w.heap.size 9 1 16 (.string ⟨#[]⟩) underlying28 zdv rfl (by decide) (by decide) _ _ _ rfl HO.out.2.1 #[zal x] 1 rfl rfl (by simp [Value.oneCell']) l2 hbz ?_; intro v2 w8 ho8 hg8 hat8 hw8)
    go_roundw
    case rel=>exact ⟨k + 1,by omega,by go_num,by rw [HT.out,F1.out,F2.out]; exact (HO.out.swap.put ho8 hg8 hat8 hw8).swap⟩
    case measure=>simp [intOf]; omega
   ·have F1:=zjp (zem (p:=zc8) (L.take k) x hd)
    have F2:=zjp (zez (p:=fun x=>!zc8 x) (L.take k) x (by simp [hd]))
    clear hd;go_wp2_with (at_builtin; refine zcz rfl _ _ 28 rfl w.heap.size 9 1 16 (.string ⟨#[]⟩) underlying28 zdv rfl (by decide) (by decide) _ _ _ rfl HO.out.1 #[zal x] 1 rfl rfl (by simp [Value.oneCell']) l1 hbz ?_; intro v2 w8 ho8 hg8 hat8 hw8)
    go_roundw
    case rel=>exact ⟨k + 1,by omega,by go_num,by rw [HT.out,F1.out,F2.out]; exact HO.out.put ho8 hg8 hat8 hw8⟩
    case measure=>simp [intOf]; omega
  ·have hq:decide ((k:Int) < L.length) = false:=by simp; omega
   rw [List.take_of_length_le (by omega)] at HO;go_wp2_with fail
   go_ret2;exact ⟨_,_,rfl,HO.out⟩
end
section
open Go.RowKit
attribute [local go_sem] zag zaj zbb
def noSp (l:List UInt8):List UInt8:=l.filter (· != 32)
theorem flat_noSp (l:List UInt8):∀ p,(zbu p l).flatten = p ++ noSp l:=by
 induction l with
 | nil =>
  intro p;by_cases hp:p = []
  ·subst hp; simp [zbu,noSp]
  ·rw [ze3 _ hp]; simp [noSp]
 | cons c l ih =>
  intro p;by_cases hc:c = 32
  ·subst hc
   have e:noSp (32 :: l) = noSp l:=by simp [noSp]
   by_cases hp:p = []
   ·subst hp; rw [zbn,ih,e]
   ·rw [zb0 _ _ hp,List.flatten_cons,ih,e]; simp
  ·have e:noSp (c :: l) = c :: noSp l:=by simp [noSp,hc]
   rw [zb4 _ _ _ hc,ih,e]; simp
theorem noSp_snoc (l:List UInt8) (c:UInt8):noSp (l ++ [c]) = if c = 32 then noSp l else noSp l ++ [c]:=by
 unfold noSp
 by_cases h:c = 32 <;> simp [List.filter_append,h]
theorem rcode_yes (s:ByteArray) (w:World) (hv:zdd s.data.toList = true) :
  Calls prog 125 #[.string s] w fun e w'=>e = .returned (zds (zd1 s.data.toList))∧Below w.heap.size w w':=by
 have hfl:=zgy s.data.toList;have h64:=zgl hv
 have hcode:zd1 s.data.toList = if 12 < (noSp (zbv s.data.toList)).length then ([],1) else (noSp (zbv s.data.toList),0):=by
  unfold zd1 zcq;rw [if_pos hv,flat_noSp]; rfl
 have HV:=zjp hv;obtain ⟨fl,hfl'⟩:∃ fl,zbv s.data.toList = fl:=⟨_,rfl⟩;have hc:=rfold_yes s w hv;rw [hfl'] at hfl hcode hc;have HC:=zjp hc; have HCode:=zjp hcode;have hl:fl.length≤64:=by omega
 clear hv hfl' hcode hc hfl h64;go_enter func125,ntmps125
 go_wp2_with fail
 refine HC.out.mono ?_;rintro e w1 ⟨rfl,hb1⟩;have HB1:=zjp hb1; clear hb1 HC;obtain ⟨sf,hsf⟩:∃ sf:ByteArray,(⟨fl.toArray⟩:ByteArray) = sf:=⟨_,rfl⟩;have hsl:sf.data.toList = fl:=by rw [← hsf]
 have hss:sf.size = fl.length:=by rw [← hsf]; exact zaj fl
 rw [show zal fl = .string sf by rw [← hsf]];have HSL:=zjp hsl; have HSS:=zjp hss;have hsb:sf.size≤64:=by omega
 clear hsf hsl hss hl;go_wp2_with fail
 go_loop [6,7] (fun o i=>∃ k:Nat,k≤sf.size∧i = .int .i64 k∧o = zal (noSp (fl.take k))) (fun _ i=>sf.size - (intOf i).toNat)
 case atStart=>exact ⟨0,by omega,rfl,rfl⟩
 case round =>
  obtain ⟨k,hk,rfl,rfl⟩:=hrel
  have hol:(noSp (fl.take k)).length≤64:=by
   have:=List.length_filter_le (fun c:UInt8=>c != 32) (fl.take k)
   have:=List.length_take_le k fl;unfold noSp; omega
  by_cases hlt:k < sf.size
  ·have hq:decide ((k:Int) < sf.size) = true:=by simp; omega
   have hb:=sf[k].toNat_lt;have hts:=zes sf k hlt;rw [HSL.out] at hts;have hns:=noSp_snoc (fl.take k) sf[k];rw [← hts] at hns;have HNs:=zjp hns;clear hts hns;by_cases hsp:sf[k] = 32
   ·have e1:((sf[k].toNat:Int) != 32) = false:=by rw [hsp]; rfl
    have HSp:=zjp hsp; clear hsp;go_wp2_with fail
    go_round
    case rel=>exact ⟨k + 1,by omega,by go_num,by rw [HNs.out,if_pos HSp.out]⟩
    case measure=>simp [intOf]; omega
   ·have e1:((sf[k].toNat:Int) != 32) = true:=by
     simp only [bne_iff_ne,ne_eq]; intro e; apply hsp; rw [← UInt8.toNat_inj]; simp; omega
    have hext:=ext_one sf k hlt;have HSp:=zjp hsp; clear hsp;go_wp2_with fail
    go_round
    case rel=>exact ⟨k + 1,by omega,by go_num,by rw [HNs.out,if_neg HSp.out]⟩
    case measure=>simp [intOf]; omega
  ·have hq:decide ((k:Int) < sf.size) = false:=by simp; omega
   have htk:fl.take k = fl:=List.take_of_length_le (by rw [← HSS.out]; omega);rw [htk] at hol ⊢;obtain ⟨O,hO⟩:∃ O,noSp fl = O:=⟨_,rfl⟩;rw [hO] at hol HCode ⊢;clear htk hO;by_cases g:12 < O.length
   ·have d1:decide ((12:Int) < O.length) = true:=by simp; omega
    have HF:=zjp (show zd1 s.data.toList = ([],1) by rw [HCode.out,if_pos g]);clear g;go_wp2_with fail
    go_ret2;exact ⟨by rw [HF.out]; rfl,HB1.out⟩
   ·have d1:decide ((12:Int) < O.length) = false:=by simp; omega
    have HF:=zjp (show zd1 s.data.toList = (O,0) by rw [HCode.out,if_neg g]);clear g;go_wp2_with fail
    go_ret2;exact ⟨by rw [HF.out]; rfl,HB1.out⟩
theorem rcode_no (s:ByteArray) (w:World) (hs:s.size≤9223372036854775000) (hv:zdd s.data.toList = false) :
  Calls prog 125 #[.string s] w fun e w'=>e = .returned (zds (zd1 s.data.toList))∧Below w.heap.size w w':=by
 have HF:=zjp (show zd1 s.data.toList = ([],3) by unfold zd1; rw [if_neg (by rw [hv]; simp)]);have HV:=zjp hv; clear hv;go_enter func125,ntmps125
 go_wp2_with fail
 refine (rfold_no s _ hs HV.out).mono ?_;rintro e w1 ⟨rfl,hb1⟩;have HB1:=zjp hb1; clear hb1;go_wp2_with fail
 go_ret2;exact ⟨by rw [HF.out]; rfl,HB1.out⟩
theorem rcode_any (s:ByteArray) (w:World) (hs:s.size≤9223372036854775000) :
  Calls prog 125 #[.string s] w fun e w'=>e = .returned (zds (zd1 s.data.toList))∧Below w.heap.size w w':=by
 cases hv:zdd s.data.toList with
 | true=>exact rcode_yes s w hv
 | false=>exact rcode_no s w hs hv
theorem rnormed_any (s:ByteArray) (w:World) (hs:s.size≤9223372036854775000) :
  Calls prog 158 #[.string s] w fun e w'=>e = .returned (.bool (zel (zd1 s.data.toList) s.data.toList))∧Below w.heap.size w w':=by
 have HS:=zjp (Lib.toList_data s);go_enter func158,ntmps158
 go_wp2_with fail
 refine (rcode_any s _ hs).mono ?_;obtain ⟨p,hp⟩:∃ p,zd1 s.data.toList = p:=⟨_,rfl⟩;rw [hp];have HP:=zjp hp; clear hp;obtain ⟨pl,pe⟩:=p;unfold zds;rintro e w1 ⟨rfl,hb1⟩;have HB1:=zjp hb1; clear hb1;cases he:(pe == 0)
 all_goals
  go_wp2_with fail
  go_ret;refine ⟨zaw ?_,HB1.out⟩;rw [HP.out];simp [zel,he,HS.out]
end
section
open Go.RowKit
attribute [local go_sem] zag zaj zbb
theorem flat_setS (L:List (List UInt8)) (y:List UInt8):∀ k,(L.set k y).flatMap zba = (L.flatMap zba).set k (zal y):=by
 induction L with
 | nil=>intro k; rfl
 | cons a L ih =>
  intro k;cases k with
  | zero=>rfl
  | succ k =>
   rw [List.set_cons_succ,List.flatMap_cons,List.flatMap_cons,ih];rfl
theorem TwoAt.store {w wr:World} {v:Value} {Y N:List (List UInt8)} {g c:Nat} (h:TwoAt w v (.slice (some ⟨g,0,none⟩) N.length c) Y N wr) (k:Nat) (y:List UInt8):TwoAt w v (.slice (some ⟨g,0,none⟩) N.length c) Y (N.set k y) (wr.setCell ⟨g,k,none⟩ (zal y)):=by
 obtain ⟨h1,h2,h3,h4⟩:=h;obtain ⟨s1,s2⟩:=h2.stored k (zal y)
 refine ⟨own_kept h1 s2 (fun q hq e=>?_),by rw [List.length_set,flat_setS]; exact s1,h3,h4.setCell (h2.lt g rfl).1 _⟩
 have:=h3 q hq;exact this (by rw [← e]; rfl)
theorem own_ptr {w:World} {B e size n c:Nat} {a:Option Addr} {xs:List Value} (h:w.ownsRow B e size (.slice a n c) n xs) (hn:0 < n):∃ g,a = some ⟨g,0,none⟩∧B≤g∧g < w.heap.size:=by
 rcases h.2 with ⟨_,h0⟩ | ⟨g,cap,cur,hv,hg,hh,_⟩
 ·omega
 ·cases hv; exact ⟨g,rfl,hg,zaa hh⟩
theorem flat_cell (L:List (List UInt8)) (k:Nat) (h:k < L.length):(L.flatMap zba)[k]? = some (zal (L.getD k [])):=flat_get1 L k h
theorem parts_len (T:List (List UInt8)):(T.filter fun x=>!zc8 x).length + (T.filter zc8).length = T.length:=by
 induction T with
 | nil=>rfl
 | cons x T ih=>cases hx:zc8 x <;> simp [List.filter_cons,hx] <;> omega
theorem addr_num {r:RulesL} (h:zcd r.streets = true) (x:List UInt8):zc8 (za1 r x) = zc8 x:=by
 by_cases hn:zc8 x = true
 ·have e:za1 r x = zbk x:=by unfold za1; rw [if_pos hn]
  rw [e,hn]; exact short_num x
 ·have e:za1 r x = zbd r.streets x:=by unfold za1; rw [if_neg hn]
  rw [e]
  rcases zik h x with hs | ⟨k,hk,e1,e2,e3⟩
  ·rw [hs]
  ·rw [low_not_num (token_low e2).2]; simpa using hn
theorem order_parts {r:RulesL} (h:zcd r.streets = true) (T:List (List UInt8)):zb5 (T.map (za1 r)) = (T.filter fun x=>!zc8 x).map (zbd r.streets) ++ (T.filter zc8).map zbk:=by
 unfold zb5;congr 1
 ·induction T with
  | nil=>rfl
  | cons x T ih =>
   cases hx:zc8 x
   ·simp only [List.map_cons,List.filter_cons,addr_num h,hx,Bool.not_false,if_true,ih]
    congr 1;unfold za1; rw [hx]; simp
   ·simp only [List.map_cons,List.filter_cons,addr_num h,hx,Bool.not_true,Bool.false_eq_true,if_false,ih]
 ·induction T with
  | nil=>rfl
  | cons x T ih =>
   cases hx:zc8 x
   ·simp only [List.map_cons,List.filter_cons,addr_num h,hx,Bool.false_eq_true,if_false,ih]
   ·simp only [List.map_cons,List.filter_cons,addr_num h,hx,if_true,ih]
    congr 1;unfold za1; rw [hx]; simp
theorem raddr_yes (S:Nat→Prop) (vt vn vs:Value) (r:RulesL) (s:ByteArray) (w:World) (h:RulesAt w S vt vn vs r) (hc:zay r = 0) (hv:zdd s.data.toList = true) :
  Calls prog 126 #[.agg #[vt,vn,vs],.string s] w fun e w'=>e = .returned (zds (zda r s.data.toList))∧Below w.heap.size w w':=by
 obtain ⟨⟨k1,k2,k3⟩,g1,g2,g3,g4⟩:=zex hc;have hfl:=zgy s.data.toList;have h64:=zgl hv;obtain ⟨avs,cvs,rfl⟩:=h.2.2.slice;have G3:=zjp g3;have HR:=zjp h.any;have HC:=zjp hc; have HV:=zjp hv
 have hfin:zda r s.data.toList = (if 6 < (zcq (zbv s.data.toList)).length∨64 < (za0 (zb5 ((zcq (zbv s.data.toList)).map (za1 r)))).length then ([],1) else (za0 (zb5 ((zcq (zbv s.data.toList)).map (za1 r))),0)):=by
  unfold zda; rw [if_pos HC.out,if_pos HV.out]
 have HF:=zjp hfin;clear h hc hv g1 g2 g3 g4 hfin;go_enter func126,ntmps126
 go_wp2_with fail
 refine (zd8 zav vt vn _ r _ (HR.out.below ((Below.refl _ _).alloc xnl _))).mono ?_;rw [HC.out];rintro e w1 ⟨rfl,hb1⟩;have HX1:=zjp (show w1.heap[w.heap.size]? = some (.cells #[vt,vn,.slice avs r.streets.length cvs] 31 (0,0)) from zab hb1 (by simp) (zac rfl));have HB1:=zjp (xbt hb1);clear hb1;go_wp2_with fail
 refine (rfold_yes s _ HV.out).mono ?_;rintro e w2 ⟨rfl,hb2⟩;have HX2:=zjp (zab hb2 (zaa HX1.out) HX1.out);have HB2:=zjp (HB1.out.trans (hb2.mono HB1.out.size));clear hb2 HX1 HB1;obtain ⟨fl,hfl'⟩:∃ fl,zbv s.data.toList = fl:=⟨_,rfl⟩;rw [hfl'] at hfl HF ⊢;clear hfl';go_wp2_with fail
 refine (zia ⟨fl.toArray⟩ _ (by rw [zaj]; omega)).mono ?_;rw [show (⟨fl.toArray⟩:ByteArray).data.toList = fl by simp];rintro e w3 ⟨v3,rfl,ho⟩;obtain ⟨hT1,hT2⟩:=toks_len fl (by omega);obtain ⟨T,hT⟩:∃ T,zcq fl = T:=⟨_,rfl⟩;rw [hT] at ho hT1 hT2 HF;have HX3:=zjp (zab ho.2 (zaa HX2.out) HX2.out);have HB3:=zjp (HB2.out.trans (ho.2.mono HB2.out.size));have HV3:=zjp (Vec.owns (S:=zav) (k:=1) (enc:=zba) (fun _=>rfl) ho.1 (fun _ _ _=>trivial))
 have HT2:=zjp hT2;clear ho hT hT2 HX2 HB2;go_wp2_with fail
 refine (rparts_any zav _ T _ HV3.out (by omega)).mono ?_;rintro e w4 ⟨u,v,rfl,ht⟩;have hO:=List.length_filter_le (fun x=>!zc8 x) T
 have hN:=List.length_filter_le zc8 T;have hnum:∀ x∈T.filter zc8,zc8 x = true:=fun x hx=>(List.mem_filter.1 hx).2
 have hnl:∀ x∈T.filter zc8,x.length≤64:=fun x hx=>HT2.out x (List.mem_filter.1 hx).1
 have hol:∀ x∈T.filter (fun x=>!zc8 x),x.length≤64:=fun x hx=>HT2.out x (List.mem_filter.1 hx).1
 have hord:=order_parts G3.out T;have hsum:=parts_len T;rw [hord] at HF;obtain ⟨O,hOe⟩:∃ O,(T.filter fun x=>!zc8 x) = O:=⟨_,rfl⟩
 obtain ⟨N,hNe⟩:∃ N,T.filter zc8 = N:=⟨_,rfl⟩;rw [hOe] at ht hO hol HF hsum;rw [hNe] at ht hN hnum hnl HF hsum;have HSum:=zjp hsum; clear hsum;obtain ⟨au,cu,rfl⟩:=zau ht.2.1;obtain ⟨av,cv,rfl⟩:=zau ht.1;have HT:=zjp ht; have HNum:=zjp hnum; have HNl:=zjp hnl; have HOl:=zjp hol;have z3:=zaa HX3.out;clear ht hnum hnl hol hord hOe hNe HV3;go_wp2_with fail
 go_loopw [11] (fun i wr=>∃ k:Nat,k≤O.length∧i = .int .i64 k∧TwoAt w3 (.slice av N.length cv) (.slice au O.length cu) N (midL (zbd r.streets) O k) wr) (fun i _=>O.length - (intOf i).toNat)
 case atStart=>exact ⟨0,by omega,rfl,by simpa [midL] using HT.out⟩
 case round =>
  obtain ⟨k,hk,rfl,ht⟩:=hrel;have HW:=zjp ht.2.2.2;have HTk:=zjp ht;have HXk:=zjp (zab ht.2.2.2 z3 HX3.out);have zk:=zaa HXk.out;obtain ⟨p0,p1,p2⟩:=zao HXk.out;clear ht;by_cases hlt:k < O.length
  ·have hq:decide ((k:Int) < O.length) = true:=by simp; omega
   have hi:(k:Int) < (O.length:Int):=by omega
   have hml:(midL (zbd r.streets) O k).length = O.length:=mid_len _ _ _ hk;have hown:=HTk.out.2.1;rw [hml] at hown;obtain ⟨g,rfl,hg1,hg2⟩:=own_ptr hown (by omega);have c1:=hown.cellAt k (by omega);rw [flat_cell _ k (by omega),mid_get _ _ _ hlt] at c1;have f1:=hown.frozenAt k;have hset:=mid_set (zbd r.streets) O k hlt _ rfl;obtain ⟨x,hx⟩:∃ x,O.getD k [] = x:=⟨_,rfl⟩;rw [hx] at c1 hset;have HSet:=zjp hset;have hK:=zjp (fun (W:World) (hW:Below wr.heap.size wr W)=>rreplace_any zav (.slice avs r.streets.length cvs) r.streets x W (HR.out.2.2.below (HB3.out.trans ((HW.out.trans (hW.mono HW.out.size)).mono HB3.out.size))) (by omega))
   have hst:=HTk.out;rw [← hml] at hst;have HSt:=zjp hst;have hne:w.heap.size≠g:=by have:=HB3.out.size; omega
   clear hown hset hx hst;go_wp2_with fail
   go_region_with ((refine (hK.out _ (Below.refl _ _).drew).mono ?_; rintro e w' ⟨rfl,rfl⟩))
   all_goals
    have HN2:=zjp ((HSt.out.store k (zbd r.streets x)).below (Below.refl _ _).drew);rw [HSet.out,hml] at HN2;go_wp2_with fail
    go_roundw
    case rel=>exact ⟨k + 1,by omega,by go_num,HN2.out⟩
    case measure=>simp [intOf]; omega
  ·have hq:decide ((k:Int) < O.length) = false:=by simp; omega
   have hmid:midL (zbd r.streets) O k = O.map (zbd r.streets):=by unfold midL; rw [List.take_of_length_le (by omega),List.drop_eq_nil_of_le (by omega),List.append_nil]
   rw [hmid] at HTk;have hml:(O.map (zbd r.streets)).length = O.length:=List.length_map _
   have hsmall:∀ x∈O.map (zbd r.streets),x.length≤64:=by
    intro x hx;obtain ⟨y,hy,rfl⟩:=List.mem_map.1 hx;exact canon_len G3.out y (HOl.out y hy)
   obtain ⟨O2,hO2⟩:∃ O2,O.map (zbd r.streets) = O2:=⟨_,rfl⟩;rw [hO2] at HTk hml hsmall HF;have HSm:=zjp hsmall;obtain ⟨wo,rfl⟩:∃ wo:World,wo = wr:=⟨_,rfl⟩;clear hmid hO2 hsmall;go_wp2_with fail
   go_loopw [12] (fun i wr=>∃ k:Nat,k≤N.length∧i = .int .i64 k∧TwoAt w3 (.slice av N.length cv) (.slice au O.length cu) (midL zbk N k) O2 wr) (fun i _=>N.length - (intOf i).toNat)
   case atStart=>exact ⟨0,by omega,rfl,by simpa [midL] using HTk.out⟩
   case round =>
    obtain ⟨k,hk2,rfl,ht⟩:=hrel;have HW2:=zjp ht.2.2.2;have HTj:=zjp ht;clear ht;by_cases hlt2:k < N.length
    ·have hq2:decide ((k:Int) < N.length) = true:=by simp; omega
     have hi:(k:Int) < (N.length:Int):=by omega
     have hml2:(midL zbk N k).length = N.length:=mid_len _ _ _ hk2;have hown:=HTj.out.1;rw [hml2] at hown;obtain ⟨g,rfl,hg1,hg2⟩:=own_ptr hown (by omega);have c1:=hown.cellAt k (by omega);rw [flat_cell _ k (by omega),mid_get _ _ _ hlt2] at c1;have f1:=hown.frozenAt k;have hset:=mid_set zbk N k hlt2 _ rfl;have hmem:N.getD k []∈N:=by rw [List.getD,List.getElem?_eq_getElem hlt2]; exact List.getElem_mem hlt2
     obtain ⟨x,hx⟩:∃ x,N.getD k [] = x:=⟨_,rfl⟩;rw [hx] at c1 hset hmem;have HSet:=zjp hset;have hst:=HTj.out.swap;rw [← hml2] at hst;have HSt:=zjp hst;have HK:=zjp (fun W=>rtrimmed_any x W (HNum.out x hmem) (by have:=HNl.out x hmem; omega))
     clear hown hset hx hst hmem;go_wp2_with fail
     refine (HK.out _).mono ?_;rintro e w' ⟨rfl,rfl⟩;have HN2:=zjp ((HSt.out.store k (zbk x)).swap);rw [HSet.out,hml2] at HN2;go_wp2_with fail
     go_roundw
     case rel=>exact ⟨k + 1,by omega,by go_num,HN2.out⟩
     case measure=>simp [intOf]; omega
    ·have hq2:decide ((k:Int) < N.length) = false:=by simp; omega
     have hmid:midL zbk N k = N.map zbk:=by unfold midL; rw [List.take_of_length_le (by omega),List.drop_eq_nil_of_le (by omega),List.append_nil]
     rw [hmid] at HTj;have hml2:(N.map zbk).length = N.length:=List.length_map _
     have hsmall2:∀ x∈N.map zbk,x.length≤65:=by
      intro x hx;obtain ⟨y,hy,rfl⟩:=List.mem_map.1 hx;have:=short_len y; have:=HNl.out y hy; omega
     obtain ⟨N2,hN2⟩:∃ N2,N.map zbk = N2:=⟨_,rfl⟩;rw [hN2] at HTj hml2 hsmall2 HF;have HSm2:=zjp hsmall2;have ho1:=HTj.out.2.1;have ho2:=HTj.out.1;rw [hml] at ho1;rw [hml2] at ho2;have HO1:=zjp ho1; have HO2:=zjp ho2
     have hjl:=join_le (m:=65) (O2 ++ N2) (fun x hx=>by
      rcases List.mem_append.1 hx with hx | hx
      ·have:=HSm.out x hx; omega
      ·have:=HSm2.out x hx; omega)
     clear hmid hN2 hsmall2 ho1 ho2;obtain ⟨i0,hi,hz0,hz1,hz2⟩:=info_parts zdv;have hlenJ:(O2 ++ N2).length = O.length + N.length:=by rw [List.length_append,hml,hml2]
     have hTJ:T.length = (O2 ++ N2).length:=by rw [hlenJ]; exact HSum.out.symm
     rw [hTJ] at HF;have HLJ:=zjp hlenJ;have hJ65:(O2 ++ N2).length≤65:=by omega
     have hJl:(za0 (O2 ++ N2)).length≤1000000:=by
      have:(O2 ++ N2).length * 66≤65 * 66:=Nat.mul_le_mul_right 66 hJ65;omega
     have HHi:=zjp hi; have HZ0:=zjp hz0; have HZ1:=zjp hz1; have HZ2:=zjp hz2;have hbz:=HW2.out.size;have hol2:O.length≤65:=by omega
     have hnl2:N.length≤65:=by omega
     clear hTJ hlenJ hjl hi hz0 hz1 hz2 hml hml2;go_upto_region 16 with (fail)
     go_cut [13] (fun s13 wx=>∃ a c,s13 = .slice a (O2 ++ N2).length c∧Vec wx zav 1 zba s13 (O2 ++ N2)∧Below w3.heap.size w3 wx)
     case first =>
      rcases HO2.out.2 with ⟨hv,h0⟩ | ⟨g,cap,cur,hv,hg,hh,_⟩
      ·obtain rfl:N = []:=List.length_eq_zero_iff.1 h0
       simp only [Value.slice.injEq,List.length_nil,true_and] at hv;obtain ⟨rfl,rfl⟩:=hv
       have hfin:wr.ownsRow w3.heap.size 9 1 (.slice au O.length cu) (O2 ++ N2).length ((O2 ++ N2).flatMap zba):=by
        have h1:=HO1.out
        have h2:N2 = []:=by
         have:=HLJ.out;have h3:=HO1.out.1;rw [zd3 (k:=1) (enc:=zba) (fun _=>rfl)] at h3
         refine List.length_eq_zero_iff.1 ?_;simp only [List.length_append,List.length_nil] at this;omega
        rw [h2,List.append_nil];have h3:=HO1.out.1;rw [zd3 (k:=1) (enc:=zba) (fun _=>rfl)] at h3
        rw [show O2.length = O.length by omega]; exact h1
       have HFin:=zjp (Vec.owns (S:=zav) (k:=1) (enc:=zba) (fun _=>rfl) hfin (fun _ _ _=>trivial))
       have hlenO:O.length = (O2 ++ N2).length:=by have:=HLJ.out; simpa using this.symm
       have HLO:=zjp hlenO;clear h0 hfin hlenO;go_wp2_with (at_builtin; refine wpList_append_own_none rfl _ _ 28 rfl w3.heap.size 9 i0 1 underlying28 HHi.out _ _ _ rfl HO1.out rfl ?_)
       go_meet;exact ⟨au,cu,by rw [← HLO.out],HFin.out,HW2.out⟩
      ·simp only [Value.slice.injEq,true_and] at hv
       obtain ⟨rfl,rfl⟩:=hv;have hcells:=HO2.out;have hl:(N2.flatMap zba).length = N.length * 1:=HO2.out.1
       have hnews:∀ j u,(N2.flatMap zba)[j]? = some u→wr.cell? ((⟨g,0,none⟩:Addr).add j) = some u:=fun j u hu=>by
        have hj:=(List.getElem?_eq_some_iff.1 hu).1;rw [zch,Nat.zero_add,hcells.cellAt j (by omega)]; exact hu
       have hone:∀ u∈N2.flatMap zba,u.oneCell' = true:=by
        intro u hu;obtain ⟨y,_,hy⟩:=List.mem_flatMap.1 hu;simp at hy; subst hy; rfl
       have HL:=zjp hl; have HNews:=zjp hnews; have HOne:=zjp hone;clear hcells hl hnews hone hh;go_wp2_with (at_builtin; refine wpList_append_own _ rfl _ _ 28 rfl w3.heap.size 9 i0 (.string ⟨#[]⟩) 1 16 underlying28 HHi.out HZ0.out HZ1.out HZ2.out rfl (by decide) _ _ _ rfl HO1.out ⟨g,0,none⟩ N.length _ (N2.flatMap zba) rfl HL.out HNews.out HOne.out (by unfold maxLen; omega) (by omega) hbz ?_; intro v' w8 ho8 hg8 _)
       go_meet;have ho9:=ho8;rw [← List.flatMap_append,← HLJ.out] at ho9;obtain ⟨a9,c9,rfl⟩:=zau ho9
       refine ⟨a9,c9,by rw [HLJ.out],?_,HW2.out.grown hg8 hbz fun q hq=>(HO1.out.lt q hq).1⟩
       rw [HLJ.out] at ho9;exact Vec.owns (S:=zav) (k:=1) (enc:=zba) (fun _=>rfl) (by rw [HLJ.out]; exact ho9) (fun _ _ _=>trivial)
     case rest =>
      obtain ⟨aj,cj,rfl,hvj,hbj⟩:=hcut;have HVj:=zjp hvj;have HBj:=zjp (HB3.out.trans (hbj.mono HB3.out.size));clear hvj hbj HO1 HO2 HLJ;obtain ⟨J,hJ⟩:∃ J,O2 ++ N2 = J:=⟨_,rfl⟩;rw [hJ] at HVj HF hJ65 hJl ⊢;clear hJ;go_wp2_with fail
      refine (rjoin_any zav _ J _ HVj.out (by omega) (by omega)).mono ?_;rintro e w' ⟨rfl,rfl⟩;obtain ⟨Q,hQ⟩:∃ Q,za0 J = Q:=⟨_,rfl⟩;rw [hQ] at HF hJl ⊢;clear hQ;by_cases g1:6 < J.length
      ·have d1:decide ((6:Int) < J.length) = true:=by simp; omega
       rw [if_pos (.inl g1)] at HF;go_wp2_with fail
       go_ret2;exact ⟨by rw [HF.out]; rfl,HBj.out⟩
      ·have d1:decide ((6:Int) < J.length) = false:=by simp; omega
       by_cases g2:64 < Q.length
       ·have d2:decide ((64:Int) < Q.length) = true:=by simp; omega
        rw [if_pos (.inr g2)] at HF;go_wp2_with fail
        go_ret2;exact ⟨by rw [HF.out]; rfl,HBj.out⟩
       ·have d2:decide ((64:Int) < Q.length) = false:=by simp; omega
        rw [if_neg (by omega)] at HF;go_wp2_with fail
        go_ret2;exact ⟨by rw [HF.out]; rfl,HBj.out⟩
theorem raddr_no (S:Nat→Prop) (vt vn vs:Value) (r:RulesL) (s:ByteArray) (w:World) (h:RulesAt w S vt vn vs r) (hs:s.size≤9223372036854775000) (hc:zay r = 0) (hv:zdd s.data.toList = false) :
  Calls prog 126 #[.agg #[vt,vn,vs],.string s] w fun e w'=>e = .returned (zds (zda r s.data.toList))∧Below w.heap.size w w':=by
 have HR:=zjp h.any;have HC:=zjp hc; have HV:=zjp hv;clear h hc hv;have HF:=zjp (show zda r s.data.toList = ([],3) by unfold zda; rw [if_pos HC.out,if_neg (by rw [HV.out]; simp)]);go_enter func126,ntmps126
 go_wp2_with fail
 refine (zd8 zav vt vn vs r _ (HR.out.below ((Below.refl _ _).alloc xnl _))).mono ?_;rw [HC.out];rintro e w1 ⟨rfl,hb1⟩;have HB1:=zjp (xbt hb1);clear hb1;go_wp2_with fail
 refine (rfold_no s _ hs HV.out).mono ?_;rintro e w2 ⟨rfl,hb2⟩;have HB2:=zjp (HB1.out.trans (hb2.mono HB1.out.size));clear hb2 HB1;go_wp2_with fail
 go_ret2;exact ⟨by rw [HF.out]; rfl,HB2.out⟩
theorem raddr_bad (S:Nat→Prop) (vt vn vs:Value) (r:RulesL) (s:ByteArray) (w:World) (h:RulesAt w S vt vn vs r) (hc:zay r≠0) :
  Calls prog 126 #[.agg #[vt,vn,vs],.string s] w fun e w'=>e = .returned (zds (zda r s.data.toList))∧Below w.heap.size w w':=by
 have HR:=zjp h.any;have HF:=zjp (show zda r s.data.toList = ([],zay r) by unfold zda; rw [if_neg hc]);have hne:(zay r != 0) = true:=by simpa using hc
 clear h hc;go_enter func126,ntmps126
 go_wp2_with fail
 refine (zd8 zav vt vn vs r _ (HR.out.below ((Below.refl _ _).alloc xnl _))).mono ?_;obtain ⟨c,hcc⟩:∃ c,zay r = c:=⟨_,rfl⟩;rw [hcc] at hne HF ⊢;clear hcc;rintro e w1 ⟨rfl,hb1⟩;have HB1:=zjp (xbt hb1);clear hb1;go_wp2_with fail
 go_ret2;exact ⟨by rw [HF.out]; rfl,HB1.out⟩
theorem raddr_any (S:Nat→Prop) (vt vn vs:Value) (r:RulesL) (s:ByteArray) (w:World) (h:RulesAt w S vt vn vs r) (hs:s.size≤9223372036854775000) :
  Calls prog 126 #[.agg #[vt,vn,vs],.string s] w fun e w'=>e = .returned (zds (zda r s.data.toList))∧Below w.heap.size w w':=by
 by_cases hc:zay r = 0
 ·cases hv:zdd s.data.toList with
  | true=>exact raddr_yes S vt vn vs r s w h hc hv
  | false=>exact raddr_no S vt vn vs r s w h hs hc hv
 ·exact raddr_bad S vt vn vs r s w h hc
theorem ranormal_any (S:Nat→Prop) (vt vn vs:Value) (r:RulesL) (s:ByteArray) (w:World) (h:RulesAt w S vt vn vs r) (hs:s.size≤9223372036854775000) :
  Calls prog 159 #[.agg #[vt,vn,vs],.string s] w fun e w'=>e = .returned (.bool (zel (zda r s.data.toList) s.data.toList))∧Below w.heap.size w w':=by
 have HR:=zjp h.any; clear h;have HS:=zjp (Lib.toList_data s);go_enter func159,ntmps159
 go_wp2_with fail
 refine (raddr_any zav vt vn vs r s _ (HR.out.below ((Below.refl _ _).alloc xnl _)) hs).mono ?_;obtain ⟨p,hp⟩:∃ p,zda r s.data.toList = p:=⟨_,rfl⟩;rw [hp];have HP:=zjp hp; clear hp;obtain ⟨pl,pe⟩:=p;unfold zds;rintro e w1 ⟨rfl,hb1⟩;have HB1:=zjp (xbt hb1);clear hb1;cases he:(pe == 0)
 all_goals
  go_wp2_with fail
  go_ret;refine ⟨zaw ?_,HB1.out⟩;rw [HP.out];simp [zel,he,HS.out]
end
section
open Go.RowKit Cal
theorem rlen_any (y m:Int) (w:World) (h:0≤y) (h1:1≤m) (h2:m≤12) :
  Calls prog 202 #[.int .i64 y,.int .i64 m] w fun e w'=>e = .returned (.int .i64 (dim y m))∧w = w':=by
 go_enter func202,ntmps202
 go_wp2
 all_goals go_ret
 all_goals refine ⟨zic ?_,rfl⟩
 all_goals simp only [beq_iff_eq,beq_eq_false_iff_ne,ne_eq,bne_iff_ne] at *
 all_goals simp [dim,leapB, *]
theorem rvalid_no (y m d:Int) (w:World) (hv:vldB y m d = false) :
  Calls prog 173 #[.agg #[.int .i64 y,.int .i64 m,.int .i64 d]] w fun e w'=>e = .returned (.bool false)∧Below w.heap.size w w':=by
 have hh:decide (1800≤y) = false∨(1800≤y∧decide (y≤2199) = false)∨(1800≤y∧y≤2199∧decide (1≤m) = false)∨(1800≤y∧y≤2199∧1≤m∧decide (m≤12) = false)∨(1800≤y∧y≤2199∧1≤m∧m≤12∧decide (1≤d) = false)∨(1800≤y∧y≤2199∧1≤m∧m≤12∧1≤d∧decide (d≤dim y m) = false):=by
  have:=vld_iff y m d;rw [hv] at this;simp at this ⊢;omega
 clear hv
 rcases hh with h | ⟨_,h⟩ | ⟨_,_,h⟩ | ⟨_,_,_,h⟩ | ⟨_,_,_,_,h⟩ | ⟨_,_,_,_,_,h⟩
 iterate 5
  ·go_enter func173,ntmps173
   go_wp2
   go_quiet (fail)
   go_wp2
   go_ret;exact ⟨rfl,below_drewN ((Below.refl _ _).alloc xnl _) _⟩
 go_enter func173,ntmps173
 go_wp2
 go_quiet ((go_at_call 202; exact quiet_eq (rlen_any _ _ _ (by omega) (by omega) (by omega))))
 go_wp2
 go_ret;exact ⟨rfl,below_drewN ((Below.refl _ _).alloc xnl _) _⟩
theorem rvalid_yes (y m d:Int) (w:World) (hv:vldB y m d = true) :
  Calls prog 173 #[.agg #[.int .i64 y,.int .i64 m,.int .i64 d]] w fun e w'=>e = .returned (.bool true)∧Below w.heap.size w w':=by
 obtain ⟨h1,h2,h3,h4,h5,h6⟩:=(vld_iff y m d).1 hv;clear hv;go_enter func173,ntmps173
 go_wp2
 go_quiet ((go_at_call 202; exact quiet_eq (rlen_any _ _ _ (by omega) (by omega) (by omega))))
 go_wp2
 go_ret;exact ⟨rfl,below_drewN ((Below.refl _ _).alloc xnl _) _⟩
theorem zib (s:ByteArray) (w:World) (hs:s.size≤4) :
  Calls prog 201 #[.string s] w fun e w'=>e = .returned (.tuple #[.int .i64 ((zbc 0 s.data.toList).getD 0),.bool (zbc 0 s.data.toList).isSome])∧w = w':=by
 go_enter func201,ntmps201
 go_wp2
 go_loop [4,5] (fun n i=>∃ (k:Nat) (N:Int),k≤s.size∧i = .int .i64 k∧n = .int .i64 N∧zbc 0 (s.data.toList.take k) = some N∧0≤N∧N < 10 ^ k) (fun _ i=>s.size - (intOf i).toNat)
 case atStart=>exact ⟨0,0,Nat.zero_le _,rfl,rfl,rfl,by decide,by decide⟩
 case round =>
  obtain ⟨k,N,hk,rfl,rfl,hN,h0,h1⟩:=hrel;have HN:=zjp hN; clear hN
  have hp:(10:Int) ^ k≤10000:=by
   have:k = 0∨k = 1∨k = 2∨k = 3∨k = 4:=by omega
   rcases this with rfl | rfl | rfl | rfl | rfl <;> decide
  have hN4:N < 10000:=by omega
  have H1:=zjp h1; clear h1 hp;by_cases hlt:k < s.size
  ·go_wp2
   ·go_ret2
    exact ⟨by have:=zgu s k hlt N HN.out (by omega); rw [this]; rfl,rfl⟩
   ·have hs:=zhe s k hlt N HN.out
    rw [if_pos ‹_›] at hs;have h1:=H1.out;have e1:(10:Int) ^ (k + 1) = 10 ^ k * 10:=by rw [Int.pow_succ]
    go_round
    case rel=>exact ⟨k + 1,_,by omega,by go_num,rfl,hs,by omega,by omega⟩
    case measure=>simp [intOf]; omega
   ·go_ret2
    exact ⟨by have:=zgu s k hlt N HN.out (by omega); rw [this]; rfl,rfl⟩
  ·go_wp2
   go_ret2;obtain rfl:k = s.size:=by omega
   exact ⟨by have:=HN.out; rw [List.take_of_length_le (by simp)] at this; rw [this]; rfl,rfl⟩
theorem numI_none {l:List UInt8} (h:zbc 0 l = none):zec l = -1:=by simp [zec,h]
theorem numI_some {l:List UInt8} {N:Int} (h:zbc 0 l = some N):zec l = N:=by simp [zec,h]
theorem dateR_no {a b c:List UInt8} (h:vldB (zec a) (zec b) (zec c) = false):dateL a b c = .tuple #[.agg #[.int .i64 0,.int .i64 0,.int .i64 0],.int .i64 4]:=by
 unfold dateL dateR dateV; rw [h]; rfl
theorem dateR_yes {a b c:List UInt8} (h:vldB (zec a) (zec b) (zec c) = true):dateL a b c = .tuple #[.agg #[.int .i64 (zec a),.int .i64 (zec b),.int .i64 (zec c)],.int .i64 0]:=by
 unfold dateL dateR dateV; rw [h]; rfl
theorem rmade_any (a b c:ByteArray) (w:World) (ha:a.size≤4) (hb:b.size≤4) (hc:c.size≤4) :
  Calls prog 172 #[.string a,.string b,.string c] w fun e w'=>e = .returned (dateR (zec a.data.toList) (zec b.data.toList) (zec c.data.toList) 4)∧Below w.heap.size w w':=by
 have Ka:=fun w=>zjp (zib a w ha)
 have Kb:=fun w=>zjp (zib b w hb)
 have Kc:=fun w=>zjp (zib c w hc)
 rw [show dateR (zec a.data.toList) (zec b.data.toList) (zec c.data.toList) 4 = dateL a.data.toList b.data.toList c.data.toList from rfl]
 have bad:(zbc 0 a.data.toList).isSome = false∨(zbc 0 b.data.toList).isSome = false∨(zbc 0 c.data.toList).isSome = false→vldB (zec a.data.toList) (zec b.data.toList) (zec c.data.toList) = false:=by
  intro h
  have:¬ vldB (zec a.data.toList) (zec b.data.toList) (zec c.data.toList) = true:=by
   rw [vld_iff];simp only [Option.isSome_eq_false_iff,Option.isNone_iff_eq_none] at h
   rcases h with h | h | h <;> (have:=numI_none h; omega)
  simpa using this
 by_cases hall:(zbc 0 a.data.toList).isSome = true∧(zbc 0 b.data.toList).isSome = true∧(zbc 0 c.data.toList).isSome = true
 ·obtain ⟨h1,h2,h3⟩:=hall
  have e1:(zbc 0 a.data.toList).getD 0 = zec a.data.toList:=by obtain ⟨N,h⟩:=Option.isSome_iff_exists.1 h1; rw [numI_some h,h]; rfl
  have e2:(zbc 0 b.data.toList).getD 0 = zec b.data.toList:=by obtain ⟨N,h⟩:=Option.isSome_iff_exists.1 h2; rw [numI_some h,h]; rfl
  have e3:(zbc 0 c.data.toList).getD 0 = zec c.data.toList:=by obtain ⟨N,h⟩:=Option.isSome_iff_exists.1 h3; rw [numI_some h,h]; rfl
  simp only [h1,e1] at Ka; simp only [h2,e2] at Kb; simp only [h3,e3] at Kc;clear h1 h2 h3 e1 e2 e3 bad;cases hv:vldB (zec a.data.toList) (zec b.data.toList) (zec c.data.toList)
  all_goals
   first | rw [dateR_no hv] | rw [dateR_yes hv]
   first | have KV:=fun w=>zjp (rvalid_no _ _ _ w hv) | have KV:=fun w=>zjp (rvalid_yes _ _ _ w hv)
   clear hv;go_enter func172,ntmps172
   go_wp2_with fail
   refine (Ka _).out.mono ?_; rintro e w' ⟨rfl,rfl⟩;go_wp2_with fail
   refine (Kb _).out.mono ?_; rintro e w' ⟨rfl,rfl⟩;go_wp2_with fail
   refine (Kc _).out.mono ?_; rintro e w' ⟨rfl,rfl⟩;go_wp2_with fail
   refine (KV _).out.mono ?_; rintro e w1 ⟨rfl,hb1⟩;obtain ⟨hc1,hf1⟩:=bcell hb1;have hz1:w.heap.size + 1 < w1.heap.size:=by have:=hb1.size; simp at this; omega
   go_wp2_with fail
   have hg:w1.heap[w.heap.size]? = some (.cells #[.int .i64 0,.int .i64 0,.int .i64 0] 141 (0,0)):=zab hb1 (by simp; omega) (zaf (zac rfl));exact zah rfl rfl (zad (zad (zad hg))) underlying141 rfl (by kernel_rfl) ⟨rfl,((((((Below.refl _ _).alloc xnl _).alloc (by simp) _).trans (hb1.mono (by simp; omega))).setCell (by simp) _).setCell (by simp) _).setCell (by simp) _⟩
 ·have hcase:(zbc 0 a.data.toList).isSome = false∨((zbc 0 a.data.toList).isSome = true∧(zbc 0 b.data.toList).isSome = false)∨((zbc 0 a.data.toList).isSome = true∧(zbc 0 b.data.toList).isSome = true∧(zbc 0 c.data.toList).isSome = false):=by
   cases h1:(zbc 0 a.data.toList).isSome <;> cases h2:(zbc 0 b.data.toList).isSome <;> cases h3:(zbc 0 c.data.toList).isSome <;> simp_all
  have hbad:=bad (by rcases hcase with h | ⟨_,h⟩ | ⟨_,_,h⟩ <;> simp [h]);rw [dateR_no hbad];clear bad hall hbad
  rcases hcase with h1 | ⟨h1,h2⟩ | ⟨h1,h2,h3⟩
  all_goals
   try simp only [h1] at Ka
   try simp only [h2] at Kb
   try simp only [h3] at Kc
   try clear h1
   try clear h2
   try clear h3
   go_enter func172,ntmps172
   go_wp2_with fail
   refine (Ka _).out.mono ?_; rintro e w' ⟨rfl,rfl⟩;go_wp2_with fail
   refine (Kb _).out.mono ?_; rintro e w' ⟨rfl,rfl⟩;go_wp2_with fail
   refine (Kc _).out.mono ?_; rintro e w' ⟨rfl,rfl⟩;go_wp2_with fail
   exact zah rfl rfl (zaf (zac rfl)) underlying141 rfl (by kernel_rfl) ⟨rfl,((Below.refl _ _).alloc xnl _).alloc (by simp) _⟩
theorem rread_any (s:ByteArray) (w:World) :
  Calls prog 160 #[.string s] w fun e w'=>e = .returned (bif decide (s.size = 8) then dateL (s.data.toList.take 4) ((s.data.toList.drop 4).take 2) ((s.data.toList.drop 6).take 2) else dateV false 0 0 0 4)∧Below w.heap.size w w':=by
 by_cases h:s.size = 8
 ·have hs:((s.size:Int) == 8) = true:=by simp; omega
  simp only [h,decide_true,cond_true];go_enter func160,ntmps160
  go_wp2
  go_region_held3 (fun _=>True) (trivial) (first | (go_at_call 172; refine (rmade_any _ _ _ _ (by simp; omega) (by simp; omega) (by simp; omega)).mono ?_; rintro e w1 ⟨rfl,hb1⟩; obtain ⟨hc1,hf1⟩:=bcell hb1; have hz1:w.heap.size < w1.heap.size:=(by have:=hb1.size; simp at this; omega)))
  go_wp2
  have hg:w1.heap[w.heap.size]? = some (.cells #[.int .i64 0,.int .i64 0,.int .i64 0] 141 (0,0)):=zab hb1 (by simp) (heap_alloc_new _ _);exact zah rfl rfl (zad (zad (zad hg))) underlying141 rfl (by kernel_rfl) ⟨rfl,(((((Below.refl _ _).alloc xnl _).drew.trans (hb1.mono (by simp))).setCell (by simp) _).setCell (by simp) _).setCell (by simp) _⟩
 ·have hs:((s.size:Int) == 8) = false:=by simp; omega
  simp only [h,decide_false,cond_false];go_enter func160,ntmps160
  go_wp2
  exact zah rfl rfl (heap_alloc_new _ _) underlying141 rfl (by kernel_rfl) ⟨rfl,((Below.refl _ _).alloc xnl _)⟩
theorem rparse_ten (s : ByteArray) (w : World) (h : s.size = 10) :
    Calls prog 127 #[.string s] w fun e w' => e = .returned (parseV s) ∧ Below w.heap.size w w' := by
  have hs : ((s.size : Int) == 10) = true := by simp; omega
  go_enter func127, ntmps127
  go_wp2
  all_goals
    have e2 := zee s 2 (by omega)
    have e4 := zee s 4 (by omega)
    have e5 := zee s 5 (by omega)
    have e7 := zee s 7 (by omega)
  all_goals
    first
    | exact zah rfl rfl (heap_alloc_new _ _) underlying141 rfl (by kernel_rfl) ⟨congrArg Ending.returned (by (try simp only [beq_iff_eq, beq_eq_false_iff_ne, ne_eq] at *); simp [parseV, pk_false, cd_false, *]; try rfl), ((Below.refl _ _).alloc xnl _)⟩
    | (clear e2 e4 e5 e7
       go_region_held3 (fun _ => True) (trivial) (first | (go_at_call 172; refine (rmade_any _ _ _ _ (by simp; omega) (by simp; omega) (by simp; omega)).mono ?_; rintro e w1 ⟨rfl, hb1⟩; obtain ⟨hc1, hf1⟩ := bcell hb1; have hz1 : w.heap.size < w1.heap.size := (by have := hb1.size; simp at this; omega)))
       go_wp2
       have hg : w1.heap[w.heap.size]? = some (.cells #[.int .i64 0, .int .i64 0, .int .i64 0] 141 (0, 0)) := zab hb1 (by simp) (heap_alloc_new _ _)
       have e2 := zee s 2 (by omega)
       have e4 := zee s 4 (by omega)
       have e5 := zee s 5 (by omega)
       have e7 := zee s 7 (by omega)
       exact zah rfl rfl (zad (zad (zad hg))) underlying141 rfl (by kernel_rfl) ⟨congrArg Ending.returned (by (try simp only [beq_iff_eq, beq_eq_false_iff_ne, ne_eq] at *); simp [parseV, pk_false, cd_false, *]; try rfl), (((((Below.refl _ _).alloc xnl _).drew.trans (hb1.mono (by simp))).setCell (by simp) _).setCell (by simp) _).setCell (by simp) _⟩)
theorem rparse_any (s:ByteArray) (w:World) :
  Calls prog 127 #[.string s] w fun e w'=>e = .returned (parseV s)∧Below w.heap.size w w':=by
 by_cases h:s.size = 10
 ·exact rparse_ten s w h
 ·have hs:((s.size:Int) == 10) = false:=by simp; omega
  rw [parseV,if_neg h];go_enter func127,ntmps127
  go_wp2
  exact zah rfl rfl (heap_alloc_new _ _) underlying141 rfl (by kernel_rfl) ⟨rfl,((Below.refl _ _).alloc xnl _)⟩
end
section
open Go.RowKit Cal
theorem hcv_two (n:Int) (h0:0≤n) (h1:n≤99):∀ w:World,(convert 175 9 (.slice (some ⟨w.heap.size,0,none⟩) 2 2)).run prog (w.alloc (.cells #[.int .u8 (48 + n / 10),.int .u8 (48 + n % 10)] 5)) = .ok (.string ⟨(dg n 2).toArray⟩) (w.alloc (.cells #[.int .u8 (48 + n / 10),.int .u8 (48 + n % 10)] 5)):=by
 intro w;have ho:=owns_new (w:=w) (B:=0) (e:=5) (dg n 2) (Nat.zero_le _) (by rw [zeq]; omega);rw [zeq] at ho
 have e1:(dg n 2).map zf2 = [.int .u8 (48 + n / 10),.int .u8 (48 + n % 10)]:=by
  simp only [dg,List.nil_append,List.cons_append,List.map_cons,List.map_nil];rw [dgb _ (by omega),dgb _ h0];have:n / 10 % 10 = n / 10:=by omega
  rw [this]
 rw [e1] at ho;exact zca (dg n 2) (by rw [e1]; exact ho) underlying175 underlying5 underlying9
theorem rtwo_any (n:Int) (w:World) (h0:0≤n) (h1:n≤99) :
  Calls prog 174 #[.int .i64 n] w fun e w'=>e = .returned (.string ⟨(dg n 2).toArray⟩)∧Below w.heap.size w w':=by
 have ha:0≤n / 10∧n / 10≤9:=by omega
 have hb:0≤n % 10∧n % 10≤9:=by omega
 obtain ⟨ha1,ha2⟩:=ha;obtain ⟨hb1,hb2⟩:=hb;have hcv:=hcv_two n h0 h1;go_enter func174,ntmps174
 go_wp2
 go_ret;exact ⟨rfl,(Below.refl _ _).alloc xnl _⟩
attribute [local go_sem] zeq zbb
theorem rformat_yes (y m d:Int) (w:World) (hv:vldB y m d = true) :
  Calls prog 128 #[.agg #[.int .i64 y,.int .i64 m,.int .i64 d]] w fun e w'=>e = .returned (.tuple #[.string ⟨(zdw y m d).toArray⟩,.int .i64 0])∧Below w.heap.size w w':=by
 obtain ⟨b1,b2,b3,b4,b5,b6⟩:=vld_bd hv;have q1:0≤y / 100∧y / 100≤99:=by omega
 have q2:0≤y % 100∧y % 100≤99:=by omega
 obtain ⟨q1,q1'⟩:=q1;obtain ⟨q2,q2'⟩:=q2
 have HD:Hid (dg (y / 100) 2 ++ (dg (y % 100) 2 ++ (dg m 2 ++ dg d 2)) = zdw y m d):=by
  show _ = _;rw [dg_mod y (by omega),zdw,dg_two y]; simp
 have KV:=fun w=>zjp (rvalid_yes y m d w hv)
 clear hv;have m99:m≤99:=by omega
 have d99:d≤99:=by omega
 have d0:0≤d:=by omega
 have m0:0≤m:=by omega
 have e1:IntKind.i64.wrap (y.tdiv 100) = y / 100:=by rw [Int.tdiv_eq_ediv_of_nonneg (by omega)]; exact IntWalk.i64_in _ ⟨by omega,by omega⟩
 have e2:y.tmod 100 = y % 100:=Int.tmod_eq_emod_of_nonneg (by omega);go_enter func128,ntmps128
 go_wp2_with fail
 refine (KV _).out.mono ?_; rintro e w0 ⟨rfl,hb0⟩;have z0:w.heap.size < w0.heap.size:=by clear e1 e2; have:=hb0.size; simp at this; omega
 have HB0:=zjp (xbt hb0).drew;have c00:w0.cell? ⟨w.heap.size,0,none⟩ = some (.int .i64 y):=(hb0.cell (p:=⟨w.heap.size,0,none⟩) (by simp)).trans (by simp);have c10:w0.cell? ⟨w.heap.size,1,none⟩ = some (.int .i64 m):=(hb0.cell (p:=⟨w.heap.size,1,none⟩) (by simp)).trans (by simp);have c20:w0.cell? ⟨w.heap.size,2,none⟩ = some (.int .i64 d):=(hb0.cell (p:=⟨w.heap.size,2,none⟩) (by simp)).trans (by simp);clear hb0;go_wp2_with fail
 refine wp_region_noPanic ?_
 refine wp_region_held_drew (S:=(fun w'=>w'.cell? ⟨w.heap.size,0,none⟩ = some (.int .i64 y)∧w'.cell? ⟨w.heap.size,1,none⟩ = some (.int .i64 m)∧w'.cell? ⟨w.heap.size,2,none⟩ = some (.int .i64 d))) (by kernel_rfl) (⟨c00,c10,c20⟩) (fun hHeld=>?_)
 refine tH 0 (h:=?_);refine tH 1 (h:=?_);refine tH 2 (h:=?_);refine tH 4 (h:=?_);refine tH 5 (h:=?_);refine tH 6 (h:=?_);refine tH 9 (h:=?_);refine tH 10 (h:=?_);refine tH 13 (h:=?_);refine tH 14 (h:=?_);refine wpAnyH_ready (rs:=[3]) (by kernel_rfl) (by simp) ?_
 refine AllReadyH.cons rfl (fun K hK=>?_) AllReadyH.nil
 go_simp;refine (rtwo_any _ _ q1 q1').mono ?_; rintro e w1 ⟨rfl,hb1⟩; have z1:w.heap.size < w1.heap.size:=(by clear e1 e2; have:=hb1.size; (try simp at this); omega); have HB1:=zjp (HB0.out.trans (hb1.mono (by have:=HB0.out.size; simpa using this))); have c01:=(hb1.cell (p:=⟨w.heap.size,0,none⟩) (by simpa using z0)).trans c00; have c11:=(hb1.cell (p:=⟨w.heap.size,1,none⟩) (by simpa using z0)).trans c10; have c21:=(hb1.cell (p:=⟨w.heap.size,2,none⟩) (by simpa using z0)).trans c20; clear hb1 c00 c10 c20
 refine hK.out _ _ (⟨c01,c11,c21⟩) (fun hHeld=>?_)
 clear hK K;refine wpAnyH_ready (rs:=[7]) (by kernel_rfl) (by simp) ?_
 refine AllReadyH.cons rfl (fun K hK=>?_) AllReadyH.nil
 go_simp;refine (rtwo_any _ _ q2 q2').mono ?_; rintro e w2 ⟨rfl,hb2⟩; have z2:w.heap.size < w2.heap.size:=(by clear e1 e2; have:=hb2.size; (try simp at this); omega); have HB2:=zjp (HB1.out.trans (hb2.mono (by have:=HB1.out.size; simpa using this))); have c02:=(hb2.cell (p:=⟨w.heap.size,0,none⟩) (by simpa using z1)).trans c01; have c12:=(hb2.cell (p:=⟨w.heap.size,1,none⟩) (by simpa using z1)).trans c11; have c22:=(hb2.cell (p:=⟨w.heap.size,2,none⟩) (by simpa using z1)).trans c21; clear hb2 c01 c11 c21
 refine hK.out _ _ (⟨c02,c12,c22⟩) (fun hHeld=>?_)
 clear hK K;refine tH 8 (h:=?_);refine wpAnyH_ready (rs:=[11]) (by kernel_rfl) (by simp) ?_
 refine AllReadyH.cons rfl (fun K hK=>?_) AllReadyH.nil
 go_simp;refine (rtwo_any _ _ m0 m99).mono ?_; rintro e w3 ⟨rfl,hb3⟩; have z3:w.heap.size < w3.heap.size:=(by clear e1 e2; have:=hb3.size; (try simp at this); omega); have HB3:=zjp (HB2.out.trans (hb3.mono (by have:=HB2.out.size; simpa using this))); have c03:=(hb3.cell (p:=⟨w.heap.size,0,none⟩) (by simpa using z2)).trans c02; have c13:=(hb3.cell (p:=⟨w.heap.size,1,none⟩) (by simpa using z2)).trans c12; have c23:=(hb3.cell (p:=⟨w.heap.size,2,none⟩) (by simpa using z2)).trans c22; clear hb3 c02 c12 c22
 refine hK.out _ _ (⟨c03,c13,c23⟩) (fun hHeld=>?_)
 clear hK K;refine tH 12 (h:=?_);refine wpAnyH_ready (rs:=[15]) (by kernel_rfl) (by simp) ?_
 refine AllReadyH.cons rfl (fun K hK=>?_) AllReadyH.nil
 go_simp;refine (rtwo_any _ _ d0 d99).mono ?_; rintro e w4 ⟨rfl,hb4⟩; have z4:w.heap.size < w4.heap.size:=(by clear e1 e2; have:=hb4.size; (try simp at this); omega); have HB4:=zjp (HB3.out.trans (hb4.mono (by have:=HB3.out.size; simpa using this))); have c04:=(hb4.cell (p:=⟨w.heap.size,0,none⟩) (by simpa using z3)).trans c03; have c14:=(hb4.cell (p:=⟨w.heap.size,1,none⟩) (by simpa using z3)).trans c13; have c24:=(hb4.cell (p:=⟨w.heap.size,2,none⟩) (by simpa using z3)).trans c23; clear hb4 c03 c13 c23
 refine hK.out _ _ (⟨c04,c14,c24⟩) (fun hHeld=>?_)
 clear hK K;refine tH 16 (h:=?_);refine tH 17 (h:=?_);refine tH 18 (h:=?_);refine wpAnyH_done (by kernel_rfl) ?_ _;refine NoPanic.normal ?_;clear e1 e2;go_wp2
 go_ret2;exact ⟨by rw [← HD.out]; simp,HB4.out⟩
end
section
open Go.RowKit Cal
attribute [local go_sem] zag zaj
theorem rvalue_any (S:Nat→Prop) (vf vt vn vs:Value) (s:SchemaL) (f:Int) (x:ByteArray) (w:World) (h:SchemaAt w S vf vt vn vs s) (hx:x.size≤9223372036854775000) :
  Calls prog 86 #[.agg #[vf,vt,vn,vs],.int .i64 f,.string x] w fun e w'=>e = .returned (zds (zco s f x.data.toList))∧Below w.heap.size w w':=by
 have HS:=zjp h.any;have HL:=zjp (Lib.toList_data x);obtain ⟨hf1,hf2⟩:=h;obtain ⟨af,cf,rfl⟩:=hf1.slice;have HV1:=zjp hf1.any;have hfin:∀ p,zco s f x.data.toList = p→Ending.returned (zds p) = .returned (zds (zco s f x.data.toList)):=fun p h=>by rw [h]
 have HF:=zjp hfin;clear hf1 hf2 hfin;have hval:zco s f x.data.toList = if (zbm s f).2 = 0 then (if x.data.toList = [] then ([],0) else normK (zbm s f).1 s.rules x.data.toList) else ([],(zbm s f).2):=rfl
 have hkk:=zed (s:=s) (f:=f);have hfn:zbm s f = if zax s = 0 then (if 0≤f∧f < s.fields.length then ((s.fields.getD f.toNat default).2,0) else (0,2)) else (0,zax s):=rfl
 have K:=zd7 zav (.slice af s.fields.length cf) vt vn vs s (w.alloc (.cells #[.slice af s.fields.length cf,vt,vn,vs] 33)) (HS.out.below ((Below.refl _ _).alloc xnl _));have hcf:=fun h=>(zcl (s:=s) h).1
 obtain ⟨c,hc⟩:∃ c,zax s = c:=⟨_,rfl⟩;rw [hc] at K hfn hcf;have HK:=zjp K; clear K;have START:=zjp (trivial:True);by_cases he:c = 0
 ·subst he
  have hlen:=(hcf rfl).2;clear hcf;rw [if_pos rfl] at hfn;by_cases hr:0≤f∧f < s.fields.length
  ·rw [if_pos hr] at hfn
   obtain ⟨r1,r2⟩:=hr;obtain ⟨k,rfl⟩:=Int.eq_ofNat_of_zero_le r1;rw [Int.toNat_natCast] at hfn;have hk:k < s.fields.length:=by omega
   obtain ⟨b,off,rfl,_,hb,hcell⟩:=zck HV1.out (by omega);obtain ⟨y,hy⟩:∃ y,s.fields.getD k default = y:=⟨_,rfl⟩;have hck:=hcell k hk;rw [hy] at hck hfn;obtain ⟨nm,kd⟩:=y;have C1:=zjp (show w.cell? ⟨b,off + k * 2 + 1,none⟩ = some (.int .i64 kd) from hck 1 _ rfl);rw [hfn] at hval hkk;dsimp only at hval hkk;have hkd:=hkk rfl;rw [if_pos rfl] at hval;have HVal:=zjp hval;have t1:decide ((k:Int) < 0) = false:=by simp
   have t2:decide ((s.fields.length:Int)≤k) = false:=by simp; omega
   have t3:(k:Int) < (s.fields.length:Int):=by omega
   clear hck hcell hfn hkk hval hy r1 r2;by_cases hx0:x.data.toList = []
   ·have e1:x.toList = []:=by rw [HL.out,hx0]
    have HE:=zjp (show zco s (k:Int) x.data.toList = ([],0) by rw [HVal.out,if_pos hx0]);clear hx0 hkd;go_enter func86,ntmps86
    go_wp2_with fail
    refine HK.out.mono ?_;rintro e w1 ⟨rfl,hb1⟩;have HB1:=zjp (xbt hb1);have HX1:=zjp (xbn hb1);clear hb1 HK;have z0:=zaa HX1.out;obtain ⟨p0,p1,p2,p3⟩:=zbq HX1.out;go_wp2_with fail
    go_ret2;exact ⟨HF.out _ HE.out,HB1.out⟩
   ·have e1:(x.toList == []) = false:=by rw [HL.out]; simpa using hx0
    have e2:x.toList.isEmpty = false:=by rw [HL.out]; simpa using hx0
    have HE:=zjp (show zco s (k:Int) x.data.toList = normK kd s.rules x.data.toList by rw [HVal.out,if_neg hx0]);clear hx0
    rcases hkd with rfl | rfl | rfl | rfl
    ·have HE2:=zjp (show zco s (k:Int) x.data.toList = zc9 s.rules x.data.toList from HE.out)
     go_enter func86,ntmps86
     go_wp2_with fail
     refine HK.out.mono ?_;rintro e w1 ⟨rfl,hb1⟩;have HB1:=zjp (xbt hb1);have HX1:=zjp (xbn hb1);clear hb1 HK;have z0:=zaa HX1.out;obtain ⟨p0,p1,p2,p3⟩:=zbq HX1.out;have c1:w1.cell? ⟨b,off + k * 2 + 1,none⟩ = some (.int .i64 1):=(HB1.out.cell (p:=⟨b,off + k * 2 + 1,none⟩) hb).trans C1.out;go_wp2_with fail
     refine (rnorm_any zav vt vn vs s.rules x _ (HS.out.2.below HB1.out) hx).mono ?_;rw [← HE2.out];obtain ⟨⟨pl,pe⟩,hpp⟩:∃ p,zco s (k:Int) x.data.toList = p:=⟨_,rfl⟩;rw [hpp];have HPP:=zjp hpp;unfold zds;rintro e w3 ⟨rfl,hb3⟩;have HB3:=zjp (HB1.out.trans (hb3.mono HB1.out.size));clear hb3 hpp HE HE2 p0 p1 p2 p3 c1;go_wp2_with fail
     go_ret2;exact ⟨HF.out _ HPP.out,HB3.out⟩
    ·have HE2:=zjp (show zco s (k:Int) x.data.toList = dayN x.data.toList from HE.out)
     rcases parse_is x with ⟨da,db,dc,hv,hp,hd⟩ | ⟨hp,hd⟩
     ·have HV:=zjp hv; have HP:=zjp hp
      have HE3:=zjp (HE2.out.trans hd);clear hv hp hd HE HE2;go_enter func86,ntmps86
      go_wp2_with fail
      refine HK.out.mono ?_;rintro e w1 ⟨rfl,hb1⟩;have HB1:=zjp (xbt hb1);have HX1:=zjp (xbn hb1);clear hb1 HK;have z0:=zaa HX1.out;obtain ⟨p0,p1,p2,p3⟩:=zbq HX1.out;have c1:w1.cell? ⟨b,off + k * 2 + 1,none⟩ = some (.int .i64 2):=(HB1.out.cell (p:=⟨b,off + k * 2 + 1,none⟩) hb).trans C1.out;go_wp2_with fail
      refine (rparse_any x _).mono ?_;rw [HP.out];rintro e w2 ⟨rfl,hb2⟩;have HB2:=zjp (HB1.out.trans (hb2.mono HB1.out.size));clear hb2 p0 p1 p2 p3 c1;go_wp2_with fail
      refine (rformat_yes da db dc _ HV.out).mono ?_;rintro e w3 ⟨rfl,hb3⟩;have HB3:=zjp ((HB2.out.alloc HB2.out.size (.cells #[.int .i64 da,.int .i64 db,.int .i64 dc] 141)).trans (hb3.mono (by have:=HB2.out.size; simp; omega)));clear hb3;go_wp2_with fail
      go_ret2;exact ⟨HF.out _ HE3.out,HB3.out⟩
     ·have HP:=zjp hp
      have HE3:=zjp (HE2.out.trans hd);clear hp hd HE HE2;go_enter func86,ntmps86
      go_wp2_with fail
      refine HK.out.mono ?_;rintro e w1 ⟨rfl,hb1⟩;have HB1:=zjp (xbt hb1);have HX1:=zjp (xbn hb1);clear hb1 HK;have z0:=zaa HX1.out;obtain ⟨p0,p1,p2,p3⟩:=zbq HX1.out;have c1:w1.cell? ⟨b,off + k * 2 + 1,none⟩ = some (.int .i64 2):=(HB1.out.cell (p:=⟨b,off + k * 2 + 1,none⟩) hb).trans C1.out;go_wp2_with fail
      refine (rparse_any x _).mono ?_;rw [HP.out];rintro e w2 ⟨rfl,hb2⟩;have HB2:=zjp (HB1.out.trans (hb2.mono HB1.out.size));clear hb2 p0 p1 p2 p3 c1;go_wp2_with fail
      go_ret2;exact ⟨HF.out _ HE3.out,HB2.out.alloc HB2.out.size _⟩
    ·have HE2:=zjp (show zco s (k:Int) x.data.toList = zd1 x.data.toList from HE.out)
     go_enter func86,ntmps86
     go_wp2_with fail
     refine HK.out.mono ?_;rintro e w1 ⟨rfl,hb1⟩;have HB1:=zjp (xbt hb1);have HX1:=zjp (xbn hb1);clear hb1 HK;have z0:=zaa HX1.out;obtain ⟨p0,p1,p2,p3⟩:=zbq HX1.out;have c1:w1.cell? ⟨b,off + k * 2 + 1,none⟩ = some (.int .i64 3):=(HB1.out.cell (p:=⟨b,off + k * 2 + 1,none⟩) hb).trans C1.out;go_wp2_with fail
     refine (rcode_any x _ hx).mono ?_;rw [← HE2.out];obtain ⟨⟨pl,pe⟩,hpp⟩:∃ p,zco s (k:Int) x.data.toList = p:=⟨_,rfl⟩;rw [hpp];have HPP:=zjp hpp;unfold zds;rintro e w3 ⟨rfl,hb3⟩;have HB3:=zjp (HB1.out.trans (hb3.mono HB1.out.size));clear hb3 hpp HE HE2 p0 p1 p2 p3 c1;go_wp2_with fail
     go_ret2;exact ⟨HF.out _ HPP.out,HB3.out⟩
    ·have HE2:=zjp (show zco s (k:Int) x.data.toList = zda s.rules x.data.toList from HE.out)
     go_enter func86,ntmps86
     go_wp2_with fail
     refine HK.out.mono ?_;rintro e w1 ⟨rfl,hb1⟩;have HB1:=zjp (xbt hb1);have HX1:=zjp (xbn hb1);clear hb1 HK;have z0:=zaa HX1.out;obtain ⟨p0,p1,p2,p3⟩:=zbq HX1.out;have c1:w1.cell? ⟨b,off + k * 2 + 1,none⟩ = some (.int .i64 4):=(HB1.out.cell (p:=⟨b,off + k * 2 + 1,none⟩) hb).trans C1.out;go_wp2_with fail
     refine (raddr_any zav vt vn vs s.rules x _ (HS.out.2.below HB1.out) hx).mono ?_;rw [← HE2.out];obtain ⟨⟨pl,pe⟩,hpp⟩:∃ p,zco s (k:Int) x.data.toList = p:=⟨_,rfl⟩;rw [hpp];have HPP:=zjp hpp;unfold zds;rintro e w3 ⟨rfl,hb3⟩;have HB3:=zjp (HB1.out.trans (hb3.mono HB1.out.size));clear hb3 hpp HE HE2 p0 p1 p2 p3 c1;go_wp2_with fail
     go_ret2;exact ⟨HF.out _ HPP.out,HB3.out⟩
  ·rw [if_neg hr] at hfn
   have HE:=zjp (show zco s f x.data.toList = ([],2) by rw [hval,hfn]; rfl);clear hval hkk hfn;by_cases r1:0≤f
   ·have t1:decide (f < 0) = false:=by simp; omega
    have t2:decide ((s.fields.length:Int)≤f) = true:=by simp; omega
    go_enter func86,ntmps86
    go_wp2_with fail
    refine HK.out.mono ?_;rintro e w1 ⟨rfl,hb1⟩;have HB1:=zjp (xbt hb1);have HX1:=zjp (xbn hb1);clear hb1 HK;have z0:=zaa HX1.out;obtain ⟨p0,p1,p2,p3⟩:=zbq HX1.out;go_wp2_with fail
    go_ret2;exact ⟨HF.out _ HE.out,HB1.out⟩
   ·have t1:decide (f < 0) = true:=by simp; omega
    go_enter func86,ntmps86
    go_wp2_with fail
    refine HK.out.mono ?_;rintro e w1 ⟨rfl,hb1⟩;have HB1:=zjp (xbt hb1);have HX1:=zjp (xbn hb1);clear hb1 HK;have z0:=zaa HX1.out;obtain ⟨p0,p1,p2,p3⟩:=zbq HX1.out;go_wp2_with fail
    go_ret2;exact ⟨HF.out _ HE.out,HB1.out⟩
 ·rw [if_neg he] at hfn
  have HE:=zjp (show zco s f x.data.toList = ([],c) by rw [hval,hfn]; dsimp only; rw [if_neg he]);have he1:(c != 0) = true:=by simpa using he
  clear hval hkk hfn hcf he;go_enter func86,ntmps86
  go_wp2_with fail
  refine HK.out.mono ?_;rintro e w1 ⟨rfl,hb1⟩;have HB1:=zjp (xbt hb1);have HX1:=zjp (xbn hb1);clear hb1 HK;have z0:=zaa HX1.out;obtain ⟨p0,p1,p2,p3⟩:=zbq HX1.out;go_wp2_with fail
  go_ret2;exact ⟨HF.out _ HE.out,HB1.out⟩
end
section
open Go.RowKit Cal
attribute [local go_sem] zag zaj
theorem rsnormal_any (S:Nat→Prop) (vf vt vn vs:Value) (s:SchemaL) (f:Int) (x:ByteArray) (w:World) (h:SchemaAt w S vf vt vn vs s) (hx:x.size≤9223372036854775000) :
  Calls prog 115 #[.agg #[vf,vt,vn,vs],.int .i64 f,.string x] w fun e w'=>e = .returned (.bool (zaq s f x.data.toList))∧Below w.heap.size w w':=by
 have HS:=zjp h.any;have HL:=zjp (Lib.toList_data x);obtain ⟨hf1,hf2⟩:=h;obtain ⟨af,cf,rfl⟩:=hf1.slice;have HV1:=zjp hf1.any;have hfin:∀ p,zaq s f x.data.toList = p→Ending.returned (.bool p) = .returned (.bool (zaq s f x.data.toList)):=fun p h=>by rw [h]
 have HF:=zjp hfin;clear hf1 hf2 hfin;have hval:zaq s f x.data.toList = if (zbm s f).2 = 0 then (if x.data.toList = [] then true else ownK (zbm s f).1 s.rules x.data.toList) else false:=rfl
 have hkk:=zed (s:=s) (f:=f);have hfn:zbm s f = if zax s = 0 then (if 0≤f∧f < s.fields.length then ((s.fields.getD f.toNat default).2,0) else (0,2)) else (0,zax s):=rfl
 have K:=zd7 zav (.slice af s.fields.length cf) vt vn vs s (w.alloc (.cells #[.slice af s.fields.length cf,vt,vn,vs] 33)) (HS.out.below ((Below.refl _ _).alloc xnl _));have hcf:=fun h=>(zcl (s:=s) h).1
 obtain ⟨c,hc⟩:∃ c,zax s = c:=⟨_,rfl⟩;rw [hc] at K hfn hcf;have HK:=zjp K; clear K;have START:=zjp (trivial:True);by_cases he:c = 0
 ·subst he
  have hlen:=(hcf rfl).2;clear hcf;rw [if_pos rfl] at hfn;by_cases hr:0≤f∧f < s.fields.length
  ·rw [if_pos hr] at hfn
   obtain ⟨r1,r2⟩:=hr;obtain ⟨k,rfl⟩:=Int.eq_ofNat_of_zero_le r1;rw [Int.toNat_natCast] at hfn;have hk:k < s.fields.length:=by omega
   obtain ⟨b,off,rfl,_,hb,hcell⟩:=zck HV1.out (by omega);obtain ⟨y,hy⟩:∃ y,s.fields.getD k default = y:=⟨_,rfl⟩;have hck:=hcell k hk;rw [hy] at hck hfn;obtain ⟨nm,kd⟩:=y;have C1:=zjp (show w.cell? ⟨b,off + k * 2 + 1,none⟩ = some (.int .i64 kd) from hck 1 _ rfl);rw [hfn] at hval hkk;dsimp only at hval hkk;have hkd:=hkk rfl;rw [if_pos rfl] at hval;have HVal:=zjp hval;have t1:decide ((k:Int) < 0) = false:=by simp
   have t2:decide ((s.fields.length:Int)≤k) = false:=by simp; omega
   have t3:(k:Int) < (s.fields.length:Int):=by omega
   clear hck hcell hfn hkk hval hy r1 r2;by_cases hx0:x.data.toList = []
   ·have e1:x.toList = []:=by rw [HL.out,hx0]
    have HE:=zjp (show zaq s (k:Int) x.data.toList = true by rw [HVal.out,if_pos hx0]);clear hx0 hkd;go_enter func115,ntmps115
    go_wp2_with fail
    refine HK.out.mono ?_;rintro e w1 ⟨rfl,hb1⟩;have HB1:=zjp (xbt hb1);have HX1:=zjp (xbn hb1);clear hb1 HK;have z0:=zaa HX1.out;obtain ⟨p0,p1,p2,p3⟩:=zbq HX1.out;go_wp2_with fail
    go_ret;exact ⟨HF.out _ HE.out,HB1.out⟩
   ·have e1:(x.toList == []) = false:=by rw [HL.out]; simpa using hx0
    have e2:x.toList.isEmpty = false:=by rw [HL.out]; simpa using hx0
    have HE:=zjp (show zaq s (k:Int) x.data.toList = ownK kd s.rules x.data.toList by rw [HVal.out,if_neg hx0]);clear hx0
    rcases hkd with rfl | rfl | rfl | rfl
    ·have HE2:=zjp (show zaq s (k:Int) x.data.toList = zel (zc9 s.rules x.data.toList) x.data.toList from HE.out)
     go_enter func115,ntmps115
     go_wp2_with fail
     refine HK.out.mono ?_;rintro e w1 ⟨rfl,hb1⟩;have HB1:=zjp (xbt hb1);have HX1:=zjp (xbn hb1);clear hb1 HK;have z0:=zaa HX1.out;obtain ⟨p0,p1,p2,p3⟩:=zbq HX1.out;have c1:w1.cell? ⟨b,off + k * 2 + 1,none⟩ = some (.int .i64 1):=(HB1.out.cell (p:=⟨b,off + k * 2 + 1,none⟩) hb).trans C1.out;go_wp2_with fail
     refine (rnormal_any zav vt vn vs s.rules x _ (HS.out.2.below HB1.out) hx).mono ?_;rw [← HE2.out];obtain ⟨pb,hpp⟩:∃ p,zaq s (k:Int) x.data.toList = p:=⟨_,rfl⟩;rw [hpp];have HPP:=zjp hpp;rintro e w3 ⟨rfl,hb3⟩;have HB3:=zjp (HB1.out.trans (hb3.mono HB1.out.size));clear hb3 hpp HE HE2 p0 p1 p2 p3 c1;go_wp2_with fail
     go_ret;exact ⟨HF.out _ HPP.out,HB3.out⟩
    ·have HE2:=zjp (show zaq s (k:Int) x.data.toList = readB x.data.toList from HE.out)
     obtain ⟨da,db,dc,hr⟩:=read_is x;have HR:=zjp hr; clear hr HE;go_enter func115,ntmps115
     go_wp2_with fail
     refine HK.out.mono ?_;rintro e w1 ⟨rfl,hb1⟩;have HB1:=zjp (xbt hb1);have HX1:=zjp (xbn hb1);clear hb1 HK;have z0:=zaa HX1.out;obtain ⟨p0,p1,p2,p3⟩:=zbq HX1.out;have c1:w1.cell? ⟨b,off + k * 2 + 1,none⟩ = some (.int .i64 2):=(HB1.out.cell (p:=⟨b,off + k * 2 + 1,none⟩) hb).trans C1.out;go_wp2_with fail
     refine (rread_any x _).mono ?_;rw [HR.out];obtain ⟨v,hv⟩:∃ v,readB x.data.toList = v:=⟨_,rfl⟩;rw [hv];have HV:=zjp hv; clear hv HR;rintro e w2 ⟨rfl,hb2⟩;have HB2:=zjp (HB1.out.trans (hb2.mono HB1.out.size));clear hb2 p0 p1 p2 p3 c1;cases v
     all_goals
      simp only [cd_false,cd_true];go_wp2_with fail
      go_ret;exact ⟨HF.out _ (by rw [HE2.out,HV.out]; try rfl),HB2.out.alloc HB2.out.size _⟩
    ·have HE2:=zjp (show zaq s (k:Int) x.data.toList = zel (zd1 x.data.toList) x.data.toList from HE.out)
     go_enter func115,ntmps115
     go_wp2_with fail
     refine HK.out.mono ?_;rintro e w1 ⟨rfl,hb1⟩;have HB1:=zjp (xbt hb1);have HX1:=zjp (xbn hb1);clear hb1 HK;have z0:=zaa HX1.out;obtain ⟨p0,p1,p2,p3⟩:=zbq HX1.out;have c1:w1.cell? ⟨b,off + k * 2 + 1,none⟩ = some (.int .i64 3):=(HB1.out.cell (p:=⟨b,off + k * 2 + 1,none⟩) hb).trans C1.out;go_wp2_with fail
     refine (rnormed_any x _ hx).mono ?_;rw [← HE2.out];obtain ⟨pb,hpp⟩:∃ p,zaq s (k:Int) x.data.toList = p:=⟨_,rfl⟩;rw [hpp];have HPP:=zjp hpp;rintro e w3 ⟨rfl,hb3⟩;have HB3:=zjp (HB1.out.trans (hb3.mono HB1.out.size));clear hb3 hpp HE HE2 p0 p1 p2 p3 c1;go_wp2_with fail
     go_ret;exact ⟨HF.out _ HPP.out,HB3.out⟩
    ·have HE2:=zjp (show zaq s (k:Int) x.data.toList = zel (zda s.rules x.data.toList) x.data.toList from HE.out)
     go_enter func115,ntmps115
     go_wp2_with fail
     refine HK.out.mono ?_;rintro e w1 ⟨rfl,hb1⟩;have HB1:=zjp (xbt hb1);have HX1:=zjp (xbn hb1);clear hb1 HK;have z0:=zaa HX1.out;obtain ⟨p0,p1,p2,p3⟩:=zbq HX1.out;have c1:w1.cell? ⟨b,off + k * 2 + 1,none⟩ = some (.int .i64 4):=(HB1.out.cell (p:=⟨b,off + k * 2 + 1,none⟩) hb).trans C1.out;go_wp2_with fail
     refine (ranormal_any zav vt vn vs s.rules x _ (HS.out.2.below HB1.out) hx).mono ?_;rw [← HE2.out];obtain ⟨pb,hpp⟩:∃ p,zaq s (k:Int) x.data.toList = p:=⟨_,rfl⟩;rw [hpp];have HPP:=zjp hpp;rintro e w3 ⟨rfl,hb3⟩;have HB3:=zjp (HB1.out.trans (hb3.mono HB1.out.size));clear hb3 hpp HE HE2 p0 p1 p2 p3 c1;go_wp2_with fail
     go_ret;exact ⟨HF.out _ HPP.out,HB3.out⟩
  ·rw [if_neg hr] at hfn
   have HE:=zjp (show zaq s f x.data.toList = false by rw [hval,hfn]; rfl);clear hval hkk hfn;by_cases r1:0≤f
   ·have t1:decide (f < 0) = false:=by simp; omega
    have t2:decide ((s.fields.length:Int)≤f) = true:=by simp; omega
    go_enter func115,ntmps115
    go_wp2_with fail
    refine HK.out.mono ?_;rintro e w1 ⟨rfl,hb1⟩;have HB1:=zjp (xbt hb1);have HX1:=zjp (xbn hb1);clear hb1 HK;have z0:=zaa HX1.out;obtain ⟨p0,p1,p2,p3⟩:=zbq HX1.out;go_wp2_with fail
    go_ret;exact ⟨HF.out _ HE.out,HB1.out⟩
   ·have t1:decide (f < 0) = true:=by simp; omega
    go_enter func115,ntmps115
    go_wp2_with fail
    refine HK.out.mono ?_;rintro e w1 ⟨rfl,hb1⟩;have HB1:=zjp (xbt hb1);have HX1:=zjp (xbn hb1);clear hb1 HK;have z0:=zaa HX1.out;obtain ⟨p0,p1,p2,p3⟩:=zbq HX1.out;go_wp2_with fail
    go_ret;exact ⟨HF.out _ HE.out,HB1.out⟩
 ·rw [if_neg he] at hfn
  have HE:=zjp (show zaq s f x.data.toList = false by rw [hval,hfn]; dsimp only; rw [if_neg he]);have he1:(c != 0) = true:=by simpa using he
  clear hval hkk hfn hcf he;go_enter func115,ntmps115
  go_wp2_with fail
  refine HK.out.mono ?_;rintro e w1 ⟨rfl,hb1⟩;have HB1:=zjp (xbt hb1);have HX1:=zjp (xbn hb1);clear hb1 HK;have z0:=zaa HX1.out;obtain ⟨p0,p1,p2,p3⟩:=zbq HX1.out;go_wp2_with fail
  go_ret;exact ⟨HF.out _ HE.out,HB1.out⟩
end
section
open Go.RowKit
attribute [local go_sem] zag zaj za7
def kindsD:List Int:=[1,1,2,4,3]
theorem kindsD_bd (k:Nat) (hk:k < 5):1≤kindsD.getD k 0∧kindsD.getD k 0≤4:=by
 have:∀ j:Fin 5,1≤kindsD.getD j 0∧kindsD.getD j 0≤4:=by decide
 exact this ⟨k,hk⟩
theorem kinds_cell {w:World} {b:Nat} (h:w.heap[b]? = some (.cells (kindsD.map (Value.int .i64)).toArray 3 (0,0))) (k:Nat) (hk:k < 5):w.cell? ⟨b,k,none⟩ = some (.int .i64 (kindsD.getD k 0)):=by
 rw [cell_of_row _ _ _ _ _ _ h,List.getElem?_toArray,List.getElem?_map];have:k < kindsD.length:=hk;rw [List.getD,List.getElem?_eq_getElem this]; rfl
theorem schema_deal (D:Nat) (w:World) (h:DeckAt w D) :
  Calls prog 9 #[.pointer (some ⟨D,0,none⟩)] w (SchemaPost D w):=by
 have zD:=h.lt;have M0:=zjp (Moved.start h); clear h;go_enter func9,ntmps9
 go_wp2_with fail
 refine (rules_deal D _ (M0.out.alloc _).deck).mono ?_;rintro e w1 ⟨vt,vn,vs,r,rfl,hr,hd,mv⟩;obtain ⟨at',ct,rfl⟩:=hr.1.slice;obtain ⟨an,cn,rfl⟩:=hr.2.1.slice;obtain ⟨as',cs,rfl⟩:=hr.2.2.slice;have zw:w.heap.size < w1.heap.size:=by have:=mv.size; simp at this; omega
 have X1:=zjp (show w1.heap[w.heap.size]? = some (.cells nil4 33 (0,0)) from mv.blk (by omega) (zac rfl));have M1:=zjp ((M0.out.alloc _).trans mv);have HR:=zjp hr; have HRD:=zjp hd;clear hr hd mv;go_wp2_with fail
 have K0:=zjp (show SMid D w w1.heap.size (.slice at' r.titles.length ct) (.slice an r.nicks.length cn) (.slice as' r.streets.length cs) r (.slice none 0 0) [] ((w1.alloc (.cells #[.slice none 0 0,.slice at' r.titles.length ct,.slice an r.nicks.length cn,.slice as' r.streets.length cs] 33)).alloc (.cells (namesD.flatMap zba).toArray 9)) from
  ⟨zaf (zaf X1.out),zaf (zac rfl),zac (by simp),⟨rfl,.inl ⟨rfl,rfl⟩⟩,by
   have hb:Below w1.heap.size w1 ((w1.alloc (.cells #[.slice none 0 0,.slice at' r.titles.length ct,.slice an r.nicks.length cn,.slice as' r.streets.length cs] 33)).alloc (.cells (namesD.flatMap zba).toArray 9)):=((Below.refl _ _).alloc xnl _).alloc (by simp) _;have mvv:∀ b,b < w1.heap.size→(w.alloc (.cells nil4 33)).heap.size≤b→_∧(w.heap.size < b∧b < w1.heap.size):=fun b h1 h2=>⟨hb.block b h1,by simp at h2; omega,h1⟩
   exact ⟨HR.out.1.move hb.size mvv,HR.out.2.1.move hb.size mvv,HR.out.2.2.move hb.size mvv⟩,FieldsD.nil,(M1.out.alloc _).alloc _,zw⟩)
 refine (zc0 D _ 4 K0.out.moved.deck (by omega) (by omega)).mono ?_;rintro e w2 ⟨q,rfl,q0,q1,mv⟩;obtain ⟨q,rfl⟩:=Int.eq_ofNat_of_zero_le q0;have K1:=zjp (K0.out.gone zD mv);clear mv K0 X1 M1 HR M0;go_wp2_with fail
 go_loopw [6] (fun i wr=>∃ (k:Nat) (F:List F2) (vf:Value),i = .int .i64 k∧k≤1 + q∧F.length = k∧SMid D w w1.heap.size (.slice at' r.titles.length ct) (.slice an r.nicks.length cn) (.slice as' r.streets.length cs) r vf F wr) (fun i _=>1 + q - (intOf i).toNat)
 case atStart=>exact ⟨0,[],_,rfl,by omega,rfl,K1.out⟩
 case round =>
  obtain ⟨k,F,vf,rfl,hk,hF,hm⟩:=hrel;have HF:=zjp hF; have KM:=zjp hm;clear hm hF K1;by_cases hlt:k < 1 + q
  ·have hq:decide ((k:Int) < 1 + q) = true:=by simp; omega
   have hix:(k:Int) < 5:=by omega
   have hc:(wr.alloc (.cells #[.int .i64 1,.int .i64 1,.int .i64 2,.int .i64 4,.int .i64 3] 3)).cell? ⟨wr.heap.size,k,none⟩ = _:=kinds_cell (w:=wr.alloc (.cells (kindsD.map (Value.int .i64)).toArray 3)) (b:=wr.heap.size) (zac rfl) k (by omega);obtain ⟨kb1,kb2⟩:=kindsD_bd k (by omega);obtain ⟨kd,hkd⟩:∃ kd,kindsD.getD k 0 = kd:=⟨_,rfl⟩;rw [hkd] at hc kb1 kb2;clear hkd;go_wp2_with fail
   refine (zfd D _ 4 (KM.out.moved.alloc _).deck (by omega) (by omega)).mono ?_;rintro e w3 ⟨u,rfl,mv⟩;have KN:=zjp (KM.out.gone zD (((Moved.start KM.out.moved.deck).alloc _).trans mv));clear hc mv;go_upto_if 25 with (fail)
   go_cut [7] (fun s7 wx=>∃ kd:Int,s7 = .int .i64 kd∧1≤kd∧kd≤4∧SMid D w w1.heap.size (.slice at' r.titles.length ct) (.slice an r.nicks.length cn) (.slice as' r.streets.length cs) r vf F wx)
   case first =>
    cases u
    ·go_wp2_with fail
     go_meet;exact ⟨kd,rfl,kb1,kb2,KN.out⟩
    ·go_wp2_with fail
     refine (zc0 D _ 4 KN.out.moved.deck (by omega) (by omega)).mono ?_;rintro e w4 ⟨p,rfl,p0,p1,mv⟩;have KO:=zjp (KN.out.gone zD mv);clear mv;go_wp2_with fail
     go_meet;exact ⟨1 + p,rfl,by omega,by omega,KO.out⟩
   case rest =>
    obtain ⟨kx,rfl,kx1,kx2,hm⟩:=hcut;have KX:=zjp hm;clear hm KM KN kb1 kb2;obtain ⟨av,cv,hav⟩:=zau KX.out.own;rw [HF.out] at hav;subst hav;have cY:=(zbq KX.out.s).1;have cN:=KX.out.n.cell k (by show k < 5; omega);have zY:=zaa KX.out.n;have zY0:w1.heap.size < wc.heap.size:=by omega
    obtain ⟨nm,hnm⟩:∃ nm,namesD.getD k [] = nm:=⟨_,rfl⟩;rw [hnm] at cN;have HNM:=zjp hnm; clear hnm;go_wp2_with fail
    have hown:=zfn KX.out.own (((Below.refl _ _).alloc xnl (.cells #[zal nm,.int .i64 kx] 85)).drew)
    have hnews:∀ j u,[zal nm,Value.int .i64 kx][j]? = some u→((wc.alloc (.cells #[zal nm,.int .i64 kx] 85)).drew).cell? ((⟨wc.heap.size,0,none⟩:Addr).add j) = some u:=fun j u hu=>by
     rw [zch,World.cell?_drew,cell_of_row _ _ _ _ _ _ (heap_alloc_new wc _),Nat.zero_add]; simpa using hu
    have hone:∀ u∈[zal nm,Value.int .i64 kx],u.oneCell' = true:=by intro u hu; simp at hu; rcases hu with rfl | rfl <;> rfl
    obtain ⟨i0,hi,hz0,hz1,hz2⟩:=info_parts infoF;have hbA:=((Below.refl _ wc).alloc xnl (.cells #[zal nm,.int .i64 kx] 85)).drew;have HBA:=zjp hbA; have HOwn:=zjp hown; have HNews:=zjp hnews; have HOne:=zjp hone; have HI:=zjp hi; have HZ0:=zjp hz0; have HZ1:=zjp hz1; have HZ2:=zjp hz2;have fY:=(frozen_of_row _ _ _ _ _ KX.out.s:wc.frozen? ⟨w1.heap.size,0,none⟩ = false);clear hbA hown hnews hone hi hz0 hz1 hz2;rw [HF.out] at HOwn;go_region_law (((refine step_append_lies _ rfl (.tmp 30) (.tmp 37) 27 (by rfl) (w1.heap.size + 2) 85 i0 (.agg #[.string ⟨#[]⟩,.int .i64 0]) 2 24 underlying27 HI.out HZ0.out HZ1.out HZ2.out rfl (by decide) (.slice av k cv) k (F.flatMap encF) (by rfl) HOwn.out ⟨wc.heap.size,0,none⟩ 1 1 [zal nm,.int .i64 kx] (by rfl) rfl HNews.out HOne.out (by omega) (by unfold maxLen; omega) (by omega) (by simp; omega) (wc.heap.size + 1) (by simp) ?_); intro g cap w5 hown5 hg5 hat5 hlt5; have cY5:=(hg5.cell_far ⟨w1.heap.size,0,none⟩ (by simp; omega) (own_far HOwn.out (by show w1.heap.size < _; omega))).trans ((HBA.out.cell (p:=⟨w1.heap.size,0,none⟩) (by show w1.heap.size < _; omega)).trans cY); have fY5:=(hg5.frozen_far ⟨w1.heap.size,0,none⟩ (by simp; omega) (own_far HOwn.out (by show w1.heap.size < _; omega))).trans ((HBA.out.frozen (p:=⟨w1.heap.size,0,none⟩) (by show w1.heap.size < _; omega)).trans fY)))
    all_goals
     have hfd:=KX.out.fields.snoc (by rw [HF.out]; omega) kx1 kx2;rw [HF.out,HNM.out] at hfd;have hown6:=hown5;rw [show F.flatMap encF ++ [zal nm,.int .i64 kx] = F.flatMap encF ++ encF (nm,kx) from rfl,← HF.out] at hown6;have KS:=zjp (KX.out.step (x:=(nm,kx)) zD HBA.out hg5 hown6 hfd);rw [HF.out] at KS;clear hfd hown6 hown5 hg5 hat5 cY5 fY5;go_wp2_with fail
     go_roundw
     case rel=>exact ⟨k + 1,F ++ [(nm,kx)],_,by go_num,by omega,by rw [List.length_append,HF.out]; rfl,KS.out⟩
     case measure=>simp [intOf]; omega
  ·have hq:decide ((k:Int) < 1 + q) = false:=by simp; omega
   obtain ⟨av,cv,hav⟩:=zau KM.out.own;subst hav;have HZ:=zjp KM.out.z;have HM:=zjp KM.out.moved;have HR:=zjp KM.out.rules;have HO:=zjp KM.out.own;have HFd:=zjp KM.out.fields;obtain ⟨c0,c1,c2,c3⟩:=zbq KM.out.s;obtain ⟨d0,d1,d2,d3⟩:=zbq KM.out.z;have g0:=(frozen_of_row _ _ _ _ _ KM.out.z:wr.frozen? ⟨w.heap.size,0,none⟩ = false);have g1:=(frozen_of_row _ _ _ _ _ KM.out.z:wr.frozen? ⟨w.heap.size,1,none⟩ = false);have g2:=(frozen_of_row _ _ _ _ _ KM.out.z:wr.frozen? ⟨w.heap.size,2,none⟩ = false);have g3:=(frozen_of_row _ _ _ _ _ KM.out.z:wr.frozen? ⟨w.heap.size,3,none⟩ = false);have z0:=zaa KM.out.z;have z1:=zaa KM.out.s;clear KM;go_wp2_with fail
   have hz:=(zad (i:=3) (v:=(.slice as' r.streets.length cs)) (zad (i:=2) (v:=(.slice an r.nicks.length cn)) (zad (i:=1) (v:=(.slice at' r.titles.length ct)) (zad (i:=0) (v:=(.slice av F.length cv)) HZ.out))));have hm:=((((HM.out.set (a:=⟨w.heap.size,0,none⟩) xnl (.slice av F.length cv)).set (a:=⟨w.heap.size,1,none⟩) xnl (.slice at' r.titles.length ct)).set (a:=⟨w.heap.size,2,none⟩) xnl (.slice an r.nicks.length cn)).set (a:=⟨w.heap.size,3,none⟩) xnl (.slice as' r.streets.length cs));have hv:=(((((Vec.owns (k:=2) (enc:=encF) (S:=fun b=>w.heap.size < b) (fun _=>rfl) HO.out (fun b h1 _=>by omega)).set1 (a:=⟨w.heap.size,0,none⟩) (fun b h=>Nat.ne_of_gt h) (.slice av F.length cv)).set1 (a:=⟨w.heap.size,1,none⟩) (fun b h=>Nat.ne_of_gt h) (.slice at' r.titles.length ct)).set1 (a:=⟨w.heap.size,2,none⟩) (fun b h=>Nat.ne_of_gt h) (.slice an r.nicks.length cn)).set1 (a:=⟨w.heap.size,3,none⟩) (fun b h=>Nat.ne_of_gt h) (.slice as' r.streets.length cs))
   have ht:=(((((HR.out.1.weaken (S':=fun b=>w.heap.size < b) fun b h=>h.1).set1 (a:=⟨w.heap.size,0,none⟩) (fun b h=>Nat.ne_of_gt h) (.slice av F.length cv)).set1 (a:=⟨w.heap.size,1,none⟩) (fun b h=>Nat.ne_of_gt h) (.slice at' r.titles.length ct)).set1 (a:=⟨w.heap.size,2,none⟩) (fun b h=>Nat.ne_of_gt h) (.slice an r.nicks.length cn)).set1 (a:=⟨w.heap.size,3,none⟩) (fun b h=>Nat.ne_of_gt h) (.slice as' r.streets.length cs))
   have hn:=(((((HR.out.2.1.weaken (S':=fun b=>w.heap.size < b) fun b h=>h.1).set1 (a:=⟨w.heap.size,0,none⟩) (fun b h=>Nat.ne_of_gt h) (.slice av F.length cv)).set1 (a:=⟨w.heap.size,1,none⟩) (fun b h=>Nat.ne_of_gt h) (.slice at' r.titles.length ct)).set1 (a:=⟨w.heap.size,2,none⟩) (fun b h=>Nat.ne_of_gt h) (.slice an r.nicks.length cn)).set1 (a:=⟨w.heap.size,3,none⟩) (fun b h=>Nat.ne_of_gt h) (.slice as' r.streets.length cs))
   have hs:=(((((HR.out.2.2.weaken (S':=fun b=>w.heap.size < b) fun b h=>h.1).set1 (a:=⟨w.heap.size,0,none⟩) (fun b h=>Nat.ne_of_gt h) (.slice av F.length cv)).set1 (a:=⟨w.heap.size,1,none⟩) (fun b h=>Nat.ne_of_gt h) (.slice at' r.titles.length ct)).set1 (a:=⟨w.heap.size,2,none⟩) (fun b h=>Nat.ne_of_gt h) (.slice an r.nicks.length cn)).set1 (a:=⟨w.heap.size,3,none⟩) (fun b h=>Nat.ne_of_gt h) (.slice as' r.streets.length cs))
   have hw:∀ b,w.heap.size < b→w.heap.size≤b:=fun b h=>Nat.le_of_lt h
   have hF1:1≤F.length:=by have:=HF.out; omega
   exact za4 rfl rfl hz underlying33 rfl (by kernel_rfl) ⟨_,_,_,_,⟨F,r⟩,rfl,⟨hv.weaken hw,ht.weaken hw,hn.weaken hw,hs.weaken hw⟩,⟨HFd.out,hF1,HRD.out⟩,hm⟩
end
section
open Go.RowKit Cal
attribute [local go_sem] zag zaj za7
def RecVal (w:World) (S:Nat→Prop) (v:Value) (r:RecL):Prop:=∃ s,v = .agg #[.int .i64 r.id,.int .i64 r.ver,s]∧Vec w S 1 zba s r.vals
def MakePost (p:RecL × Int) (w:World) (e:Ending) (w':World):Prop:=∃ v,e = .returned (.tuple #[v,.int .i64 p.2])∧RecVal w' (fun b=>w.heap.size≤b) v p.1∧Below w.heap.size w w'
theorem makeN_in {s:SchemaL} {id ver:Int} {raws:List (List UInt8)} (h0:zax s = 0) (h1:raws.length = s.fields.length) (h2:zbl id ver = true):makeN s id ver raws = if (zeu s 0 [] raws).2 = 0 then (⟨id,ver,(zeu s 0 [] raws).1⟩,0) else (noRec,(zeu s 0 [] raws).2):=by
 unfold makeN; rw [if_pos h0,if_pos h1,if_pos h2]
structure MkAt (w:World) (rb:Nat) (vf vt vn vs:Value) (id ver:Int) (v:Value) (C:List (List UInt8)) (wr:World):Prop where
 s:wr.heap[w.heap.size]? = some (.cells #[vf,vt,vn,vs] 33 (0,0))
 z:wr.heap[w.heap.size + 1]? = some (.cells #[.int .i64 0,.int .i64 0,.slice none 0 0] 68 (0,0))
 r:wr.heap[rb]? = some (.cells #[.int .i64 id,.int .i64 ver,v] 68 (0,0))
 own:wr.ownsRow (rb + 1) 9 1 v C.length (C.flatMap zba)
 b:Below w.heap.size w wr
 lt:w.heap.size + 1 < rb
 lt2:rb < wr.heap.size
theorem MkAt.below {w:World} {rb:Nat} {vf vt vn vs:Value} {id ver:Int} {v:Value} {C:List (List UInt8)} {wr wx:World} (h:MkAt w rb vf vt vn vs id ver v C wr) (hb:Below wr.heap.size wr wx):MkAt w rb vf vt vn vs id ver v C wx :=
 ⟨zab hb (zaa h.s) h.s,zab hb (zaa h.z) h.z,zab hb (zaa h.r) h.r,zcb h.own hb,h.b.trans (hb.mono h.b.size),h.lt,Nat.lt_of_lt_of_le h.lt2 hb.size⟩
theorem rmake_yes (S T:Nat→Prop) (vf vt vn vs:Value) (s:SchemaL) (id ver:Int) (raws:List (List UInt8)) (rv:Value) (w:World) (h:SchemaAt w S vf vt vn vs s) (hv:Vec w T 1 zba rv raws) (hc:zax s = 0) (hl:raws.length = s.fields.length) (hn:zbl id ver = true) (hs:∀ x∈raws,x.length≤1000000) :
  Calls prog 61 #[.agg #[vf,vt,vn,vs],.int .i64 id,.int .i64 ver,rv] w (MakePost (makeN s id ver raws) w):=by
 have hmk:=makeN_in hc hl hn;obtain ⟨R,hR⟩:∃ R,makeN s id ver raws = R:=⟨_,rfl⟩;rw [hR] at hmk ⊢;have HMK:=zjp hmk;clear hmk hR;obtain ⟨a,cap,rfl⟩:=hv.slice;obtain ⟨af,cf,rfl⟩:=h.1.slice;have h5:raws.length≤5:=by have:=(zcl hc).1.2; omega
 have hne:((raws.length:Int) != (s.fields.length:Int)) = false:=by rw [hl]; simp
 have hn0:=hn;simp only [zbl,Bool.and_eq_true,decide_eq_true_iff] at hn0;obtain ⟨⟨⟨n1,n2⟩,n3⟩,n4⟩:=hn0;have e1:decide (id < (1:Int)) = false:=by simp; omega
 have e2:decide ((1048576:Int) < id) = false:=by simp; omega
 have e3:decide (ver < (1:Int)) = false:=by simp; omega
 have e4:decide ((1048576:Int) < ver) = false:=by simp; omega
 have HC:=zjp hc; have HV:=zjp hv.any; have HS:=zjp h.any; have HSh:=zjp hs;clear h hv hc hl hn hs n1 n2 n3 n4;go_enter func61,ntmps61
 go_wp2_with fail
 refine zai (fun W hW=>?_)
 have hb0:=xam hW
 have hs0:W.heap[w.heap.size]? = some (.cells #[.slice af s.fields.length cf,vt,vn,vs] 33 (0,0)):=by rw [hW]; exact zaf (zac rfl)
 have hz0:W.heap[w.heap.size + 1]? = some (.cells #[.int .i64 0,.int .i64 0,.slice none 0 0] 68 (0,0)):=by rw [hW]; exact zac (by simp)
 clear hW;refine (zd7 zav _ _ _ _ s _ (HS.out.below hb0)).mono ?_;rw [HC.out];rintro e w1 ⟨rfl,hb⟩;have hs1:=zab hb (zaa hs0) hs0; have hz1:=zab hb (zaa hz0) hz0;have HB1:=zjp (hb0.trans (hb.mono hb0.size)); have HS1:=zjp hs1; have HZ1:=zjp hz1;obtain ⟨s0,s1,s2,s3⟩:=zak hs1;clear hb hb0 hs0 hz0 hs1 hz1;go_wp2_with fail
 refine zam (fun W2 hW2=>?_)
 have hm0:MkAt w w1.heap.size (.slice af s.fields.length cf) vt vn vs id ver (.slice none 0 0) [] W2:=by
  rw [hW2];exact ⟨zaf HS1.out,zaf HZ1.out,zac rfl,⟨by simp,.inl ⟨rfl,rfl⟩⟩,HB1.out.alloc HB1.out.size _,zaa HZ1.out,by simp⟩
 have HM0:=zjp hm0;clear hW2 hm0 s0 s1 s2 s3;go_loopw [12,13,14] (fun i _ _ wr=>∃ (j:Nat) (v:Value) (C:List (List UInt8)),i = .int .i64 j∧j≤raws.length∧C.length = j∧Hid (zeu s j C (raws.drop j) = zeu s 0 [] raws)∧MkAt w w1.heap.size (.slice af s.fields.length cf) vt vn vs id ver v C wr) (fun i _ _ _=>raws.length - (intOf i).toNat)
 case atStart=>exact ⟨0,_,[],rfl,by omega,rfl,zjp rfl,HM0.out⟩
 case round =>
  obtain ⟨j,vC,C,rfl,hj,hCl,HT,hm⟩:=hrel;have HM:=zjp hm; have HCl:=zjp hCl; clear hm hCl HM0;obtain ⟨s0,s1,s2,s3⟩:=zak HM.out.s;by_cases hlt:j < raws.length
  ·have hq:decide ((j:Int) < raws.length) = true:=by simp; omega
   obtain ⟨x,hx⟩:∃ x,raws[j] = x:=⟨_,rfl⟩;have hxl:x.length≤1000000:=HSh.out x (by rw [← hx]; exact List.getElem_mem _);have hT:=HT.out;rw [List.drop_eq_getElem_cons hlt,hx,zeu] at hT;obtain ⟨b,off,rfl,hb,hc⟩:=(HV.out.below HM.out.b).get j hlt;have c0:=hc 0 _ rfl;rw [Nat.mul_one,Nat.add_zero,hx] at c0;obtain ⟨⟨y,er⟩,hp⟩:∃ p,zco s j x = p:=⟨_,rfl⟩;rw [hp] at hT;dsimp only at hT;have HT2:=zjp hT; have HPv:=zjp hp;clear hc hT hx HT hp;go_wp2_with fail
   have hbw:b < wr.heap.size:=hb;have hzs:=zaa HM.out.s;refine wp_region_noPanic ?_
   refine wp_region_held_drew (S:=(fun w'=>w'.cell? ⟨w.heap.size,0,none⟩ = some (.slice af s.fields.length cf)∧w'.cell? ⟨w.heap.size,1,none⟩ = some vt∧w'.cell? ⟨w.heap.size,2,none⟩ = some vn∧w'.cell? ⟨w.heap.size,3,none⟩ = some vs∧w'.cell? ⟨b,off + j,none⟩ = some (zal x))) (by kernel_rfl) (⟨s0,s1,s2,s3,c0⟩) (fun hHeld=>?_)
   refine tH 0 (h:=?_);refine tH 1 (h:=?_);refine tH 2 (h:=?_);refine tH 3 (h:=?_);refine tH 4 (h:=?_);refine tH 5 (h:=?_);refine wpAnyH_ready (rs:=[6]) (by kernel_rfl) (by simp) ?_
   refine AllReadyH.cons rfl (fun K hK=>?_) AllReadyH.nil
   go_simp;refine (rvalue_any zav _ vt vn vs s j ⟨x.toArray⟩ _ ((HS.out.below HM.out.b).below (Below.refl _ _).drew) (by rw [zaj]; omega)).mono ?_; rw [show (⟨x.toArray⟩:ByteArray).data.toList = x by simp,HPv.out]; unfold zds; rintro e w2 ⟨rfl,hb2⟩; have b2:=((Below.refl wr.heap.size wr).drew).trans hb2; clear hb2
   refine hK.out _ _ (⟨(b2.cell (p:=⟨w.heap.size,0,none⟩) hzs).trans s0,(b2.cell (p:=⟨w.heap.size,1,none⟩) hzs).trans s1,(b2.cell (p:=⟨w.heap.size,2,none⟩) hzs).trans s2,(b2.cell (p:=⟨w.heap.size,3,none⟩) hzs).trans s3,(b2.cell (p:=⟨b,off + j,none⟩) hbw).trans c0⟩) (fun hHeld=>?_)
   clear hK K;refine tH 7 (h:=?_);refine tH 8 (h:=?_);refine tH 9 (h:=?_);refine tH 10 (h:=?_);refine tH 11 (h:=?_);refine wpAnyH_done (by kernel_rfl) ?_ _;refine NoPanic.normal ?_;have HM2:=zjp (HM.out.below b2);clear hHeld s0 s1 s2 s3 c0 b2 HM hbw hzs hb;by_cases he:er = 0
   ·subst he
    have HT3:=zjp (show zeu s (j + 1) (C ++ [y]) (raws.drop (j + 1)) = zeu s 0 [] raws by rw [← HT2.out,if_pos rfl]);clear HT2;obtain ⟨r0,r1,r2⟩:=zao HM2.out.r;have f2:=frozen_of_row _ _ 2 _ _ HM2.out.r;have hrz:=HM2.out.lt2;have hone:∀ u∈(#[zal y]:Array Value).toList,u.oneCell' = true:=by intro u hu; simp at hu; subst hu; rfl
    have hbase:w1.heap.size + 1≤w2.heap.size:=hrz;have hown:=HM2.out.own;have HOwn:=zjp hown;clear hown;have hcl:C.length < 1099511627776:=by rw [HCl.out]; omega
    go_wp2_with (at_builtin; refine za6 rfl _ _ 28 rfl (w1.heap.size + 1) 9 1 16 (.string ⟨#[]⟩) underlying28 zdv rfl (by decide) (by decide) _ _ _ rfl HOwn.out #[zal y] 1 rfl rfl hone hcl hbase ?_; intro v2 w8 ho8 hw8; obtain ⟨av2,cv2,rfl⟩:=zau ho8; have hr8:=(hw8 w2 (Below.refl _ _)).block w1.heap.size (Nat.lt_succ_self _) |>.trans HM2.out.r; obtain ⟨q0,q1,q2⟩:=zao hr8; have g2:=frozen_of_row _ _ 2 _ _ hr8; have y8:=zaa hr8)
    have HW8:=zjp (hw8 w2 (Below.refl _ _)); have HO8:=zjp ho8; have HR8:=zjp hr8;clear hw8 ho8 hr8;have hlt:=HM2.out.lt;go_roundw
    case rel =>
     refine ⟨j + 1,.slice av2 (C.length + 1) cv2,C ++ [y],by go_num,by omega,by rw [List.length_append,HCl.out]; rfl,HT3,?_⟩;refine ⟨zan ((HW8.out.block w.heap.size (by omega)).trans HM2.out.s) (by show w.heap.size≠w1.heap.size; omega),zan ((HW8.out.block (w.heap.size + 1) (by omega)).trans HM2.out.z) (by show w.heap.size + 1≠w1.heap.size; omega),zad (i:=2) HR8.out,?_,?_,hlt,by simpa [World.setCell] using y8⟩
     ·rw [List.length_append,List.flatMap_append]
      exact own_same HO8.out fun g h1 h2=>heap_setCell_other _ _ _ _ (by show g≠w1.heap.size; omega)
     ·exact (HM2.out.b.trans (HW8.out.mono (by omega))).setCell (p:=⟨w1.heap.size,2,none⟩) (by show w.heap.size≤w1.heap.size; omega) _
    case measure=>simp [intOf]; omega
   ·have hne2:(er != 0) = true:=by simpa using he
    have hR:R = (noRec,er):=by rw [HMK.out,← HT2.out,if_neg he,if_neg he]
    have HRR:=zjp hR;obtain ⟨z0,z1,z2⟩:=zao HM2.out.z;have f0:=frozen_of_row _ _ 0 _ _ HM2.out.z; have f1:=frozen_of_row _ _ 1 _ _ HM2.out.z; have f2:=frozen_of_row _ _ 2 _ _ HM2.out.z;have yz:=zaa HM2.out.z;clear hR he HT2;go_wp2_with fail
    rw [HRR.out]
    exact zah rfl rfl (zad (i:=2) (v:=.slice none 0 0) (zad (i:=1) (v:=.int .i64 0) (zad (i:=0) (v:=.int .i64 0) HM2.out.z))) underlying68 rfl (by kernel_rfl)
     ⟨_,rfl,⟨_,rfl,Vec.nil _ _ _ _⟩,((HM2.out.b.setCell (p:=⟨w.heap.size + 1,0,none⟩) (Nat.le_succ _) _).setCell (p:=⟨w.heap.size + 1,1,none⟩) (Nat.le_succ _) _).setCell (p:=⟨w.heap.size + 1,2,none⟩) (Nat.le_succ _) _⟩
  ·have hq:decide ((j:Int) < raws.length) = false:=by simp; omega
   obtain rfl:j = raws.length:=by omega
   have hT:=HT.out;rw [List.drop_length,zeu] at hT;have hR:R = (⟨id,ver,C⟩,0):=by rw [HMK.out,← hT,if_pos rfl]
   have HRR:=zjp hR;have hlt:=HM.out.lt;obtain ⟨z0,z1,z2⟩:=zao HM.out.z;obtain ⟨r0,r1,r2⟩:=zao HM.out.r;have f0:=frozen_of_row _ _ 0 _ _ HM.out.z; have f1:=frozen_of_row _ _ 1 _ _ HM.out.z; have f2:=frozen_of_row _ _ 2 _ _ HM.out.z;have yz:=zaa HM.out.z;obtain ⟨aC,cC,hvC⟩:=zau HM.out.own;subst hvC;clear hR hT HT s0 s1 s2 s3;go_wp2_with fail
   rw [HRR.out]
   refine zah rfl rfl (zad (i:=2) (v:=.slice aC C.length cC) (zad (i:=1) (v:=.int .i64 ver) (zad (i:=0) (v:=.int .i64 id) HM.out.z))) underlying68 rfl (by kernel_rfl)
    ⟨_,rfl,⟨_,rfl,?_⟩,((HM.out.b.setCell (p:=⟨w.heap.size + 1,0,none⟩) (Nat.le_succ _) _).setCell (p:=⟨w.heap.size + 1,1,none⟩) (Nat.le_succ _) _).setCell (p:=⟨w.heap.size + 1,2,none⟩) (Nat.le_succ _) _⟩
   have hown:=own_same (w':=((wr.setCell ⟨w.heap.size + 1,0,none⟩ (.int .i64 id)).setCell ⟨w.heap.size + 1,1,none⟩ (.int .i64 ver)).setCell ⟨w.heap.size + 1,2,none⟩ (.slice aC C.length cC)) HM.out.own fun g h1 h2=>((heap_setCell_other _ _ _ _ (by show g≠w.heap.size + 1; omega)).trans (heap_setCell_other _ _ _ _ (by show g≠w.heap.size + 1; omega))).trans (heap_setCell_other _ _ _ _ (by show g≠w.heap.size + 1; omega))
   exact Vec.owns (k:=1) (enc:=zba) (fun _=>rfl) hown (fun b h1 _=>by show w.heap.size≤b; omega)
end
section
open Go.RowKit Cal
attribute [local go_sem] zag zaj za7
theorem SchemaAt.moved {D:Nat} {w w':World} {S:Nat→Prop} {vf vt vn vs:Value} {s:SchemaL} (h:SchemaAt w S vf vt vn vs s) (hS:∀ b,S b→b≠D) (m:Moved D w w'):SchemaAt w' S vf vt vn vs s :=
 have mv:∀ b,b < w.heap.size→S b→w'.heap[b]? = w.heap[b]?∧S b:=fun b hb hs=>⟨m.grown.block b hb (by have:=hS b hs; simp; omega),hs⟩
 ⟨h.1.move m.size mv,h.2.1.move m.size mv,h.2.2.1.move m.size mv,h.2.2.2.move m.size mv⟩
theorem fields_cell {w:World} {S:Nat→Prop} {a:Option Addr} {n cap:Nat} {F:List F2} (h:Vec w S 2 encF (.slice a n cap) F) (h0:0 < F.length):∃ b off,a = some ⟨b,off,none⟩∧S b∧b < w.heap.size∧∀ j,j < F.length→w.cell? ⟨b,off + j * 2 + 1,none⟩ = some (.int .i64 (F.getD j default).2):=by
 obtain ⟨b,off,e,hS,hb,hc⟩:=zck h h0;exact ⟨b,off,e,hS,hb,fun j hj=>hc j hj 1 _ rfl⟩
structure Drawn (D:Nat) (w:World) (y:Nat) (S:Nat→Prop) (vf vt vn vs:Value) (s:SchemaL) (b o:Nat) (kf:Int) (wr:World):Prop where
 m:Moved D w wr
 x:wr.heap[y]? = some (.cells #[vf,vt,vn,vs] 33 (0,0))
 s:SchemaAt wr S vf vt vn vs s
 c:wr.cell? ⟨b,o,none⟩ = some (.int .i64 kf)
 ne:∀ b,S b→b≠D
 yD:y≠D
 bD:b≠D
end
section
open Go.RowKit Cal
attribute [local go_sem] zag zaj za7
theorem makeA_short (s:SchemaL) (raws:List (List UInt8)):∀ i C,(∀ x∈C,x.length≤64)→∀ x∈(zeu s i C raws).1,x.length≤64:=by
 induction raws with
 | nil=>intro i C h; simpa [zeu] using h
 | cons y l ih =>
  intro i C h;unfold zeu;split
  ·refine ih _ _ fun x hx=>?_
   rcases List.mem_append.1 hx with h1 | h1
   ·exact h x h1
   ·simp at h1; subst h1; exact (valueN_form s i y).1
  ·intro x hx; simp at hx
theorem Vec.far {α:Type} {w:World} {S:Nat→Prop} {k:Nat} {enc:α→List Value} {v:Value} {L:List α} (h:Vec w S k enc v L) {a:Addr} {u:Value} (hn:∀ b,S b→b≠a.block):Vec (w.setCell a u) S k enc v L :=
 h.move (by simp [World.setCell]) fun b _ hs=>⟨heap_setCell_other _ _ _ _ (hn b hs),hs⟩
theorem oneS:∀ x:List UInt8,∀ u∈zba x,u.oneCell' = true:=by intro x u hu; simp [zba] at hu; subst hu; rfl
theorem rec_made {s:SchemaL} {id ver:Int} {raws:List (List UInt8)} {r:RecL} (h:makeN s id ver raws = (r,0)):r.id = id∧zdj s r = 0∧∀ x∈r.vals,x.length≤64:=by
 obtain ⟨h1,h2,h3,h4,h5,_,h7,h8,_⟩:=makeN_ok h;refine ⟨h2,checkN_of h1 (by rw [h2,h3]; exact h4) h5 h7,?_⟩;rw [h8];exact makeA_short s raws 0 [] (by simp)
theorem rec_none {s:SchemaL} {id:Int} (h:zax s = 0) (h1:1≤id) (h2:id≤1048576):zdj s ⟨id,1,List.replicate s.fields.length []⟩ = 0 :=
 checkN_of h (by simp [zbl,h1,h2]) (by simp) (none_norm h)
theorem made_strings (m:Nat):madeCells #[.string ⟨#[]⟩] m = ((List.replicate m ([]:List UInt8)).flatMap zba).toArray:=by
 apply Array.ext'
 have:∀ k,(List.replicate k ([]:List UInt8)).flatMap zba = List.replicate k (.string ⟨#[]⟩):=by
  intro k; induction k with
  | zero=>rfl
  | succ k ih=>rw [List.replicate_succ,List.flatMap_cons,ih]; rfl
 rw [this];unfold madeCells;rw [Array.toList_map,Array.toList_range]
 refine List.ext_getElem (by simp) fun i h1 h2=>?_
 simp [Nat.mod_one]
def RecordPost (D:Nat) (s:SchemaL) (id:Int) (w:World) (e:Ending) (w':World):Prop:=∃ v r,e = .returned v∧RecVal w' (fun b=>w.heap.size≤b) v r∧r.id = id∧zdj s r = 0∧(∀ x∈r.vals,x.length≤64)∧Moved D w w'
theorem record_deal (D:Nat) (S:Nat→Prop) (vf vt vn vs:Value) (s:SchemaL) (id:Int) (w:World) (h:DeckAt w D) (hs:SchemaAt w S vf vt vn vs s) (hS:∀ b,S b→b≠D) (hd:SchemaD s) (h1:1≤id) (h2:id≤1048576) :
  Calls prog 35 #[.pointer (some ⟨D,0,none⟩),.agg #[vf,vt,vn,vs],.int .i64 id] w (RecordPost D s id w):=by
 have zD:=h.lt;have M0:=zjp (Moved.start h); clear h;obtain ⟨af,cf,rfl⟩:=hs.1.slice;have h5:=hd.fields.len;have HS:=zjp hs; have HSD:=zjp hd; have HSne:=zjp hS;clear hs hd hS;go_enter func35,ntmps35
 go_wp2_with fail
 refine zam (fun W hW=>?_)
 have hm:Moved D w W:=by rw [hW]; exact (M0.out.alloc _).alloc _
 have hb0:=xam hW
 have hs0:W.heap[w.heap.size]? = some (.cells #[.slice af s.fields.length cf,vt,vn,vs] 33 (0,0)):=by rw [hW]; exact zaf (zac rfl)
 have hz0:W.heap[w.heap.size + 1]? = some (.cells #[.int .i64 0,.int .i64 0,.slice none 0 0] 68 (0,0)):=by rw [hW]; exact zac (by simp)
 have hzW:W.heap.size = w.heap.size + 2:=by rw [hW]; simp
 clear hW;have HM:=zjp hm; have HS0:=zjp hs0; have HZ0:=zjp hz0; have HSW:=zjp (HS.out.below hb0); have HZW:=zjp hzW;clear hm hs0 hz0 hb0 hzW;obtain ⟨n,hn⟩:∃ n,s.fields.length = n:=⟨_,rfl⟩;rw [hn] at HS0 HSW h5 ⊢;have HN:=zjp hn; clear hn;go_loopw [7,8] (fun v i wr=>∃ (j:Nat) (L:List (List UInt8)),i = .int .i64 j∧j≤n∧L.length = j∧(∀ x∈L,x.length≤64)∧OwnM D 9 1 zba W v L wr) (fun _ i _=>n - (intOf i).toNat)
 case atStart=>exact ⟨0,[],rfl,by omega,rfl,by simp,⟨by simp,.inl ⟨rfl,rfl⟩⟩,Moved.start HM.out.deck⟩
 case round =>
  obtain ⟨j,L,rfl,hj,hL,hsh,ho⟩:=hrel;have HO:=zjp ho; have HL:=zjp hL; have HSh:=zjp hsh;have hsr:=ho.2.blk (k:=w.heap.size) (by omega) HS0.out;have HSR:=zjp hsr;obtain ⟨s0,s1,s2,s3⟩:=zak hsr;have hzs:=zaa hsr;clear ho hL hsh hsr;by_cases hlt:j < n
  ·have hq:decide ((j:Int) < n) = true:=by simp; omega
   have hjs:j < s.fields.length:=by rw [HN.out]; exact hlt
   obtain ⟨b,off,eaf,hSb,hb,hc⟩:=fields_cell HSW.out.1 (by omega);cases eaf;have hbD:=HSne.out b hSb;have kc:=(World.cell?_of_block (w:=W) (a:=⟨b,off + j * 2 + 1,none⟩) (HO.out.2.grown.block b hb (by simp; omega))).trans (hc j hjs);obtain ⟨kf,hkf⟩:∃ kf,(s.fields.getD j default).2 = kf:=⟨_,rfl⟩;rw [hkf] at kc;have hjn:(j:Int) < (n:Int):=by omega
   clear hc hkf hjs hSb;go_wp2_with fail
   refine (raw_deal D kf _ HO.out.2.deck).mono ?_;rintro e w1 ⟨x,rfl,hx,mv⟩;have HX:=zjp hx;have HO1:=zjp (HO.out.moved (mv.alloc (.cells #[zal x] 9)));have HR1:=zjp (show zcn (w1.alloc (.cells #[zal x] 9)) 1 (.slice (some ⟨w1.heap.size,0,none⟩) 1 1) [x].length ([x].flatMap zba) from za2 (t:=9) (fr:=(0,0)) (zac rfl) rfl)
   have hsh2:∀ y∈L ++ [x],y.length≤64:=by
    intro y hy
    rcases List.mem_append.1 hy with h | h
    ·exact HSh.out y h
    ·simp at h; subst h; exact hx
   have HSh2:=zjp hsh2;have hcn:L.length + [x].length≤1000000000:=by rw [HL.out]; simp only [List.length_cons,List.length_nil]; omega
   clear hx mv hsh2;go_wp2_with (at_builtin; refine zeg rfl (.tmp 18) (.tmp 27) 28 rfl D 9 (.string ⟨#[]⟩) 1 16 zba (fun _=>rfl) oneS underlying28 zdv rfl (by decide) (by decide) (wA:=W) (v:=u7) (A:=L) (B:=[x]) rfl HO1.out rfl HR1.out hcn ?_; intro v4 w4 ho4 hk4)
   go_roundw
   case rel=>exact ⟨j + 1,L ++ [x],by go_num,by omega,by rw [List.length_append,HL.out]; rfl,HSh2.out,ho4⟩
   case measure=>simp [intOf]; omega
  ·have hq:decide ((j:Int) < n) = false:=by simp; omega
   obtain rfl:j = n:=by omega
   have HV:=zjp (Vec.owns (k:=1) (enc:=zba) (S:=fun b=>W.heap.size≤b) (fun _=>rfl) HO.out.1 (fun b hb _=>hb))
   obtain ⟨aL,cL,hvL⟩:=zau HO.out.1;subst hvL;have HSr:=zjp (HSW.out.moved HSne.out HO.out.2);have hneD:w.heap.size≠D:=by omega
   have mD:Moved D wr wr.drew:=(Moved.start HO.out.2.deck).drew;go_wp2_with fail
   go_cut [9,10] (fun s9 s10 wx=>∃ (rb:Nat) (er y:Int) (sv:Value) (r:RecL),s9 = .pointer (some ⟨rb,0,none⟩)∧s10 = .int .i64 er∧wx.heap[rb]? = some (.cells #[.int .i64 r.id,.int .i64 r.ver,sv] 68 (0,0))∧Vec wx (fun b=>w.heap.size + 2≤b) 1 zba sv r.vals∧Hid (makeN s id (1 + y) L = (r,er))∧0≤y∧y < 3∧Moved D wr wx∧wr.heap.size≤rb)
   case first =>
    refine wp_region_noPanic ?_
    refine zat (by kernel_rfl) (fun w'=>w'.cell? ⟨w.heap.size,0,none⟩ = some (.slice af j cf)∧w'.cell? ⟨w.heap.size,1,none⟩ = some vt∧w'.cell? ⟨w.heap.size,2,none⟩ = some vn∧w'.cell? ⟨w.heap.size,3,none⟩ = some vs) 12 (⟨s0,s1,s2,s3⟩) (fun hHeld=>?_)
    refine tK 0 (h:=?_);refine tK 1 (h:=?_);refine tK 2 (h:=?_);refine tK 5 (h:=?_);refine zbf (rs:=[3,10]) (by kernel_rfl) (by simp) ?_
    refine AllReadyK.cons rfl (fun K hK=>?_) (AllReadyK.cons rfl (fun K hK=>?_) AllReadyK.nil)
    focus
     go_simp;refine (zc0 D _ 3 mD.deck (by omega) (by omega)).mono ?_;rintro e W1 ⟨y,rfl,y0,y1,mv⟩;have m1:=mD.trans mv;clear mv;have hwy:IntKind.i64.wrap (1 + y) = 1 + y:=by rw [IntKind.wrap_i64]; omega
     refine zbe hK (⟨(zak (m1.blk (k:=w.heap.size) hneD HSR.out)).1,(zak (m1.blk (k:=w.heap.size) hneD HSR.out)).2.1,(zak (m1.blk (k:=w.heap.size) hneD HSR.out)).2.2.1,(zak (m1.blk (k:=w.heap.size) hneD HSR.out)).2.2.2⟩) (fun hHeld=>?_)
     clear hK K;refine tK 4 (h:=?_);refine zbf (rs:=[6,10]) (by kernel_rfl) (by simp) ?_
     refine AllReadyK.cons rfl (fun K hK=>?_) (AllReadyK.cons rfl (fun K hK=>?_) AllReadyK.nil)
     focus
      go_simp;have hnum:zbl id (1 + y) = true:=by simp [zbl]; omega
      obtain ⟨⟨r,er⟩,hR⟩:∃ R,makeN s id (1 + y) L = R:=⟨_,rfl⟩;have hmk:=rmake_yes S _ (.slice af j cf) vt vn vs s id (1 + y) L (.slice aL L.length cL) _ (HSr.out.moved HSne.out m1) (HV.out.move (S':=fun b=>W.heap.size≤b) m1.size fun b hb hs=>⟨m1.grown.block b hb (by have hs':W.heap.size≤b:=hs; have h3:=HZW.out; have h4:=zD; simp; omega),hs⟩) HSD.out.check (HL.out.trans HN.out.symm) hnum (fun x hx=>by have:=HSh.out x hx; omega)
      rw [hR] at hmk;refine hmk.mono ?_;rintro e W2 ⟨_,rfl,⟨sv,rfl,hvv⟩,hb⟩;have m2:=m1.below hb;have hvv2:=hvv.move (w':=W2) (S':=fun b=>w.heap.size + 2≤b) xnl fun b hb' hs=>⟨rfl,by have h1:=m1.size; have h2:=HO.out.2.size; have h3:=HZW.out; have hs':=hs; omega⟩
      obtain ⟨asv,csv,esv⟩:=hvv2.slice; subst esv;have HRR:=zjp hR;clear hb hvv hmk hR
      refine zbe hK (⟨(zak (m2.blk (k:=w.heap.size) hneD HSR.out)).1,(zak (m2.blk (k:=w.heap.size) hneD HSR.out)).2.1,(zak (m2.blk (k:=w.heap.size) hneD HSR.out)).2.2.1,(zak (m2.blk (k:=w.heap.size) hneD HSR.out)).2.2.2⟩) (fun hHeld=>?_)
      clear hK K;refine tK 7 (h:=?_);refine tK 8 (h:=?_);refine tK 9 (h:=?_)
      refine xrK 10 rfl fun K hK=>?_
      go_simp
      refine zbe hK (⟨(zak ((m2.alloc _).blk (k:=w.heap.size) hneD HSR.out)).1,(zak ((m2.alloc _).blk (k:=w.heap.size) hneD HSR.out)).2.1,(zak ((m2.alloc _).blk (k:=w.heap.size) hneD HSR.out)).2.2.1,(zak ((m2.alloc _).blk (k:=w.heap.size) hneD HSR.out)).2.2.2⟩) (fun hHeld=>?_)
      clear hK K
      refine zbi (fun W3 hW3=>?_)
      have m3:Moved D wr W3:=by rw [hW3]; exact m2.alloc (.cells #[.int .i64 0,.int .i64 0,.slice none 0 0] 68)
      have gb:W3.heap[W2.heap.size]? = some (.cells #[.int .i64 0,.int .i64 0,.slice none 0 0] 68 (0,0)):=by rw [hW3]; exact zac rfl
      have hrb:wr.heap.size≤W2.heap.size:=m2.size;have HX3:∀ b,b < W2.heap.size→W3.heap[b]? = W2.heap[b]?:=by rw [hW3]; exact fun b hb=>heap_alloc_old _ _ hb
      have hnrb:w.heap.size≠W2.heap.size:=by have:=hzs; omega
      clear hW3 hHeld;have hHeld:W3.cell? ⟨w.heap.size,0,none⟩ = some (.slice af j cf)∧W3.cell? ⟨w.heap.size,1,none⟩ = some vt∧W3.cell? ⟨w.heap.size,2,none⟩ = some vn∧W3.cell? ⟨w.heap.size,3,none⟩ = some vs:=⟨(zak (m3.blk (k:=w.heap.size) hneD HSR.out)).1,(zak (m3.blk (k:=w.heap.size) hneD HSR.out)).2.1,(zak (m3.blk (k:=w.heap.size) hneD HSR.out)).2.2.1,(zak (m3.blk (k:=w.heap.size) hneD HSR.out)).2.2.2⟩;have hvv3:=hvv2.move (w':=W3) (S':=fun b=>w.heap.size + 2≤b∧b≠W2.heap.size) (by have h9:=zaa gb; omega) fun b hb' hs=>⟨HX3 b hb',hs,by omega⟩
     rotate_left 1
     focus
      go_simp
      refine zbe hK (⟨(zak ((m1.alloc _).blk (k:=w.heap.size) hneD HSR.out)).1,(zak ((m1.alloc _).blk (k:=w.heap.size) hneD HSR.out)).2.1,(zak ((m1.alloc _).blk (k:=w.heap.size) hneD HSR.out)).2.2.1,(zak ((m1.alloc _).blk (k:=w.heap.size) hneD HSR.out)).2.2.2⟩) (fun hHeld=>?_)
      clear hK K
      refine zbi (fun W2 hW2=>?_)
      have m2:Moved D wr W2:=by rw [hW2]; exact m1.alloc (.cells #[.int .i64 0,.int .i64 0,.slice none 0 0] 68)
      have gb:W2.heap[W1.heap.size]? = some (.cells #[.int .i64 0,.int .i64 0,.slice none 0 0] 68 (0,0)):=by rw [hW2]; exact zac rfl
      have hrb:wr.heap.size≤W1.heap.size:=m1.size;have HX2:∀ b,b < W1.heap.size→W2.heap[b]? = W1.heap[b]?:=by rw [hW2]; exact fun b hb=>heap_alloc_old _ _ hb
      have hnrb:w.heap.size≠W1.heap.size:=by have:=hzs; omega
      clear hW2 hHeld;have hHeld:W2.cell? ⟨w.heap.size,0,none⟩ = some (.slice af j cf)∧W2.cell? ⟨w.heap.size,1,none⟩ = some vt∧W2.cell? ⟨w.heap.size,2,none⟩ = some vn∧W2.cell? ⟨w.heap.size,3,none⟩ = some vs:=⟨(zak (m2.blk (k:=w.heap.size) hneD HSR.out)).1,(zak (m2.blk (k:=w.heap.size) hneD HSR.out)).2.1,(zak (m2.blk (k:=w.heap.size) hneD HSR.out)).2.2.1,(zak (m2.blk (k:=w.heap.size) hneD HSR.out)).2.2.2⟩
      refine xrK 6 rfl fun K hK=>?_
      go_simp;have hlt0:W1.heap.size < _:=zaa gb;have hnum:zbl id (1 + y) = true:=by simp [zbl]; omega
      obtain ⟨⟨r,er⟩,hR⟩:∃ R,makeN s id (1 + y) L = R:=⟨_,rfl⟩;have hmk:=rmake_yes S _ (.slice af j cf) vt vn vs s id (1 + y) L (.slice aL L.length cL) _ (HSr.out.moved HSne.out m2) (HV.out.move (S':=fun b=>W.heap.size≤b) m2.size fun b hb hs=>⟨m2.grown.block b hb (by have hs':W.heap.size≤b:=hs; have h3:=HZW.out; have h4:=zD; simp; omega),hs⟩) HSD.out.check (HL.out.trans HN.out.symm) hnum (fun x hx=>by have:=HSh.out x hx; omega)
      rw [hR] at hmk;refine hmk.mono ?_;rintro e W3 ⟨_,rfl,⟨sv,rfl,hvv⟩,hb⟩;have m3:=m2.below hb;have gb:=zab hb (zaa gb) gb;have hvv2:=hvv.move (w':=W3) (S':=fun b=>w.heap.size + 2≤b∧b≠W1.heap.size) xnl fun b hb' hs=>⟨rfl,by have h1:=m2.size; have h2:=HO.out.2.size; have h3:=HZW.out; have hs':=hs; exact ⟨by omega,by omega⟩⟩
      obtain ⟨asv,csv,esv⟩:=hvv2.slice; subst esv;have HRR:=zjp hR;clear hb hvv hmk hR
      refine zbe hK (⟨(zak (m3.blk (k:=w.heap.size) hneD HSR.out)).1,(zak (m3.blk (k:=w.heap.size) hneD HSR.out)).2.1,(zak (m3.blk (k:=w.heap.size) hneD HSR.out)).2.2.1,(zak (m3.blk (k:=w.heap.size) hneD HSR.out)).2.2.2⟩) (fun hHeld=>?_)
      clear hK K;refine tK 7 (h:=?_);refine tK 8 (h:=?_);refine tK 9 (h:=?_);have hvv3:=hvv2
    rotate_left 2
    focus
     go_simp
     refine zbe hK (⟨(zak ((mD.alloc _).blk (k:=w.heap.size) hneD HSR.out)).1,(zak ((mD.alloc _).blk (k:=w.heap.size) hneD HSR.out)).2.1,(zak ((mD.alloc _).blk (k:=w.heap.size) hneD HSR.out)).2.2.1,(zak ((mD.alloc _).blk (k:=w.heap.size) hneD HSR.out)).2.2.2⟩) (fun hHeld=>?_)
     clear hK K
     refine zbi (fun W1 hW1=>?_)
     have m1:Moved D wr W1:=by rw [hW1]; exact mD.alloc (.cells #[.int .i64 0,.int .i64 0,.slice none 0 0] 68)
     have gb:W1.heap[wr.heap.size]? = some (.cells #[.int .i64 0,.int .i64 0,.slice none 0 0] 68 (0,0)):=by rw [hW1]; exact zac rfl
     have hrb:wr.heap.size≤wr.heap.size:=mD.size;have HX1:∀ b,b < wr.heap.size→W1.heap[b]? = wr.heap[b]?:=by rw [hW1]; exact fun b hb=>heap_alloc_old _ _ hb
     have hnrb:w.heap.size≠wr.heap.size:=by have:=hzs; omega
     clear hW1 hHeld;have hHeld:W1.cell? ⟨w.heap.size,0,none⟩ = some (.slice af j cf)∧W1.cell? ⟨w.heap.size,1,none⟩ = some vt∧W1.cell? ⟨w.heap.size,2,none⟩ = some vn∧W1.cell? ⟨w.heap.size,3,none⟩ = some vs:=⟨(zak (m1.blk (k:=w.heap.size) hneD HSR.out)).1,(zak (m1.blk (k:=w.heap.size) hneD HSR.out)).2.1,(zak (m1.blk (k:=w.heap.size) hneD HSR.out)).2.2.1,(zak (m1.blk (k:=w.heap.size) hneD HSR.out)).2.2.2⟩
     refine xrK 3 rfl fun K hK=>?_
     go_simp;refine (zc0 D _ 3 m1.deck (by omega) (by omega)).mono ?_;rintro e W2 ⟨y,rfl,y0,y1,mv⟩;have m2:=m1.trans mv;have gb:=mv.blk (by have:=zD; omega) gb;clear mv;have hwy:IntKind.i64.wrap (1 + y) = 1 + y:=by rw [IntKind.wrap_i64]; omega
     refine zbe hK (⟨(zak (m2.blk (k:=w.heap.size) hneD HSR.out)).1,(zak (m2.blk (k:=w.heap.size) hneD HSR.out)).2.1,(zak (m2.blk (k:=w.heap.size) hneD HSR.out)).2.2.1,(zak (m2.blk (k:=w.heap.size) hneD HSR.out)).2.2.2⟩) (fun hHeld=>?_)
     clear hK K;refine tK 4 (h:=?_)
     refine xrK 6 rfl fun K hK=>?_
     go_simp;have hlt0:wr.heap.size < _:=zaa gb;have hnum:zbl id (1 + y) = true:=by simp [zbl]; omega
     obtain ⟨⟨r,er⟩,hR⟩:∃ R,makeN s id (1 + y) L = R:=⟨_,rfl⟩;have hmk:=rmake_yes S _ (.slice af j cf) vt vn vs s id (1 + y) L (.slice aL L.length cL) _ (HSr.out.moved HSne.out m2) (HV.out.move (S':=fun b=>W.heap.size≤b) m2.size fun b hb hs=>⟨m2.grown.block b hb (by have hs':W.heap.size≤b:=hs; have h3:=HZW.out; have h4:=zD; simp; omega),hs⟩) HSD.out.check (HL.out.trans HN.out.symm) hnum (fun x hx=>by have:=HSh.out x hx; omega)
     rw [hR] at hmk;refine hmk.mono ?_;rintro e W3 ⟨_,rfl,⟨sv,rfl,hvv⟩,hb⟩;have m3:=m2.below hb;have gb:=zab hb (zaa gb) gb;have hvv2:=hvv.move (w':=W3) (S':=fun b=>w.heap.size + 2≤b∧b≠wr.heap.size) xnl fun b hb' hs=>⟨rfl,by have h1:=m2.size; have h2:=HO.out.2.size; have h3:=HZW.out; have hs':=hs; exact ⟨by omega,by omega⟩⟩
     obtain ⟨asv,csv,esv⟩:=hvv2.slice; subst esv;have HRR:=zjp hR;clear hb hvv hmk hR
     refine zbe hK (⟨(zak (m3.blk (k:=w.heap.size) hneD HSR.out)).1,(zak (m3.blk (k:=w.heap.size) hneD HSR.out)).2.1,(zak (m3.blk (k:=w.heap.size) hneD HSR.out)).2.2.1,(zak (m3.blk (k:=w.heap.size) hneD HSR.out)).2.2.2⟩) (fun hHeld=>?_)
     clear hK K;refine tK 7 (h:=?_);refine tK 8 (h:=?_);refine tK 9 (h:=?_);have hvv3:=hvv2
    all_goals
     obtain ⟨c0,c1,c2⟩:=zao gb; have f0:=frozen_of_row _ _ 0 _ _ gb; have f1:=frozen_of_row _ _ 1 _ _ gb; have f2:=frozen_of_row _ _ 2 _ _ gb; have za:=zaa gb;have hsx:=zan (a:=⟨_,2,none⟩) (v:=.slice asv r.vals.length csv) (zan (a:=⟨_,1,none⟩) (v:=.int .i64 r.ver) (zan (a:=⟨_,0,none⟩) (v:=.int .i64 r.id) (m3.blk (k:=w.heap.size) hneD HSR.out) hnrb) hnrb) hnrb
     refine xrK 11 rfl fun K hK=>?_
     go_simp
     refine zbe hK (⟨(zak hsx).1,(zak hsx).2.1,(zak hsx).2.2.1,(zak hsx).2.2.2⟩) (fun hHeld=>?_)
     clear hK K
     refine xrK 12 rfl fun K hK=>?_
     go_simp;refine zas hK (by decide) ?_;clear hK K;refine zar (by kernel_rfl) ?_ _;refine NoPanic.normal ?_;go_wp2_with fail
     go_meet;exact ⟨_,er,y,_,r,rfl,rfl,zad (zad (zad gb)),(((hvv3.far (fun b hb=>hb.2)).far (fun b hb=>hb.2)).far (fun b hb=>hb.2)).weaken (fun b hb=>hb.1),HRR,y0,y1,((m3.set hrb _).set hrb _).set hrb _,hrb⟩
   case rest =>
    obtain ⟨rb,er,y,sv,r,rfl,rfl,grb,hvr,HRR,y0,y1,mw,hrb⟩:=hcut;obtain ⟨asv,csv,rfl⟩:=hvr.slice;have hsz:=mw.blk (k:=w.heap.size) hneD HSR.out;have hres:=mw.blk (k:=w.heap.size + 1) (by omega) (HO.out.2.blk (k:=w.heap.size + 1) (by omega) HZ0.out);have hn1:rb≠w.heap.size + 1:=by have h1:=HO.out.2.size; have h2:=HZW.out; omega
    have lr:=zaa hres; have lb:=zaa grb; have lz:=zaa hsz;have HRES:=zjp hres; have HMW:=zjp (HM.out.trans (HO.out.2.trans mw)); have HVR:=zjp hvr; have HGRB:=zjp grb;obtain ⟨z0,z1,z2⟩:=zao hres; have f0:=frozen_of_row _ _ 0 _ _ hres; have f1:=frozen_of_row _ _ 1 _ _ hres; have f2:=frozen_of_row _ _ 2 _ _ hres;obtain ⟨c0,c1,c2⟩:=zao grb; have g0:=frozen_of_row _ _ 0 _ _ grb; have g1:=frozen_of_row _ _ 1 _ _ grb; have g2:=frozen_of_row _ _ 2 _ _ grb;clear s0 s1 s2 s3;obtain ⟨s0,s1,s2,s3⟩:=zak hsz;clear hsz hres grb hvr mw mD;by_cases he:er = 0
    ·subst he
     have d0:((0:Int) != 0) = false:=rfl;have HMd:=zjp (rec_made HRR.out);clear g0 g1 g2;go_wp2_with fail
     exact za4 rfl rfl (zad (i:=2) (zad (i:=1) (zad (i:=0) HRES.out))) underlying68 rfl (by kernel_rfl)
      ⟨_,r,rfl,⟨_,rfl,(((HVR.out.far (fun b hb=>by show b≠w.heap.size + 1; have hb':w.heap.size + 2≤b:=hb; omega)).far (fun b hb=>by show b≠w.heap.size + 1; have hb':w.heap.size + 2≤b:=hb; omega)).far (fun b hb=>by show b≠w.heap.size + 1; have hb':w.heap.size + 2≤b:=hb; omega)).weaken (fun b hb=>by have hb':w.heap.size + 2≤b:=hb; show w.heap.size≤b; omega)⟩,HMd.out.1,HMd.out.2.1,HMd.out.2.2,
       ((HMW.out.set (a:=⟨w.heap.size + 1,0,none⟩) (Nat.le_succ _) _).set (a:=⟨w.heap.size + 1,1,none⟩) (Nat.le_succ _) _).set (a:=⟨w.heap.size + 1,2,none⟩) (Nat.le_succ _) _⟩
    ·have d0:(er != (0:Int)) = true:=by simpa using he
     have hmk:=run_make_row' (P:=prog) 28 9 (.string ⟨#[]⟩) 16 underlying28 zdv rfl .i64 .i64 j (by omega) (by omega);rw [made_strings] at hmk;clear HVR HRR he;go_upto_region 9 with fail
     refine zam (fun W9 hW9=>?_)
     have hrw:w.heap.size≤rb:=by have h1:=HO.out.2.size; have h2:=HZW.out; omega
     have hgb:W9.heap[rb]? = some (.cells #[.int .i64 id,.int .i64 1,.slice (some ⟨wc.heap.size,0,none⟩) j j] 68 (0,0)):=by rw [hW9]; exact zaf (zad (i:=2) (zad (i:=1) (zad (i:=0) HGRB.out)))
     have hg9:W9.heap[wc.heap.size]? = some (.cells ((List.replicate j ([]:List UInt8)).flatMap zba).toArray 9 (0,0)):=by rw [hW9]; exact zac (by simp [World.setCell])
     have hr9:W9.heap[w.heap.size + 1]? = some (.cells #[.int .i64 0,.int .i64 0,.slice none 0 0] 68 (0,0)):=by rw [hW9]; exact zaf (zan (zan (zan HRES.out hn1.symm) hn1.symm) hn1.symm)
     have m9:Moved D w W9:=by rw [hW9]; exact (((HMW.out.set (a:=⟨rb,0,none⟩) hrw _).set (a:=⟨rb,1,none⟩) hrw _).set (a:=⟨rb,2,none⟩) hrw _).alloc _
     have HG9:=zjp hg9; have HR9:=zjp hr9; have HM9:=zjp m9;clear hW9 c0 c1 c2 z0 z1 z2 f0 f1 f2 g0 g1 g2 s0 s1 s2 s3 m9 hmk;obtain ⟨z0,z1,z2⟩:=zao hr9; have f0:=frozen_of_row _ _ 0 _ _ hr9; have f1:=frozen_of_row _ _ 1 _ _ hr9; have f2:=frozen_of_row _ _ 2 _ _ hr9;obtain ⟨c0,c1,c2⟩:=zao hgb;have l1:=zaa hr9; have l2:=zaa hgb;have HCk:=zjp (show zdj s ⟨id,1,List.replicate j []⟩ = 0 by rw [← HN.out]; exact rec_none HSD.out.check h1 h2);clear hr9 hgb hg9;go_wp2_with fail
     exact za4 rfl rfl (zad (i:=2) (zad (i:=1) (zad (i:=0) HR9.out))) underlying68 rfl (by kernel_rfl)
      ⟨_,⟨id,1,List.replicate j []⟩,rfl,⟨_,rfl,(((ze0 (k:=1) (enc:=zba) (L:=List.replicate j ([]:List UInt8)) (S:=fun b=>w.heap.size≤b∧b≠w.heap.size + 1) (A:=wc.heap.size) (fun _=>rfl) HG9.out ⟨by omega,by omega⟩ j (by simp)).far (fun b hb=>hb.2)).far (fun b hb=>hb.2)).far (fun b hb=>hb.2) |>.weaken (fun b hb=>hb.1)⟩,rfl,HCk.out,(by intro x hx; have:=List.eq_of_mem_replicate hx; subst this; simp),
       ((HM9.out.set (a:=⟨w.heap.size + 1,0,none⟩) (Nat.le_succ _) _).set (a:=⟨w.heap.size + 1,1,none⟩) (Nat.le_succ _) _).set (a:=⟨w.heap.size + 1,2,none⟩) (Nat.le_succ _) _⟩
end
end Go.Proofs.YtgkaafncfjlooaaGreatDoor
