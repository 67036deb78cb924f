/- Parts of one proof: AddrD, AddrE, DateDig, MakeW, SchA, SchB, SchC, SchD, SchE, SchF, SchI, SchK, SchL, SchM, GramPlain, IterL, Iter, SchG, SchH, GramA, SchN, GramC, GramB, GramD, RecPlain, EncPlain, MakeA, SipA, AppendNil. -/
import Derived.Test.YtgkaafncfjlooaaGreatDoorPartEx1
import Derived.Sort.KeysCollected
import Derived.Sort.Walk0
import Derived.Shelf.SlIter.Nil
import Derived.Shelf.SortM.Plain
import Derived.Shelf.SortM.SortNone
import Derived.Ground.GgzProg
import Derived.Ground.SlgmProg
import Derived.Maps.OwnSet
import Derived.StringKeys
import Derived.Lib.ItoaNum
import Derived.Deep.AppendLies
import Derived.Deep.RegionLaw
set_option maxHeartbeats 16000000
set_option maxRecDepth 100000
open Go.Proofs.Tryz
set_option linter.unusedSimpArgs false
set_option linter.unusedVariables false
namespace Go.Proofs.YtgkaafncfjlooaaGreatDoor
section
open Go.RowKit
attribute [local go_sem] zag zaj
def zb4 (T:List (List UInt8)):List (List UInt8):=(T.filter fun x=>!zdc x)++T.filter zdc
def zde (r:RulesL) (l:List UInt8):List UInt8 × Int :=
 if zaz r=0 then (if zdi l=true then (if 6<(zcu (zbx l)).length\/64<(za2 (zb4 ((zcu (zbx l)).map (za3 r)))).length then ([],1) else (za2 (zb4 ((zcu (zbx l)).map (za3 r))),0)) else ([],3)) else ([],zaz r)
theorem addrTok_len {r:RulesL} (h:zcg r.streets=true) (x:List UInt8) (hx:x.length<=64):(za3 r x).length<=65:=by
 unfold za3;split
 ·have:=short_len x;omega
 ·have:=canon_len h x hx;omega
theorem order2_len (T:List (List UInt8)):(zb4 T).length<=2*T.length:=by
 unfold zb4;have h1:=List.length_filter_le zdc T;have h2:=List.length_filter_le (fun x=>!zdc x) T
 simp;omega
theorem order2_mem {T:List (List UInt8)} {t:List UInt8} (h:t∈zb4 T):t∈T:=by
 unfold zb4 at h
 rcases List.mem_append.1 h with h | h
 ·exact (List.mem_filter.1 h).1
 ·exact (List.mem_filter.1 h).1
def AddrAt (w2:World) (A:Nat) (M:List (List UInt8)) (wr:World):Prop:=RowB wr A M/\Below w2.heap.size w2 wr/\w2.heap.size<=A
theorem AddrAt.below {w2 wr w':World} {A:Nat} {M:List (List UInt8)} (h:AddrAt w2 A M wr) (hb:Below wr.heap.size wr w'):AddrAt w2 A M w' :=
 ⟨zab hb (zaa h.1) h.1,h.2.1.trans (hb.mono h.2.1.size),h.2.2⟩
theorem AddrAt.set {w2 wr:World} {A:Nat} {M:List (List UInt8)} (h:AddrAt w2 A M wr) (k:Nat) (y:List UInt8):AddrAt w2 A (M.set k y) (wr.setCell ⟨A,k,none⟩ (zak y)) :=
 ⟨h.1.set k y,h.2.1.setCell h.2.2 _,h.2.2⟩
theorem addr_yes (S:Nat->Prop) (vt vn vs:Value) (r:RulesL) (s:ByteArray) (w:World) (h:RulesAt w S vt vn vs r) (hc:zaz r=0) (hv:zdi s.data.toList=true) :
  Calls prog 217 #[.agg #[vt,vn,vs],.string s] w fun e w'=>e = .returned (zdx (zde r s.data.toList))/\Below w.heap.size w w':=by
 have hs:s.size<=64:=by
  have:=zgr hv;have h2:s.data.toList.length=s.size:=by simp
  omega
 obtain ⟨⟨k1,k2,k3⟩,g1,g2,g3,g4⟩:=ze1 hc;have G3:=zjy g3;obtain ⟨d7,d6,rfl⟩:=h.2.2.slice;have HR:=zjy h.any;have HC:=zjy hc;have HV:=zjy hv;clear h hc hv g1 g2 g3 g4
 have b6:zde r s.data.toList=(if 6<(zcu (zbx s.data.toList)).length\/64<(za2 (zb4 ((zcu (zbx s.data.toList)).map (za3 r)))).length then ([],1) else (za2 (zb4 ((zcu (zbx s.data.toList)).map (za3 r))),0)):=by
  unfold zde;rw [if_pos HC.o,if_pos HV.o]
 have HF:=zjy b6;clear b6;go_enter func217,ntmps217
 go_wp2_with fail
 refine (zex zau vt vn _ r _ (HR.o.below ((Below.refl _ _).alloc xnl _))).mono ?_;rw [HC.o];rintro e w1 ⟨rfl,d5⟩;have X1:w1.heap[w.heap.size]?=some (.cells #[vt,vn,.slice d7 r.streets.length d6] 31 (0,0)):=zab d5 (by simp) (zac rfl);have d8:=zjy X1;have f7:=zjy (xbt d5);clear X1 d5;go_wp2_with fail
 refine (fold_yes s _ (by omega) HV.o).mono ?_;rintro e w2 ⟨rfl,d4⟩;have f0:=zjy (zab d4 (zaa d8.o) d8.o);have a5:=xhh f7 d4;clear d4 d8 f7;go_wp2_with fail
 have h5:(zbx s.data.toList).length<=64:=by
  have:=zg3 s.data.toList;have h2:s.data.toList.length=s.size:=by simp
  omega
 obtain ⟨fl,b1⟩:=xex (zbx s.data.toList);have c0:ascii fl:=b1 ▸ zh5 _;have HA:=zjy c0;rw [b1] at h5 HF ⊢;clear c0 b1;refine (zgk fl _ HA.o (by omega)).mono ?_;rintro e w4 ⟨A,rfl,hA,ho,e7⟩;have a8:=(own_block ho).2;have c8:∀ t∈zcu fl,t.length<=64:=fun t ht=>by have:=toks_le fl [] t ht;simp at this;omega
 have g8:(zcu fl).length<=65:=by have:=(zd3 fl []).2.1;unfold zcu;omega
 obtain ⟨T,hT⟩:=xex (zcu fl);rw [hT] at a8 c8 g8 HF ⊢;have i1:=zjy (show AddrAt w2 A T w4 from ⟨a8,e7,hA⟩);have f3:=zjy c8;have f8:=zaa f0.o;clear e7 ho a8 hT c8 hA;go_wp2_with fail
 go_loopw [33] (fun i wr=>∃ k:Nat,k<=T.length/\i = .int .i64 k/\AddrAt w2 A (midL (za3 r) T k) wr) (fun i _=>T.length - (intOf i).toNat)
 case atStart=>exact ⟨0,by omega,rfl,by simpa [midL] using i1.o⟩
 case round =>
  obtain ⟨k,hk,rfl,ho⟩:=hrel;have HO:=zjy ho;clear ho;by_cases hlt:k<T.length
  ·have hq:decide ((k:Int)<T.length)=true:=by simp;omega
   have hi:(k:Int)<(T.length:Int):=by omega
   have d0:=mid_len (za3 r) T k hk;have c1:=HO.o.1.cell k (by omega);rw [mid_get _ _ _ hlt] at c1;have g7:(T.getD k []).length<=64:=TL_get f3.o k hlt;have a7:=mid_set (za3 r) T k hlt;have a2:=mid_same (za3 r) T k hlt;have d3:za3 r (T.getD k [])=if zdc (T.getD k [])=true then zbk (T.getD k []) else zbe r.streets (T.getD k []):=rfl
   have c4:=zgv r.streets (T.getD k []);obtain ⟨x,hx⟩:=xex (T.getD k []);rw [hx] at c1 g7 a7 a2 d3 c4;have a4:=zjy a7;have a1:=zjy a2;have a6:=zjy d3;clear hx a7 a2 d3 d0;have hX:=zab HO.o.2.1 f8 f0.o;obtain ⟨p0,p1,p2⟩:=zan hX;have zX:=zaa hX;have HX:=zjy hX;clear hX;go_wp2_with fail
   have eg:∀ args w,(callFunc 238 args).run prog w = .ok (.enter 238 args) w:=enters_of func238 (by kernel_rfl) rfl
   have KI:=idxP_any (fun y=>y.1 == x) 238 #[.pointer (some ⟨wr.heap.size,0,none⟩)] eg zau (.slice d7 r.streets.length d6) r.streets (wr.alloc (.cells #[zak x] 9)) (HR.o.2.2.below (a5.o.trans (HO.o.2.1.mono a5.o.size) |>.alloc (by have:=a5.o.size;have:=HO.o.2.1.size;omega) _)) (by omega) (pred_addr x wr.heap.size _ (by simp) (by simp))
   change Calls _ _ _ _ fun e w'=>e = .returned (.int .i64 (zjn r.streets x))/\Below (wr.alloc (.cells #[zak x] 9)).heap.size (wr.alloc (.cells #[zak x] 9)) w' at KI
   obtain ⟨n,hn⟩:=xex (zjn r.streets x);rw [hn] at KI c4;refine KI.mono ?_;clear eg hn KI;rintro e w5 ⟨rfl,c6⟩;have e8:Below wr.heap.size wr (wr.alloc (.cells #[zak x] 9)):=(Below.refl _ _).alloc xnl _;have b3:=zjy ((HO.o.below e8).below c6);have e9:w5.heap[w.heap.size]?=some (.cells #[vt,vn,.slice d7 r.streets.length d6] 31 (0,0)):=zab c6 (by simp;omega) (zaf HX.o);have k0:w5.cell? ⟨wr.heap.size,0,none⟩=some (zak x):=(c6.cell (p:=⟨wr.heap.size,0,none⟩) (by simp)).trans (by simp);clear p0 p1 p2 e8 c6 HO c1;obtain ⟨p0,p1,p2⟩:=zan e9;have hAl:=zaa b3.o.1;have d0:=mid_len (za3 r) T k hk;have c5:w5.cell? ⟨A,k,none⟩=some (zak ((midL (za3 r) T k).getD k [])):=b3.o.1.cell k (by omega);have f5:w5.frozen? ⟨A,k,none⟩=false:=frozen_of_row _ _ _ _ _ b3.o.1;generalize (midL (za3 r) T k).getD k []=old at c5;clear e9 HX d0;go_wp2_with fail
   refine (ziq x _).mono ?_;rintro e w6 ⟨rfl,rfl⟩;cases hd:zdc x
   ·rw [hd,if_neg (by simp)] at a6
    clear hd
    rcases c4 with ⟨h1,h2⟩ | ⟨j,hj,h1,h2⟩
    ·rw [h2] at a6
     have HS:=zjy (a1.o a6.o);clear h2 a1 a4;go_wp2_with fail
     go_roundw
     case rel=>exact ⟨k+1,by omega,by go_num,by rw [<- HS.o];exact b3.o⟩
     case measure=>simp [intOf];omega
    ·rw [<- h2] at a6
     have HS:=zjy (a4.o _ a6.o);subst h1;obtain ⟨bs,b4,e1,_,h6,e5⟩:=zco HR.o.2.2 (by omega);have b7:=e5 j hj 1 _ rfl;subst e1;have s1:w5.cell? ⟨bs,b4+j*2+1,none⟩=some (zak (r.streets.getD j default).2):=((a5.o.trans (b3.o.2.1.mono a5.o.size)).cell (p:=⟨bs,b4+j*2+1,none⟩) h6).trans b7;obtain ⟨y,hy⟩:=xex ((r.streets.getD j default).2);rw [hy] at s1 HS;have hj':(j:Int)<(r.streets.length:Int):=by omega
     clear e5 b7 hy h2 a1 a4 a6;go_wp2_with fail
     go_roundw
     case rel=>exact ⟨k+1,by omega,by go_num,by rw [<- HS.o];exact b3.o.set k y⟩
     case measure=>simp [intOf];omega
   ·rw [hd,if_pos rfl] at a6
    have HS:=zjy (a4.o _ a6.o);clear hd a1 a4 c4;go_wp2_with fail
    refine (short_any x _ (by omega)).mono ?_;rintro e w6 ⟨rfl,rfl⟩;go_wp2_with fail
    go_roundw
    case rel=>exact ⟨k+1,by omega,by go_num,by rw [<- HS.o];exact b3.o.set k _⟩
    case measure=>simp [intOf];omega
  ·have hq:decide ((k:Int)<T.length)=false:=by simp;omega
   obtain rfl:k=T.length:=by omega
   have hm:midL (za3 r) T T.length=T.map (za3 r):=by unfold midL;simp
   rw [hm] at HO;have c7:(T.map (za3 r)).length=T.length:=by simp
   have b0:∀ t∈T.map (za3 r),t.length<=65:=by
    intro t ht;obtain ⟨x,hx,rfl⟩:=List.mem_map.1 ht;exact addrTok_len G3.o x (f3.o x hx)
   obtain ⟨M,hM⟩:=xex (T.map (za3 r));rw [hM] at HO c7 b0 HF;have h4:=join_le (zb4 M) (fun t ht=>b0 t (order2_mem ht))
   have g9:=order2_len M;have f2:=zjy (HO.o.1.vec T.length (by omega));rw [c7] at f2;have HML:=zjy c7;have f1:=zjy (HO.o.2.1.mono a5.o.size);have HW:=zjy (a5.o.trans (HO.o.2.1.mono a5.o.size))
   have c3:(za2 (zb4 M)).length<=1000000:=by
    have:(zb4 M).length*66<=130*66:=Nat.mul_le_mul_right 66 (by omega);omega
   have a9:(zb4 M).length<=1000:=by omega
   have hM2:M.length<=100:=by omega
   clear hm hM b0 h4 g9 c7 HO;go_wp2_with fail
   refine (part_any zau _ M _ f2.o (by omega)).mono ?_;rintro e w6 ⟨u,v,rfl,h2⟩;obtain ⟨o1,o2,o3,o4⟩:=h2;obtain ⟨i0,e3,g5,g0,f9⟩:=info_parts zdt;have g6:=List.length_filter_le zdc M;have h3:=List.length_filter_le (fun x=>!zdc x) M
   have a0:zb4 M=(M.filter fun x=>!zdc x)++M.filter zdc:=rfl
   obtain ⟨Y,hY⟩:=xex (M.filter zdc);obtain ⟨N,hN⟩:=xex ((M.filter fun x=>!zdc x))
   rw [hY] at o1 g6 a0;rw [hN] at o2 h3 a0;have h8:=xhh HW o4;have e6:=o4.size;have O2:=zjy o2;have h9:=zjy o4;clear hY hN o3 o4 HW
   rcases o1 with ⟨o1l,⟨rfl,h0⟩ | ⟨g,cap,cur,rfl,hg,hh,hn1,hc1,hsz,ht1⟩⟩
   ·have h7:Y=[]:=List.length_eq_zero_iff.1 h0
    subst h7;rw [List.append_nil] at a0;have e0:=zjy (Vec.owns (S:=zau) (k:=1) (enc:=za8) (fun _=>rfl) o2 (fun _ _ _=>trivial))
    clear o1l h0 o2;rw [a0] at HF c3 a9;have d9:=h8;go_wp2_with (at_builtin;refine wpList_append_own_none rfl _ _ 28 rfl _ 9 i0 1 underlying28 e3 _ _ _ rfl O2.o rfl ?_)
    refine (join_any zau _ N _ e0.o (by omega) (by omega)).mono ?_;rintro e w9 ⟨rfl,b9⟩;rw [<- a0] at HF c3 ⊢;clear a0 a9;have b2:=xhh d9 b9;clear b9;obtain ⟨J,hJ⟩:=xex (za2 (zb4 M));rw [hJ] at HF c3 ⊢;clear hJ;by_cases g1:6<T.length
    ·have d1:decide ((6:Int)<T.length)=true:=by simp;omega
     rw [if_pos (.inl g1)] at HF;go_wp2_with fail
     go_ret2;exact ⟨by rw [HF.o];rfl,b2.o⟩
    ·have d1:decide ((6:Int)<T.length)=false:=by simp;omega
     by_cases g2:64<J.length
     ·have d2:decide ((64:Int)<J.length)=true:=by simp;omega
      rw [if_pos (.inr g2)] at HF;go_wp2_with fail
      go_ret2;exact ⟨by rw [HF.o];rfl,b2.o⟩
     ·have d2:decide ((64:Int)<J.length)=false:=by simp;omega
      rw [if_neg (by omega)] at HF;go_wp2_with fail
      go_ret2;exact ⟨by rw [HF.o];rfl,b2.o⟩
   ·have a3:∀ j u,(Y.flatMap za8)[j]?=some u->w6.cell? ((⟨g,0,none⟩:Addr).add j)=some u:=by
     intro j u hu;have:(⟨g,0,none⟩:Addr).add j=⟨g,j,none⟩:=by unfold Addr.add;split <;> simp_all
     rw [this,cell_of_row _ _ _ _ _ _ hh];rw [<- ht1,List.getElem?_take] at hu;split at hu
     ·rw [<- Array.getElem?_toList];exact hu
     ·cases hu
    have f6:=zjy a3
    have b5:∀ u∈Y.flatMap za8,u.oneCell'=true:=by
     intro u hu;obtain ⟨y,_,hy⟩:=List.mem_flatMap.1 hu;simp at hy;subst hy;rfl
    have c2:=zjy b5;have hYb:N.length+Y.length<=1000:=by omega
    have e2:N.length+Y.length<=maxLen:=zdg (by omega);have f4:=zjy e2;clear o1l hg hh hn1 hc1 hsz ht1 a3 b5 o2 e2;go_wp2_with (at_builtin;refine wpList_append_own _ rfl _ _ 28 rfl wr.heap.size 9 i0 (.string ⟨#[]⟩) 1 16 underlying28 e3 g5 g0 f9 rfl (by decide) _ _ _ rfl O2.o ⟨g,0,none⟩ Y.length cap (Y.flatMap za8) rfl (by rw [flat_len1];omega) f6.o c2.o f4.o (by omega) e6 ?_;intro v7 w7 c9 e4 _)
    rw [show N.length+Y.length=(N++Y).length by simp,<- List.flatMap_append,<- a0] at c9;have e0:=zjy (Vec.owns (S:=zau) (k:=1) (enc:=za8) (fun _=>rfl) c9 (fun _ _ _=>trivial))
    have b8:Below wr.heap.size wr w7:=h9.o.grown e4 e6 (fun j hj=>(O2.o.lt j hj).1)
    have d9:=zjy ((a5.o.trans f1.o).trans (b8.mono (a5.o.trans f1.o).size));clear c9 e4 b8 f6 c2 f4;refine (join_any zau _ (zb4 M) _ e0.o (by omega) (by omega)).mono ?_;rintro e w9 ⟨rfl,b9⟩;clear a0 a9;have b2:=xhh d9 b9;clear b9;obtain ⟨J,hJ⟩:=xex (za2 (zb4 M));rw [hJ] at HF c3 ⊢;clear hJ;by_cases g1:6<T.length
    ·have d1:decide ((6:Int)<T.length)=true:=by simp;omega
     rw [if_pos (.inl g1)] at HF;go_wp2_with fail
     go_ret2;exact ⟨by rw [HF.o];rfl,b2.o⟩
    ·have d1:decide ((6:Int)<T.length)=false:=by simp;omega
     by_cases g2:64<J.length
     ·have d2:decide ((64:Int)<J.length)=true:=by simp;omega
      rw [if_pos (.inr g2)] at HF;go_wp2_with fail
      go_ret2;exact ⟨by rw [HF.o];rfl,b2.o⟩
     ·have d2:decide ((64:Int)<J.length)=false:=by simp;omega
      rw [if_neg (by omega)] at HF;go_wp2_with fail
      go_ret2;exact ⟨by rw [HF.o];rfl,b2.o⟩
end
section
open Go.RowKit
attribute [local go_sem] zag zaj
theorem addr_no (S:Nat->Prop) (vt vn vs:Value) (r:RulesL) (s:ByteArray) (w:World) (h:RulesAt w S vt vn vs r) (hs:s.size<=9223372036854775000) (hc:zaz r=0) (hv:zdi s.data.toList=false) :
  Calls prog 217 #[.agg #[vt,vn,vs],.string s] w fun e w'=>e = .returned (zdx (zde r s.data.toList))/\Below w.heap.size w w':=by
 have HR:=zjy h.any;have HC:=zjy hc;have HV:=zjy hv;clear h hc hv;have HF:=zjy (show zde r s.data.toList=([],3) by unfold zde;rw [if_pos HC.o,if_neg (by rw [HV.o];simp)]);go_enter func217,ntmps217
 go_wp2_with fail
 refine (zex zau vt vn vs r _ (HR.o.below ((Below.refl _ _).alloc xnl _))).mono ?_;rw [HC.o];rintro e w1 ⟨rfl,a1⟩;have a2:=zjy (xbt a1);clear a1;go_wp2_with fail
 refine (fold_no s _ hs HV.o).mono ?_;rintro e w2 ⟨rfl,a0⟩;have a3:=xhh a2 a0;clear a0 a2;go_wp2_with fail
 go_ret2;exact ⟨by rw [HF.o];rfl,a3.o⟩
theorem addr_bad (S:Nat->Prop) (vt vn vs:Value) (r:RulesL) (s:ByteArray) (w:World) (h:RulesAt w S vt vn vs r) (hc:zaz r≠0) :
  Calls prog 217 #[.agg #[vt,vn,vs],.string s] w fun e w'=>e = .returned (zdx (zde r s.data.toList))/\Below w.heap.size w w':=by
 have HR:=zjy h.any;have HF:=zjy (show zde r s.data.toList=([],zaz r) by unfold zde;rw [if_neg hc]);have a2:(zaz r != 0)=true:=by simpa using hc
 clear h hc;go_enter func217,ntmps217
 go_wp2_with fail
 refine (zex zau vt vn vs r _ (HR.o.below ((Below.refl _ _).alloc xnl _))).mono ?_;obtain ⟨c,a0⟩:=xex (zaz r);rw [a0] at a2 HF ⊢;clear a0;rintro e w1 ⟨rfl,a1⟩;have a3:=zjy (xbt a1);clear a1;go_wp2_with fail
 go_ret2;exact ⟨by rw [HF.o];rfl,a3.o⟩
theorem addr_any (S:Nat->Prop) (vt vn vs:Value) (r:RulesL) (s:ByteArray) (w:World) (h:RulesAt w S vt vn vs r) (hs:s.size<=9223372036854775000) :
  Calls prog 217 #[.agg #[vt,vn,vs],.string s] w fun e w'=>e = .returned (zdx (zde r s.data.toList))/\Below w.heap.size w w':=by
 by_cases hc:zaz r=0
 ·cases hv:zdi s.data.toList with
  | true=>exact addr_yes S vt vn vs r s w h hc hv
  | false=>exact addr_no S vt vn vs r s w h hs hc hv
 ·exact addr_bad S vt vn vs r s w h hc
theorem anormal_any (S:Nat->Prop) (vt vn vs:Value) (r:RulesL) (s:ByteArray) (w:World) (h:RulesAt w S vt vn vs r) (hs:s.size<=9223372036854775000) :
  Calls prog 218 #[.agg #[vt,vn,vs],.string s] w fun e w'=>e = .returned (.bool (zep (zde r s.data.toList) s.data.toList))/\Below w.heap.size w w':=by
 have HR:=zjy h.any;clear h;have HS:=zjy (Lib.toList_data s);go_enter func218,ntmps218
 go_wp2_with fail
 refine (addr_any zau vt vn vs r s _ (HR.o.below ((Below.refl _ _).alloc xnl _)) hs).mono ?_;obtain ⟨p,hp⟩:=xex (zde r s.data.toList);rw [hp];have HP:=zjy hp;clear hp;obtain ⟨pl,pe⟩:=p;unfold zdx;rintro e w1 ⟨rfl,a0⟩;have a1:=zjy (xbt a0);clear a0;cases he:(pe == 0)
 all_goals
  go_wp2_with fail
  go_ret;refine ⟨zax ?_,a1.o⟩;rw [HP.o];simp [zep,he,HS.o]
def zd6 (l:List UInt8):List UInt8 × Int :=
 if zdi l=true then (if 12<(zcu (zbx l)).flatten.length then ([],1) else ((zcu (zbx l)).flatten,0)) else ([],3)
theorem join_flat (L:List (List UInt8)):Lib.join L []=L.flatten:=by
 induction L with
 | nil=>rfl
 | cons a L ih =>
  rw [Lib.join_cons,List.flatten_cons];congr 1;unfold Lib.joinTail;simp
theorem flat_le (l:List UInt8):∀ p,(zbw p l).flatten.length<=p.length+l.length:=by
 induction l with
 | nil=>intro p;simp only [zbw];split <;> simp
 | cons c l ih =>
  intro p;by_cases hc:c=32
  ·subst hc
   by_cases hp:p=[]
   ·subst hp;rw [zbm];have:=ih [];simp at *;omega
   ·rw [zbz _ _ hp];have:=ih [];simp at *;omega
  ·rw [zb0 _ _ _ hc];have:=ih (p++[c]);simp at *;omega
theorem code_any (s:ByteArray) (w:World) (hs:s.size<=9223372036854775000) :
  Calls prog 213 #[.string s] w fun e w'=>e = .returned (zdx (zd6 s.data.toList))/\Below w.heap.size w w':=by
 cases hv:zdi s.data.toList
 ·have HV:=zjy hv
  have HF:=zjy (show zd6 s.data.toList=([],3) by unfold zd6;rw [if_neg (by rw [hv];simp)]);clear hv;go_enter func213,ntmps213
  go_wp2_with fail
  refine (fold_no s _ hs HV.o).mono ?_;rintro e w2 ⟨rfl,a4⟩;go_wp2_with fail
  go_ret2;exact ⟨by rw [HF.o];rfl,a4⟩
 ·have b2:s.size<=64:=by
   have:=zgr hv;have h2:s.data.toList.length=s.size:=by simp
   omega
  have b4:(zbx s.data.toList).length<=64:=by
   have:=zg3 s.data.toList;have h2:s.data.toList.length=s.size:=by simp
   omega
  have HV:=zjy hv
  have a2:zd6 s.data.toList=(if 12<(zcu (zbx s.data.toList)).flatten.length then ([],1) else ((zcu (zbx s.data.toList)).flatten,0)):=by
   unfold zd6;rw [if_pos hv]
  clear hv;obtain ⟨fl,a1⟩:=xex (zbx s.data.toList);have HA:=zjy (show ascii fl from a1 ▸ zh5 _);rw [a1] at b4 a2;have b5:=zjy a1;have HF:=zjy a2;clear a2 a1;go_enter func213,ntmps213
  go_wp2_with fail
  refine (fold_yes s _ (by omega) HV.o).mono ?_;rw [b5.o];rintro e w2 ⟨rfl,a4⟩;have b0:=zjy a4;clear a4;go_wp2_with fail
  refine (zgk fl _ HA.o (by omega)).mono ?_;rintro e w4 ⟨A,rfl,hA,ho,a7⟩;have a0:=(own_block ho).2;have a9:=xhh b0 a7;have b1:(zcu fl).length<=65:=by have:=(zd3 fl []).2.1;unfold zcu;omega
  have a3:(zcu fl).flatten.length<=64:=by have:=flat_le fl [];simp at this;unfold zcu;simp;omega
  obtain ⟨T,hT⟩:=xex (zcu fl);rw [hT] at a0 b1 a3 HF ⊢
  have a5:Lib.join ((T.map mkS).map (·.data.toList)) []=T.flatten:=by
   rw [List.map_map,<- join_flat];congr 1;conv=>rhs;rw [<- List.map_id T]
   exact List.map_congr_left fun x _=>by simp [mkS]
  have hj:=Tryz.strings_Join A 0 T.length (T.map mkS) ⟨#[]⟩ w4 (fun j x hx=>by
    rw [List.getElem?_map] at hx;obtain ⟨y,hy,rfl⟩:=Option.map_eq_some_iff.1 hx;have b3:j<T.length:=(List.getElem?_eq_some_iff.1 hy).1;have:=a0.cell j b3;rw [List.getD,hy] at this
    simpa [mkS] using this) (zaa a0) (by simp;omega) (by simp) (by rw [show (⟨#[]⟩:ByteArray).data.toList=[] from rfl,a5];omega)
  rw [show (⟨#[]⟩:ByteArray).data.toList=[] from rfl,a5,List.length_map] at hj;have HJ:=zjy hj;clear a7 ho a0 hT hA hj a5 b0;go_wp2_with fail
  refine HJ.o.mono ?_;obtain ⟨J,hJ⟩:=xex (T.flatten);rw [hJ] at HF a3 ⊢;clear hJ HJ;rintro e w5 ⟨rfl,a6⟩;have a8:=xhh a9 a6;clear a6 a9;by_cases g1:12<J.length
  ·have d1:decide ((12:Int)<J.length)=true:=by simp;omega
   rw [if_pos g1] at HF;go_wp2_with fail
   go_ret2;exact ⟨by rw [HF.o];rfl,a8.o⟩
  ·have d1:decide ((12:Int)<J.length)=false:=by simp;omega
   rw [if_neg g1] at HF;go_wp2_with fail
   go_ret2;exact ⟨by rw [HF.o];rfl,a8.o⟩
theorem normed_any (s:ByteArray) (w:World) (hs:s.size<=9223372036854775000) :
  Calls prog 215 #[.string s] w fun e w'=>e = .returned (.bool (zep (zd6 s.data.toList) s.data.toList))/\Below w.heap.size w w':=by
 have HS:=zjy (Lib.toList_data s);go_enter func215,ntmps215
 go_wp2_with fail
 refine (code_any s _ hs).mono ?_;obtain ⟨p,hp⟩:=xex (zd6 s.data.toList);rw [hp];have HP:=zjy hp;clear hp;obtain ⟨pl,pe⟩:=p;unfold zdx;rintro e w1 ⟨rfl,a0⟩;have a1:=zjy a0;clear a0;cases he:(pe == 0)
 all_goals
  go_wp2_with fail
  go_ret;refine ⟨zax ?_,a1.o⟩;rw [HP.o];simp [zep,he,HS.o]
end
section
open Go.RowKit Cal
def isDig (l:List UInt8):Prop:=∀ c∈l,48<=c.toNat/\c.toNat<=57
def valD:List UInt8->Nat
 | []=>0
 | c :: cs=>(c.toNat - 48)*10 ^ cs.length+valD cs
theorem valD_append (l r:List UInt8):valD (l++r)=valD l*10 ^ r.length+valD r:=by
 induction l with
 | nil=>simp [valD]
 | cons c cs ih=>simp only [List.cons_append,valD,ih,List.length_append,Nat.pow_add,Nat.add_mul];rw [Nat.mul_assoc];omega
theorem numFrom_dig (l:List UInt8) (h:isDig l):∀ n:Nat,zbd (n:Int) l=some ((n*10 ^ l.length+valD l:Nat):Int):=by
 induction l with
 | nil=>intro n;simp [zbd,valD]
 | cons c cs ih =>
  intro n;have h1:=h c (by simp);have h2:=ih fun x hx=>h x (by simp [hx])
  have e:(10*(n:Int)+((c.toNat:Int) - 48))=((10*n+(c.toNat - 48):Nat):Int):=by omega
  rw [zbd,if_pos (by omega),e,h2];congr 2;simp only [valD,List.length_cons,Nat.pow_succ,Nat.add_mul];have:10*n*10 ^ cs.length=n*(10 ^ cs.length*10):=by rw [Nat.mul_comm 10 n,Nat.mul_assoc,Nat.mul_comm 10]
  omega
theorem numI_dig (l:List UInt8) (h:isDig l):zeh l=valD l:=by
 unfold zeh;have:=numFrom_dig l h 0;simp only [Int.natCast_zero] at this;rw [show (0:Int)=((0:Nat):Int) from rfl,numFrom_dig l h 0];simp
theorem zet (k:Nat):∀ n,(dg n k).length=k:=by
 induction k with
 | zero=>intro n;rfl
 | succ k ih=>intro n;simp [dg,ih]
theorem dg_dig (k:Nat):∀ n:Int,0<=n->isDig (dg n k):=by
 induction k with
 | zero=>intro n _ c hc;simp [dg] at hc
 | succ k ih =>
  intro n hn c hc;simp only [dg,List.mem_append,List.mem_singleton] at hc
  rcases hc with hc | rfl
  ·exact ih (n / 10) (by omega) c hc
  ·have:(UInt8.ofNat (48+(n % 10).toNat)).toNat=48+(n % 10).toNat:=by rw [UInt8.toNat_ofNat'];omega
   omega
theorem dg_val (k:Nat):∀ n:Int,0<=n->n<10 ^ k->(valD (dg n k):Int)=n:=by
 induction k with
 | zero=>intro n h0 h1;simp at h1;simp [dg,valD];omega
 | succ k ih =>
  intro n hn h1;have e:(UInt8.ofNat (48+(n % 10).toNat)).toNat=48+(n % 10).toNat:=by rw [UInt8.toNat_ofNat'];omega
  have h2:n / 10<10 ^ k:=by rw [Int.pow_succ] at h1;omega
  have:=ih (n / 10) (by omega) h2;simp only [dg,valD_append,valD,List.length_cons,List.length_nil,e];simp;omega
theorem digits8_len (y m d:Int):(zd2 y m d).length=8:=by simp [zd2,zet]
end
section
open Go.RowKit Cal
attribute [local go_sem] zet
@[local go_sem] theorem zba (a b:List UInt8):(⟨a.toArray⟩:ByteArray)++⟨b.toArray⟩=⟨(a++b).toArray⟩:=by
 apply ByteArray.ext;simp
theorem ret_str {a b:List UInt8} (h:a=b):Ending.returned (.string ⟨a.toArray⟩) = .returned (.string ⟨b.toArray⟩):=by rw [h]
theorem dgb (n:Int) (h:0<=n):zga (UInt8.ofNat (48+(n % 10).toNat)) = .int .u8 (48+n % 10):=by
 have:(UInt8.ofNat (48+(n % 10).toNat)).toNat=48+(n % 10).toNat:=by rw [UInt8.toNat_ofNat'];omega
 unfold zga;rw [this];congr 1;omega
theorem owns_new {w:World} {B:Nat} {e:TypeId} (l:List UInt8) (hB:B<=w.heap.size) (hl:l.length<=1000) :
  (w.alloc (.cells (l.map zga).toArray e)).ownsRow B e 1 (.slice (some ⟨w.heap.size,0,none⟩) l.length l.length) l.length (l.map zga) :=
 ⟨by simp,.inr ⟨_,_,_,rfl,hB,zac rfl,Nat.le_refl _,zdg (by omega),by simp,by rw [List.take_of_length_le (by simp)]⟩⟩
theorem two_any (n:Int) (w:World) (h0:0<=n) (h1:n<=99) :
  Calls prog 122 #[.int .i64 n] w fun e w'=>e = .returned (.string ⟨(dg n 2).toArray⟩)/\Below w.heap.size w w':=by
 have ha:0<=n / 10 % 10/\n / 10 % 10<=9:=by omega
 have hb:0<=n % 10/\n % 10<=9:=by omega
 obtain ⟨ha1,ha2⟩:=ha;obtain ⟨hb1,hb2⟩:=hb
 have hcv:∀ w:World,(convert 175 9 (.slice (some ⟨w.heap.size,0,none⟩) 2 2)).run prog (w.alloc (.cells #[.int .u8 (48+n / 10 % 10),.int .u8 (48+n % 10)] 5)) = .ok (.string ⟨(dg n 2).toArray⟩) (w.alloc (.cells #[.int .u8 (48+n / 10 % 10),.int .u8 (48+n % 10)] 5)):=by
  intro w;have ho:=owns_new (w:=w) (B:=0) (e:=5) (dg n 2) (Nat.zero_le _) (by rw [zet];omega);rw [zet] at ho
  have e1:(dg n 2).map zga=[.int .u8 (48+n / 10 % 10),.int .u8 (48+n % 10)]:=by
   simp only [dg,List.nil_append,List.cons_append,List.map_cons,List.map_nil];rw [dgb _ (by omega),dgb _ h0]
  rw [e1] at ho;exact zce (dg n 2) (by rw [e1];exact ho) underlying175 underlying5 underlying9
 go_enter func122,ntmps122
 go_wp2
 go_ret;exact ⟨rfl,(Below.refl _ _).alloc xnl _⟩
theorem dg_two (n:Int):dg n 4=dg (n / 100) 2++dg n 2:=by
 simp only [dg,List.nil_append,List.append_assoc];have e1:n / 10 / 10=n / 100:=by omega
 rw [e1]
theorem dg_mod (n:Int) (h:0<=n):dg (n % 100) 2=dg n 2:=by
 simp only [dg,List.nil_append];have e1:n % 100 / 10 % 10=n / 10 % 10:=by omega
 have e2:n % 100 % 10=n % 10:=by omega
 rw [e1,e2]
def writtenL (y m d form:Int):List UInt8 :=
 if form=0 then dg y 4++[45]++dg m 2++[45]++dg d 2 else if form=1 then dg d 2++[46]++dg m 2++[46]++dg y 4 else dg m 2++[47]++dg d 2++[47]++dg y 4
theorem mod_any (x n:Int) (w:World) (hx:0<=x) (hx2:x<=1000000000000) (hn:1<=n) (hn2:n<=1000000000) :
  Calls prog 123 #[.int .i64 x,.int .i64 n] w fun e w'=>e = .returned (.int .i64 (x % n))/\w=w':=by
 have h1:0<=x % n:=Int.emod_nonneg _ (by omega);have h2:x % n<n:=Int.emod_lt_of_pos _ (by omega);have h3:0<=x % n+n:=by omega
 have H4:=zjy (show (x % n+n) % n=x % n by rw [Int.add_emod_right];exact Int.emod_eq_of_lt h1 h2);go_enter func123,ntmps123
 go_wp2
 go_ret;exact ⟨zim (by have:=H4.o;simp [this]),rfl⟩
theorem written_any (y m d form:Int) (w:World) (hb:1800<=y/\y<=2199/\0<=m/\m<=13/\1<=d/\d<=32) (hf:0<=form/\form<=2) :
  Calls prog 83 #[.agg #[.int .i64 y,.int .i64 m,.int .i64 d],.int .i64 form] w fun e w'=>e = .returned (.string ⟨(writtenL y m d form).toArray⟩)/\Below w.heap.size w w':=by
 obtain ⟨b1,b2,b3,b4,b5,b6⟩:=hb;obtain ⟨f1,f2⟩:=hf;have q1:0<=y / 100/\y / 100<=99:=by omega
 have q2:0<=y % 100/\y % 100<=99:=by omega
 obtain ⟨q1,c0⟩:=q1;obtain ⟨q2,b9⟩:=q2;have HM:=fun w=>zjy (mod_any form 3 w f1 (by omega) (by omega) (by omega))
 rw [show form % 3=form by omega] at HM;go_enter func83,ntmps83
 go_wp2_with fail
 have c1:m<=99:=by omega
 have c2:d<=99:=by omega
 have d0:0<=d:=by omega
 have e1:IntKind.i64.wrap (y.tdiv 100)=y / 100:=by rw [Int.tdiv_eq_ediv_of_nonneg (by omega)];exact IntWalk.i64_in _ ⟨by omega,by omega⟩
 have e2:y.tmod 100=y % 100:=Int.tmod_eq_emod_of_nonneg (by omega);refine wp_region_noPanic ?_
 refine wp_region_held_drew (S:=(fun w'=>w'.cell? ⟨w.heap.size,0,none⟩=some (.int .i64 y)/\w'.cell? ⟨w.heap.size,1,none⟩=some (.int .i64 m)/\w'.cell? ⟨w.heap.size,2,none⟩=some (.int .i64 d))) (by kernel_rfl) (⟨by simp,by simp,by simp⟩) (fun hHeld=>?_)
 refine tH 0 ?_;refine tH 1 ?_;refine tH 2 ?_;refine tH 4 ?_;refine tH 5 ?_;refine tH 6 ?_;refine tH 9 ?_;refine tH 10 ?_;refine tH 12 ?_;refine tH 13 ?_
 refine xrH 3 rfl fun K hK=>?_
 go_simp;refine (two_any _ _ q1 c0).mono ?_;rintro e w1 ⟨rfl,a3⟩;have z1:w.heap.size<w1.heap.size:=(by clear e1 e2;have:=a3.size;simp at this;omega);have c9:=zjy ((((Below.refl _ _).alloc xnl _).drew).trans (a3.mono (by simp)));have b8:w1.cell? ⟨w.heap.size,0,none⟩=some (.int .i64 y):=(a3.cell (p:=⟨w.heap.size,0,none⟩) (by simp)).trans (by simp);have a9:w1.cell? ⟨w.heap.size,1,none⟩=some (.int .i64 m):=(a3.cell (p:=⟨w.heap.size,1,none⟩) (by simp)).trans (by simp);have a6:w1.cell? ⟨w.heap.size,2,none⟩=some (.int .i64 d):=(a3.cell (p:=⟨w.heap.size,2,none⟩) (by simp)).trans (by simp);clear a3
 refine hK.out _ _ (⟨b8,a9,a6⟩) (fun hHeld=>?_)
 clear hK K
 refine xrH 7 rfl fun K hK=>?_
 go_simp;refine (two_any _ _ q2 b9).mono ?_;rintro e w2 ⟨rfl,a2⟩;have z2:w.heap.size<w2.heap.size:=(by clear e1 e2;have:=a2.size;omega);have c8:=xhh c9 a2;have b7:=(a2.cell (p:=⟨w.heap.size,0,none⟩) z1).trans b8;have a8:=(a2.cell (p:=⟨w.heap.size,1,none⟩) z1).trans a9;have a5:=(a2.cell (p:=⟨w.heap.size,2,none⟩) z1).trans a6;clear a2 b8 a9 a6
 refine hK.out _ _ (⟨b7,a8,a5⟩) (fun hHeld=>?_)
 clear hK K;refine tH 8 ?_
 refine xrH 11 rfl fun K hK=>?_
 go_simp;refine (two_any _ _ b3 c1).mono ?_;rintro e w3 ⟨rfl,a1⟩;have z3:w.heap.size<w3.heap.size:=(by clear e1 e2;have:=a1.size;omega);have c7:=xhh c8 a1;have b0:=(a1.cell (p:=⟨w.heap.size,0,none⟩) z2).trans b7;have a7:=(a1.cell (p:=⟨w.heap.size,1,none⟩) z2).trans a8;have a4:=(a1.cell (p:=⟨w.heap.size,2,none⟩) z2).trans a5;clear a1 b7 a8 a5
 refine hK.out _ _ (⟨b0,a7,a4⟩) (fun hHeld=>?_)
 clear hK K
 refine xrH 14 rfl fun K hK=>?_
 go_simp;refine (two_any _ _ d0 c2).mono ?_;rintro e w4 ⟨rfl,a0⟩;have z4:w.heap.size<w4.heap.size:=(by clear e1 e2;have:=a0.size;omega);have c6:=xhh c7 a0;have c5:=(a0.cell (p:=⟨w.heap.size,0,none⟩) z3).trans b0;have c4:=(a0.cell (p:=⟨w.heap.size,1,none⟩) z3).trans a7;have c3:=(a0.cell (p:=⟨w.heap.size,2,none⟩) z3).trans a4;clear a0 b0 a7 a4
 refine hK.out _ _ (⟨c5,c4,c3⟩) (fun hHeld=>?_)
 clear hK K;refine tH 15 ?_;refine tH 16 ?_;refine tH 17 ?_;refine wpAnyH_done (by kernel_rfl) ?_ _;refine NoPanic.normal ?_;clear e1 e2;go_wp2_with fail
 refine (HM _).o.mono ?_;rintro e w' ⟨rfl,rfl⟩;go_wp2_with fail
 all_goals
  go_ret;refine ⟨ret_str ?_,c6.o⟩;simp only [beq_iff_eq,beq_eq_false_iff_ne,ne_eq] at *;simp [writtenL,dg_two y,dg_mod y (by omega), *]
end
section
open Go.RowKit Cal
attribute [local go_sem] zag zaj
abbrev fnV (g:Nat):Value:=.func (.func g) #[] #[]
def zfc:Array Value:=#[.string ⟨#[]⟩,.nilFunc,.nilFunc,.nilFunc]
def kind1:Array Value:=#[.string ⟨#[110,97,109,101]⟩,fnV 205,fnV 206,fnV 207]
def kind2:Array Value:=#[.string ⟨#[100,97,116,101]⟩,fnV 208,fnV 209,fnV 211]
def kind3:Array Value:=#[.string ⟨#[99,111,100,101]⟩,fnV 212,fnV 214,fnV 216]
def kind4:Array Value:=#[.string ⟨#[97,100,100,114,101,115,115]⟩,fnV 217,fnV 218,fnV 207]
def kindsV:Array Value:=zfc++kind1++kind2++kind3++kind4
theorem kinds_any (w:World) :
  Calls prog 180 #[] w fun e w'=>e = .returned (.agg kindsV)/\Below w.heap.size w w':=by
 go_enter func180,ntmps180
 go_upto_region 1 with (fail)
 rename_i hK;refine wp_region_list ?_;refine wpList_buildTo rfl 188 _ rfl (some 1) rfl kind1 (by kernel_rfl) ?_;refine wpList_buildTo rfl 188 _ rfl (some 2) rfl kind2 (by kernel_rfl) ?_;refine wpList_buildTo rfl 188 _ rfl (some 3) rfl kind3 (by kernel_rfl) ?_;refine wpList_buildTo rfl 188 _ rfl (some 4) rfl kind4 (by kernel_rfl) ?_;refine wpList_buildTo rfl 217 _ rfl (some 5) rfl kindsV (by kernel_rfl) ?_;refine wpList_store_row rfl 217 _ _ rfl w.heap.size kindsV rfl rfl 217 _ (heap_alloc_new w _) (by kernel_rfl) (by kernel_rfl) (by kernel_rfl) ?_;refine wpList_nil ?_;rw [World.setRow_alloc_new];refine hK _ _ ?_;go_wp2_with fail
 exact za5 rfl rfl (heap_alloc_new w _) underlying217 rfl (by kernel_rfl) ⟨rfl,(Below.refl _ _).alloc xnl _⟩
def wordB (l:List UInt8):Bool:=bif l.isEmpty then false else bif decide (l.length<=12) then za7 l == l else false
theorem word_is (l:List UInt8) (w:World) :
  Calls prog 89 #[zak l] w fun e w'=>e = .returned (.bool (wordB l))/\Below w.heap.size w w':=by
 unfold wordB;by_cases h0:l=[]
 ·subst h0
  go_enter func89,ntmps89
  go_wp2
  go_ret;exact ⟨rfl,Below.refl _ _⟩
 ·have h1:l.isEmpty=false:=by simpa using h0
  have h2:(l == [])=false:=by simpa using h0
  rw [h1];by_cases h3:l.length<=12
  ·have h4:decide (l.length<=12)=true:=by simpa using h3
   have h5:decide ((l.length:Int)<=12)=true:=by simp;omega
   rw [h4];clear h0 h4;go_enter func89,ntmps89
   go_wp2_with fail
   refine (zir ⟨l.toArray⟩ _ (by rw [zaj];omega)).mono ?_;rintro e w1 ⟨rfl,hb⟩;go_wp2_with fail
   go_ret;exact ⟨rfl,hb⟩
  ·have h4:decide (l.length<=12)=false:=by simpa using h3
   have h5:decide ((l.length:Int)<=12)=false:=by simp;omega
   rw [h4];clear h0 h4;go_enter func89,ntmps89
   go_wp2_with fail
   go_ret;exact ⟨rfl,Below.refl _ _⟩
end
section
open Go.RowKit Cal
attribute [local go_sem] zag zaj
def dayF (y m d:List UInt8):List UInt8 × Int:=bif vldB (zeh y) (zeh m) (zeh d) then (zd2 (zeh y) (zeh m) (zeh d),0) else ([],4)
def byteL (l:List UInt8) (i:Nat):Int:=((l.getD i 0).toNat:Int)
def dayN (l:List UInt8):List UInt8 × Int :=
 if l.length=10 then
  if byteL l 4=45/\byteL l 7=45 then dayF (l.take 4) ((l.drop 5).take 2) ((l.drop 8).take 2)
  else if byteL l 2=46/\byteL l 5=46 then dayF ((l.drop 6).take 4) ((l.drop 3).take 2) (l.take 2)
  else if byteL l 2=47/\byteL l 5=47 then dayF ((l.drop 6).take 4) (l.take 2) ((l.drop 3).take 2)
  else ([],4)
 else ([],4)
def DayIs (x:Value) (p:List UInt8 × Int):Prop:=(∃ a b c:Int,vldB a b c=true/\x = .tuple #[.agg #[.int .i64 a,.int .i64 b,.int .i64 c],.int .i64 0]/\p=(zd2 a b c,0))\/(x = .tuple #[.agg #[.int .i64 0,.int .i64 0,.int .i64 0],.int .i64 4]/\p=([],4))
theorem dateL_is (y m d:List UInt8):DayIs (dateL y m d) (dayF y m d):=by
 unfold dateL dateR dayF;cases h:vldB (zeh y) (zeh m) (zeh d)
 ·exact .inr ⟨rfl,rfl⟩
 ·exact .inl ⟨_,_,_,h,rfl,rfl⟩
theorem parse_is (s:ByteArray):DayIs (parseV s) (dayN s.data.toList):=by
 have hl:s.data.toList.length=s.size:=by simp
 unfold parseV dayN;rw [hl];show DayIs _ (if s.size=10 then if zgh s 4=45/\zgh s 7=45 then _ else if zgh s 2=46/\zgh s 5=46 then _ else if zgh s 2=47/\zgh s 5=47 then _ else _ else _);split
 ·split
  ·exact dateL_is _ _ _
  ·split
   ·exact dateL_is _ _ _
   ·split
    ·exact dateL_is _ _ _
    ·exact .inr ⟨rfl,rfl⟩
 ·exact .inr ⟨rfl,rfl⟩
def readB (l:List UInt8):Bool:=bif decide (l.length=8) then vldB (zeh (l.take 4)) (zeh ((l.drop 4).take 2)) (zeh ((l.drop 6).take 2)) else false
theorem read_is (s:ByteArray):∃ a b c:Int,(bif decide (s.size=8) then dateL (s.data.toList.take 4) ((s.data.toList.drop 4).take 2) ((s.data.toList.drop 6).take 2) else dateV false 0 0 0 4) = .tuple #[.agg #[.int .i64 a,.int .i64 b,.int .i64 c],.int .i64 (cd (readB s.data.toList) 4)]:=by
 have hl:s.data.toList.length=s.size:=by simp
 unfold readB;rw [hl];cases decide (s.size=8)
 ·exact ⟨0,0,0,rfl⟩
 ·exact ⟨_,_,_,rfl⟩
theorem kind1_any (vt vn vs:Value) (s:ByteArray) (w:World) :
  Calls prog 209 #[.agg #[vt,vn,vs],.string s] w fun e w'=>e = .returned (.bool (readB s.data.toList))/\Below w.heap.size w w':=by
 obtain ⟨a,b,c,hr⟩:=read_is s;have HR:=zjy hr;clear hr;go_enter func209,ntmps209
 go_wp2_with fail
 refine (read_any s _).mono ?_;rw [HR.o];obtain ⟨v,hv⟩:=xex (readB s.data.toList);rw [hv];have HV:=zjy hv;clear hv HR;rintro e w1 ⟨rfl,a0⟩;have a1:=zjy (xbt a0);clear a0;cases v
 all_goals
  simp only [cd_false,cd_true];go_wp2_with fail
  go_ret;exact ⟨zax (by rw [HV.o];try rfl),a1.o.alloc a1.o.size _⟩
theorem kind3_any (vt vn vs:Value) (s:ByteArray) (w:World) (hs:s.size<=9223372036854775000) :
  Calls prog 214 #[.agg #[vt,vn,vs],.string s] w fun e w'=>e = .returned (.bool (zep (zd6 s.data.toList) s.data.toList))/\Below w.heap.size w w':=by
 go_enter func214,ntmps214
 go_wp2_with fail
 refine (normed_any s _ hs).mono ?_;rintro e w1 ⟨rfl,a0⟩;have a1:=zjy (xbt a0);clear a0;go_wp2_with fail
 go_ret;exact ⟨rfl,a1.o⟩
end
section
open Go.RowKit Cal
attribute [local go_sem] zag zaj
abbrev F2:=List UInt8 × Int
def encF (x:F2):List Value:=[zak x.1,.int .i64 x.2]
structure SchemaL where
 fields:List F2
 rules:RulesL
def SchemaAt (w:World) (S:Nat->Prop) (vf vt vn vs:Value) (s:SchemaL):Prop:=Vec w S 2 encF vf s.fields/\RulesAt w S vt vn vs s.rules
theorem SchemaAt.below {w w':World} {S:Nat->Prop} {vf vt vn vs:Value} {s:SchemaL} (h:SchemaAt w S vf vt vn vs s) (hb:Below w.heap.size w w'):SchemaAt w' S vf vt vn vs s:=⟨h.1.below hb,h.2.below hb⟩
theorem SchemaAt.any {w:World} {S:Nat->Prop} {vf vt vn vs:Value} {s:SchemaL} (h:SchemaAt w S vf vt vn vs s):SchemaAt w zau vf vt vn vs s:=⟨h.1.any,h.2.any⟩
theorem Vec.take {α:Type} {w:World} {S:Nat->Prop} {k:Nat} {enc:α->List Value} {a:Option Addr} {n cap:Nat} {L:List α} (h:Vec w S k enc (.slice a n cap) L) (i:Nat) (hi:i<=L.length):Vec w S k enc (.slice a i cap) (L.take i):=by
 obtain ⟨a',a1,h1,h2,h3⟩:=h;cases h1
 refine ⟨a,cap,by rw [List.length_take,Nat.min_eq_left hi],by rw [List.length_take];omega,fun h0=>?_⟩
 rw [List.length_take] at h0;obtain ⟨b,off,h4,h5,a0,h6⟩:=h3 (by omega)
 refine ⟨b,off,h4,h5,a0,fun j x hj=>h6 j x ?_⟩
 rw [List.getElem?_take] at hj;split at hj
 ·exact hj
 ·cases hj
theorem zbp {w:World} {b:Nat} {x y z u:Value} {t:TypeId} {fr:Nat × Nat} (h:w.heap[b]?=some (.cells #[x,y,z,u] t fr)) :
  w.cell? ⟨b,0,none⟩=some x/\w.cell? ⟨b,1,none⟩=some y/\w.cell? ⟨b,2,none⟩=some z/\w.cell? ⟨b,3,none⟩=some u:=by
 refine ⟨?_,?_,?_,?_⟩ <;> (rw [cell_of_row _ _ _ _ _ _ h];rfl)
theorem pred_field (nm:List UInt8) (B:Nat) (w:World) (hB:B<w.heap.size) (hcell:w.cell? ⟨B,0,none⟩=some (zak nm)) :
  PredBelow prog 88 #[.pointer (some ⟨B,0,none⟩)] (fun x=>.agg (encF x).toArray) (fun x=>x.1 == nm) w:=fun W x hb=>by
 have hc:W.cell? ⟨B,0,none⟩=some (zak nm):=(hb.cell (p:=⟨B,0,none⟩) hB).trans hcell;have hBW:B<W.heap.size:=Nat.lt_of_lt_of_le hB hb.size;have hne:B≠W.heap.size:=by omega
 have a0:=zjy hb;clear hb hcell;obtain ⟨xn,xk⟩:=x;show Calls prog 88 #[.agg #[zak xn,.int .i64 xk],.pointer (some ⟨B,0,none⟩)] W _;go_enter func88,ntmps88
 go_wp2
 go_ret;exact ⟨rfl,a0.o.alloc a0.o.size _⟩
theorem idxF_nil (a:Option Addr) (c:Nat) (f:Value) (w:World) :
  Calls prog 129 #[.slice a 0 c,f] w fun e w'=>e = .returned (.int .i64 (-1))/\w=w':=by
 go_enter func129,ntmps129
 go_wp2
 refine wp_loop_rounds 1 ?_;rw [rounds_succ];go_wp2
 go_ret;exact ⟨rfl,rfl⟩
theorem contF_nil (a:Option Addr) (c:Nat) (f:Value) (w:World) :
  Calls prog 87 #[.slice a 0 c,f] w fun e w'=>e = .returned (.bool false)/\w=w':=by
 go_enter func87,ntmps87
 go_wp2_with fail
 refine (idxF_nil a c _ _).mono ?_;rintro e w1 ⟨rfl,rfl⟩;go_wp2_with fail
 go_ret;exact ⟨rfl,rfl⟩
theorem contF_any (p:F2->Bool) (g:Nat) (lb:Array Value) (eg:∀ args w,(callFunc g args).run prog w = .ok (.enter g args) w) (S:Nat->Prop) (v:Value) (L:List F2) (w:World) (h:Vec w S 2 encF v L) (hn:L.length<=1000000) (hp:PredBelow prog g lb (fun x=>.agg (encF x).toArray) p w) :
  Calls prog 87 #[v,.func (.func g) #[] lb] w fun e w'=>e = .returned (.bool (L.any p))/\Below w.heap.size w w':=by
 obtain ⟨a,a1,rfl,a2,h0⟩:=h;by_cases hz:L=[]
 ·subst hz
  exact (contF_nil a a1 _ w).mono fun e w' ⟨he,hw⟩=>⟨he,by rw [<- hw];exact Below.refl _ _⟩
 ·obtain ⟨b,off,rfl,_,hb,hc⟩:=h0 (List.length_pos_iff.2 hz)
  have a0:=AnyQ.slices_ContainsFunc Tryz.laysCF 2 Tryz.isAgg85 Tryz.sizeOf85 encF (fun _=>rfl) p g lb eg b off L.length a1 L w hp xnl (by omega) hb (fun j hj i u hi=>by
    have e:L[j]?=some L[j]!:=by rw [List.getElem?_eq_getElem hj,getElem!_pos L j hj]
    exact hc j _ e i u hi)
  rw [List.take_of_length_le xnl] at a0;exact a0
def zcb (F:List F2) (j:Nat):Bool:=wordB (F.getD j default).1 && !((F.take j).any fun x=>x.1 == (F.getD j default).1) && decide (1<=(F.getD j default).2) && decide ((F.getD j default).2<=4)
def zfy (F:List F2):Bool:=(List.range F.length).all (zcb F)
def za1 (s:SchemaL):Int:=if s.fields.length<1\/5<s.fields.length then 6 else if zfy s.fields=true then zaz s.rules else 6
theorem zgl (S:Nat->Prop) (vf vt vn vs:Value) (s:SchemaL) (w:World) (h:SchemaAt w S vf vt vn vs s) :
  Calls prog 62 #[.agg #[vf,vt,vn,vs]] w fun e w'=>e = .returned (.int .i64 (za1 s))/\Below w.heap.size w w':=by
 obtain ⟨F,r⟩:=s;obtain ⟨h1,h2⟩:=h;dsimp only at h1 h2;obtain ⟨af,cf,rfl⟩:=h1.slice;have H1:=zjy h1.any;have H2:=zjy h2.any;clear h1 h2;have a3:∀ n:Int,za1 ⟨F,r⟩=n->Ending.returned (.int .i64 n) = .returned (.int .i64 (za1 ⟨F,r⟩)):=fun n h=>by rw [h]
 have HF:=zjy a3;clear a3;by_cases g1:F.length<1
 ·have d1:decide ((F.length:Int)<1)=true:=by simp;omega
  go_enter func62,ntmps62
  go_wp2_with fail
  go_ret;exact ⟨HF.o 6 (by unfold za1;rw [if_pos (.inl g1)]),(Below.refl _ _).alloc xnl _⟩
 ·have d1:decide ((F.length:Int)<1)=false:=by simp;omega
  by_cases g2:5<F.length
  ·have d2:decide ((5:Int)<F.length)=true:=by simp;omega
   go_enter func62,ntmps62
   go_wp2_with fail
   go_ret;exact ⟨HF.o 6 (by unfold za1;rw [if_pos (.inr g2)]),(Below.refl _ _).alloc xnl _⟩
  ·have d2:decide ((5:Int)<F.length)=false:=by simp;omega
   have HN:=zjy (show ¬ (F.length<1\/5<F.length) by omega);obtain ⟨b,off,rfl,_,hb,hc⟩:=zco H1.o (by omega);have HC:=zjy hc;clear hc;go_enter func62,ntmps62
   go_wp2_with fail
   clear d1 d2;go_loopw [19] (fun i wr=>∃ k:Nat,k<=F.length/\i = .int .i64 k/\wr.heap[w.heap.size]?=some (.cells #[.slice (some ⟨b,off,none⟩) F.length cf,vt,vn,vs] 33 (0,0))/\Below w.heap.size w wr/\∀ j,j<k->zcb F j=true) (fun i _=>F.length - (intOf i).toNat)
   case atStart=>exact ⟨0,by omega,rfl,zac rfl,(Below.refl _ _).alloc xnl _,fun j hj=>by omega⟩
   case round =>
    obtain ⟨k,hk,rfl,hX,a4,ha⟩:=hrel;have HA:=zjy ha;clear ha;obtain ⟨p0,p1,p2,p3⟩:=zbp hX;have zX:=zaa hX;have HX:=zjy hX;clear hX;have HW:=zjy a4;by_cases hlt:k<F.length
    ·have hq:decide ((k:Int)<F.length)=true:=by simp;omega
     have hi:(k:Int)<(F.length:Int):=by omega
     have b4:=H1.o.len.2;obtain ⟨x,hx⟩:=xex (F.getD k default);have hc:=HC.o k hlt;rw [hx] at hc;have c0:wr.cell? ⟨b,off+k*2,none⟩=some (zak x.1):=(a4.cell (p:=⟨b,off+k*2,none⟩) hb).trans (hc 0 _ rfl);have c1:wr.cell? ⟨b,off+k*2+1,none⟩=some (.int .i64 x.2):=(a4.cell (p:=⟨b,off+k*2+1,none⟩) hb).trans (hc 1 _ rfl);have b0:zcb F k=(wordB x.1 && !((F.take k).any fun y=>y.1 == x.1) && decide (1<=x.2) && decide (x.2<=4)):=by simp only [zcb];rw [hx]
     have a0:=zjy b0;obtain ⟨nm,kd⟩:=x;dsimp only at c0 c1 a0;clear hx hc a4 b0;go_wp2_with fail
     have eg:∀ args w,(callFunc 88 args).run prog w = .ok (.enter 88 args) w:=enters_of func88 (by kernel_rfl) rfl
     refine (contF_any (fun y=>y.1 == nm) 88 #[.pointer (some ⟨wr.heap.size,0,none⟩)] eg zau _ (F.take k) _ ((H1.o.take k (by omega)).below (HW.o.alloc HW.o.size _)) (by have:=List.length_take_le k F;omega) (pred_field nm wr.heap.size _ (by simp) (by simp))).mono ?_
     obtain ⟨u,hu⟩:=xex ((F.take k).any (fun y=>y.1 == nm))
     rw [hu] at a0 ⊢;clear eg hu;rintro e w2 ⟨rfl,a6⟩;have a7:w2.heap[w.heap.size]?=some (.cells #[.slice (some ⟨b,off,none⟩) F.length cf,vt,vn,vs] 33 (0,0)):=zab a6 (by simp;omega) (zaf HX.o);have a5:w2.heap[wr.heap.size]?=some (.cells #[zak nm,.int .i64 kd] 85 (0,0)):=zab a6 (by simp) (zac rfl);have b2:=zjy ((HW.o.alloc HW.o.size (.cells #[zak nm,.int .i64 kd] 85)).trans (a6.mono (by have:=HW.o.size;simp;omega)));have q0:w2.cell? ⟨wr.heap.size,0,none⟩=some (zak nm):=by rw [cell_of_row _ _ _ _ _ _ a5];rfl
     have q1:w2.cell? ⟨wr.heap.size,1,none⟩=some (.int .i64 kd):=by rw [cell_of_row _ _ _ _ _ _ a5];rfl
     have b3:=zaa a7;have a8:=zaa a5;have b1:=zjy a7;have b5:=zjy a5;clear a6 a7 a5 p0 p1 p2 p3 HX HW c0 c1;go_wp2_with fail
     refine (word_is nm _).mono ?_;obtain ⟨wb,a9⟩:=xex (wordB nm);rw [a9] at a0 ⊢;clear a9;rintro e w3 ⟨rfl,a1⟩;have q0:w3.cell? ⟨wr.heap.size,0,none⟩=some (zak nm):=(a1.cell (p:=⟨wr.heap.size,0,none⟩) a8).trans q0;have q1:w3.cell? ⟨wr.heap.size,1,none⟩=some (.int .i64 kd):=(a1.cell (p:=⟨wr.heap.size,1,none⟩) a8).trans q1;have b6:=zjy (zab a1 b3 b1.o);have a2:=xhh b2 a1;clear a1 b1 b2 b5;cases wb
     ·have a0:=zjy (show zcb F k=false by rw [a0.o];rfl)
      go_wp2_with fail
      go_ret;exact ⟨HF.o 6 (by unfold za1;rw [if_neg HN.o,if_neg (by rw [zfy,zb9 hlt a0.o];simp)]),a2.o⟩
     ·cases u
      ·by_cases k1:1<=kd
       ·by_cases k4:kd<=4
        ·have a0:=zjy (show zcb F k=true by rw [a0.o];simp [k1,k4])
         go_wp2_with fail
         go_roundw
         case rel=>exact ⟨k+1,by omega,by go_num,b6.o,a2.o,fun j hj=>by
          by_cases e:j=k
          ·subst e;exact a0.o
          ·exact HA.o j (by omega)⟩
         case measure=>simp [intOf];omega
        ·have a0:=zjy (show zcb F k=false by rw [a0.o];simp [k4])
         have k5:4<kd:=by omega
         go_wp2_with fail
         go_ret;exact ⟨HF.o 6 (by unfold za1;rw [if_neg HN.o,if_neg (by rw [zfy,zb9 hlt a0.o];simp)]),a2.o⟩
       ·have a0:=zjy (show zcb F k=false by rw [a0.o];simp [k1])
        have k5:kd<1:=by omega
        go_wp2_with fail
        go_ret;exact ⟨HF.o 6 (by unfold za1;rw [if_neg HN.o,if_neg (by rw [zfy,zb9 hlt a0.o];simp)]),a2.o⟩
      ·have a0:=zjy (show zcb F k=false by rw [a0.o];simp)
       go_wp2_with fail
       go_ret;exact ⟨HF.o 6 (by unfold za1;rw [if_neg HN.o,if_neg (by rw [zfy,zb9 hlt a0.o];simp)]),a2.o⟩
    ·have hq:decide ((k:Int)<F.length)=false:=by simp;omega
     clear a4;go_wp2_with fail
     refine (zex zau vt vn vs r _ (H2.o.below HW.o)).mono ?_;obtain ⟨c,hc⟩:=xex (zaz r);rw [hc];have b7:=zjy hc;clear hc;rintro e w3 ⟨rfl,a1⟩;have a2:=xhh HW a1;clear a1;go_wp2_with fail
     go_ret;exact ⟨HF.o c (by unfold za1;rw [if_neg HN.o,if_pos (by rw [zfy];exact zju fun j hj=>HA.o j (by have hj':j<F.length:=hj;omega))];exact b7.o),a2.o⟩
end
section
open Go.RowKit Cal
attribute [local go_sem] zag zaj
def zbo (k:Int):Array Value:=if k=1 then kind1 else if k=2 then kind2 else if k=3 then kind3 else if k=4 then kind4 else zfc
def zbq (s:SchemaL) (f:Int):Int × Int:=if za1 s=0 then (if 0<=f/\f<s.fields.length then ((s.fields.getD f.toNat default).2,0) else (0,2)) else (0,za1 s)
def findV (p:Int × Int):Value:=.tuple #[.agg (zbo p.1),.int .i64 p.2]
theorem zc3 {s:SchemaL} (h:za1 s=0):(1<=s.fields.length/\s.fields.length<=5)/\zfy s.fields=true/\zaz s.rules=0:=by
 unfold za1 at h;split at h
 ·omega
 ·split at h
  ·rename_i h1 h2;exact ⟨by omega,h2,h⟩
  ·omega
theorem field_kind {F:List F2} (h:zfy F=true) (j:Nat) (hj:j<F.length):1<=(F.getD j default).2/\(F.getD j default).2<=4:=by
 have:=List.all_eq_true.1 h j (List.mem_range.2 hj);unfold zcb at this;simp only [Bool.and_eq_true,decide_eq_true_iff] at this;exact ⟨this.1.2,this.2⟩
theorem zis {w:World} {g:Nat} {old cs:Array Value} {t:TypeId} {fr:Nat × Nat} (h:w.heap[g]?=some (.cells old t fr)):(w.setRow g cs).heap[g]?=some (.cells cs t fr):=by
 have a0:=zaa h;have h':w.heap[g] = .cells old t fr:=by simpa [Array.getElem?_eq_getElem a0] using h
 show (w.heap.modify g _)[g]?=_;rw [Array.getElem?_eq_getElem (by simpa using a0),Array.getElem_modify_self,h']
theorem zhr {B g:Nat} {a w:World} {cs:Array Value} (h:Below B a w) (hg:B<=g):Below B a (w.setRow g cs):=by
 refine ⟨h.os,h.tape,h.output,by simpa [World.setRow] using h.size,fun k hk=>?_⟩
 show (w.heap.modify g _)[k]?=_;rw [Array.getElem?_modify,if_neg (by omega)];exact h.block k hk
theorem find_bad (S:Nat->Prop) (vf vt vn vs:Value) (s:SchemaL) (f:Int) (w:World) (h:SchemaAt w S vf vt vn vs s) (hc:za1 s≠0) :
  Calls prog 137 #[.agg #[vf,vt,vn,vs],.int .i64 f] w fun e w'=>e = .returned (findV (zbq s f))/\Below w.heap.size w w':=by
 have HS:=zjy h.any;have HF:=zjy (show zbq s f=(0,za1 s) by unfold zbq;rw [if_neg hc]);have a3:(za1 s != 0)=true:=by simpa using hc
 clear h hc;go_enter func137,ntmps137
 go_wp2_with fail
 refine (zgl zau vf vt vn vs s _ (HS.o.below (((Below.refl _ _).alloc xnl _).alloc (by simp) _))).mono ?_;obtain ⟨c,a1⟩:=xex (za1 s);rw [a1] at a3 HF ⊢;clear a1;rintro e w1 ⟨rfl,a0⟩;have X1:w1.heap[w.heap.size+1]?=some (.cells zfc 188 (0,0)):=zab a0 (by simp) (heap_alloc2_new _ _ _);have a4:=zjy ((((Below.refl w.heap.size w).alloc xnl (.cells #[vf,vt,vn,vs] 33)).alloc (by simp) (.cells zfc 188)).trans (a0.mono (by simp;omega)));have a2:=zjy X1;have z1:=zaa X1;clear a0 X1;go_wp2_with (refine wpList_store_row rfl 188 (.tmp 4) (.tmp 11) rfl (w.heap.size+1) zfc rfl rfl 188 zfc a2.o (by kernel_rfl) (by kernel_rfl) (by kernel_rfl) ?_)
 exact zai rfl rfl (zis a2.o) underlying188 rfl (by kernel_rfl) ⟨by rw [HF.o];rfl,zhr a4.o (by omega)⟩
theorem find_out (S:Nat->Prop) (vf vt vn vs:Value) (s:SchemaL) (f:Int) (w:World) (h:SchemaAt w S vf vt vn vs s) (hc:za1 s=0) (hf:f<0\/(s.fields.length:Int)<=f) :
  Calls prog 137 #[.agg #[vf,vt,vn,vs],.int .i64 f] w fun e w'=>e = .returned (findV (zbq s f))/\Below w.heap.size w w':=by
 obtain ⟨af,cf,rfl⟩:=h.1.slice;have HS:=zjy h.any;have HF:=zjy (show zbq s f=(0,2) by unfold zbq;rw [if_pos hc,if_neg (by omega)]);have HC:=zjy hc;clear h hc;have a2:f<0\/(0<=f/\(s.fields.length:Int)<=f):=by omega
 clear hf
 rcases a2 with hf | ⟨hf0,hf⟩
 all_goals
  go_enter func137,ntmps137
  go_wp2_with fail
  refine (zgl zau _ vt vn vs s _ (HS.o.below (((Below.refl _ _).alloc xnl _).alloc (by simp) _))).mono ?_;rw [HC.o];rintro e w1 ⟨rfl,a0⟩;have X0:w1.heap[w.heap.size]?=some (.cells #[.slice af s.fields.length cf,vt,vn,vs] 33 (0,0)):=zab a0 (by simp;omega) (heap_alloc2_old _ _ _);have X1:w1.heap[w.heap.size+1]?=some (.cells zfc 188 (0,0)):=zab a0 (by simp) (heap_alloc2_new _ _ _);have a3:=zjy ((((Below.refl w.heap.size w).alloc xnl (.cells #[.slice af s.fields.length cf,vt,vn,vs] 33)).alloc (by simp) (.cells zfc 188)).trans (a0.mono (by simp;omega)));have a1:=zjy X1;have z1:=zaa X1;have z0:=zaa X0;obtain ⟨p0,p1,p2,p3⟩:=zbp X0;clear a0 X1 X0;go_wp2_with (refine wpList_store_row rfl 188 (.tmp 4) (.tmp 22) rfl (w.heap.size+1) zfc rfl rfl 188 zfc a1.o (by kernel_rfl) (by kernel_rfl) (by kernel_rfl) ?_)
  exact zai rfl rfl (zis a1.o) underlying188 rfl (by kernel_rfl) ⟨by rw [HF.o];rfl,zhr a3.o (by omega)⟩
theorem setRow_other {w:World} {g k:Nat} {cs:Array Value} (h:k≠g):(w.setRow g cs).heap[k]?=w.heap[k]?:=by
 show (w.heap.modify g _)[k]?=_;rw [Array.getElem?_modify,if_neg (fun e=>h e.symm)]
theorem index_kind (kd:Int) (h1:1<=kd) (h4:kd<=4):∀ w,(Instr.index 217 (.agg kindsV) (.int .i64 kd)).run prog w = .ok (.agg (zbo kd)) w:=by
 obtain rfl | rfl | rfl | rfl:kd=1\/kd=2\/kd=3\/kd=4:=by omega
 ·exact fun w=>by kernel_rfl
 ·exact fun w=>by kernel_rfl
 ·exact fun w=>by kernel_rfl
 ·exact fun w=>by kernel_rfl
theorem kindAt_one (kd:Int):(zbo kd).all (·.oneCell')=true/\(zbo kd).size=4:=by
 unfold zbo;repeat' split
 all_goals exact ⟨by kernel_rfl,by kernel_rfl⟩
theorem find_in' (S:Nat->Prop) (vf vt vn vs:Value) (s:SchemaL) (f:Nat) (w:World) (h:SchemaAt w S vf vt vn vs s) (hc:za1 s=0) (hf:f<s.fields.length) :
  Calls prog 137 #[.agg #[vf,vt,vn,vs],.int .i64 f] w fun e w'=>e = .returned (findV (zbq s f))/\Below w.heap.size w w':=by
 obtain ⟨af,cf,rfl⟩:=h.1.slice;obtain ⟨⟨g1,g2⟩,g3,g4⟩:=zc3 hc;obtain ⟨b,off,rfl,_,hb,a8⟩:=zco h.1 (by omega);have a4:=a8 f hf 1 _ rfl;obtain ⟨k1,k4⟩:=field_kind g3 f hf;have a5:=zjy (show zbq s f=((s.fields.getD f default).2,0) by unfold zbq;rw [if_pos hc,if_pos (by omega)];simp);obtain ⟨kd,a7⟩:=xex ((s.fields.getD f default).2);rw [a7] at a5 a4 k1 k4;have HF:=a5;have HS:=zjy h.any;have HC:=zjy hc;have a3:=index_kind kd k1 k4;obtain ⟨ko,ks⟩:=kindAt_one kd;have KO:=zjy ko;have KS:=zjy ks;have b5:=zjy a3;have b6:=zjy a4;clear h hc g3 g4 a8 a7 a5 ko ks a3 a4;have b2:(f:Int)<(s.fields.length:Int):=by omega
 go_enter func137,ntmps137
 go_wp2_with fail
 refine (zgl zau _ vt vn vs s _ (HS.o.below (((Below.refl _ _).alloc xnl _).alloc (by simp) _))).mono ?_;rw [HC.o];rintro e w1 ⟨rfl,a1⟩;have X0:w1.heap[w.heap.size]?=some (.cells #[.slice (some ⟨b,off,none⟩) s.fields.length cf,vt,vn,vs] 33 (0,0)):=zab a1 (by simp;omega) (heap_alloc2_old _ _ _);have X1:w1.heap[w.heap.size+1]?=some (.cells zfc 188 (0,0)):=zab a1 (by simp) (heap_alloc2_new _ _ _);have a2:=zjy ((((Below.refl w.heap.size w).alloc xnl (.cells #[.slice (some ⟨b,off,none⟩) s.fields.length cf,vt,vn,vs] 33)).alloc (by simp) (.cells zfc 188)).trans (a1.mono (by simp;omega)));have c1:w1.cell? ⟨b,off+f*2+1,none⟩=some (.int .i64 kd):=(a2.o.cell (p:=⟨b,off+f*2+1,none⟩) hb).trans b6.o;have b4:=zjy X1;have z1:=zaa X1;have z0:=zaa X0;have zb:b<w1.heap.size:=Nat.lt_of_lt_of_le hb a2.o.size;obtain ⟨p0,p1,p2,p3⟩:=zbp X0;clear a1 X1 X0;go_wp2_with fail
 refine wp_region_noPanic ?_
 refine wp_region_held_drew (S:=(fun w'=>w'.cell? ⟨w.heap.size,0,none⟩=some (.slice (some ⟨b,off,none⟩) s.fields.length cf)/\w'.cell? ⟨b,off+f*2+1,none⟩=some (.int .i64 kd))) (by kernel_rfl) (⟨p0,c1⟩) (fun hHeld=>?_)
 refine tH 1 ?_;refine tH 2 ?_;refine tH 3 ?_;refine tH 4 ?_;refine tH 5 ?_;refine tH 6 ?_
 refine xrH 0 rfl fun K hK=>?_
 go_simp;refine (kinds_any _).mono ?_;rintro e w2 ⟨rfl,a0⟩;have a6:=(a0.cell (p:=⟨w.heap.size,0,none⟩) z0).trans p0;have a9:=(a0.cell (p:=⟨b,off+f*2+1,none⟩) zb).trans c1;have b7:=zjy (a2.o.drew.trans (a0.mono a2.o.size));have b0:=zjy (zab a0 z1 b4.o)
 refine hK.out _ _ (⟨a6,a9⟩) (fun hHeld=>?_)
 clear hK K;have a3:=b5.o;refine tH 7 ?_
 refine xrH 8 rfl fun K hK=>?_
 refine wp_store_row 188 (.tmp 4) (.tmp 30) rfl (w.heap.size+1) (zbo kd) rfl rfl 188 zfc b0.o (by rw [KS.o];kernel_rfl) (by rw [KS.o];rfl) KO.o ?_;have b1:(w2.setRow (w.heap.size+1) (zbo kd)).cell? ⟨w.heap.size,0,none⟩=some (.slice (some ⟨b,off,none⟩) s.fields.length cf):=(World.cell?_of_block (w:=w2) (a:=⟨w.heap.size,0,none⟩) (setRow_other (show w.heap.size≠w.heap.size+1 by omega))).trans a6;have b3:(w2.setRow (w.heap.size+1) (zbo kd)).cell? ⟨b,off+f*2+1,none⟩=some (.int .i64 kd):=(World.cell?_of_block (w:=w2) (a:=⟨b,off+f*2+1,none⟩) (setRow_other (show b≠w.heap.size+1 by omega))).trans a9
 refine hK.out _ _ ⟨b1,b3⟩ (fun hHeld=>?_)
 clear hK K;refine tH 9 ?_;refine wpAnyH_done (by kernel_rfl) ?_ _;refine NoPanic.normal ?_;go_wp2_with fail
 exact zai rfl rfl (zis b0.o) underlying188 rfl (by rw [KS.o];kernel_rfl) ⟨by rw [HF.o];rfl,zhr b7.o (by omega)⟩
theorem find_s (S:Nat->Prop) (vf vt vn vs:Value) (s:SchemaL) (f:Int) (w:World) (h:SchemaAt w S vf vt vn vs s) :
  Calls prog 137 #[.agg #[vf,vt,vn,vs],.int .i64 f] w fun e w'=>e = .returned (findV (zbq s f))/\Below w.heap.size w w':=by
 by_cases hc:za1 s=0
 ·by_cases hf:0<=f/\f<s.fields.length
  ·obtain ⟨n,rfl⟩:=Int.eq_ofNat_of_zero_le hf.1
   exact find_in' S vf vt vn vs s n w h hc (by omega)
  ·exact find_out S vf vt vn vs s f w h hc (by omega)
 ·exact find_bad S vf vt vn vs s f w h hc
end
section
open Go.RowKit Cal
attribute [local go_sem] zag zaj
def normK (k:Int) (r:RulesL) (l:List UInt8):List UInt8 × Int:=if k=1 then zdd r l else if k=2 then dayN l else if k=3 then zd6 l else zde r l
def zct (s:SchemaL) (f:Int) (l:List UInt8):List UInt8 × Int:=if (zbq s f).2=0 then (if l=[] then ([],0) else normK (zbq s f).1 s.rules l) else ([],(zbq s f).2)
def ownK (k:Int) (r:RulesL) (l:List UInt8):Bool:=if k=1 then zep (zdd r l) l else if k=2 then readB l else if k=3 then zep (zd6 l) l else zep (zde r l) l
def zat (s:SchemaL) (f:Int) (l:List UInt8):Bool:=if (zbq s f).2=0 then (if l=[] then true else ownK (zbq s f).1 s.rules l) else false
theorem zei {s:SchemaL} {f:Int} (h:(zbq s f).2=0):(zbq s f).1=1\/(zbq s f).1=2\/(zbq s f).1=3\/(zbq s f).1=4:=by
 by_cases hc:za1 s=0
 ·unfold zbq at h ⊢
  rw [if_pos hc] at h ⊢;by_cases hf:0<=f/\f<s.fields.length
  ·rw [if_pos hf]
   have:=field_kind (zc3 hc).2.1 f.toNat (by omega);dsimp only;omega
  ·rw [if_neg hf] at h
   simp at h
 ·unfold zbq at h
  rw [if_neg hc] at h;exact absurd h hc
end
section
open Go.RowKit Cal
attribute [local go_sem] zag zaj
theorem zg1 (S:Nat->Prop) (vf vt vn vs:Value) (s:SchemaL) (f:Int) (x:ByteArray) (w:World) (h:SchemaAt w S vf vt vn vs s) (hx:x.size<=9223372036854775000) :
  Calls prog 93 #[.agg #[vf,vt,vn,vs],.int .i64 f,.string x] w fun e w'=>e = .returned (.bool (zat s f x.data.toList))/\Below w.heap.size w w':=by
 have HS:=zjy h.any;have HL:=zjy (Lib.toList_data x);have b3:∀ p,zat s f x.data.toList=p->Ending.returned (.bool p) = .returned (.bool (zat s f x.data.toList)):=fun p h=>by rw [h]
 have HF:=zjy b3;clear h b3;have K:=find_s zau vf vt vn vs s f (w.alloc (.cells #[vf,vt,vn,vs] 33)) (HS.o.below ((Below.refl _ _).alloc xnl _));have b2:=zei (s:=s) (f:=f);have a8:zat s f x.data.toList=if (zbq s f).2=0 then (if x.data.toList=[] then true else ownK (zbq s f).1 s.rules x.data.toList) else false:=rfl
 obtain ⟨⟨kd,er⟩,hp⟩:∃ p,zbq s f=p:=⟨_,rfl⟩;rw [hp] at K b2 a8;dsimp only at b2 a8;change Calls _ _ _ _ fun e w'=>e = .returned (.tuple #[.agg (zbo kd),.int .i64 er])/\_ at K
 have HK:=zjy K;have a9:=zjy a8;obtain ⟨ko,ks⟩:=kindAt_one kd;have KO:=zjy ko;have KS:=zjy ks;clear K hp a8 ko ks;by_cases he:er=0
 ·subst he
  have b4:=b2 rfl;clear b2;by_cases hx0:x.data.toList=[]
  ·have e1:x.toList=[]:=by rw [HL.o,hx0]
   have HE:=zjy (show zat s f x.data.toList=true by rw [a9.o,if_pos rfl,if_pos hx0]);clear hx0 b4;go_enter func93,ntmps93
   go_wp2_with fail
   refine HK.o.mono ?_;rintro e w1 ⟨rfl,a0⟩;have a2:=zjy (xbt a0);have a4:=zjy (xbn a0);clear a0 HK;go_wp2_with (refine wpList_store_row rfl 188 (.tmp 7) (.tmp 13) rfl w1.heap.size (zbo kd) rfl rfl 188 zfc (heap_alloc_new w1 _) (by rw [KS.o];kernel_rfl) (by rw [KS.o];rfl) KO.o ?_;rw [World.setRow_alloc_new])
   go_ret;exact ⟨HF.o _ HE.o,a2.o.alloc a2.o.size _⟩
  ·have e1:(x.toList == [])=false:=by rw [HL.o];simpa using hx0
   have e2:x.toList.isEmpty=false:=by rw [HL.o];simpa using hx0
   have HE:=zjy (show zat s f x.data.toList=ownK kd s.rules x.data.toList by rw [a9.o,if_pos rfl,if_neg hx0]);clear hx0
   rcases b4 with rfl | rfl | rfl | rfl
   ·have a7:=zjy (show zat s f x.data.toList=zep (zdd s.rules x.data.toList) x.data.toList from HE.o)
    go_enter func93,ntmps93
    go_wp2_with fail
    refine HK.o.mono ?_;rintro e w1 ⟨rfl,a0⟩;have a2:=zjy (xbt a0);have a4:=zjy (xbn a0);clear a0 HK;have cf:(w1.alloc (.cells (zbo 1) 188)).cell? ⟨w1.heap.size,2,none⟩=some (fnV 206):=by rw [cell_of_row _ _ _ _ _ _ (heap_alloc_new w1 _)];rfl
    have z0:=zaa a4.o;obtain ⟨p0,p1,p2,p3⟩:=zbp a4.o;go_wp2_with (refine wpList_store_row rfl 188 (.tmp 7) (.tmp 13) rfl w1.heap.size (zbo 1) rfl rfl 188 zfc (heap_alloc_new w1 _) (by rw [KS.o];kernel_rfl) (by rw [KS.o];rfl) KO.o ?_;rw [World.setRow_alloc_new])
    have a5:=a2.o.alloc a2.o.size (.cells (zbo 1) 188);have a1:=zjy a5;refine (normal_any zau vt vn vs s.rules x _ (HS.o.2.below a5) hx).mono ?_;clear a5;rw [<- a7.o];obtain ⟨pb,a3⟩:=xex (zat s f x.data.toList);rw [a3];have b0:=zjy a3;rintro e w3 ⟨rfl,a6⟩;have b1:=zjy (a1.o.trans (a6.mono a1.o.size));clear a6 a3 HE a7 cf p0 p1 p2 p3;go_wp2_with fail
    go_ret;exact ⟨HF.o _ b0.o,b1.o⟩
   ·have a7:=zjy (show zat s f x.data.toList=readB x.data.toList from HE.o)
    go_enter func93,ntmps93
    go_wp2_with fail
    refine HK.o.mono ?_;rintro e w1 ⟨rfl,a0⟩;have a2:=zjy (xbt a0);have a4:=zjy (xbn a0);clear a0 HK;have cf:(w1.alloc (.cells (zbo 2) 188)).cell? ⟨w1.heap.size,2,none⟩=some (fnV 209):=by rw [cell_of_row _ _ _ _ _ _ (heap_alloc_new w1 _)];rfl
    have z0:=zaa a4.o;obtain ⟨p0,p1,p2,p3⟩:=zbp a4.o;go_wp2_with (refine wpList_store_row rfl 188 (.tmp 7) (.tmp 13) rfl w1.heap.size (zbo 2) rfl rfl 188 zfc (heap_alloc_new w1 _) (by rw [KS.o];kernel_rfl) (by rw [KS.o];rfl) KO.o ?_;rw [World.setRow_alloc_new])
    have a5:=a2.o.alloc a2.o.size (.cells (zbo 2) 188);have a1:=zjy a5;refine (kind1_any vt vn vs x _).mono ?_;clear a5;rw [<- a7.o];obtain ⟨pb,a3⟩:=xex (zat s f x.data.toList);rw [a3];have b0:=zjy a3;rintro e w3 ⟨rfl,a6⟩;have b1:=zjy (a1.o.trans (a6.mono a1.o.size));clear a6 a3 HE a7 cf p0 p1 p2 p3;go_wp2_with fail
    go_ret;exact ⟨HF.o _ b0.o,b1.o⟩
   ·have a7:=zjy (show zat s f x.data.toList=zep (zd6 x.data.toList) x.data.toList from HE.o)
    go_enter func93,ntmps93
    go_wp2_with fail
    refine HK.o.mono ?_;rintro e w1 ⟨rfl,a0⟩;have a2:=zjy (xbt a0);have a4:=zjy (xbn a0);clear a0 HK;have cf:(w1.alloc (.cells (zbo 3) 188)).cell? ⟨w1.heap.size,2,none⟩=some (fnV 214):=by rw [cell_of_row _ _ _ _ _ _ (heap_alloc_new w1 _)];rfl
    have z0:=zaa a4.o;obtain ⟨p0,p1,p2,p3⟩:=zbp a4.o;go_wp2_with (refine wpList_store_row rfl 188 (.tmp 7) (.tmp 13) rfl w1.heap.size (zbo 3) rfl rfl 188 zfc (heap_alloc_new w1 _) (by rw [KS.o];kernel_rfl) (by rw [KS.o];rfl) KO.o ?_;rw [World.setRow_alloc_new])
    have a5:=a2.o.alloc a2.o.size (.cells (zbo 3) 188);have a1:=zjy a5;refine (kind3_any vt vn vs x _ hx).mono ?_;clear a5;rw [<- a7.o];obtain ⟨pb,a3⟩:=xex (zat s f x.data.toList);rw [a3];have b0:=zjy a3;rintro e w3 ⟨rfl,a6⟩;have b1:=zjy (a1.o.trans (a6.mono a1.o.size));clear a6 a3 HE a7 cf p0 p1 p2 p3;go_wp2_with fail
    go_ret;exact ⟨HF.o _ b0.o,b1.o⟩
   ·have a7:=zjy (show zat s f x.data.toList=zep (zde s.rules x.data.toList) x.data.toList from HE.o)
    go_enter func93,ntmps93
    go_wp2_with fail
    refine HK.o.mono ?_;rintro e w1 ⟨rfl,a0⟩;have a2:=zjy (xbt a0);have a4:=zjy (xbn a0);clear a0 HK;have cf:(w1.alloc (.cells (zbo 4) 188)).cell? ⟨w1.heap.size,2,none⟩=some (fnV 218):=by rw [cell_of_row _ _ _ _ _ _ (heap_alloc_new w1 _)];rfl
    have z0:=zaa a4.o;obtain ⟨p0,p1,p2,p3⟩:=zbp a4.o;go_wp2_with (refine wpList_store_row rfl 188 (.tmp 7) (.tmp 13) rfl w1.heap.size (zbo 4) rfl rfl 188 zfc (heap_alloc_new w1 _) (by rw [KS.o];kernel_rfl) (by rw [KS.o];rfl) KO.o ?_;rw [World.setRow_alloc_new])
    have a5:=a2.o.alloc a2.o.size (.cells (zbo 4) 188);have a1:=zjy a5;refine (anormal_any zau vt vn vs s.rules x _ (HS.o.2.below a5) hx).mono ?_;clear a5;rw [<- a7.o];obtain ⟨pb,a3⟩:=xex (zat s f x.data.toList);rw [a3];have b0:=zjy a3;rintro e w3 ⟨rfl,a6⟩;have b1:=zjy (a1.o.trans (a6.mono a1.o.size));clear a6 a3 HE a7 cf p0 p1 p2 p3;go_wp2_with fail
    go_ret;exact ⟨HF.o _ b0.o,b1.o⟩
 ·have hne:(er == 0)=false:=by simpa using he
  have HE:=zjy (show zat s f x.data.toList=false by rw [a9.o,if_neg he]);clear he b2;go_enter func93,ntmps93
  go_wp2_with fail
  refine HK.o.mono ?_;rintro e w1 ⟨rfl,a0⟩;have a2:=zjy (xbt a0);have a4:=zjy (xbn a0);clear a0 HK;go_wp2_with (refine wpList_store_row rfl 188 (.tmp 7) (.tmp 13) rfl w1.heap.size (zbo kd) rfl rfl 188 zfc (heap_alloc_new w1 _) (by rw [KS.o];kernel_rfl) (by rw [KS.o];rfl) KO.o ?_;rw [World.setRow_alloc_new])
  go_ret;exact ⟨HF.o _ HE.o,a2.o.alloc a2.o.size _⟩
end
section
open Go.RowKit Cal
attribute [local go_sem] zag zaj
def posL:Nat->List UInt8->List (List UInt8)
 | _,[]=>[]
 | j,c :: l=>[UInt8.ofNat (97+j),c] :: posL (j+1) l
theorem zjc (l:List UInt8):∀ j,(posL j l).length=l.length:=by
 induction l with
 | nil=>intro j;rfl
 | cons c l ih=>intro j;simp [posL,ih]
theorem posL_snoc (l:List UInt8) (c:UInt8):∀ j,posL j (l++[c])=posL j l++[[UInt8.ofNat (97+(j+l.length)),c]]:=by
 induction l with
 | nil=>intro j;simp [posL]
 | cons d l ih=>intro j;simp only [List.cons_append,posL,ih,List.length_cons];rw [show j+1+l.length=j+(l.length+1) by omega]
theorem two_bytes (w:World) (a b:UInt8):(convert 175 9 (.slice (some ⟨w.heap.size,0,none⟩) 2 2)).run prog (w.alloc (.cells #[.int .u8 a.toNat,.int .u8 b.toNat] 5)) = .ok (zak [a,b]) (w.alloc (.cells #[.int .u8 a.toNat,.int .u8 b.toNat] 5)):=by
 have ho:(w.alloc (.cells (([a,b]:List UInt8).map zga).toArray 5)).ownsRow 0 5 1 (.slice (some ⟨w.heap.size,0,none⟩) 2 2) 2 (([a,b]:List UInt8).map zga) :=
  ⟨by simp,.inr ⟨_,_,_,rfl,Nat.zero_le _,zac rfl,Nat.le_refl _,zdg (by omega),by simp,by simp⟩⟩
 exact zce [a,b] ho underlying175 underlying5 underlying9
theorem zbs {P:Program} {w:World} {ops:Array Oper} {rest:List Oper} {o:Oper} {a:Act} {Q:Exit->Act->World->Prop} (hgd:o.guard=none) (s x:Operand) (t:TypeId)
  (ho:o.op = .call { callee:=.builtin .append,args:=#[s,x],argTypes:=#[t,t] })
  (base:Nat) (e:TypeId) (size bytes:Nat) (z:Value) (ht:P.underlying t=some (.slice e)) (hinfo:(P.info? e).map (fun i=>(i.zero,i.size,i.bytes))=some (some z,size,bytes))
  (hzs:z.cells.size=size) (hsz:0<size) (hby:bytes<=128)
  (v:Value) (n:Nat) (xs:List Value) (hs:a.eval s=v) (hown:w.ownsRow base e size v n xs) (k:Nat) (hk:k=w.heap.size)
  (cs:Array Value) (c:Nat) (hx:a.eval x = .slice (some ⟨k,0,none⟩) 1 c) (hcs:cs.size=size) (h1:∀ u∈cs.toList,u.oneCell'=true)
  (hn:n<1099511627776) (hbase:base<=w.heap.size)
  (h:∀ v' w',w'.ownsRow base e size v' (n+1) (xs++cs.toList)->(∀ W,Below base W w->Below base W w')->wpList P ops Q rest (a.put o.dst v') w') :
  wpList P ops Q (o :: rest) a (w.alloc (.cells cs e)):=by
 subst hk;exact zay hgd s x t ho base e size bytes z ht hinfo hzs hsz hby v n xs hs hown cs c hx hcs h1 hn hbase h
theorem positional_any (s:ByteArray) (w:World) (hs:s.size<=26) :
  Calls prog 211 #[.string s] w fun e w'=>∃ v,e = .returned v/\OwnAt w v (posL 0 s.data.toList) w':=by
 have hl:s.data.toList.length=s.size:=by simp
 have HL:=zjy hl;clear hl;have d1:decide ((26:Int)<s.size)=false:=by simp;omega
 go_enter func211,ntmps211
 go_wp2_with fail
 clear d1;go_loopw [3,10] (fun v i wr=>∃ k:Nat,k<=s.size/\i = .int .i64 k/\OwnAt w v (posL 0 (s.data.toList.take k)) wr) (fun _ i _=>s.size - (intOf i).toNat)
 case atStart=>exact ⟨0,by omega,rfl,OwnAt.start w⟩
 case round =>
  obtain ⟨k,hk,rfl,ho⟩:=hrel;have HO:=zjy ho;clear ho;by_cases hlt:k<s.size
  ·have hq:decide ((k:Int)<s.size)=true:=by simp;omega
   have ht:=zew s k hlt;have a1:=posL_snoc (s.data.toList.take k) s[k] 0;have a0:(s.data.toList.take k).length=k:=by rw [List.length_take,HL.o];omega
   rw [a0,Nat.zero_add] at a1;have HT:=zjy ht;have a8:=zjy a1;have a6:(posL 0 (s.data.toList.take k)).length<1099511627776:=by rw [zjc,a0];omega
   have hbz:=HO.o.2.size;have ha:((UInt8.ofNat (97+k)).toNat:Int)=97+(k:Int):=by rw [UInt8.toNat_ofNat'];omega
   have a4:=two_bytes wr (UInt8.ofNat (97+k)) s[k];rw [ha] at a4;obtain ⟨z,hz⟩:=xex ([UInt8.ofNat (97+k),s[k]]);rw [hz] at a4;have HZ:=zjy hz;have a2:∀ u∈(#[zak z]:Array Value).toList,u.oneCell'=true:=by intro u hu;simp at hu;subst hu;rfl
   have a3:=zjy (HO.o.below (w':=wr.alloc (.cells #[.int .u8 (97+(k:Int)),.int .u8 s[k].toNat] 5)) ((Below.refl _ _).alloc xnl _));have a9:=zjy (show wr.heap.size+1=(wr.alloc (.cells #[.int .u8 (97+(k:Int)),.int .u8 s[k].toNat] 5)).heap.size by simp);clear ht a1 a0 ha hz;go_wp2_with (at_builtin;refine zbs rfl _ _ 28 rfl w.heap.size 9 1 16 (.string ⟨#[]⟩) underlying28 zdt rfl (by decide) (by decide) _ _ _ rfl a3.o.1 (wr.heap.size+1) a9.o #[zak z] 1 rfl rfl a2 a6 a3.o.2.size ?_;intro v2 w8 a7 a5)
   go_roundw
   case rel=>exact ⟨k+1,by omega,by go_num,by rw [HT.o,a8.o];exact ⟨by rw [List.length_append,zd4,HZ.o];exact a7,a5 _ a3.o.2⟩⟩
   case measure=>simp [intOf];omega
  ·have hq:decide ((k:Int)<s.size)=false:=by simp;omega
   rw [List.take_of_length_le (by rw [HL.o];omega)] at HO;go_wp2_with fail
   go_ret;exact ⟨_,rfl,HO.o⟩
end
section
open Go.RowKit Cal
def okT (t:List UInt8):Prop:=t≠[]/\∀ b∈t,okB b=true/\b≠32
theorem toksA_run (t:List UInt8) (h:∀ b∈t,b≠32):∀ p r,zbw p (t++r)=zbw (p++t) r:=by
 induction t with
 | nil=>intro p r;simp
 | cons c t ih =>
  intro p r;rw [List.cons_append,zb0 _ _ _ (h c List.mem_cons_self),ih (fun b hb=>h b (List.mem_cons_of_mem _ hb)),List.append_assoc]
  rfl
theorem toks_join:∀ (L:List (List UInt8)),(∀ t∈L,okT t)->zcu (za2 L)=L:=by
 intro L;induction L with
 | nil=>intro _;rfl
 | cons t L ih =>
  intro h;obtain ⟨h1,h2⟩:=h t List.mem_cons_self;have hr:=ih fun x hx=>h x (List.mem_cons_of_mem _ hx)
  unfold zcu at hr ⊢;by_cases hL:L=[]
  ·subst hL
   rw [show za2 [t]=t++[] by simp [za2],toksA_run t (fun b hb=>(h2 b hb).2),List.nil_append,ze8 _ h1]
  ·rw [zbj _ _ hL,List.append_assoc,toksA_run t (fun b hb=>(h2 b hb).2),List.nil_append,List.cons_append,List.nil_append,zbz _ _ h1,hr]
theorem join_ok (L:List (List UInt8)) (h:∀ t∈L,okT t):∀ b∈za2 L,okB b=true:=by
 intro b hb
 rcases join_mem L b hb with h1 | ⟨t,ht,hbt⟩
 ·subst h1;rfl
 ·exact ((h t ht).2 b hbt).1
theorem ok_plain {b:UInt8} (h:okB b=true):zbn b=[b]:=by
 have hlt:=okB_lt h;unfold zbn;by_cases hu:isUp b=true
 ·exfalso
  unfold okB at h;simp only [Bool.or_eq_true,zdz,ze0,decide_eq_true_iff,beq_iff_eq] at h;rw [up_iff,decide_eq_true_iff] at hu
  rcases h with (h | h) | h
  ·omega
  ·omega
  ·subst h;simp at hu
 ·rw [if_neg hu]
  unfold okB at h;simp only [Bool.or_eq_true,beq_iff_eq] at h
  rcases h with h | h
  ·rw [if_pos (by simpa using h)]
  ·subst h;rfl
theorem ok_pair {a b:UInt8} (h:okB a=true):zjl a b=false:=by
 have hlt:=okB_lt h;rw [zh0];simp;omega
theorem ok_byte {b:UInt8} (h:okB b=true):zfl b=true:=by
 unfold okB at h;simp only [Bool.or_eq_true,zdz,ze0,decide_eq_true_iff,beq_iff_eq] at h;rw [ok_iff,decide_eq_true_iff]
 rcases h with (h | h) | h
 ·omega
 ·omega
 ·subst h;decide
theorem raw_same (l:List UInt8) (h:∀ b∈l,okB b=true):rawL l=l/\zcx l=true:=by
 induction l using rawL.induct with
 | case1=>exact ⟨rfl,rfl⟩
 | case2 a=>exact ⟨by simp only [rawL];exact ok_plain (h a (by simp)),by simp only [zcx];exact ok_byte (h a (by simp))⟩
 | case3 a b r hp ih=>exfalso;rw [ok_pair (h a (by simp))] at hp;cases hp
 | case4 a b r hp ih =>
  have a0:=ok_pair (a:=a) (b:=b) (h a (by simp));have:=ih fun x hx=>h x (List.mem_cons_of_mem _ hx)
  refine ⟨?_,?_⟩
  ·rw [rawL,a0];simp only [Bool.false_eq_true,if_false];rw [this.1,ok_plain (h a (by simp))];rfl
  ·rw [zcx,a0];simp only [Bool.false_eq_true,if_false];rw [this.2,ok_byte (h a (by simp))];rfl
theorem fold_same (L:List (List UInt8)) (h:∀ t∈L,okT t):zbx (za2 L)=za2 L/\zcu (zbx (za2 L))=L:=by
 have h1:=(raw_same (za2 L) (join_ok L h)).1;have h2:=toks_join L h;have h3:zbx (za2 L)=za2 L:=by unfold zbx;rw [h1,h2]
 exact ⟨h3,by rw [h3,h2]⟩
theorem foldV_join (L:List (List UInt8)) (h:∀ t∈L,okT t) (hl:(za2 L).length<=64):zdi (za2 L)=true:=by
 unfold zdi;rw [(raw_same (za2 L) (join_ok L h)).2];simpa using hl
theorem toksA_ne (l:List UInt8):∀ p,∀ t∈zbw p l,t≠[]:=by
 induction l with
 | nil =>
  intro p t ht;simp only [zbw] at ht;split at ht
  ·simp at ht
  ·simp at ht;subst ht;assumption
 | cons c l ih =>
  intro p t ht;by_cases hc:c=32
  ·subst hc
   by_cases hp:p=[]
   ·subst hp;rw [zbm] at ht;exact ih [] t ht
   ·rw [zbz _ _ hp] at ht
    rcases List.mem_cons.1 ht with rfl | ht
    ·exact hp
    ·exact ih [] t ht
  ·rw [zb0 _ _ _ hc] at ht;exact ih _ t ht
theorem toks_ok (l:List UInt8):∀ t∈zcu (zbx l),okT t:=by
 intro t ht
 refine ⟨toksA_ne _ [] t ht,fun b hb=>?_⟩
 rcases toksA_mem _ [] t ht b hb with h | h
 ·simp at h
 ·exact ⟨fold_ok l b h.1,h.2⟩
end
section
open Go.RowKit Cal
theorem letters_low (t:List UInt8):∀ b∈za7 t,zf8 b=true:=fun b hb=>(List.mem_filter.1 hb).2
theorem low_same {t:List UInt8} (h:∀ b∈t,zf8 b=true):za7 t=t:=List.filter_eq_self.2 h
theorem low_okT {t:List UInt8} (h0:t≠[]) (h:∀ b∈t,zf8 b=true):okT t:=⟨h0,fun b hb=>⟨by simp [okB,h b hb],by
 intro e;subst e;have:=h 32 hb;rw [zdz] at this;simp at this⟩⟩
theorem token_low {t:List UInt8} (h:zb8 t=true):t≠[]/\∀ b∈t,zf8 b=true:=by
 unfold zb8 at h;cases h1:t.isEmpty
 ·simp only [h1,cond_false] at h
  cases h2:decide (t.length<=64)
  ·simp [h2] at h
  ·simp only [h2,cond_true,beq_iff_eq] at h
   exact ⟨by simpa using h1,fun b hb=>letters_low t b (by rw [h];exact hb)⟩
 ·simp [h1] at h
theorem pair_facts {L:List P2} (h:zcg L=true) (j:Nat) (hj:j<L.length):zb8 (L.getD j default).1=true/\zb8 (L.getD j default).2=true/\zjn L (L.getD j default).2<0:=by
 have:=pairs_at h j hj;unfold zdy at this;simp only [Bool.and_eq_true,decide_eq_true_iff] at this;exact ⟨this.1.1.1,this.1.1.2,this.2⟩
theorem canon_neg {L:List P2} {s:List UInt8} (h:zjn L s<0):zbe L s=s:=by
 rcases zgv L s with ⟨_,h2⟩ | ⟨k,_,h1,_⟩
 ·exact h2
 ·omega
theorem ziv {L:List P2} (h:zcg L=true) (s:List UInt8):(zbe L s=s)\/(∃ k,k<L.length/\zbe L s=(L.getD k default).2/\zb8 (zbe L s)=true/\zbe L (zbe L s)=zbe L s):=by
 rcases zgv L s with ⟨_,h2⟩ | ⟨k,hk,h1,h3⟩
 ·exact .inl h2
 ·right
  obtain ⟨_,g2,g3⟩:=pair_facts h k hk;rw [h3] at g2 g3;exact ⟨k,hk,h3.symm,g2,canon_neg g3⟩
theorem normTok_same {r:RulesL} (hc:zaz r=0) {x t:List UInt8} (ht:t∈zcz r x):okT t/\zcz r t=[t]:=by
 obtain ⟨_,_,h2,_,h4⟩:=ze1 hc;unfold zcz at ht;by_cases hd:((za7 x).isEmpty || zhk r.titles (za7 x))=true
 ·rw [if_pos hd] at ht;simp at ht
 ·rw [if_neg hd] at ht
  simp at ht;simp only [Bool.or_eq_true,not_or,Bool.not_eq_true] at hd;obtain ⟨a2,a1⟩:=hd
  have a0:∀ y:List UInt8,y≠[]->(∀ b∈y,zf8 b=true)->zhk r.titles y=false->zbe r.nicks y=y->okT y/\zcz r y=[y]:=by
   intro y h0 h1 h3 h5;refine ⟨low_okT h0 h1,?_⟩;unfold zcz;rw [low_same h1,h3,h5,if_neg (by simpa using h0)]
  rcases ziv h2 (za7 x) with hs | ⟨k,hk,e1,e2,e3⟩
  ·rw [hs] at ht
   subst ht;exact a0 _ (by simpa using a2) (letters_low x) a1 hs
  ·rw [<- ht] at e1 e2 e3
   obtain ⟨g1,g2⟩:=token_low e2;refine a0 t g1 g2 ?_ e3;rw [e1];have:=List.any_eq_false.1 h4 (r.nicks.getD k default) (by rw [List.getD,List.getElem?_eq_getElem hk];exact List.getElem_mem hk);simpa using this
theorem zjj {r:RulesL} (hc:zaz r=0) (T:List (List UInt8)):(∀ t∈za9 r T,okT t)/\za9 r (za9 r T)=za9 r T:=by
 have h:∀ t∈za9 r T,okT t/\zcz r t=[t]:=by
  intro t ht;obtain ⟨x,_,hx⟩:=List.mem_flatMap.1 ht;exact normTok_same hc hx
 refine ⟨fun t ht=>(h t ht).1,?_⟩
 have:∀ L:List (List UInt8),(∀ t∈L,zcz r t=[t])->za9 r L=L:=by
  intro L;induction L with
  | nil=>intro _;rfl
  | cons t L ih =>
   intro hL;have:=ih fun x hx=>hL x (List.mem_cons_of_mem _ hx)
   unfold za9 at this ⊢;rw [List.flatMap_cons,this,hL t List.mem_cons_self];rfl
 exact this _ fun t ht=>(h t ht).2
theorem nameN_same {r:RulesL} {l v:List UInt8} (h:zdd r l=(v,0)):zdd r v=(v,0):=by
 unfold zdd at h;by_cases hc:zaz r=0
 ·rw [if_pos hc] at h
  by_cases hv:zdi l=true
  ·rw [if_pos hv] at h
   obtain ⟨h1,h2⟩:=zjj hc (zcu (zbx l));generalize za9 r (zcu (zbx l))=N at h h1 h2;by_cases hb:6<N.length\/64<(za2 N).length
   ·rw [if_pos hb] at h;simp at h
   ·rw [if_neg hb] at h
    obtain rfl:za2 N=v:=congrArg Prod.fst h;obtain ⟨f1,f2⟩:=fold_same N h1;unfold zdd;rw [if_pos hc,if_pos (foldV_join N h1 (by omega)),f2,h2,if_neg hb]
  ·rw [if_neg hv] at h;simp at h
 ·rw [if_neg hc] at h
  exact absurd (congrArg Prod.snd h) hc
theorem codeN_same {l v:List UInt8} (h:zd6 l=(v,0)):zd6 v=(v,0):=by
 unfold zd6 at h;by_cases hv:zdi l=true
 ·rw [if_pos hv] at h
  have a1:=toks_ok l;generalize zcu (zbx l)=T at h a1;by_cases hb:12<T.flatten.length
  ·rw [if_pos hb] at h;simp at h
  ·rw [if_neg hb] at h
   obtain rfl:T.flatten=v:=congrArg Prod.fst h
   have a0:∀ b∈T.flatten,okB b=true/\b≠32:=by
    intro b a3;obtain ⟨t,ht,a2⟩:=List.mem_flatten.1 a3;exact (a1 t ht).2 b a2
   by_cases h0:T.flatten=[]
   ·rw [h0];rfl
   ·have hL:∀ t∈[T.flatten],okT t:=by
     intro t ht;simp at ht;subst ht;exact ⟨h0,a0⟩
    obtain ⟨f1,f2⟩:=fold_same [T.flatten] hL;have f3:=foldV_join [T.flatten] hL (by simp [za2];simp at hb;omega);rw [show za2 [T.flatten]=T.flatten from rfl] at f1 f2 f3;unfold zd6;rw [if_pos f3,f2];simp only [List.flatten_cons,List.flatten_nil,List.append_nil];rw [if_neg hb]
 ·rw [if_neg hv] at h;simp at h
end
section
open Go.RowKit Cal
theorem dropWhile_fix (l:List UInt8):(l.dropWhile (· == 48)).dropWhile (· == 48)=l.dropWhile (· == 48):=by
 induction l with
 | nil=>rfl
 | cons c l ih =>
  by_cases hc:(c == 48)=true
  ·rw [List.dropWhile_cons,if_pos hc,ih]
  ·rw [List.dropWhile_cons,if_neg hc,List.dropWhile_cons,if_neg hc]
theorem short_num (x:List UInt8):zdc (zbk x)=true:=by
 unfold zbk;split
 ·assumption
 ·rfl
theorem short_same (x:List UInt8):zbk (zbk x)=zbk x:=by
 have hd:=dropWhile_fix x;generalize hr:x.dropWhile (· == 48)=r at hd;have e:zbk x=if zdc r=true then r else 48 :: r:=by unfold zbk;rw [hr]
 by_cases hn:zdc r=true
 ·rw [e,if_pos hn];unfold zbk;rw [hd,if_pos hn]
 ·rw [e,if_neg hn];unfold zbk
  rw [show (48 :: r).dropWhile (· == 48)=r.dropWhile (· == 48) from rfl,hd,if_neg hn]
theorem dropWhile_mem (l:List UInt8):∀ b∈l.dropWhile (· == 48),b∈l:=by
 induction l with
 | nil=>intro b hb;simp at hb
 | cons c l ih =>
  intro b hb;by_cases hc:(c == 48)=true
  ·rw [List.dropWhile_cons,if_pos hc] at hb;exact List.mem_cons_of_mem _ (ih b hb)
  ·rw [List.dropWhile_cons,if_neg hc] at hb;exact hb
theorem short_ok {x:List UInt8} (h:okT x):okT (zbk x):=by
 have h1:∀ b∈x.dropWhile (· == 48),okB b=true/\b≠32:=fun b hb=>h.2 b (dropWhile_mem x b hb)
 unfold zbk;split
 ·rename_i hn
  refine ⟨fun e=>?_,h1⟩
  rw [e] at hn;cases hn
 ·refine ⟨by simp,fun b hb=>?_⟩
  rcases List.mem_cons.1 hb with rfl | hb
  ·exact ⟨by decide,by decide⟩
  ·exact h1 b hb
theorem low_not_num {t:List UInt8} (h:∀ b∈t,zf8 b=true):zdc t=false:=by
 cases t with
 | nil=>rfl
 | cons c t =>
  have:=h c List.mem_cons_self;rw [zdz,decide_eq_true_iff] at this;show isDgt c=false;rw [ze0];simp;omega
theorem addrTok_same {r:RulesL} (h:zcg r.streets=true) {x:List UInt8} (hx:okT x):okT (za3 r x)/\za3 r (za3 r x)=za3 r x:=by
 by_cases hn:zdc x=true
 ·have e:za3 r x=zbk x:=by unfold za3;rw [if_pos hn]
  rw [e];refine ⟨short_ok hx,?_⟩;unfold za3;rw [if_pos (short_num x),short_same]
 ·have e:za3 r x=zbe r.streets x:=by unfold za3;rw [if_neg hn]
  rw [e]
  rcases ziv h x with hs | ⟨k,hk,e1,e2,e3⟩
  ·rw [hs];exact ⟨hx,by rw [e,hs]⟩
  ·obtain ⟨g1,g2⟩:=token_low e2
   refine ⟨low_okT g1 g2,?_⟩;unfold za3;rw [low_not_num g2,e3];simp
theorem order2_same (T:List (List UInt8)):zb4 (zb4 T)=zb4 T:=by
 have hn:∀ L:List (List UInt8),L.filter (fun _=>false)=[]:=fun L=>by induction L with
  | nil=>rfl
  | cons x L ih=>rw [List.filter_cons];simp
 unfold zb4;simp [List.filter_append,List.filter_filter,hn]
theorem zjg (T:List (List UInt8)):(zb4 T).length=T.length:=by
 induction T with
 | nil=>rfl
 | cons t T ih =>
  unfold zb4 at ih ⊢;cases h:zdc t <;> simp [List.filter_cons,h] at ih ⊢ <;> omega
theorem map_same {f:List UInt8->List UInt8}:∀ (T:List (List UInt8)),(∀ t∈T,f t=t)->T.map f=T:=by
 intro T;induction T with
 | nil=>intro _;rfl
 | cons t T ih=>intro h;rw [List.map_cons,h t List.mem_cons_self,ih fun x hx=>h x (List.mem_cons_of_mem _ hx)]
theorem addrN_same {r:RulesL} {l v:List UInt8} (h:zde r l=(v,0)):zde r v=(v,0):=by
 unfold zde at h;by_cases hc:zaz r=0
 ·rw [if_pos hc] at h
  obtain ⟨_,_,_,h3,_⟩:=ze1 hc;by_cases hv:zdi l=true
  ·rw [if_pos hv] at h
   have a1:=toks_ok l;generalize zcu (zbx l)=T at h a1
   have hM:∀ t∈zb4 (T.map (za3 r)),okT t/\za3 r t=t:=by
    intro t ht;obtain ⟨x,hx,rfl⟩:=List.mem_map.1 (order2_mem ht);exact addrTok_same h3 (a1 x hx)
   have a0:(zb4 (T.map (za3 r))).length=T.length:=by rw [zjg,List.length_map]
   by_cases hb:6<T.length\/64<(za2 (zb4 (T.map (za3 r)))).length
   ·rw [if_pos hb] at h;simp at h
   ·rw [if_neg hb] at h
    have hs:=order2_same (T.map (za3 r));generalize zb4 (T.map (za3 r))=M at h hM a0 hb hs;obtain rfl:za2 M=v:=congrArg Prod.fst h;have h1:∀ t∈M,okT t:=fun t ht=>(hM t ht).1
    obtain ⟨f1,f2⟩:=fold_same M h1;unfold zde;rw [if_pos hc,if_pos (foldV_join M h1 (by omega)),f2,map_same M fun t ht=>(hM t ht).2,hs,if_neg (by rw [a0];exact hb)]
  ·rw [if_neg hv] at h;simp at h
 ·rw [if_neg hc] at h
  exact absurd (congrArg Prod.snd h) hc
theorem numI_dg (n:Int) (k:Nat) (h0:0<=n) (h:n<10 ^ k):zeh (dg n k)=n:=by
 rw [numI_dig _ (dg_dig k n h0),dg_val k n h0 h]
theorem day_read {a b c:Int} (h:vldB a b c=true):readB (zd2 a b c)=true:=by
 obtain ⟨b1,b2,b3,b4,b5,b6⟩:=vld_bd h
 have e1:(zd2 a b c).take 4=dg a 4:=by
  unfold zd2;rw [List.append_assoc,List.take_append_of_le_length (by rw [zet];omega),List.take_of_length_le (by rw [zet];omega)]
 have e2:((zd2 a b c).drop 4).take 2=dg b 2:=by
  unfold zd2;rw [List.append_assoc,List.drop_append_of_le_length (by rw [zet];omega),List.drop_eq_nil_of_le (by rw [zet];omega),List.nil_append,List.take_append_of_le_length (by rw [zet];omega),List.take_of_length_le (by rw [zet];omega)]
 have e3:((zd2 a b c).drop 6).take 2=dg c 2:=by
  unfold zd2;rw [List.drop_append_of_le_length (by simp [zet]),List.drop_eq_nil_of_le (by simp [zet]),List.nil_append,List.take_of_length_le (by rw [zet];omega)]
 unfold readB;rw [digits8_len,e1,e2,e3,numI_dg a 4 (by omega) (by omega),numI_dg b 2 (by omega) (by omega),numI_dg c 2 (by omega) (by omega),h];rfl
theorem dayN_read {l v:List UInt8} (h:dayN l=(v,0)):readB v=true:=by
 rcases parse_is ⟨l.toArray⟩ with ⟨a,b,c,hv,_,hd⟩ | ⟨_,hd⟩
 ·rw [show (⟨l.toArray⟩:ByteArray).data.toList=l by simp,h] at hd
  obtain rfl:v=zd2 a b c:=congrArg Prod.fst hd;exact day_read hv
 ·rw [show (⟨l.toArray⟩:ByteArray).data.toList=l by simp,h] at hd
  simp at hd
theorem own_of {p:List UInt8 × Int} {v:List UInt8} (h:p=(v,0)):zep p v=true:=by subst h;simp [zep]
theorem value_normal {s:SchemaL} {f:Int} {l v:List UInt8} (h:zct s f l=(v,0)):zat s f v=true/\zat s f []=true/\((zbq s f).1=2\/zct s f v=(v,0)):=by
 unfold zct at h;by_cases he:(zbq s f).2=0
 ·have hk:=zei he
  have e2:zat s f []=true:=by unfold zat;rw [if_pos he,if_pos rfl]
  by_cases hv0:v=[]
  ·subst hv0
   exact ⟨e2,e2,.inr (by unfold zct;rw [if_pos he,if_pos rfl])⟩
  ·rw [if_pos he] at h
   by_cases hl:l=[]
   ·rw [if_pos hl] at h
    exact absurd (congrArg Prod.fst h).symm hv0
   ·rw [if_neg hl] at h
    have e1:zat s f v=ownK (zbq s f).1 s.rules v:=by unfold zat;rw [if_pos he,if_neg hv0]
    have e3:zct s f v=normK (zbq s f).1 s.rules v:=by unfold zct;rw [if_pos he,if_neg hv0]
    rw [e1,e3]
    rcases hk with hk | hk | hk | hk
    ·rw [hk] at h ⊢
     have:=nameN_same (r:=s.rules) h;exact ⟨own_of this,e2,.inr this⟩
    ·rw [hk] at h ⊢
     exact ⟨dayN_read (show dayN l=(v,0) from h),e2,.inl rfl⟩
    ·rw [hk] at h ⊢
     have:=codeN_same (show zd6 l=(v,0) from h);exact ⟨own_of this,e2,.inr this⟩
    ·rw [hk] at h ⊢
     have:=addrN_same (r:=s.rules) h;exact ⟨own_of this,e2,.inr this⟩
 ·rw [if_neg he] at h
  exact absurd (congrArg Prod.snd h) he
end
section
open Go.RowKit Go.Maps
def setL (L:List (List UInt8)):List (List UInt8):=L.eraseDups.mergeSort leB
theorem erase_nodup (L:List (List UInt8)):∀ n,L.length<=n->L.eraseDups.Nodup:=by
 intro n;induction n generalizing L with
 | zero=>intro h;have:L=[]:=List.length_eq_zero_iff.1 (by omega);subst this;simp
 | succ n ih =>
  intro h;cases L with
  | nil=>simp
  | cons a L =>
   rw [List.eraseDups_cons];refine List.nodup_cons.2 ⟨?_,ih _ ?_⟩
   ·rw [List.mem_eraseDups];simp
   ·have:=List.length_filter_le (fun b=>!b == a) L;simp at h ⊢;omega
theorem erase_len (L:List (List UInt8)):∀ n,L.length<=n->L.eraseDups.length<=L.length:=by
 intro n;induction n generalizing L with
 | zero=>intro h;have:L=[]:=List.length_eq_zero_iff.1 (by omega);subst this;simp
 | succ n ih =>
  intro h;cases L with
  | nil=>simp
  | cons a L =>
   rw [List.eraseDups_cons,List.length_cons,List.length_cons];have h1:=List.length_filter_le (fun b=>!b == a) L
   have:=ih (L.filter fun b=>!b == a) (by simp at h ⊢;omega)
   omega
theorem set_mem (L:List (List UInt8)) (x:List UInt8):x∈setL L ↔ x∈L:=by
 unfold setL;rw [List.mem_mergeSort,List.mem_eraseDups]
theorem set_len (L:List (List UInt8)):(setL L).length<=L.length:=by
 unfold setL;rw [(List.mergeSort_perm _ _).length_eq];exact erase_len L _ xnl
def AscB (L:List (List UInt8)):Prop:=∀ i,i+1<L.length->Op.bytesLess (L.getD i []) (L.getD (i+1) [])=true
theorem set_of_perm {L ss:List (List UInt8)} (hn:ss.Nodup) (hm:∀ x,x∈ss ↔ x∈L):ss.mergeSort leB=setL L:=by
 refine mergeSort_of_perm ((List.perm_ext_iff_of_nodup hn (erase_nodup L _ xnl)).2 fun x=>?_)
 rw [hm,List.mem_eraseDups]
def bigrA:List UInt8->List (List UInt8)
 | a :: b :: r=>[a,b] :: bigrA (b :: r)
 | _=>[]
theorem zia:∀ l:List UInt8,(bigrA l).length=l.length - 1:=by
 intro l;induction l using bigrA.induct with
 | case1 a b r ih=>simp [bigrA,ih]
 | case2 l h =>
  match l,h with
  | [],_=>rfl
  | [a],_=>rfl
  | a :: b :: r,h=>exact absurd rfl (h a b r)
def zea (t:List UInt8):List UInt8:=[95]++t++[95]
def zbg (T:List (List UInt8)):List (List UInt8):=T.flatMap fun t=>bigrA (zea t)
def zfe (l:List UInt8):List (List UInt8):=setL (zbg (zcu l))
theorem gramsAll_len (T:List (List UInt8)):T≠[]->(zbg T).length=(za2 T).length+1:=by
 induction T with
 | nil=>intro h;exact absurd rfl h
 | cons t T ih =>
  intro _
  have e:(zbg (t :: T)).length=t.length+1+(zbg T).length:=by
   simp only [zbg,List.flatMap_cons,List.length_append,zia,zea];simp;try omega
  by_cases hT:T=[]
  ·subst hT;rw [e];simp [zbg,za2]
  ·rw [e,ih hT,zbj _ _ hT];simp;omega
theorem grams_bound {l:List UInt8} (h:l.length<=64):(zfe l).length<=65:=by
 have h1:=set_len (zbg (zcu l));have h2:=(zd3 l []).1;by_cases hT:zcu l=[]
 ·unfold zfe;rw [hT];simp [zbg,setL]
 ·have h3:=gramsAll_len (zcu l) hT
  unfold zfe;unfold zcu at *;simp at h2;omega
theorem pos_asc (l:List UInt8):∀ j,j+l.length<=26->AscB (posL j l):=by
 intro j hj i hi
 have a0:∀ (l:List UInt8) (j i:Nat),i<l.length->(posL j l).getD i []=[UInt8.ofNat (97+(j+i)),l.getD i 0]:=by
  intro l;induction l with
  | nil=>intro j i hi;simp at hi
  | cons c l ih =>
   intro j i hi;cases i with
   | zero=>rfl
   | succ i =>
    have:=ih (j+1) i (by simp at hi;omega);simp only [posL,List.getD_cons_succ] at this ⊢;rw [this];congr 2;congr 1;omega
 rw [zjc] at hi;rw [a0 l j i (by omega),a0 l j (i+1) (by omega),bytesLess_eq,decide_eq_true_iff];refine List.cons_lt_cons_iff.2 (.inl ?_);rw [UInt8.lt_iff_toNat_lt,UInt8.toNat_ofNat',UInt8.toNat_ofNat'];omega
end
end Go.Proofs.YtgkaafncfjlooaaGreatDoor
section
namespace Go.Proofs
open Go.Shelf
def Tryz.keys256_ren:Go.Shelf.Ren:=⟨fun | 7=>256 | 10=>274 | n=>n,fun | 23=>269 | 26=>9 | 3=>270 | 28=>266 | 0=>0 | 27=>265 | 33=>148 | 4=>4 | n=>n,fun | n=>n⟩
theorem Tryz.keys256:Go.Proofs.SlLaysZ.n7 prog Tryz.keys256_ren:={
 mixed:=by kernel_rfl
 f7:=⟨Tryz.f256.name,by decide,func256.trans (congrArg some (by kernel_rfl))⟩
 f10:=⟨Tryz.f274.name,by decide,func274.trans (congrArg some (by kernel_rfl))⟩
 t0:=underlying0
 a0:=Tryz.isAgg0
 z0:=Tryz.sizeOf0
 v0:=Tryz.zeroValue0
 t4:=underlying4
 a4:=Tryz.isAgg4
 z4:=Tryz.sizeOf4
 v4:=Tryz.zeroValue4
 t23:=underlying269
 a23:=Tryz.isAgg269
 z23:=Tryz.sizeOf269
 v23:=Tryz.zeroValue269
 t26:=underlying9
 a26:=Tryz.isAgg9
 z26:=Tryz.sizeOf9
 v26:=Tryz.zeroValue9
 t27:=underlying265
 a27:=Tryz.isAgg265
 z27:=Tryz.sizeOf265
 v27:=Tryz.zeroValue265
 t28:=underlying266
 a28:=Tryz.isAgg266
 z28:=Tryz.sizeOf266
 v28:=Tryz.zeroValue266
 t33:=underlying148
 a33:=Tryz.isAgg148
 z33:=Tryz.sizeOf148
 v33:=Tryz.zeroValue148 }
def Tryz.sorted255_ren:Go.Shelf.Ren:=⟨fun | 6=>255 | 8=>272 | 9=>273 | 11=>287 | 13=>145 | 12=>288 | 23=>194 | 24=>195 | 14=>296 | 15=>297 | 16=>298 | 17=>299 | 18=>300 | 19=>301 | 20=>302 | 21=>303 | 22=>304 | 25=>307 | 26=>224 | 27=>225 | 28=>308 | 29=>309 | 30=>310 | 31=>315 | n=>n,fun | 26=>9 | 28=>266 | 24=>28 | 0=>0 | 3=>3 | 37=>119 | 48=>228 | 50=>39 | 4=>4 | 40=>222 | 39=>221 | 45=>103 | 5=>5 | 9=>9 | 51=>237 | 55=>240 | 57=>247 | 58=>248 | 33=>148 | n=>n,fun | n=>n⟩
theorem Tryz.sorted255:Go.Proofs.SlLaysZ.n6 prog Tryz.sorted255_ren:={
 mixed:=by kernel_rfl
 f6:=⟨Tryz.f255.name,by decide,func255.trans (congrArg some (by kernel_rfl))⟩
 f8:=⟨Tryz.f272.name,by decide,func272.trans (congrArg some (by kernel_rfl))⟩
 f11:=⟨Tryz.f287.name,by decide,func287.trans (congrArg some (by kernel_rfl))⟩
 t0:=underlying0
 a0:=Tryz.isAgg0
 z0:=Tryz.sizeOf0
 v0:=Tryz.zeroValue0
 t24:=underlying28
 a24:=Tryz.isAgg28
 z24:=Tryz.sizeOf28
 v24:=Tryz.zeroValue28
 t26:=underlying9
 a26:=Tryz.isAgg9
 z26:=Tryz.sizeOf9
 v26:=Tryz.zeroValue9
 t28:=underlying266
 a28:=Tryz.isAgg266
 z28:=Tryz.sizeOf266
 v28:=Tryz.zeroValue266
 i26:=by kernel_rfl }
def Tryz.sort273_ren:Go.Shelf.Ren:=⟨fun | 6=>273 | 8=>145 | 9=>288 | 19=>194 | 20=>195 | 21=>296 | 22=>297 | 23=>298 | 24=>299 | 25=>300 | 26=>301 | 27=>302 | 28=>303 | 29=>304 | 36=>307 | 31=>224 | 32=>225 | 37=>308 | 38=>309 | 39=>310 | 41=>315 | n=>n,fun | 27=>28 | 29=>9 | 3=>3 | 32=>119 | 26=>28 | 0=>0 | 44=>228 | 46=>39 | 4=>4 | 36=>222 | 35=>221 | 41=>103 | 5=>5 | 9=>9 | 53=>237 | 57=>240 | 63=>247 | 64=>248 | n=>n,fun | n=>n⟩
theorem Tryz.sort273:Go.Proofs.SlLaysM.n6 prog Tryz.sort273_ren:={
 mixed:=by kernel_rfl
 f6:=⟨Tryz.f273.name,by decide,func273.trans (congrArg some (by kernel_rfl))⟩
 f8:=func145.trans (congrArg some (by kernel_rfl))
 f9:=⟨Tryz.f288.name,by decide,func288.trans (congrArg some (by kernel_rfl))⟩
 f19:=func194.trans (congrArg some (by kernel_rfl))
 f20:=func195.trans (congrArg some (by kernel_rfl))
 f21:=⟨Tryz.f296.name,by decide,func296.trans (congrArg some (by kernel_rfl))⟩
 f22:=⟨Tryz.f297.name,by decide,func297.trans (congrArg some (by kernel_rfl))⟩
 f23:=⟨Tryz.f298.name,by decide,func298.trans (congrArg some (by kernel_rfl))⟩
 f24:=⟨Tryz.f299.name,by decide,func299.trans (congrArg some (by kernel_rfl))⟩
 f25:=⟨Tryz.f300.name,by decide,func300.trans (congrArg some (by kernel_rfl))⟩
 f26:=⟨Tryz.f301.name,by decide,func301.trans (congrArg some (by kernel_rfl))⟩
 f27:=⟨Tryz.f302.name,by decide,func302.trans (congrArg some (by kernel_rfl))⟩
 f28:=⟨Tryz.f303.name,by decide,func303.trans (congrArg some (by kernel_rfl))⟩
 f29:=⟨Tryz.f304.name,by decide,func304.trans (congrArg some (by kernel_rfl))⟩
 f31:=func224.trans (congrArg some (by kernel_rfl))
 f32:=func225.trans (congrArg some (by kernel_rfl))
 f36:=⟨Tryz.f307.name,by decide,func307.trans (congrArg some (by kernel_rfl))⟩
 f37:=⟨Tryz.f308.name,by decide,func308.trans (congrArg some (by kernel_rfl))⟩
 f38:=⟨Tryz.f309.name,by decide,func309.trans (congrArg some (by kernel_rfl))⟩
 f39:=⟨Tryz.f310.name,by decide,func310.trans (congrArg some (by kernel_rfl))⟩
 f41:=⟨Tryz.f315.name,by decide,func315.trans (congrArg some (by kernel_rfl))⟩
 t0:=underlying0
 a0:=Tryz.isAgg0
 z0:=Tryz.sizeOf0
 v0:=Tryz.zeroValue0
 t3:=underlying3
 a3:=Tryz.isAgg3
 z3:=Tryz.sizeOf3
 v3:=Tryz.zeroValue3
 t4:=underlying4
 a4:=Tryz.isAgg4
 z4:=Tryz.sizeOf4
 v4:=Tryz.zeroValue4
 t5:=underlying5
 a5:=Tryz.isAgg5
 z5:=Tryz.sizeOf5
 v5:=Tryz.zeroValue5
 t9:=underlying9
 a9:=Tryz.isAgg9
 z9:=Tryz.sizeOf9
 v9:=Tryz.zeroValue9
 t26:=underlying28
 a26:=Tryz.isAgg28
 z26:=Tryz.sizeOf28
 v26:=Tryz.zeroValue28
 t27:=underlying28
 a27:=Tryz.isAgg28
 z27:=Tryz.sizeOf28
 v27:=Tryz.zeroValue28
 t29:=underlying9
 a29:=Tryz.isAgg9
 z29:=Tryz.sizeOf9
 v29:=Tryz.zeroValue9
 t32:=underlying119
 a32:=Tryz.isAgg119
 z32:=Tryz.sizeOf119
 v32:=Tryz.zeroValue119
 t35:=underlying221
 a35:=Tryz.isAgg221
 z35:=Tryz.sizeOf221
 v35:=Tryz.zeroValue221
 t36:=underlying222
 a36:=Tryz.isAgg222
 z36:=Tryz.sizeOf222
 v36:=Tryz.zeroValue222
 t41:=underlying103
 a41:=Tryz.isAgg103
 z41:=Tryz.sizeOf103
 v41:=Tryz.zeroValue103
 t44:=underlying228
 a44:=Tryz.isAgg228
 z44:=Tryz.sizeOf228
 v44:=Tryz.zeroValue228
 t46:=underlying39
 a46:=Tryz.isAgg39
 z46:=Tryz.sizeOf39
 v46:=Tryz.zeroValue39
 t53:=underlying237
 a53:=Tryz.isAgg237
 z53:=Tryz.sizeOf237
 v53:=Tryz.zeroValue237
 t57:=underlying240
 a57:=Tryz.isAgg240
 z57:=Tryz.sizeOf240
 v57:=Tryz.zeroValue240
 t63:=underlying247
 a63:=Tryz.isAgg247
 z63:=Tryz.sizeOf247
 v63:=Tryz.zeroValue247
 t64:=underlying248
 a64:=Tryz.isAgg248
 z64:=Tryz.sizeOf248
 v64:=Tryz.zeroValue248 }
end Go.Proofs
end
section
namespace Go.Proofs
open Go.RowKit Go.Maps Go.Sort Go.Shelf
theorem Tryz.sorts255 (m:Nat):AnyZ.SortsIn prog Tryz.sorted255_ren Fence.wide m :=
 ⟨fun blk off cap ss W hH hblk hsz=>callsIn_wide.2 (AnyM.slices_Sort_string Tryz.sort273 blk off cap ss W hH hblk hsz),
  fun p cap W=>callsIn_wide.2 (AnyM.slices_Sort_string_none Tryz.sort273 p cap W)⟩
theorem Tryz.maps_Keys (mb:Option Nat) (W:World):CallsIn Fence.wide 5 prog 256 #[.map mb] W fun e w'=>e = .returned (.func (.func 274) #[] #[.pointer (some ⟨W.heap.size,0,none⟩)])/\w'=W.alloc (.cells #[.map mb] 269) :=
 AnyZ.keys_in Tryz.keys256 Fence.wide 5 trivial rfl mb W
theorem Tryz.slices_Sorted_keys {H:Type} (b nn:Nat) (D0:DataW H) (R:Value->Option (DataW H × List MemPlace)) (w:World) (hown:w.ownsMap prog 9 R b nn D0) (hmax:Maps.size D0<=maxLen) (hbytes:Maps.size D0*16<=140737488355328) :
  CallsIn Fence.wide 5 prog 255 #[.func (.func 274) #[] #[.pointer (some ⟨w.heap.size,0,none⟩)]] (w.alloc (.cells #[.map (some b)] 269)) fun e w'=>∃ (v:Value) (ss:List (List UInt8)),e = .returned v/\ss.Perm (strKeys D0) /\
   w'.ownsRow (w.alloc (.cells #[.map (some b)] 269)).heap.size 9 1 v ss.length ((ss.mergeSort (fun x y=>decide (x<=y))).map encStr)/\(v = .slice none 0 0 ↔ ss=[])/\Below (w.alloc (.cells #[.map (some b)] 269)).heap.size (w.alloc (.cells #[.map (some b)] 269)) w':=by
 have a2:=hown.lt
 have a1:SeqGives Fence.wide 2 prog 274 #[.pointer (some ⟨w.heap.size,0,none⟩)] encStr (fun ss=>ss.Perm (strKeys D0)) (Maps.size D0) (w.alloc (.cells #[.map (some b)] 269)) :=
  AnyZ.keys_gives (ρ:=Tryz.keys256_ren) { Tryz.keys256 with } Fence.wide _ trivial rfl (by omega) w.heap.size b nn D0 _ (by simp) (by simp) (by
   obtain ⟨es,a0,hb,Ft,hs,hD⟩:=hown
   exact ⟨es,a0,(Below.heap_alloc _ _ b a2).trans hb,Ft,hs,hD⟩)
 exact AnyZ.sorted_in Tryz.sorted255 Fence.wide 5 trivial trivial trivial trivial rfl (by omega) (Tryz.sorts255 _) (enters_of func273 (by kernel_rfl) rfl) 274 #[.pointer (some ⟨w.heap.size,0,none⟩)] trivial (enters_of func274 (by kernel_rfl) rfl) _ _ hmax hbytes _ a1
end Go.Proofs
end
namespace Go.Proofs.YtgkaafncfjlooaaGreatDoor
section
open Go.RowKit Cal
attribute [local go_sem] zag zaj
end
section
open Go.RowKit Cal
attribute [local go_sem] zag zaj
theorem vec_block {w:World} {A:Nat} {L:List (List UInt8)} (h:w.heap[A]?=some (.cells (L.flatMap za8).toArray 9 (0,0))) (n:Nat) (hn:n=L.length):Vec w zau 1 za8 (.slice (some ⟨A,0,none⟩) n n) L:=by
 subst hn;exact RowB.vec h _ xnl
theorem zfo {α:Type} [Inhabited α] (T:List α) (k:Nat) (h:k<T.length):T.take (k+1)=T.take k++[T.getD k default]:=by
 rw [List.take_succ_eq_append_getElem h,List.getD,List.getElem?_eq_getElem h];rfl
end
section
open Go.RowKit Go.Maps
attribute [local go_sem] zag zaj
theorem lawS:Keyed prog 9:=string_keyed underlying9
def unitD:DataW Unit:=.agg []
def setD (L:List (List UInt8)):DataW Unit:=setOf unitD (L.map Lit.string)
theorem keyLit (L:List (List UInt8)):∀ x∈L.map Lit.string,WideAt.IsKeyLit x:=by
 intro x hx;obtain ⟨y,_,rfl⟩:=List.mem_map.1 hx;trivial
theorem setD_snoc (L:List (List UInt8)) (x:List UInt8):setD (L++[x])=(setD L).put (.string x) unitD:=by
 unfold setD;rw [List.map_append,List.map_cons,List.map_nil,setOf_snoc]
theorem of_any (S:Nat->Prop) (v:Value) (L:List (List UInt8)) (w:World) (h:Vec w S 1 za8 v L) (hn:L.length<=1000000) (hL:∀ t∈L,t.length<=1000000) :
  Calls prog 257 #[v] w fun e w'=>e = .returned (.map (some w.heap.size))/\w'.ownsMap prog 9 unitElem w.heap.size L.length (setD L)/\Below w.heap.size w w':=by
 have hmm:=@run_makeMap prog;obtain ⟨a,cap,rfl⟩:=h.slice;by_cases hz:L=[]
 ·subst hz
  clear h;go_enter func257,ntmps257
  go_wp2
  refine wp_loop_rounds 1 ?_;rw [rounds_succ];go_wp2
  go_ret;exact ⟨rfl,World.ownsMap_made _ _ _ _,(Below.refl _ _).alloc xnl _⟩
 ·obtain ⟨b,off,rfl,_,hb,hc⟩:=zb7 h (List.length_pos_iff.2 hz)
  have HC:=zjy hc;have a6:=zjy hL;clear hc h hz hL;go_enter func257,ntmps257
  go_wp2
  go_loopw [9] (fun i wr=>∃ k:Nat,k<=L.length/\i = .int .i64 k/\wr.ownsMap prog 9 unitElem w.heap.size k (setD (L.take k))/\Below w.heap.size w wr) (fun i _=>L.length - (intOf i).toNat)
  case atStart=>exact ⟨0,by omega,rfl,World.ownsMap_made _ _ _ _,(Below.refl _ _).alloc xnl _⟩
  case round =>
   obtain ⟨k,hk,rfl,ho,a4⟩:=hrel;have HO:=zjy ho;have HB:=zjy a4;by_cases hlt:k<L.length
   ·have hq:decide ((k:Int)<L.length)=true:=by simp;omega
    have c1:wr.cell? ⟨b,off+k,none⟩=some (zak (L.getD k [])):=(a4.cell (p:=⟨b,off+k,none⟩) hb).trans (HC.o k hlt);have a5:(L.getD k []).length<=1000000:=by rw [List.getD,List.getElem?_eq_getElem hlt];exact a6.o _ (List.getElem_mem hlt)
    have a2:=zfo L k hlt;rw [show (default:List UInt8)=[] from rfl] at a2;obtain ⟨x,hx⟩:=xex (L.getD k []);rw [hx] at c1 a5 a2;have HT:=zjy a2;have a3:=zjy (WideMaps.keyOf_string_mk (P:=prog) (k:=9) (s:=⟨x.toArray⟩) underlying9 (by rw [zaj];unfold maxLen;omega));clear hx a2 a4 ho;go_wp2_with (at_mapUpdate;refine wpList_mapUpdate_own _ rfl _ _ _ 269 rfl 9 270 lawS underlying269 (unitElem (H:=Unit)) w.heap.size k _ rfl HO.o (by unfold maxLen;omega) _ _ _ rfl rfl a3.o _ [] unitElem_mk ?_;intro w1 a1 a0)
    go_roundw
    case rel=>exact ⟨k+1,by omega,by go_num,by rw [HT.o,setD_snoc];exact a1,HB.o.grown a0 HB.o.size (fun j hj=>by cases hj;exact Nat.le_refl _)⟩
    case measure=>simp [intOf];omega
   ·have hq:decide ((k:Int)<L.length)=false:=by simp;omega
    go_wp2_with fail
    go_ret;exact ⟨rfl,by rw [List.take_of_length_le (by omega)] at HO;exact HO.o.mono hk,HB.o⟩
theorem keyStr {l:Lit} (h:KeysOf prog 9 l):∃ x,l = .string x:=by
 obtain ⟨v,hv⟩:=h;obtain ⟨x,_,h2,_⟩:=keyOf_str underlying9 hv;exact ⟨x,h2⟩
theorem setD_perm {w:World} {b n:Nat} {L:List (List UInt8)} (h:w.ownsMap prog 9 unitElem b n (setD L)):L.eraseDups.Perm (strKeys (setD L)):=by
 have ht:=tidy_setOf unitD (L.map Lit.string) (keyLit L);obtain ⟨es,e1,hk⟩:=h.keysOf;obtain ⟨a0,e2,hp⟩:=ht;have e3:setD L = .map a0:=e2;have a1:es=a0:=by rw [e1] at e3;cases e3;rfl
 subst a1;rw [e1]
 refine perm_strKeys hp (fun p hp'=>keyStr (hk p hp')) (erase_nodup L _ xnl) fun x=>?_
 rw [<- e1,List.mem_eraseDups];unfold setD;rw [has_setOf _ _ _ (keyLit L),List.any_map,List.any_eq_true];constructor
 ·intro hx;exact ⟨x,hx,by simp [Lit.sameKey]⟩
 ·rintro ⟨y,hy,he⟩
  have:=WideAt.sameKey_eq (show (Lit.string y).sameKey (Lit.string x)=true from he);cases this;exact hy
theorem flat_enc (L:List (List UInt8)):L.map encStr=L.flatMap za8:=by
 induction L with
 | nil=>rfl
 | cons a L ih=>rw [List.map_cons,List.flatMap_cons,ih];rfl
theorem set_any (S:Nat->Prop) (v:Value) (L:List (List UInt8)) (w:World) (h:Vec w S 1 za8 v L) (hn:L.length<=1000000) (hL:∀ t∈L,t.length<=1000000) :
  Calls prog 233 #[v] w fun e w'=>∃ v',e = .returned v'/\OwnAt w v' (setL L) w':=by
 have HV:=zjy h;have a3:=zjy hL;clear h hL;go_enter func233,ntmps233
 go_wp2_with fail
 refine (of_any S v L _ HV.o hn a3.o).mono ?_;rintro e w1 ⟨rfl,ho,hb⟩;have HO:=zjy ho;have HB:=zjy hb;clear ho hb;go_wp2_with fail
 refine ((callsIn_wide (n:=5)).1 (Tryz.maps_Keys _ _)).mono ?_;rintro e w' ⟨rfl,rfl⟩;go_wp2_with fail
 refine ((callsIn_wide (n:=5)).1 (Tryz.slices_Sorted_keys w.heap.size L.length (setD L) unitElem w1 HO.o (by have:=HO.o.size_le;unfold maxLen;omega) (by have:=HO.o.size_le;omega))).mono ?_;rintro e w2 ⟨v',ss,rfl,hp,a1,_,a2⟩;have e1:ss.mergeSort leB=setL L:=mergeSort_of_perm (hp.trans (setD_perm HO.o).symm);have e2:ss.length=(setL L).length:=by rw [<- e1,(List.mergeSort_perm _ _).length_eq]
 have a0:w2.ownsRow (w1.alloc (.cells #[.map (some w.heap.size)] 269)).heap.size 9 1 v' (setL L).length ((setL L).flatMap za8):=by
  rw [<- flat_enc,<- e2,<- e1];exact a1
 have HR:=zjy a0;have a4:=zjy ((HB.o.alloc HB.o.size (.cells #[.map (some w.heap.size)] 269)).trans (a2.mono (by have:=HB.o.size;simp;omega)));clear e1 e2 a1 a0 hp a2;have hbz:=HB.o.size;go_wp2_with fail
 go_ret;exact ⟨v',rfl,ownsRow_base_a HR.o (by simp;omega),a4.o⟩
end
section
open Go.RowKit Cal
def FormOk (p:List UInt8 × Int):Prop:=p.1.length<=64/\(p.2≠0->p.1=[])
theorem FormOk.err (e:Int):FormOk ([],e):=⟨by simp,fun _=>rfl⟩
theorem nameN_form (r:RulesL) (l:List UInt8):FormOk (zdd r l):=by
 unfold zdd;repeat' split
 all_goals first | exact FormOk.err _ | skip
 all_goals exact ⟨by dsimp only;omega,fun h=>absurd rfl h⟩
theorem addrN_form (r:RulesL) (l:List UInt8):FormOk (zde r l):=by
 unfold zde;repeat' split
 all_goals first | exact FormOk.err _ | skip
 all_goals exact ⟨by dsimp only;omega,fun h=>absurd rfl h⟩
theorem codeN_form (l:List UInt8):FormOk (zd6 l):=by
 unfold zd6;repeat' split
 all_goals first | exact FormOk.err _ | skip
 all_goals exact ⟨by dsimp only;omega,fun h=>absurd rfl h⟩
theorem dayF_form (y m d:List UInt8):FormOk (dayF y m d):=by
 unfold dayF;cases vldB (zeh y) (zeh m) (zeh d)
 ·exact FormOk.err _
 ·exact ⟨by show (zd2 _ _ _).length<=64;rw [digits8_len];omega,fun h=>absurd rfl h⟩
theorem dayN_form (l:List UInt8):FormOk (dayN l):=by
 unfold dayN;repeat' split
 all_goals first | exact FormOk.err _ | exact dayF_form _ _ _
theorem valueN_form (s:SchemaL) (f:Int) (l:List UInt8):FormOk (zct s f l):=by
 unfold zct normK;repeat' split
 all_goals first | exact FormOk.err _ | exact nameN_form _ _ | exact dayN_form _ | exact codeN_form _ | exact addrN_form _ _
theorem findN_in {s:SchemaL} {f:Nat} (h:za1 s=0) (hf:f<s.fields.length):zbq s f=((s.fields.getD f default).2,0):=by
 unfold zbq;rw [if_pos h,if_pos (by omega),Int.toNat_natCast]
end
section
open Go.RowKit Cal
theorem nameN_toks {r:RulesL} {l v:List UInt8} (h:zdd r l=(v,0)):∃ M:List (List UInt8),(∀ t∈M,okT t)/\v=za2 M/\M.length<=6/\v.length<=64:=by
 unfold zdd at h;by_cases hc:zaz r=0
 ·rw [if_pos hc] at h
  by_cases hv:zdi l=true
  ·rw [if_pos hv] at h
   obtain ⟨h1,_⟩:=zjj hc (zcu (zbx l));generalize za9 r (zcu (zbx l))=M at h h1;by_cases hb:6<M.length\/64<(za2 M).length
   ·rw [if_pos hb] at h;simp at h
   ·rw [if_neg hb] at h
    obtain rfl:za2 M=v:=congrArg Prod.fst h;exact ⟨M,h1,rfl,by omega,by omega⟩
  ·rw [if_neg hv] at h;simp at h
 ·rw [if_neg hc] at h
  exact absurd (congrArg Prod.snd h) hc
theorem addrN_toks {r:RulesL} {l v:List UInt8} (h:zde r l=(v,0)):∃ M:List (List UInt8),(∀ t∈M,okT t)/\v=za2 M/\M.length<=6/\v.length<=64:=by
 unfold zde at h;by_cases hc:zaz r=0
 ·rw [if_pos hc] at h
  obtain ⟨_,_,_,h3,_⟩:=ze1 hc;by_cases hv:zdi l=true
  ·rw [if_pos hv] at h
   have a0:=toks_ok l;generalize zcu (zbx l)=T at h a0
   have hM:∀ t∈zb4 (T.map (za3 r)),okT t:=by
    intro t ht;obtain ⟨x,hx,rfl⟩:=List.mem_map.1 (order2_mem ht);exact (addrTok_same h3 (a0 x hx)).1
   have a1:(zb4 (T.map (za3 r))).length=T.length:=by rw [zjg,List.length_map]
   by_cases hb:6<T.length\/64<(za2 (zb4 (T.map (za3 r)))).length
   ·rw [if_pos hb] at h;simp at h
   ·rw [if_neg hb] at h
    obtain rfl:za2 (zb4 (T.map (za3 r)))=v:=congrArg Prod.fst h;exact ⟨_,hM,rfl,by omega,by omega⟩
  ·rw [if_neg hv] at h;simp at h
 ·rw [if_neg hc] at h
  exact absurd (congrArg Prod.snd h) hc
def zge (k:Int) (l:List UInt8):List (List UInt8):=if l=[] then [] else if k=2 then posL 0 l else if k=3 then [61 :: l] else zfe l
end
section
open Go.RowKit
attribute [local go_sem] zag zaj zba
theorem wrapT_cons (t:List UInt8):zea t=95 :: (t++[95]):=rfl
theorem bigr_getD (l:List UInt8):∀ j,j+1<l.length->(bigrA l).getD j []=[l.getD j 0,l.getD (j+1) 0]:=by
 induction l using bigrA.induct with
 | case1 a b r ih =>
  intro j hj;cases j with
  | zero=>rfl
  | succ j =>
   have:=ih j (by simp at hj ⊢;omega);simp only [bigrA,List.getD_cons_succ] at this ⊢;exact this
 | case2 l h =>
  intro j hj
  match l,h with
  | [],_=>simp at hj
  | [a],_=>simp at hj
  | a :: b :: r,h=>exact absurd rfl (h a b r)
theorem take_two (l:List UInt8) (j:Nat) (h:j+1<l.length):((⟨l.toArray⟩:ByteArray).extract j (j+2))=⟨[l.getD j 0,l.getD (j+1) 0].toArray⟩:=by
 have:=ext_mk l j (j+2) (by omega);unfold mkS at this;rw [this];congr 2;rw [List.drop_take,List.drop_eq_getElem_cons (by omega),List.drop_eq_getElem_cons (by omega),List.getD,List.getD,List.getElem?_eq_getElem (by omega),List.getElem?_eq_getElem h];rw [show j+2 - j=2 by omega];rfl
theorem zjm (T:List (List UInt8)) (k:Nat) (h:k<T.length):zbg (T.take (k+1))=zbg (T.take k)++bigrA (zea (T.getD k [])):=by
 have:=zfo T k h;rw [show (default:List UInt8)=[] from rfl] at this;rw [this];simp [zbg]
theorem ze2 (T:List (List UInt8)) (h:∀ t∈T,t.length<=64):(zbg T).length<=65*T.length:=by
 induction T with
 | nil=>simp [zbg]
 | cons t T ih =>
  have h1:=ih fun x hx=>h x (List.mem_cons_of_mem _ hx)
  have h2:=h t List.mem_cons_self
  have e:(zbg (t :: T)).length=t.length+1+(zbg T).length:=by
   simp only [zbg,List.flatMap_cons,List.length_append,zia,zea];simp;try omega
  rw [e,List.length_cons];omega
theorem toks_len (l:List UInt8) (h:l.length<=64):(zcu l).length<=65/\∀ t∈zcu l,t.length<=64:=by
 have h1:=zd3 l [];unfold zcu
 refine ⟨by simp at h1;omega,fun t ht=>?_⟩
 have:∀ (L:List (List UInt8)),t∈L->t.length<=(za2 L).length:=by
  intro L;induction L with
  | nil=>intro h;simp at h
  | cons a L ih =>
   intro h;by_cases hL:L=[]
   ·subst hL;simp at h;subst h;exact Nat.le_refl _
   ·rw [zbj _ _ hL]
    rcases List.mem_cons.1 h with rfl | h
    ·simp
    ·have:=ih h;simp;omega
 have:=this _ ht;simp at h1;omega
theorem ggrams_any (s:ByteArray) (w:World) (hs:s.size<=64) (ha:ascii s.data.toList) :
  Calls prog 207 #[.string s] w fun e w'=>∃ v,e = .returned v/\Vec w' zau 1 za8 v (zfe s.data.toList)/\Below w.heap.size w w':=by
 have hl:s.data.toList.length=s.size:=by simp
 obtain ⟨c2,a5⟩:=toks_len s.data.toList (by omega);have hc:=zgk s.data.toList w ha (by omega);rw [show zak s.data.toList = .string s by simp] at hc;obtain ⟨T,hT⟩:=xex (zcu s.data.toList);have hG:zfe s.data.toList=setL (zbg T):=by unfold zfe;rw [hT]
 rw [hT] at c2 a5 hc;rw [hG];have HC:=zjy hc;have a6:=zjy a5;have d1:decide ((64:Int)<s.size)=false:=by simp;omega
 clear hl hc hT hG a5 ha;go_enter func207,ntmps207
 go_wp2_with fail
 refine HC.o.mono ?_;rintro e w1 ⟨A,rfl,hA,ho,b2⟩;have HR:=zjy (own_block ho).2;have zA:=zaa HR.o;have a7:=zjy b2;clear ho b2 HC d1;go_wp2_with fail
 go_loopw [3,13] (fun v i wr=>∃ k:Nat,k<=T.length/\i = .int .i64 k/\OwnAt w1 v (zbg (T.take k)) wr) (fun _ i _=>T.length - (intOf i).toNat)
 case atStart=>exact ⟨0,by omega,rfl,OwnAt.start w1⟩
 case round =>
  obtain ⟨k,hk,rfl,ho⟩:=hrel;have HO:=zjy ho;clear ho;by_cases hlt:k<T.length
  ·have hq:decide ((k:Int)<T.length)=true:=by simp;omega
   have c0:=ze2 (T.take k) (fun t ht=>a6.o t (List.mem_of_mem_take ht))
   have htl:=List.length_take_le k T;have b4:(T.getD k []).length<=64:=by rw [List.getD,List.getElem?_eq_getElem hlt];exact a6.o _ (List.getElem_mem hlt)
   have c1:=(show RowB _ A T from zab HO.o.2 zA HR.o).cell k hlt;have HG:=zjy (zjm T k hlt);obtain ⟨t,ht⟩:=xex (T.getD k []);rw [ht] at c1 b4 HG;clear ht;obtain ⟨wo,rfl⟩:∃ wo:World,wo=wr:=⟨_,rfl⟩;go_wp2_with fail
   go_loopw [3,23] (fun v i wr=>∃ j:Nat,j<=1+t.length/\i = .int .i64 j/\OwnAt w1 v (zbg (T.take k)++(bigrA (zea t)).take j) wr) (fun _ i _=>1+t.length - (intOf i).toNat)
   case atStart=>exact ⟨0,by omega,rfl,by simpa using HO.o⟩
   case round =>
    obtain ⟨j,hj,rfl,a9⟩:=hrel;have a1:=zjy a9;clear a9;have b5:(zea t).length=t.length+2:=by simp [zea]
    by_cases hlj:j<1+t.length
    ·have b7:decide ((j:Int)<1+t.length)=true:=by simp;omega
     have a0:=take_two (zea t) j (by omega);have b1:=bigr_getD (zea t) j (by omega);have b0:j<(bigrA (zea t)).length:=by rw [zia];omega
     have a2:=zfo (bigrA (zea t)) j b0;rw [show (default:List UInt8)=[] from rfl,b1] at a2;obtain ⟨z,hz⟩:=xex ([(zea t).getD j 0,(zea t).getD (j+1) 0]);rw [hz] at a0 a2;rw [wrapT_cons] at a0;have c4:=zjy a2
     have b9:(zbg (T.take k)++(bigrA (zea t)).take j).length<1099511627776:=by
      have:=List.length_take_le j (bigrA (zea t));simp only [List.length_append];omega
     have a3:∀ u∈(#[zak z]:Array Value).toList,u.oneCell'=true:=by intro u hu;simp at hu;subst hu;rfl
     clear b1 b0 a2 hz b5;go_wp2_with (at_builtin;refine zay rfl _ _ 28 rfl w1.heap.size 9 1 16 (.string ⟨#[]⟩) underlying28 zdt rfl (by decide) (by decide) _ _ _ rfl a1.o.1 #[zak z] 1 rfl rfl a3 b9 a1.o.2.size ?_;intro v2 w8 b8 b6)
     go_roundw
     case rel=>exact ⟨j+1,by omega,by go_num,by rw [c4.o,<- List.append_assoc];exact ⟨by rw [List.length_append,zd4];exact b8,b6 _ a1.o.2⟩⟩
     case measure=>simp [intOf];omega
    ·have b7:decide ((j:Int)<1+t.length)=false:=by simp;omega
     rw [show (bigrA (zea t)).take j=bigrA (zea t) from List.take_of_length_le (by rw [zia];omega),<- HG.o] at a1;go_wp2_with fail
     go_roundw
     case rel=>exact ⟨k+1,by omega,by go_num,a1.o⟩
     case measure=>simp [intOf];omega
  ·have hq:decide ((k:Int)<T.length)=false:=by simp;omega
   rw [List.take_of_length_le (by omega)] at HO;have c0:=ze2 T a6.o;have HV:=zjy (Vec.owns (S:=zau) (k:=1) (enc:=za8) (fun _=>rfl) HO.o.1 (fun _ _ _=>trivial))
   have a8:∀ x∈zbg T,x.length<=1000000:=by
    intro x hx;obtain ⟨t,ht,hx⟩:=List.mem_flatMap.1 hx
    have b3:∀ l:List UInt8,∀ x∈bigrA l,x.length=2:=by
     intro l;induction l using bigrA.induct with
     | case1 a b r ih =>
      intro x hx;simp only [bigrA] at hx
      rcases List.mem_cons.1 hx with rfl | hx
      ·rfl
      ·exact ih x hx
     | case2 l h =>
      intro x hx
      match l,h with
      | [],_=>simp [bigrA] at hx
      | [a],_=>simp [bigrA] at hx
      | a :: b :: r,h=>exact absurd rfl (h a b r)
    have:=b3 _ x hx;omega
   have c5:=zjy a8;clear a8;go_wp2_with fail
   refine (set_any zau _ (zbg T) _ HV.o (by omega) c5.o).mono ?_;rintro e w3 ⟨v3,rfl,a4⟩;have c3:=zjy (Vec.owns (S:=zau) (k:=1) (enc:=za8) (fun _=>rfl) a4.1 (fun _ _ _=>trivial))
   have c6:=zjy ((a7.o.trans (HO.o.2.mono a7.o.size)).trans (a4.2.mono (Nat.le_trans a7.o.size HO.o.2.size)));clear a4;go_wp2_with fail
   go_ret;exact ⟨v3,rfl,c3.o,c6.o⟩
end
section
open Go.RowKit Cal
attribute [local go_sem] zag zaj zba
theorem kind4_any (s:ByteArray) (w:World) (hs:s.size<=1000) :
  Calls prog 216 #[.string s] w fun e w'=>∃ v,e = .returned v/\Vec w' zau 1 za8 v [61 :: s.data.toList]/\Below w.heap.size w w':=by
 have hs2:(⟨#[61]⟩:ByteArray)++s=⟨(61 :: s.data.toList).toArray⟩:=by
  apply ByteArray.ext;simp
 go_enter func216,ntmps216
 go_wp2
 go_ret;exact ⟨_,rfl,vec_block (L:=[61 :: s.data.toList]) (zac rfl) 1 rfl,(Below.refl _ _).alloc xnl _⟩
def zfx (s:SchemaL) (f:Int) (l:List UInt8):List (List UInt8) × Int:=if (zbq s f).2=0 then (if zat s f l=true then (zge (zbq s f).1 l,0) else ([],7)) else ([],(zbq s f).2)
def GramsIs (p:List (List UInt8) × Int) (w:World) (e:Ending) (w':World):Prop:=∃ v,e = .returned (.tuple #[v,.int .i64 p.2])/\Vec w' zau 1 za8 v p.1/\Below w.heap.size w w'
theorem own_small {p:List UInt8 × Int} {l:List UInt8} (h:zep p l=true) (hf:FormOk p):l.length<=64/\p=(l,0):=by
 obtain ⟨a,b⟩:=p;unfold zep at h;cases hb:(b == (0:Int))
 ·rw [hb] at h;cases h
 ·rw [hb] at h
  simp only [cond_true,beq_iff_eq] at h hb;subst h hb;exact ⟨hf.1,rfl⟩
theorem join_ascii {M:List (List UInt8)} (h:∀ t∈M,okT t):ascii (za2 M):=fun b hb=>okB_lt (join_ok M h b hb)
theorem zjf {k:Int} {r:RulesL} {l:List UInt8} (h:ownK k r l=true) (hk:k=1\/k=2\/k=3\/k=4):l.length<=64/\(k=1\/k=4->ascii l)/\(k=2->l.length=8):=by
 unfold ownK at h
 rcases hk with rfl | rfl | rfl | rfl
 ·obtain ⟨h1,h2⟩:=own_small (show zep (zdd r l) l=true from h) (nameN_form r l)
  obtain ⟨M,g1,g2,_⟩:=nameN_toks h2;exact ⟨h1,fun _=>by rw [g2];exact join_ascii g1,fun e=>by omega⟩
 ·have hr:readB l=true:=h
  unfold readB at hr;cases hd:decide (l.length=8)
  ·rw [hd] at hr;cases hr
  ·have:l.length=8:=by simpa using hd
   exact ⟨by omega,fun e=>by omega,fun _=>this⟩
 ·obtain ⟨h1,h2⟩:=own_small (show zep (zd6 l) l=true from h) (codeN_form l)
  exact ⟨h1,fun e=>by omega,fun e=>by omega⟩
 ·obtain ⟨h1,h2⟩:=own_small (show zep (zde r l) l=true from h) (addrN_form r l)
  obtain ⟨M,g1,g2,_⟩:=addrN_toks h2;exact ⟨h1,fun _=>by rw [g2];exact join_ascii g1,fun e=>by omega⟩
theorem grams_s (S:Nat->Prop) (vf vt vn vs:Value) (s:SchemaL) (f:Int) (x:ByteArray) (w:World) (h:SchemaAt w S vf vt vn vs s) (hx:x.size<=9223372036854775000) :
  Calls prog 138 #[.agg #[vf,vt,vn,vs],.int .i64 f,.string x] w (GramsIs (zfx s f x.data.toList) w):=by
 have HS:=zjy h.any;have HL:=zjy (Lib.toList_data x);clear h;have K:=find_s zau vf vt vn vs s f (w.alloc (.cells #[vf,vt,vn,vs] 33)) (HS.o.below ((Below.refl _ _).alloc xnl _));have b2:=zei (s:=s) (f:=f);have a8:zfx s f x.data.toList=if (zbq s f).2=0 then (if zat s f x.data.toList=true then (zge (zbq s f).1 x.data.toList,0) else ([],7)) else ([],(zbq s f).2):=rfl
 have a9:(zbq s f).2=0->x.data.toList≠[]->zat s f x.data.toList=ownK (zbq s f).1 s.rules x.data.toList:=fun h0 h1=>by unfold zat;rw [if_pos h0,if_neg h1]
 obtain ⟨⟨kd,er⟩,hp⟩:∃ p,zbq s f=p:=⟨_,rfl⟩;rw [hp] at K b2 a8 a9;dsimp only at b2 a8 a9;change Calls _ _ _ _ fun e w'=>e = .returned (.tuple #[.agg (zbo kd),.int .i64 er])/\_ at K
 have HK:=zjy K;have a4:=zjy a8;have a7:=zjy a9;obtain ⟨ko,ks⟩:=kindAt_one kd;have KO:=zjy ko;have KS:=zjy ks;clear K hp a8 ko ks a9;by_cases he:er=0
 ·subst he
  have b5:=b2 rfl;clear b2;cases hno:zat s f x.data.toList
  ·have HE:=zjy (show zfx s f x.data.toList=([],7) by rw [a4.o,if_pos rfl,hno,if_neg (by simp)])
   have HN:=zjy hno;clear hno b5;rw [HE.o];go_enter func138,ntmps138
   go_wp2_with fail
   refine HK.o.mono ?_;rintro e w1 ⟨rfl,a0⟩;have a2:=zjy (xbt a0);have a3:=zjy (xbn a0);clear a0 HK;have z0:=zaa a3.o;obtain ⟨p0,p1,p2,p3⟩:=zbp a3.o;go_wp2_with (refine wpList_store_row rfl 188 (.tmp 8) (.tmp 14) rfl w1.heap.size (zbo kd) rfl rfl 188 zfc (heap_alloc_new w1 _) (by rw [KS.o];kernel_rfl) (by rw [KS.o];rfl) KO.o ?_;rw [World.setRow_alloc_new])
   have a5:=zjy (a2.o.alloc a2.o.size (.cells (zbo kd) 188));refine (zg1 zau vf vt vn vs s f x _ (HS.o.below a5.o) hx).mono ?_;rw [HN.o];rintro e w3 ⟨rfl,a1⟩;have a6:=xhh a5 a1;clear a1 p0 p1 p2 p3;go_wp2_with fail
   go_ret2;exact ⟨_,rfl,Vec.nil _ _ _ _,a6.o⟩
  ·by_cases hx0:x.data.toList=[]
   ·have e1:x.toList=[]:=by rw [HL.o,hx0]
    have HE:=zjy (show zfx s f x.data.toList=([],0) by rw [a4.o,if_pos rfl,hno,if_pos rfl];unfold zge;rw [if_pos hx0]);have HN:=zjy hno;clear hno b5 hx0;rw [HE.o];go_enter func138,ntmps138
    go_wp2_with fail
    refine HK.o.mono ?_;rintro e w1 ⟨rfl,a0⟩;have a2:=zjy (xbt a0);have a3:=zjy (xbn a0);clear a0 HK;have z0:=zaa a3.o;obtain ⟨p0,p1,p2,p3⟩:=zbp a3.o;go_wp2_with (refine wpList_store_row rfl 188 (.tmp 8) (.tmp 14) rfl w1.heap.size (zbo kd) rfl rfl 188 zfc (heap_alloc_new w1 _) (by rw [KS.o];kernel_rfl) (by rw [KS.o];rfl) KO.o ?_;rw [World.setRow_alloc_new])
    have a5:=zjy (a2.o.alloc a2.o.size (.cells (zbo kd) 188));refine (zg1 zau vf vt vn vs s f x _ (HS.o.below a5.o) hx).mono ?_;rw [HN.o];rintro e w3 ⟨rfl,a1⟩;have a6:=xhh a5 a1;clear a1 p0 p1 p2 p3;go_wp2_with fail
    go_ret2;exact ⟨_,rfl,Vec.nil _ _ _ _,a6.o⟩
   ·have e1:(x.toList == [])=false:=by rw [HL.o];simpa using hx0
    have e2:x.toList.isEmpty=false:=by rw [HL.o];simpa using hx0
    have ho:=a7.o rfl hx0;rw [hno] at ho;obtain ⟨g1,g2,g3⟩:=zjf ho.symm b5;have hl:x.data.toList.length=x.size:=by simp
    rw [hl] at g1 g3;have b0:=zjy g2;have HE:=zjy (show zfx s f x.data.toList=(zge kd x.data.toList,0) by rw [a4.o,if_pos rfl,hno,if_pos rfl]);have b3:=zjy (show zge kd x.data.toList=if kd=2 then posL 0 x.data.toList else if kd=3 then [61 :: x.data.toList] else zfe x.data.toList by unfold zge;rw [if_neg hx0]);have HN:=zjy hno;clear hno hx0 ho hl g2;rw [HE.o,b3.o]
    rcases b5 with rfl | rfl | rfl | rfl
    ·rw [if_neg (by omega),if_neg (by omega)]
     (first | have b4:=zjy (b0.o (by omega)) | skip);clear b0 HE b3 a7 a4;go_enter func138,ntmps138
     go_wp2_with fail
     refine HK.o.mono ?_;rintro e w1 ⟨rfl,a0⟩;have a2:=zjy (xbt a0);have a3:=zjy (xbn a0);clear a0 HK;have z0:=zaa a3.o;obtain ⟨p0,p1,p2,p3⟩:=zbp a3.o;go_wp2_with (refine wpList_store_row rfl 188 (.tmp 8) (.tmp 14) rfl w1.heap.size (zbo 1) rfl rfl 188 zfc (heap_alloc_new w1 _) (by rw [KS.o];kernel_rfl) (by rw [KS.o];rfl) KO.o ?_;rw [World.setRow_alloc_new])
     have a5:=zjy (a2.o.alloc a2.o.size (.cells (zbo 1) 188));refine (zg1 zau vf vt vn vs s f x _ (HS.o.below a5.o) hx).mono ?_;rw [HN.o];rintro e w3 ⟨rfl,a1⟩;have a6:=xhh a5 a1;have b1:=zjy (zab (b:=w1.heap.size) (o:=.cells (zbo 1) 188 (0,0)) a1 (by simp) (zac rfl));have cf:w3.cell? ⟨w1.heap.size,3,none⟩=some (fnV 207):=by rw [cell_of_row _ _ _ _ _ _ b1.o];rfl
     clear a1 p0 p1 p2 p3;go_wp2_with fail
     refine (ggrams_any x _ g1 b4.o).mono ?_;rintro e w4 ⟨v,rfl,ho⟩;have HO:=zjy ho;clear ho;go_wp2_with fail
     go_ret2;exact ⟨v,rfl,HO.o.1,a6.o.trans ((HO.o.2).mono a6.o.size)⟩
    ·rw [if_pos rfl]
     have g4:x.size<=26:=by have:=g3 rfl;omega
     (first | have b4:=zjy (b0.o (by omega)) | skip);clear b0 HE b3 a7 a4;go_enter func138,ntmps138
     go_wp2_with fail
     refine HK.o.mono ?_;rintro e w1 ⟨rfl,a0⟩;have a2:=zjy (xbt a0);have a3:=zjy (xbn a0);clear a0 HK;have z0:=zaa a3.o;obtain ⟨p0,p1,p2,p3⟩:=zbp a3.o;go_wp2_with (refine wpList_store_row rfl 188 (.tmp 8) (.tmp 14) rfl w1.heap.size (zbo 2) rfl rfl 188 zfc (heap_alloc_new w1 _) (by rw [KS.o];kernel_rfl) (by rw [KS.o];rfl) KO.o ?_;rw [World.setRow_alloc_new])
     have a5:=zjy (a2.o.alloc a2.o.size (.cells (zbo 2) 188));refine (zg1 zau vf vt vn vs s f x _ (HS.o.below a5.o) hx).mono ?_;rw [HN.o];rintro e w3 ⟨rfl,a1⟩;have a6:=xhh a5 a1;have b1:=zjy (zab (b:=w1.heap.size) (o:=.cells (zbo 2) 188 (0,0)) a1 (by simp) (zac rfl));have cf:w3.cell? ⟨w1.heap.size,3,none⟩=some (fnV 211):=by rw [cell_of_row _ _ _ _ _ _ b1.o];rfl
     clear a1 p0 p1 p2 p3;go_wp2_with fail
     refine (positional_any x _ (by omega)).mono ?_;rintro e w4 ⟨v,rfl,ho⟩;have HO:=zjy ho;clear ho;go_wp2_with fail
     go_ret2;exact ⟨v,rfl,Vec.owns (k:=1) (enc:=za8) (fun _=>rfl) HO.o.1 (fun _ _ _=>trivial),a6.o.trans ((HO.o.2).mono a6.o.size)⟩
    ·rw [if_neg (by omega),if_pos rfl]
     (first | have b4:=zjy (b0.o (by omega)) | skip);clear b0 HE b3 a7 a4;go_enter func138,ntmps138
     go_wp2_with fail
     refine HK.o.mono ?_;rintro e w1 ⟨rfl,a0⟩;have a2:=zjy (xbt a0);have a3:=zjy (xbn a0);clear a0 HK;have z0:=zaa a3.o;obtain ⟨p0,p1,p2,p3⟩:=zbp a3.o;go_wp2_with (refine wpList_store_row rfl 188 (.tmp 8) (.tmp 14) rfl w1.heap.size (zbo 3) rfl rfl 188 zfc (heap_alloc_new w1 _) (by rw [KS.o];kernel_rfl) (by rw [KS.o];rfl) KO.o ?_;rw [World.setRow_alloc_new])
     have a5:=zjy (a2.o.alloc a2.o.size (.cells (zbo 3) 188));refine (zg1 zau vf vt vn vs s f x _ (HS.o.below a5.o) hx).mono ?_;rw [HN.o];rintro e w3 ⟨rfl,a1⟩;have a6:=xhh a5 a1;have b1:=zjy (zab (b:=w1.heap.size) (o:=.cells (zbo 3) 188 (0,0)) a1 (by simp) (zac rfl));have cf:w3.cell? ⟨w1.heap.size,3,none⟩=some (fnV 216):=by rw [cell_of_row _ _ _ _ _ _ b1.o];rfl
     clear a1 p0 p1 p2 p3;go_wp2_with fail
     refine (kind4_any x _ (by omega)).mono ?_;rintro e w4 ⟨v,rfl,ho⟩;have HO:=zjy ho;clear ho;go_wp2_with fail
     go_ret2;exact ⟨v,rfl,HO.o.1,a6.o.trans ((HO.o.2).mono a6.o.size)⟩
    ·rw [if_neg (by omega),if_neg (by omega)]
     (first | have b4:=zjy (b0.o (by omega)) | skip);clear b0 HE b3 a7 a4;go_enter func138,ntmps138
     go_wp2_with fail
     refine HK.o.mono ?_;rintro e w1 ⟨rfl,a0⟩;have a2:=zjy (xbt a0);have a3:=zjy (xbn a0);clear a0 HK;have z0:=zaa a3.o;obtain ⟨p0,p1,p2,p3⟩:=zbp a3.o;go_wp2_with (refine wpList_store_row rfl 188 (.tmp 8) (.tmp 14) rfl w1.heap.size (zbo 4) rfl rfl 188 zfc (heap_alloc_new w1 _) (by rw [KS.o];kernel_rfl) (by rw [KS.o];rfl) KO.o ?_;rw [World.setRow_alloc_new])
     have a5:=zjy (a2.o.alloc a2.o.size (.cells (zbo 4) 188));refine (zg1 zau vf vt vn vs s f x _ (HS.o.below a5.o) hx).mono ?_;rw [HN.o];rintro e w3 ⟨rfl,a1⟩;have a6:=xhh a5 a1;have b1:=zjy (zab (b:=w1.heap.size) (o:=.cells (zbo 4) 188 (0,0)) a1 (by simp) (zac rfl));have cf:w3.cell? ⟨w1.heap.size,3,none⟩=some (fnV 207):=by rw [cell_of_row _ _ _ _ _ _ b1.o];rfl
     clear a1 p0 p1 p2 p3;go_wp2_with fail
     refine (ggrams_any x _ g1 b4.o).mono ?_;rintro e w4 ⟨v,rfl,ho⟩;have HO:=zjy ho;clear ho;go_wp2_with fail
     go_ret2;exact ⟨v,rfl,HO.o.1,a6.o.trans ((HO.o.2).mono a6.o.size)⟩
 ·have hne:(er != 0)=true:=by simpa using he
  have HE:=zjy (show zfx s f x.data.toList=([],er) by rw [a4.o,if_neg he]);clear he b2;rw [HE.o];go_enter func138,ntmps138
  go_wp2_with fail
  refine HK.o.mono ?_;rintro e w1 ⟨rfl,a0⟩;have a2:=zjy (xbt a0);clear a0 HK;go_wp2_with (refine wpList_store_row rfl 188 (.tmp 8) (.tmp 14) rfl w1.heap.size (zbo kd) rfl rfl 188 zfc (heap_alloc_new w1 _) (by rw [KS.o];kernel_rfl) (by rw [KS.o];rfl) KO.o ?_;rw [World.setRow_alloc_new])
  go_ret2;exact ⟨_,rfl,Vec.nil _ _ _ _,a2.o.alloc a2.o.size _⟩
end
section
open Go.RowKit
structure RecL where
 id:Int
 ver:Int
 vals:List (List UInt8)
def noRec:RecL:=⟨0,0,[]⟩
def zbl (i v:Int):Bool:=decide (1<=i) && decide (i<=1048576) && decide (1<=v) && decide (v<=1048576)
def zfa (s:SchemaL):Nat->List (List UInt8)->Bool
 | _,[]=>true
 | i,x :: l=>zat s i x && zfa s (i+1) l
def zeu (s:SchemaL) (r:RecL):Int:=if (zbl r.id r.ver && (r.vals.length == s.fields.length) && zfa s 0 r.vals)=true then 0 else 7
def zdq (s:SchemaL) (r:RecL):Int:=if za1 s=0 then zeu s r else za1 s
def zey (s:SchemaL):Nat->List (List UInt8)->List (List UInt8)->List (List UInt8) × Int
 | _,C,[]=>(C,0)
 | i,C,x :: l=>if (zct s i x).2=0 then zey s (i+1) (C++[(zct s i x).1]) l else ([],(zct s i x).2)
def makeN (s:SchemaL) (id ver:Int) (raws:List (List UInt8)):RecL × Int :=
 if za1 s=0 then
  if raws.length=s.fields.length then
   if zbl id ver=true then (if (zey s 0 [] raws).2=0 then (⟨id,ver,(zey s 0 [] raws).1⟩,0) else (noRec,(zey s 0 [] raws).2))
   else (noRec,7)
  else (noRec,8)
 else (noRec,za1 s)
theorem makeA_len (s:SchemaL) (raws:List (List UInt8)):∀ i C,(zey s i C raws).2=0->(zey s i C raws).1.length=C.length+raws.length:=by
 induction raws with
 | nil=>intro i C _;simp [zey]
 | cons x l ih =>
  intro i C h;unfold zey at h ⊢;split at h
  ·rename_i h0
   rw [if_pos h0,ih _ _ h];simp;omega
  ·rename_i h0
   exact absurd h h0
theorem normA_append (s:SchemaL) (A B:List (List UInt8)):∀ i,zfa s i (A++B)=(zfa s i A && zfa s (i+A.length) B):=by
 induction A with
 | nil=>intro i;simp [zfa]
 | cons x A ih=>intro i;simp only [List.cons_append,zfa,ih,List.length_cons,Bool.and_assoc];rw [show i+1+A.length=i+(A.length+1) by omega]
theorem zji (s:SchemaL) (L:List (List UInt8)):∀ i,zfa s i L=true->∀ j,j<L.length->zat s (i+j:Nat) (L.getD j [])=true:=by
 induction L with
 | nil=>intro i _ j hj;simp at hj
 | cons x L ih =>
  intro i h j hj;simp only [zfa,Bool.and_eq_true] at h;cases j with
  | zero=>simpa using h.1
  | succ j =>
   have:=ih (i+1) h.2 j (by simpa using hj);rw [show i+(j+1)=i+1+j by omega];simpa using this
theorem normA_of (s:SchemaL) (L:List (List UInt8)):∀ i,(∀ j,j<L.length->zat s (i+j:Nat) (L.getD j [])=true)->zfa s i L=true:=by
 induction L with
 | nil=>intro i _;rfl
 | cons x L ih =>
  intro i h;simp only [zfa,Bool.and_eq_true]
  refine ⟨by simpa using h 0 (by simp),ih (i+1) fun j hj=>?_⟩
  have:=h (j+1) (by simpa using hj);rw [show i+(j+1)=i+1+j by omega] at this;simpa using this
theorem makeA_norm (s:SchemaL) (raws:List (List UInt8)):∀ i C,(zey s i C raws).2=0->i=C.length->zfa s 0 C=true->zfa s 0 (zey s i C raws).1=true:=by
 induction raws with
 | nil=>intro i C _ _ h;simpa [zey] using h
 | cons x l ih =>
  intro i C h hi hC;unfold zey at h ⊢;split at h
  ·rename_i h0
   rw [if_pos h0];refine ih _ _ h (by simp;omega) ?_;rw [normA_append,hC,Bool.true_and,Nat.zero_add];obtain ⟨⟨v,e⟩,hp⟩:∃ p,zct s i x=p:=⟨_,rfl⟩;rw [hp] at h0 ⊢;dsimp only at h0;subst h0;simp only [zfa,Bool.and_true];rw [<- hi];exact (value_normal hp).1
  ·rename_i h0
   exact absurd h h0
theorem makeN_ok {s:SchemaL} {id ver:Int} {raws:List (List UInt8)} {r:RecL} (h:makeN s id ver raws=(r,0)) :
  za1 s=0/\r.id=id/\r.ver=ver/\zbl id ver=true/\r.vals.length=s.fields.length/\raws.length=s.fields.length/\zfa s 0 r.vals=true/\r.vals=(zey s 0 [] raws).1/\(zey s 0 [] raws).2=0:=by
 unfold makeN at h;split at h
 ·rename_i h1
  split at h
  ·rename_i h2
   split at h
   ·rename_i h3
    split at h
    ·rename_i h4
     obtain rfl:RecL.mk id ver (zey s 0 [] raws).1=r:=congrArg Prod.fst h;exact ⟨h1,rfl,rfl,h3,by simpa [h2] using makeA_len s raws 0 [] h4,h2,makeA_norm s raws 0 [] h4 rfl rfl,rfl,h4⟩
    ·rename_i h4
     exact absurd (congrArg Prod.snd h) h4
   ·exact absurd (congrArg Prod.snd h) (show (7:Int)≠0 by decide)
  ·exact absurd (congrArg Prod.snd h) (show (8:Int)≠0 by decide)
 ·rename_i h1
  exact absurd (congrArg Prod.snd h) h1
theorem checkN_of {s:SchemaL} {r:RecL} (h0:za1 s=0) (h1:zbl r.id r.ver=true) (h2:r.vals.length=s.fields.length) (h3:zfa s 0 r.vals=true):zdq s r=0:=by
 unfold zdq zeu;rw [if_pos h0,h1,h3,h2];simp
theorem zgt {s:SchemaL} {r:RecL} (h:zdq s r=0):za1 s=0/\zbl r.id r.ver=true/\r.vals.length=s.fields.length/\zfa s 0 r.vals=true:=by
 unfold zdq at h;split at h
 ·rename_i h0
  unfold zeu at h;split at h
  ·rename_i h1
   simp only [Bool.and_eq_true,beq_iff_eq] at h1;exact ⟨h0,h1.1.1,h1.1.2,h1.2⟩
  ·exact absurd h (by decide)
 ·rename_i h0;exact absurd h h0
theorem normalB_nil {s:SchemaL} {f:Int} (h:(zbq s f).2=0):zat s f []=true:=by
 unfold zat;rw [if_pos h,if_pos rfl]
theorem none_norm {s:SchemaL} (h:za1 s=0):zfa s 0 (List.replicate s.fields.length [])=true:=by
 refine normA_of _ _ _ fun j hj=>?_
 rw [List.length_replicate] at hj;have e:(List.replicate s.fields.length ([]:List UInt8)).getD j []=[]:=by simp [List.getD,List.getElem?_replicate];split <;> rfl
 rw [e];refine normalB_nil ?_;rw [findN_in h (by simpa using hj)]
end
section
open Go.RowKit
structure BitsL where
 len:Int
 words:List Int
def zch:BitsL:=⟨0,[]⟩
structure ParL where
 len:Int
 hashes:Int
 salt:Int
instance:Inhabited ParL:=⟨⟨0,0,0⟩⟩
structure EncL where
 id:Int
 ver:Int
 fields:List BitsL
def zda (n:Int):Bool:=decide (64<=n) && decide (n<=512) && (n % 64 == 0)
def zdr (p:ParL):Bool:=zda p.len && decide (1<=p.hashes) && decide (p.hashes<=16) && decide (-1<=p.salt) && decide (p.salt<5)
def posN (len y:Int):Nat->Int->List Int
 | 0,_=>[]
 | n+1,x=>x :: posN len y n ((x+y) % len)
def zgs (p:ParL) (k:Int × Int) (g:List UInt8):Int:=(zdk k.1 k.2 [[49],g]) % p.len
def zib (p:ParL) (k:Int × Int) (g:List UInt8):Int:=1+(zdk k.1 k.2 [[50],g]) % (p.len - 1)
def zbv (p:ParL) (k:Int × Int) (g:List UInt8):List Int:=posN p.len (zib p k g) p.hashes.toNat (zgs p k g)
def zf6 (ws:List Int) (i:Int):List Int:=ws.set (i / 64).toNat (bits .or .u64 (ws.getD (i / 64).toNat 0) (IntKind.u64.wrap (2 ^ (i % 64).toNat)))
def zeo (p:ParL) (k:Int × Int) (ws:List Int) (g:List UInt8):List Int:=(zbv p k g).foldl zf6 ws
def ze6 (n:Int):List Int:=List.replicate (n / 64).toNat 0
def zhq (p:ParL) (k:Int × Int) (G:List (List UInt8)):BitsL × Int :=
 if zdr p=true then (if G.length<=80 then (⟨p.len,G.foldl (zeo p k) (ze6 p.len)⟩,0) else (zch,1)) else (zch,10)
structure ParOk (p:ParL):Prop where
 len1:64<=p.len
 len2:p.len<=512
 len3:p.len % 64=0
 h1:1<=p.hashes
 h2:p.hashes<=16
 s1:-1<=p.salt
 s2:p.salt<5
theorem ParOk.right {p:ParL} (h:ParOk p):zda p.len=true:=by
 have h1:=h.len1;have h2:=h.len2;have h3:=h.len3;simp [zda,h1,h2,h3]
theorem ParOk.bloom {p:ParL} (h:ParOk p):zdr p=true:=by
 have h0:=h.right;have h1:=h.h1;have h2:=h.h2;have h3:=h.s1;have h4:=h.s2;simp [zdr,h0,h1,h2,h3,h4]
theorem orBit_len (ws:List Int) (i:Int):(zf6 ws i).length=ws.length:=by simp [zf6]
theorem orBits_len (l:List Int):∀ ws:List Int,(l.foldl zf6 ws).length=ws.length:=by
 induction l with
 | nil=>intro ws;rfl
 | cons x l ih=>intro ws;rw [List.foldl_cons,ih,orBit_len]
theorem orGrams_len (p:ParL) (k:Int × Int) (G:List (List UInt8)):∀ ws:List Int,(G.foldl (zeo p k) ws).length=ws.length:=by
 induction G with
 | nil=>intro ws;rfl
 | cons x l ih=>intro ws;rw [List.foldl_cons,ih];exact orBits_len _ _
def zdv (t:List UInt8):List UInt8:=[102,105,101,108,100]++t
def zem (t:List UInt8):List UInt8:=[115,97,108,116,61]++t
def keyN (k:Int × Int) (num:List UInt8) (salted:Bool) (salt:List UInt8):Int × Int :=
 let x:=zer k.1 k.2 (zdv num)
 bif salted then zer x.1 x.2 (zem salt) else x
def saltOf (p:ParL) (vals:List (List UInt8)):List UInt8:=if 0<=p.salt then vals.getD p.salt.toNat [] else []
def zff (s:SchemaL) (p:ParL) (k:Int × Int) (vals:List (List UInt8)) (i:Nat):BitsL :=
 if vals.getD i []=[] then zch else (zhq p (keyN k (Lib.decDigits i) (decide (0<=p.salt)) (saltOf p vals)) (zfx s i (vals.getD i [])).1).1
theorem bigrams_two:∀ (l:List UInt8),∀ x∈bigrA l,x.length=2
 | [],x,h=>by simp [bigrA] at h
 | [a],x,h=>by simp [bigrA] at h
 | a :: b :: l,x,h=>by
  simp only [bigrA,List.mem_cons] at h
  rcases h with rfl | h
  ·rfl
  ·exact bigrams_two (b :: l) x h
theorem posL_two:∀ (l:List UInt8) (j:Nat),∀ x∈posL j l,x.length=2
 | [],j,x,h=>by simp [posL] at h
 | c :: l,j,x,h=>by
  simp only [posL,List.mem_cons] at h
  rcases h with rfl | h
  ·rfl
  ·exact posL_two l (j+1) x h
theorem gramsL_two (l:List UInt8):∀ x∈zfe l,x.length=2:=by
 intro x h;unfold zfe at h;rw [set_mem] at h;unfold zbg at h;obtain ⟨t,_,ht⟩:=List.mem_flatMap.1 h;exact bigrams_two _ _ ht
theorem grams_fit {s:SchemaL} {i:Int} {l:List UInt8} (h:zat s i l=true) (hi:(zbq s i).2=0):(zfx s i l).2=0/\(zfx s i l).1.length<=80/\(∀ g∈(zfx s i l).1,g.length<=100)/\l.length<=64:=by
 unfold zfx;rw [if_pos hi,if_pos h];by_cases h0:l=[]
 ·subst h0;simp [zge]
 ·have ho:ownK (zbq s i).1 s.rules l=true:=by unfold zat at h;rw [if_pos hi,if_neg h0] at h;exact h
  obtain ⟨g1,g2,g3⟩:=zjf ho (zei hi);refine ⟨rfl,?_,?_,g1⟩
  ·unfold zge
   rw [if_neg h0];split
   ·rw [zjc];omega
   ·split
    ·simp
    ·have:=grams_bound g1;show (zfe l).length<=80;omega
  ·unfold zge
   rw [if_neg h0];split
   ·intro g hg;rw [posL_two _ _ g hg];omega
   ·split
    ·intro g hg;simp at hg;subst hg;simp;omega
    ·intro g hg;rw [gramsL_two _ g hg];omega
end
section
open Go.RowKit
theorem ziw (op:BinOp) (x y:Int):0<=bits op .u64 x y/\bits op .u64 x y<18446744073709551616:=by
 have:∃ e,bits op .u64 x y=IntKind.u64.wrap e:=by unfold bits;exact ⟨_,rfl⟩
 obtain ⟨e,he⟩:=this;rw [he];simp only [IntKind.wrap,IntKind.bits,IntKind.signed];simp;omega
theorem zdu (w:World) (r:Option Nat):w.grownBy w r:=⟨rfl,rfl,rfl,Nat.le_refl _,fun _ _ _=>rfl⟩
theorem zcs {w w1 w2:World} {r:Option Nat} (h:w.grownBy w1 r) (h':w1.grownBy w2 r):w.grownBy w2 r :=
 ⟨h'.os.trans h.os,h'.tape.trans h.tape,h'.output.trans h.output,Nat.le_trans h.size h'.size,fun k hk hr=>(h'.block k (Nat.lt_of_lt_of_le hk h.size) hr).trans (h.block k hk hr)⟩
theorem zfw {w w1:World} {r:Option Nat} (h:w.grownBy w1 r) (n:Nat):w.grownBy (w1.drewN n) r:=⟨h.os,h.tape,h.output,h.size,h.block⟩
theorem zc0 {w w1:World} {D i:Nat} {v:Value} (h:w.grownBy w1 (some D)):w.grownBy (w1.setCell ⟨D,i,none⟩ v) (some D) :=
 zcs h ⟨rfl,rfl,rfl,by simp [World.setCell],fun k hk hr=>heap_setCell_other _ _ _ _ (fun e=>hr (by rw [e]))⟩
theorem zg2 {w w1:World} {r:Option Nat} (h:Below w.heap.size w w1):w.grownBy w1 r:=⟨h.os,h.tape,h.output,h.size,fun k hk _=>h.block k hk⟩
theorem grown_blk {w w1:World} {D k:Nat} {o:Obj} (h:w.grownBy w1 (some D)) (ho:w.heap[k]?=some o) (hk:k≠D):w1.heap[k]?=some o:=by
 have a0:k<w.heap.size:=by
  rcases Nat.lt_or_ge k w.heap.size with h' | h'
  ·exact h'
  ·simp [Array.getElem?_eq_none h'] at ho
 rw [h.block k a0 (by simpa using hk)];exact ho
def ListAt (w:World) (D:Nat) (s:Value) (n:Nat):Prop :=
 ∃ a cap,s = .slice a n cap/\n<=400/\(0<n->∃ b off,a=some ⟨b,off,none⟩/\b<D/\∀ i,i<n->∃ x:Int,w.cell? ⟨b,off+i,none⟩=some (.int .i64 x))
theorem ListAt.same {w w1:World} {D n:Nat} {s:Value} (h:ListAt w D s n) (hg:∀ k,k<D->w1.heap[k]?=w.heap[k]?):ListAt w1 D s n:=by
 obtain ⟨a,a0,h1,h2,h3⟩:=h
 refine ⟨a,a0,h1,h2,fun hn=>?_⟩
 obtain ⟨b,off,h4,h5,h7⟩:=h3 hn
 refine ⟨b,off,h4,h5,fun i hi=>?_⟩
 obtain ⟨x,hx⟩:=h7 i hi;exact ⟨x,(World.cell?_of_block (w:=w) (a:=⟨b,off+i,none⟩) (hg b h5)).trans hx⟩
def DeckAt (w:World) (D:Nat):Prop :=
 ∃ (s:Value) (n:Nat) (t st:Int),w.heap[D]?=some (.cells #[s,.int .i64 t,.int .u64 st] 81 (0,0))/\ListAt w D s n/\0<=t/\t<=n
theorem DeckAt.lt {w:World} {D:Nat} (h:DeckAt w D):D<w.heap.size:=by
 obtain ⟨s,n,t,st,h,_⟩:=h;exact (Array.getElem?_eq_some_iff.1 h).1
theorem DeckAt.same {w w1:World} {D:Nat} (h:DeckAt w D) (hg:∀ k,k<=D->w1.heap[k]?=w.heap[k]?):DeckAt w1 D:=by
 obtain ⟨s,n,t,st,h1,h2,h3⟩:=h;exact ⟨s,n,t,st,(hg D xnl).trans h1,h2.same fun k hk=>hg k (Nat.le_of_lt hk),h3⟩
theorem DeckAt.below {w w1:World} {D:Nat} (h:DeckAt w D) (hb:Below w.heap.size w w1):DeckAt w1 D:=by
 have hlt:=h.lt;exact h.same fun k hk=>hb.block k (by omega)
structure Moved (D:Nat) (w w':World):Prop where
 grown:w.grownBy w' (some D)
 deck:DeckAt w' D
 lt:D<w.heap.size
theorem Moved.start {D:Nat} {w:World} (h:DeckAt w D):Moved D w w:=⟨zdu _ _,h,h.lt⟩
theorem Moved.trans {D:Nat} {w w1 w2:World} (h:Moved D w w1) (h':Moved D w1 w2):Moved D w w2:=⟨zcs h.grown h'.grown,h'.deck,h.lt⟩
theorem Moved.below {D:Nat} {w w1 w2:World} (h:Moved D w w1) (hb:Below w1.heap.size w1 w2):Moved D w w2:=⟨zcs h.grown (zg2 hb),h.deck.below hb,h.lt⟩
theorem Moved.alloc {D:Nat} {w w1:World} (h:Moved D w w1) (o:Obj):Moved D w (w1.alloc o):=h.below ((Below.refl _ _).alloc xnl _)
theorem Moved.drew {D:Nat} {w w1:World} (h:Moved D w w1):Moved D w w1.drew:=h.below (Below.refl _ _).drew
theorem Moved.set {D:Nat} {w w1:World} (h:Moved D w w1) {a:Addr} (ha:w.heap.size<=a.block) (v:Value):Moved D w (w1.setCell a v):=by
 have:=h.lt
 refine ⟨⟨h.grown.os,h.grown.tape,h.grown.output,by simpa [World.setCell] using h.grown.size,fun k hk hr=>?_⟩,h.deck.same fun k hk=>heap_setCell_other _ _ _ _ (by omega),this⟩
 rw [heap_setCell_other _ _ _ _ (by omega)];exact h.grown.block k hk hr
theorem Moved.blk {D k:Nat} {w w1:World} {o:Obj} (h:Moved D w w1) (hk:k≠D) (ho:w.heap[k]?=some o):w1.heap[k]?=some o:=grown_blk h.grown ho hk
theorem Moved.size {D:Nat} {w w1:World} (h:Moved D w w1):w.heap.size<=w1.heap.size:=h.grown.size
theorem Moved.base {D B:Nat} {w0 w w1:World} (h:Moved D w w1) (hb:Below B w0 w) (hB:B<=D):Below B w0 w1 :=
 hb.trans ⟨h.grown.os,h.grown.tape,h.grown.output,h.grown.size,fun k hk=>h.grown.block k (by have:=h.lt;omega) (by simp;omega)⟩
def WordPost (D:Nat) (w:World) (e:Ending) (w':World):Prop :=
 ∃ r:Int,e = .returned (.int .u64 r)/\0<=r/\r<18446744073709551616/\Moved D w w'
theorem word_done {D n:Nat} {w w':World} {s:Value} {r t st:Int} (hL:ListAt w D s n) (hg:w.grownBy w' (some D)) (hD:w'.heap[D]?=some (.cells #[s,.int .i64 t,.int .u64 st] 81 (0,0)))
  (hlt:D<w.heap.size) (h0:0<=t) (h1:t<=n) (hr:0<=r/\r<18446744073709551616):WordPost D w (.returned (.int .u64 r)) w' :=
 ⟨r,rfl,hr.1,hr.2,hg,⟨s,n,t,st,hD,hL.same fun k hk=>hg.block k (by omega) (by simp;omega),h0,h1⟩,hlt⟩
theorem word_more (D:Nat) (w:World) (b off n cap:Nat) (t st x:Int) (hD:w.heap[D]?=some (.cells #[.slice (some ⟨b,off,none⟩) n cap,.int .i64 t,.int .u64 st] 81 (0,0)))
  (hL:ListAt w D (.slice (some ⟨b,off,none⟩) n cap) n) (hn:n<=400) (h0:0<=t) (h1:t<n) (hb:b<D) (hx:w.cell? ⟨b,off+t.toNat,none⟩=some (.int .i64 x)) :
  Calls prog 36 #[.pointer (some ⟨D,0,none⟩)] w (WordPost D w):=by
 obtain ⟨p0,p1,p2⟩:=zan hD;obtain ⟨f0,f1,f2⟩:=free3 hD;obtain ⟨t,rfl⟩:=Int.eq_ofNat_of_zero_le h0;rw [Int.toNat_natCast] at hx;have a0:=zaa hD;have HD:=zjy hD;clear hD;go_enter func36,ntmps36
 go_wp2
 go_quiet (fail)
 go_wp2
 go_quiet (fail)
 go_wp2
 go_quiet (fail)
 go_wp2
 go_ret;exact word_done hL (zfw (zc0 (zc0 (zfw (zdu w _) _))) _) (zad (zad HD.o)) a0 (by omega) (by omega) (ziw _ _ _)
theorem word_end (D:Nat) (w:World) (a:Option Addr) (n cap:Nat) (t st:Int) (hD:w.heap[D]?=some (.cells #[.slice a n cap,.int .i64 t,.int .u64 st] 81 (0,0)))
  (hL:ListAt w D (.slice a n cap) n) (hn:n<=400) (h0:0<=t) (h1:t=n) :
  Calls prog 36 #[.pointer (some ⟨D,0,none⟩)] w (WordPost D w):=by
 subst h1;obtain ⟨p0,p1,p2⟩:=zan hD;obtain ⟨f0,f1,f2⟩:=free3 hD;have a0:=zaa hD;have HD:=zjy hD;clear hD;go_enter func36,ntmps36
 go_wp2
 go_quiet (fail)
 go_wp2
 go_quiet (fail)
 go_wp2
 go_ret;exact word_done hL (zfw (zc0 (zfw (zdu w _) _)) _) (zad HD.o) a0 (by omega) (by omega) (ziw _ _ _)
theorem word_any (D:Nat) (w:World) (h:DeckAt w D) :
  Calls prog 36 #[.pointer (some ⟨D,0,none⟩)] w (WordPost D w):=by
 obtain ⟨s,n,t,st,hD,hL,h0,h1⟩:=h;have a0:=hL;obtain ⟨a,a1,rfl,hn,h2⟩:=hL;by_cases ht:t=n
 ·exact word_end D w a n a1 t st hD a0 hn h0 ht
 ·have a2:t<n:=by clear h2 a0;omega
  obtain ⟨b,off,rfl,hb,hc⟩:=h2 (by clear h2 a0;omega);obtain ⟨x,hx⟩:=hc t.toNat (by clear hc h2 a0;omega);exact word_more D w b off n a1 t st x hD a0 hn h0 a2 hb hx
theorem next_val {r k:Int} (h0:0<=r) (h1:r<18446744073709551616) (hk:1<=k):0<=(wrap64 (r / 2)).tmod k/\(wrap64 (r / 2)).tmod k<k:=by
 have e:wrap64 (r / 2)=r / 2:=IntWalk.wrap64_in (r / 2) (by constructor <;> omega);have h2:0<=r / 2:=by omega
 rw [e,Int.tmod_eq_emod_of_nonneg h2];exact ⟨Int.emod_nonneg _ (by omega),Int.emod_lt_of_pos _ (by omega)⟩
def NextPost (D:Nat) (w:World) (k:Int) (e:Ending) (w':World):Prop :=
 ∃ r:Int,e = .returned (.int .i64 r)/\0<=r/\r<k/\Moved D w w'
theorem zb5 (D:Nat) (w:World) (k:Int) (h:DeckAt w D) (hk:1<=k) (hk2:k<=1000000000) :
  Calls prog 25 #[.pointer (some ⟨D,0,none⟩),.int .i64 k] w (NextPost D w k):=by
 go_enter func25,ntmps25
 go_wp2_with fail
 refine (word_any D _ h).mono ?_;rintro e w1 ⟨r,rfl,h0,h1,h2⟩;have H1:=zjy h1;clear h1;have H2:=zjy h2;clear h2;go_wp2_with fail
 go_ret;have hv:=next_val h0 H1.o hk;exact ⟨_,rfl,hv.1,hv.2,H2.o⟩
theorem zit (a:Option Addr) (n cap:Nat) (w:World) :
  Calls prog 7 #[.slice a n cap] w fun e w'=>e = .returned (.bool (decide (n<=400)))/\w=w':=by
 go_enter func7,ntmps7
 go_wp2
 go_ret;exact ⟨zax (by simp;omega),rfl⟩
theorem new_any (a:Option Addr) (n cap:Nat) (w:World) :
  Calls prog 8 #[.slice a n cap] w fun e w'=>e = .returned (.pointer (some ⟨w.heap.size,0,none⟩))/\w.alloc (.cells #[.slice a n cap,.int .i64 0,.int .u64 11400714819323198485] 81)=w':=by
 go_enter func8,ntmps8
 go_wp2
 go_ret;exact ⟨rfl,rfl⟩
theorem deck_new {w:World} {a:Option Addr} {n cap:Nat} (hn:n<=400) (h:0<n->∃ b off,a=some ⟨b,off,none⟩/\b<w.heap.size/\∀ i,i<n->∃ x:Int,w.cell? ⟨b,off+i,none⟩=some (.int .i64 x)) :
  DeckAt (w.alloc (.cells #[.slice a n cap,.int .i64 0,.int .u64 11400714819323198485] 81)) w.heap.size:=by
 refine ⟨_,n,0,_,zac rfl,⟨a,cap,rfl,hn,fun h0=>?_⟩,by omega,by omega⟩
 obtain ⟨b,off,h1,h2,h3⟩:=h h0
 refine ⟨b,off,h1,h2,fun i hi=>?_⟩
 obtain ⟨x,hx⟩:=h3 i hi;exact ⟨x,(World.cell?_of_block (w:=w) (a:=⟨b,off+i,none⟩) (((Below.refl _ _).alloc xnl _).block b h2)).trans hx⟩
end
section
open Go.RowKit
abbrev sipC (s:Sip):Array Value:=#[.int .u64 s.a,.int .u64 s.b,.int .u64 s.c,.int .u64 s.d]
theorem rot13 (x:Int) (w:World):Calls prog 281 #[.int .u64 x,.int .i64 13] w fun e w'=>e = .returned (.int .u64 (zi8 8192 2251799813685248 x))/\w=w':=by
 have hb:bits .and .u64 13 63=13:=by decide +kernel
 go_enter func281,ntmps281
 go_wp2
 go_ret;exact ⟨rfl,rfl⟩
theorem rot32 (x:Int) (w:World):Calls prog 281 #[.int .u64 x,.int .i64 32] w fun e w'=>e = .returned (.int .u64 (zi8 4294967296 4294967296 x))/\w=w':=by
 have hb:bits .and .u64 32 63=32:=by decide +kernel
 go_enter func281,ntmps281
 go_wp2
 go_ret;exact ⟨rfl,rfl⟩
theorem rot16 (x:Int) (w:World):Calls prog 281 #[.int .u64 x,.int .i64 16] w fun e w'=>e = .returned (.int .u64 (zi8 65536 281474976710656 x))/\w=w':=by
 have hb:bits .and .u64 16 63=16:=by decide +kernel
 go_enter func281,ntmps281
 go_wp2
 go_ret;exact ⟨rfl,rfl⟩
theorem rot21 (x:Int) (w:World):Calls prog 281 #[.int .u64 x,.int .i64 21] w fun e w'=>e = .returned (.int .u64 (zi8 2097152 8796093022208 x))/\w=w':=by
 have hb:bits .and .u64 21 63=21:=by decide +kernel
 go_enter func281,ntmps281
 go_wp2
 go_ret;exact ⟨rfl,rfl⟩
theorem rot17 (x:Int) (w:World):Calls prog 281 #[.int .u64 x,.int .i64 17] w fun e w'=>e = .returned (.int .u64 (zi8 131072 140737488355328 x))/\w=w':=by
 have hb:bits .and .u64 17 63=17:=by decide +kernel
 go_enter func281,ntmps281
 go_wp2
 go_ret;exact ⟨rfl,rfl⟩
theorem zaq {w:World} {b:Nat} {x y z u:Value} {t:TypeId} {fr:Nat × Nat} (h:w.heap[b]?=some (.cells #[x,y,z,u] t fr)) :
  w.cell? ⟨b,0,none⟩=some x/\w.cell? ⟨b,1,none⟩=some y/\w.cell? ⟨b,2,none⟩=some z/\w.cell? ⟨b,3,none⟩=some u:=by
 refine ⟨?_,?_,?_,?_⟩ <;> (rw [cell_of_row _ _ _ _ _ _ h];rfl)
theorem freeS {w:World} {b:Nat} {cs:Array Value} {t:TypeId} (h:w.heap[b]?=some (.cells cs t (0,0))) :
  w.frozen? ⟨b,0,none⟩=false/\w.frozen? ⟨b,1,none⟩=false/\w.frozen? ⟨b,2,none⟩=false/\w.frozen? ⟨b,3,none⟩=false:=⟨frozen_of_row _ _ _ _ _ h,frozen_of_row _ _ _ _ _ h,frozen_of_row _ _ _ _ _ h,frozen_of_row _ _ _ _ _ h⟩
def SipAt (w:World) (b:Nat) (s:Sip) (w':World):Prop:=w'.heap[b]?=some (.cells (sipC s) 277 (0,0))/\w.grownBy w' (some b)
theorem SipAt.read {w w':World} {b:Nat} {s:Sip} (h:SipAt w b s w'):(w'.cell? ⟨b,0,none⟩=some (.int .u64 s.a)/\w'.cell? ⟨b,1,none⟩=some (.int .u64 s.b)/\w'.cell? ⟨b,2,none⟩=some (.int .u64 s.c)/\w'.cell? ⟨b,3,none⟩=some (.int .u64 s.d)) /\
  (w'.frozen? ⟨b,0,none⟩=false/\w'.frozen? ⟨b,1,none⟩=false/\w'.frozen? ⟨b,2,none⟩=false/\w'.frozen? ⟨b,3,none⟩=false):=⟨zaq h.1,freeS h.1⟩
theorem SipAt.set {w w':World} {b i:Nat} {s s':Sip} {v:Value} {n:Nat} (h:SipAt w b s w') (e:(sipC s).setIfInBounds i v=sipC s'):SipAt w b s' ((w'.drewN n).setCell ⟨b,i,none⟩ v) :=
 ⟨by rw [<- e];exact zad h.1,zc0 (zfw h.2 n)⟩
theorem zci {K:Act->World->Prop} {Q:Exit->Act->World->Prop} {x:Exit} {a:Act} {W:World} (h:∀ w',w'=W->Exit.then K Q x a w'):Exit.then K Q x a W:=h W rfl
def rndI:Nat->Sip->Sip
 | 0,s=>s
 | n+1,s=>rndP (rndI n s)
theorem rounds_any (b:Nat) (s:Sip) (n:Nat) (w:World) (hb:w.heap[b]?=some (.cells (sipC s) 277 (0,0))) (hn:n<=4) :
  Calls prog 265 #[.pointer (some ⟨b,0,none⟩),.int .i64 n] w fun e w'=>e = .returned (.tuple #[])/\SipAt w b (rndI n s) w':=by
 have HB:=zjy hb;clear hb;go_enter func265,ntmps265
 go_wp2_with fail
 go_loopw [5] (fun i wr=>∃ k:Nat,i = .int .i64 k/\k<=n/\SipAt w b (rndI k s) wr) (fun i _=>n - (intOf i).toNat)
 case atStart=>exact ⟨0,rfl,by omega,HB.o,zdu _ _⟩
 case round =>
  obtain ⟨k,rfl,hk,hs⟩:=hrel;have HS:=zjy hs;clear hs;by_cases hlt:k<n
  ·have hq:decide ((k:Int)<n)=true:=by simp;omega
   obtain ⟨s0,a9⟩:=xex (rndI k s);rw [a9] at HS;obtain ⟨a,b0,c,d⟩:=s0;obtain ⟨⟨c0,c1,c2,c3⟩,f0,f1,f2,f3⟩:=HS.o.read;dsimp only at c0 c1 c2 c3;go_wp2_with fail
   refine wp_region_noPanic ?_
   refine zaw (by kernel_rfl) (fun w'=>w'.cell? ⟨b,0,none⟩=some (.int .u64 a)/\w'.cell? ⟨b,1,none⟩=some (.int .u64 b0)/\w'.cell? ⟨b,2,none⟩=some (.int .u64 c)/\w'.cell? ⟨b,3,none⟩=some (.int .u64 d)/\w'.frozen? ⟨b,0,none⟩=false/\w'.frozen? ⟨b,1,none⟩=false/\w'.frozen? ⟨b,2,none⟩=false/\w'.frozen? ⟨b,3,none⟩=false) 11 (⟨c0,c1,c2,c3,f0,f1,f2,f3⟩) (fun hHeld=>?_)
   refine tK 0 ?_;refine tK 1 ?_;refine tK 2 ?_;refine tK 3 ?_;refine tK 4 ?_;refine tK 5 ?_;refine tK 6 ?_;refine tK 7 ?_;refine tK 8 ?_;refine tK 9 ?_;refine tK 10 ?_
   refine xrK 11 rfl fun K hK=>?_
   go_simp;refine zav hK (by decide) ?_;clear hK K;refine zas (by kernel_rfl) ?_ _;refine NoPanic.normal ?_;first | refine zal (fun w1 hw1=>?_) | refine zci (fun w1 hw1=>?_)
   have hs:SipAt w b ⟨ad a b0,b0,c,d⟩ w1:=by rw [hw1];first | exact HS.o.set (n:=0) rfl | exact HS.o.set (n:=1) rfl
   obtain ⟨x1,a8⟩:=xex (ad a b0);rw [a8] at hs;have b9:=zjy a8;clear a8;clear hw1 HS c0 c1 c2 c3 f0 f1 f2 f3;have HS:=zjy hs;clear hs;obtain ⟨⟨c0,c1,c2,c3⟩,f0,f1,f2,f3⟩:=HS.o.read;dsimp only at c0 c1 c2 c3;go_wp2_with fail
   refine wp_region_noPanic ?_
   refine zaw (by kernel_rfl) (fun w'=>w'.cell? ⟨b,0,none⟩=some (.int .u64 x1)/\w'.cell? ⟨b,1,none⟩=some (.int .u64 b0)/\w'.cell? ⟨b,2,none⟩=some (.int .u64 c)/\w'.cell? ⟨b,3,none⟩=some (.int .u64 d)/\w'.frozen? ⟨b,0,none⟩=false/\w'.frozen? ⟨b,1,none⟩=false/\w'.frozen? ⟨b,2,none⟩=false/\w'.frozen? ⟨b,3,none⟩=false) 13 (⟨c0,c1,c2,c3,f0,f1,f2,f3⟩) (fun hHeld=>?_)
   refine tK 0 ?_;refine tK 1 ?_;refine tK 2 ?_;refine tK 3 ?_;refine tK 4 ?_;refine tK 6 ?_;refine tK 7 ?_;refine tK 8 ?_;refine tK 9 ?_
   refine xrK 5 rfl fun K hK=>?_
   go_simp;refine (rot13 _ _).mono ?_;rintro e wq ⟨rfl,rfl⟩
   refine zbc hK (⟨c0,c1,c2,c3,f0,f1,f2,f3⟩) (fun hHeld=>?_)
   clear hK K;refine tK 10 ?_;refine tK 11 ?_;refine tK 12 ?_
   refine xrK 13 rfl fun K hK=>?_
   go_simp;refine zav hK (by decide) ?_;clear hK K;refine zas (by kernel_rfl) ?_ _;refine NoPanic.normal ?_;first | refine zal (fun w1 hw1=>?_) | refine zci (fun w1 hw1=>?_)
   have hs:SipAt w b ⟨x1,xr (zi8 8192 2251799813685248 b0) x1,c,d⟩ w1:=by rw [hw1];first | exact HS.o.set (n:=0) rfl | exact HS.o.set (n:=1) rfl
   obtain ⟨x2,a7⟩:=xex (xr (zi8 8192 2251799813685248 b0) x1);rw [a7] at hs;have b8:=zjy a7;clear a7;clear hw1 HS c0 c1 c2 c3 f0 f1 f2 f3;have HS:=zjy hs;clear hs;obtain ⟨⟨c0,c1,c2,c3⟩,f0,f1,f2,f3⟩:=HS.o.read;dsimp only at c0 c1 c2 c3;go_wp2_with fail
   refine (rot32 _ _).mono ?_;rintro e wq ⟨rfl,rfl⟩;go_wp2_with fail
   first | refine zal (fun w1 hw1=>?_) | refine zci (fun w1 hw1=>?_)
   have hs:SipAt w b ⟨zi8 4294967296 4294967296 x1,x2,c,d⟩ w1:=by rw [hw1];first | exact HS.o.set (n:=0) rfl | exact HS.o.set (n:=1) rfl
   obtain ⟨x3,a6⟩:=xex (zi8 4294967296 4294967296 x1);rw [a6] at hs;have b7:=zjy a6;clear a6;clear hw1 HS c0 c1 c2 c3 f0 f1 f2 f3;have HS:=zjy hs;clear hs;obtain ⟨⟨c0,c1,c2,c3⟩,f0,f1,f2,f3⟩:=HS.o.read;dsimp only at c0 c1 c2 c3;go_wp2_with fail
   refine wp_region_noPanic ?_
   refine zaw (by kernel_rfl) (fun w'=>w'.cell? ⟨b,0,none⟩=some (.int .u64 x3)/\w'.cell? ⟨b,1,none⟩=some (.int .u64 x2)/\w'.cell? ⟨b,2,none⟩=some (.int .u64 c)/\w'.cell? ⟨b,3,none⟩=some (.int .u64 d)/\w'.frozen? ⟨b,0,none⟩=false/\w'.frozen? ⟨b,1,none⟩=false/\w'.frozen? ⟨b,2,none⟩=false/\w'.frozen? ⟨b,3,none⟩=false) 11 (⟨c0,c1,c2,c3,f0,f1,f2,f3⟩) (fun hHeld=>?_)
   refine tK 0 ?_;refine tK 1 ?_;refine tK 2 ?_;refine tK 3 ?_;refine tK 4 ?_;refine tK 5 ?_;refine tK 6 ?_;refine tK 7 ?_;refine tK 8 ?_;refine tK 9 ?_;refine tK 10 ?_
   refine xrK 11 rfl fun K hK=>?_
   go_simp;refine zav hK (by decide) ?_;clear hK K;refine zas (by kernel_rfl) ?_ _;refine NoPanic.normal ?_;first | refine zal (fun w1 hw1=>?_) | refine zci (fun w1 hw1=>?_)
   have hs:SipAt w b ⟨x3,x2,ad c d,d⟩ w1:=by rw [hw1];first | exact HS.o.set (n:=0) rfl | exact HS.o.set (n:=1) rfl
   obtain ⟨x4,a5⟩:=xex (ad c d);rw [a5] at hs;have b6:=zjy a5;clear a5;clear hw1 HS c0 c1 c2 c3 f0 f1 f2 f3;have HS:=zjy hs;clear hs;obtain ⟨⟨c0,c1,c2,c3⟩,f0,f1,f2,f3⟩:=HS.o.read;dsimp only at c0 c1 c2 c3;go_wp2_with fail
   refine wp_region_noPanic ?_
   refine zaw (by kernel_rfl) (fun w'=>w'.cell? ⟨b,0,none⟩=some (.int .u64 x3)/\w'.cell? ⟨b,1,none⟩=some (.int .u64 x2)/\w'.cell? ⟨b,2,none⟩=some (.int .u64 x4)/\w'.cell? ⟨b,3,none⟩=some (.int .u64 d)/\w'.frozen? ⟨b,0,none⟩=false/\w'.frozen? ⟨b,1,none⟩=false/\w'.frozen? ⟨b,2,none⟩=false/\w'.frozen? ⟨b,3,none⟩=false) 13 (⟨c0,c1,c2,c3,f0,f1,f2,f3⟩) (fun hHeld=>?_)
   refine tK 0 ?_;refine tK 1 ?_;refine tK 2 ?_;refine tK 3 ?_;refine tK 4 ?_;refine tK 6 ?_;refine tK 7 ?_;refine tK 8 ?_;refine tK 9 ?_
   refine xrK 5 rfl fun K hK=>?_
   go_simp;refine (rot16 _ _).mono ?_;rintro e wq ⟨rfl,rfl⟩
   refine zbc hK (⟨c0,c1,c2,c3,f0,f1,f2,f3⟩) (fun hHeld=>?_)
   clear hK K;refine tK 10 ?_;refine tK 11 ?_;refine tK 12 ?_
   refine xrK 13 rfl fun K hK=>?_
   go_simp;refine zav hK (by decide) ?_;clear hK K;refine zas (by kernel_rfl) ?_ _;refine NoPanic.normal ?_;first | refine zal (fun w1 hw1=>?_) | refine zci (fun w1 hw1=>?_)
   have hs:SipAt w b ⟨x3,x2,x4,xr (zi8 65536 281474976710656 d) x4⟩ w1:=by rw [hw1];first | exact HS.o.set (n:=0) rfl | exact HS.o.set (n:=1) rfl
   obtain ⟨x5,a4⟩:=xex (xr (zi8 65536 281474976710656 d) x4);rw [a4] at hs;have b5:=zjy a4;clear a4;clear hw1 HS c0 c1 c2 c3 f0 f1 f2 f3;have HS:=zjy hs;clear hs;obtain ⟨⟨c0,c1,c2,c3⟩,f0,f1,f2,f3⟩:=HS.o.read;dsimp only at c0 c1 c2 c3;go_wp2_with fail
   refine wp_region_noPanic ?_
   refine zaw (by kernel_rfl) (fun w'=>w'.cell? ⟨b,0,none⟩=some (.int .u64 x3)/\w'.cell? ⟨b,1,none⟩=some (.int .u64 x2)/\w'.cell? ⟨b,2,none⟩=some (.int .u64 x4)/\w'.cell? ⟨b,3,none⟩=some (.int .u64 x5)/\w'.frozen? ⟨b,0,none⟩=false/\w'.frozen? ⟨b,1,none⟩=false/\w'.frozen? ⟨b,2,none⟩=false/\w'.frozen? ⟨b,3,none⟩=false) 11 (⟨c0,c1,c2,c3,f0,f1,f2,f3⟩) (fun hHeld=>?_)
   refine tK 0 ?_;refine tK 1 ?_;refine tK 2 ?_;refine tK 3 ?_;refine tK 4 ?_;refine tK 5 ?_;refine tK 6 ?_;refine tK 7 ?_;refine tK 8 ?_;refine tK 9 ?_;refine tK 10 ?_
   refine xrK 11 rfl fun K hK=>?_
   go_simp;refine zav hK (by decide) ?_;clear hK K;refine zas (by kernel_rfl) ?_ _;refine NoPanic.normal ?_;first | refine zal (fun w1 hw1=>?_) | refine zci (fun w1 hw1=>?_)
   have hs:SipAt w b ⟨ad x3 x5,x2,x4,x5⟩ w1:=by rw [hw1];first | exact HS.o.set (n:=0) rfl | exact HS.o.set (n:=1) rfl
   obtain ⟨x6,a3⟩:=xex (ad x3 x5);rw [a3] at hs;have b4:=zjy a3;clear a3;clear hw1 HS c0 c1 c2 c3 f0 f1 f2 f3;have HS:=zjy hs;clear hs;obtain ⟨⟨c0,c1,c2,c3⟩,f0,f1,f2,f3⟩:=HS.o.read;dsimp only at c0 c1 c2 c3;go_wp2_with fail
   refine wp_region_noPanic ?_
   refine zaw (by kernel_rfl) (fun w'=>w'.cell? ⟨b,0,none⟩=some (.int .u64 x6)/\w'.cell? ⟨b,1,none⟩=some (.int .u64 x2)/\w'.cell? ⟨b,2,none⟩=some (.int .u64 x4)/\w'.cell? ⟨b,3,none⟩=some (.int .u64 x5)/\w'.frozen? ⟨b,0,none⟩=false/\w'.frozen? ⟨b,1,none⟩=false/\w'.frozen? ⟨b,2,none⟩=false/\w'.frozen? ⟨b,3,none⟩=false) 13 (⟨c0,c1,c2,c3,f0,f1,f2,f3⟩) (fun hHeld=>?_)
   refine tK 0 ?_;refine tK 1 ?_;refine tK 2 ?_;refine tK 3 ?_;refine tK 4 ?_;refine tK 6 ?_;refine tK 7 ?_;refine tK 8 ?_;refine tK 9 ?_
   refine xrK 5 rfl fun K hK=>?_
   go_simp;refine (rot21 _ _).mono ?_;rintro e wq ⟨rfl,rfl⟩
   refine zbc hK (⟨c0,c1,c2,c3,f0,f1,f2,f3⟩) (fun hHeld=>?_)
   clear hK K;refine tK 10 ?_;refine tK 11 ?_;refine tK 12 ?_
   refine xrK 13 rfl fun K hK=>?_
   go_simp;refine zav hK (by decide) ?_;clear hK K;refine zas (by kernel_rfl) ?_ _;refine NoPanic.normal ?_;first | refine zal (fun w1 hw1=>?_) | refine zci (fun w1 hw1=>?_)
   have hs:SipAt w b ⟨x6,x2,x4,xr (zi8 2097152 8796093022208 x5) x6⟩ w1:=by rw [hw1];first | exact HS.o.set (n:=0) rfl | exact HS.o.set (n:=1) rfl
   obtain ⟨x7,a2⟩:=xex (xr (zi8 2097152 8796093022208 x5) x6);rw [a2] at hs;have b3:=zjy a2;clear a2;clear hw1 HS c0 c1 c2 c3 f0 f1 f2 f3;have HS:=zjy hs;clear hs;obtain ⟨⟨c0,c1,c2,c3⟩,f0,f1,f2,f3⟩:=HS.o.read;dsimp only at c0 c1 c2 c3;go_wp2_with fail
   refine wp_region_noPanic ?_
   refine zaw (by kernel_rfl) (fun w'=>w'.cell? ⟨b,0,none⟩=some (.int .u64 x6)/\w'.cell? ⟨b,1,none⟩=some (.int .u64 x2)/\w'.cell? ⟨b,2,none⟩=some (.int .u64 x4)/\w'.cell? ⟨b,3,none⟩=some (.int .u64 x7)/\w'.frozen? ⟨b,0,none⟩=false/\w'.frozen? ⟨b,1,none⟩=false/\w'.frozen? ⟨b,2,none⟩=false/\w'.frozen? ⟨b,3,none⟩=false) 11 (⟨c0,c1,c2,c3,f0,f1,f2,f3⟩) (fun hHeld=>?_)
   refine tK 0 ?_;refine tK 1 ?_;refine tK 2 ?_;refine tK 3 ?_;refine tK 4 ?_;refine tK 5 ?_;refine tK 6 ?_;refine tK 7 ?_;refine tK 8 ?_;refine tK 9 ?_;refine tK 10 ?_
   refine xrK 11 rfl fun K hK=>?_
   go_simp;refine zav hK (by decide) ?_;clear hK K;refine zas (by kernel_rfl) ?_ _;refine NoPanic.normal ?_;first | refine zal (fun w1 hw1=>?_) | refine zci (fun w1 hw1=>?_)
   have hs:SipAt w b ⟨x6,x2,ad x4 x2,x7⟩ w1:=by rw [hw1];first | exact HS.o.set (n:=0) rfl | exact HS.o.set (n:=1) rfl
   obtain ⟨x8,a1⟩:=xex (ad x4 x2);rw [a1] at hs;have b2:=zjy a1;clear a1;clear hw1 HS c0 c1 c2 c3 f0 f1 f2 f3;have HS:=zjy hs;clear hs;obtain ⟨⟨c0,c1,c2,c3⟩,f0,f1,f2,f3⟩:=HS.o.read;dsimp only at c0 c1 c2 c3;go_wp2_with fail
   refine wp_region_noPanic ?_
   refine zaw (by kernel_rfl) (fun w'=>w'.cell? ⟨b,0,none⟩=some (.int .u64 x6)/\w'.cell? ⟨b,1,none⟩=some (.int .u64 x2)/\w'.cell? ⟨b,2,none⟩=some (.int .u64 x8)/\w'.cell? ⟨b,3,none⟩=some (.int .u64 x7)/\w'.frozen? ⟨b,0,none⟩=false/\w'.frozen? ⟨b,1,none⟩=false/\w'.frozen? ⟨b,2,none⟩=false/\w'.frozen? ⟨b,3,none⟩=false) 13 (⟨c0,c1,c2,c3,f0,f1,f2,f3⟩) (fun hHeld=>?_)
   refine tK 0 ?_;refine tK 1 ?_;refine tK 2 ?_;refine tK 3 ?_;refine tK 4 ?_;refine tK 6 ?_;refine tK 7 ?_;refine tK 8 ?_;refine tK 9 ?_
   refine xrK 5 rfl fun K hK=>?_
   go_simp;refine (rot17 _ _).mono ?_;rintro e wq ⟨rfl,rfl⟩
   refine zbc hK (⟨c0,c1,c2,c3,f0,f1,f2,f3⟩) (fun hHeld=>?_)
   clear hK K;refine tK 10 ?_;refine tK 11 ?_;refine tK 12 ?_
   refine xrK 13 rfl fun K hK=>?_
   go_simp;refine zav hK (by decide) ?_;clear hK K;refine zas (by kernel_rfl) ?_ _;refine NoPanic.normal ?_;first | refine zal (fun w1 hw1=>?_) | refine zci (fun w1 hw1=>?_)
   have hs:SipAt w b ⟨x6,xr (zi8 131072 140737488355328 x2) x8,x8,x7⟩ w1:=by rw [hw1];first | exact HS.o.set (n:=0) rfl | exact HS.o.set (n:=1) rfl
   obtain ⟨x9,a0⟩:=xex (xr (zi8 131072 140737488355328 x2) x8);rw [a0] at hs;have b1:=zjy a0;clear a0;clear hw1 HS c0 c1 c2 c3 f0 f1 f2 f3;have HS:=zjy hs;clear hs;obtain ⟨⟨c0,c1,c2,c3⟩,f0,f1,f2,f3⟩:=HS.o.read;dsimp only at c0 c1 c2 c3;go_wp2_with fail
   refine (rot32 _ _).mono ?_;rintro e wq ⟨rfl,rfl⟩;go_wp2_with fail
   go_roundw
   case rel =>
    refine ⟨k+1,by go_num,by omega,?_⟩;have hs:SipAt w b ⟨x6,x9,zi8 4294967296 4294967296 x8,x7⟩ (w1.setCell ⟨b,2,none⟩ (.int .u64 (zi8 4294967296 4294967296 x8))):=HS.o.set (n:=0) rfl;have e:(⟨x6,x9,zi8 4294967296 4294967296 x8,x7⟩:Sip)=rndP ⟨a,b0,c,d⟩:=by rw [<- b1.o,<- b2.o,<- b3.o,<- b4.o,<- b5.o,<- b6.o,<- b7.o,<- b8.o,<- b9.o];rfl
    rw [rndI,a9,<- e];exact hs
   case measure=>simp [intOf];omega
  ·have hq:decide ((k:Int)<n)=false:=by simp;omega
   obtain rfl:k=n:=by omega
   go_wp2_with fail
   go_end0;exact ⟨rfl,HS.o⟩
theorem sword_any (b:Nat) (s:Sip) (m:Int) (w:World) (hb:w.heap[b]?=some (.cells (sipC s) 277 (0,0))) :
  Calls prog 263 #[.pointer (some ⟨b,0,none⟩),.int .u64 m] w fun e w'=>e = .returned (.tuple #[])/\SipAt w b (wordP s m) w':=by
 have hs:SipAt w b s w:=⟨hb,zdu _ _⟩;have HS:=zjy hs;clear hs hb;obtain ⟨⟨c0,c1,c2,c3⟩,f0,f1,f2,f3⟩:=HS.o.read;go_enter func263,ntmps263
 go_wp2_with fail
 have a2:SipAt w b ⟨s.a,s.b,s.c,xr s.d m⟩ (w.setCell ⟨b,3,none⟩ (.int .u64 (xr s.d m))):=HS.o.set (n:=0) rfl;refine (rounds_any b ⟨s.a,s.b,s.c,xr s.d m⟩ 2 _ a2.1 (by omega)).mono ?_;rintro e w1 ⟨rfl,a1⟩;have a0:SipAt w b (rndP (rndP ⟨s.a,s.b,s.c,xr s.d m⟩)) w1:=⟨a1.1,zcs a2.2 a1.2⟩;obtain ⟨t,ht⟩:=xex (rndP (rndP ⟨s.a,s.b,s.c,xr s.d m⟩));rw [ht] at a0;have hw:wordP s m=⟨xr t.a m,t.b,t.c,t.d⟩:=by rw [<- ht];rfl
 have HW:=zjy hw;clear a2 a1 ht hw HS c0 c1 c2 c3 f0 f1 f2 f3;have HS:=zjy a0;clear a0;obtain ⟨⟨c0,c1,c2,c3⟩,f0,f1,f2,f3⟩:=HS.o.read;go_wp2_with fail
 go_end0;exact ⟨rfl,by rw [HW.o];exact HS.o.set (n:=0) rfl⟩
abbrev encB (c:UInt8):List Value:=[zga c]
theorem snumber_any (S:Nat->Prop) (v:Value) (l:List UInt8) (w:World) (h:Vec w S 1 encB v l) (hl:l.length<=8) :
  Calls prog 264 #[v] w fun e w'=>e = .returned (.int .u64 (numP 0 0 l))/\w=w':=by
 obtain ⟨a,cap,rfl⟩:=h.slice;have HV:=zjy h;clear h;go_enter func264,ntmps264
 go_wp2_with fail
 go_loopw [3,4,5,8] (fun m _ _ i wr=>wr=w/\∃ (k:Nat) (mm:Int),i = .int .i64 k/\k<=l.length/\m = .int .u64 mm/\Hid (numP k mm (l.drop k)=numP 0 0 l)) (fun _ _ _ i _=>l.length - (intOf i).toNat)
 case atStart=>exact ⟨rfl,0,0,rfl,by omega,rfl,zjy rfl⟩
 case round =>
  obtain ⟨rfl,k,mm,rfl,hk,rfl,HT⟩:=hrel;by_cases hlt:k<l.length
  ·have hq:decide ((k:Int)<l.length)=true:=by simp;omega
   obtain ⟨b,off,rfl,hb,hc⟩:=HV.o.get k hlt;have c0:=hc 0 _ rfl;rw [Nat.mul_one,Nat.add_zero] at c0;unfold zga at c0;go_wp2_with fail
   go_roundw
   case rel=>exact ⟨trivial,k+1,_,by go_num,by omega,rfl,zjy (by rw [<- HT.o,List.drop_eq_getElem_cons hlt];rfl)⟩
   case measure=>simp [intOf];omega
  ·have hq:decide ((k:Int)<l.length)=false:=by simp;omega
   have hd:l.drop k=[]:=List.drop_eq_nil_of_le (by omega);rw [hd] at HT;obtain rfl:mm=numP 0 0 l:=HT.o;clear HT hd;go_wp2_with fail
   go_ret;exact ⟨rfl,rfl⟩
end
section
open Go
theorem run_load_zero {P:Program} (a:Addr) (w:World):Sem.run P (loadCells a 0) w = .ok #[] w:=rfl
theorem run_append_zero {P:Program} {w:World} (base:Nat) (t ty e:TypeId) (i:TypeInfo) (size:Nat) (ht:P.underlying t=some (.slice e)) (hi:P.info? e=some i)
  (v:Value) (n:Nat) (xs:List Value) (hown:w.ownsRow base e size v n xs) (ad:Option Addr) (c:Nat) :
  (Builtin.append_ #[t,t] ty #[v,.slice ad 0 c]).run P w = .ok v w:=by
 have lz:=fun a=>run_load_zero (P:=P) a w
 rcases hown.2 with ⟨rfl,rfl⟩ | ⟨g,cap,cur,rfl,_,_,hnc,_⟩
 ·cases ad <;> simp [Builtin.append_,run_underlying ht,sizeOf,typeInfo,hi,Builtin.lenOf,Builtin.firstCells,lz,Sem.run_pure,Result.andThen]
 ·cases ad <;> simp [Builtin.append_,run_underlying ht,sizeOf,typeInfo,hi,Builtin.lenOf,Builtin.firstCells,hnc,storeCells,lz,Sem.run_pure,Result.andThen]
theorem wp_append_zero {P:Program} {w:World} {o:Oper} {a:Act} {K:Act->World->Prop} {Q:Exit->Act->World->Prop} (s x:Operand) (t:TypeId)
  (ho:o.op = .call { callee:=.builtin .append,args:=#[s,x],argTypes:=#[t,t] })
  (base:Nat) (e:TypeId) (i:TypeInfo) (size:Nat) (ht:P.underlying t=some (.slice e)) (hi:P.info? e=some i)
  (v:Value) (n:Nat) (xs:List Value) (hs:a.eval s=v) (hown:w.ownsRow base e size v n xs) (ad:Option Addr) (c:Nat) (hx:a.eval x = .slice ad 0 c)
  (h:K (a.put o.dst v) w):Oper.wp P o a w K Q:=by
 have a0:=run_append_zero (P:=P) (w:=w) base t o.type e i size ht hi v n xs hown ad c;unfold Oper.wp execOp;simp only [ho,resolve,invoke,builtin,Sem.run_bind,Sem.run_pure,Result.andThen_ok,List.map_toArray,List.map_cons,List.map_nil,hs,hx,a0];exact h
def zck (w:World) (size:Nat) (u:Value) (m:Nat) (news:List Value):Prop :=
 ∃ ad c,u = .slice ad m c/\news.length=m*size/\(0<m->∃ A,ad=some A/\∀ j v,news[j]?=some v->w.cell? (A.add j)=some v)
theorem zdn {P:Program} {w:World} {o:Oper} {a:Act} {K:Act->World->Prop} {Q:Exit->Act->World->Prop} (s x:Operand) (t:TypeId)
  (ho:o.op = .call { callee:=.builtin .append,args:=#[s,x],argTypes:=#[t,t] })
  (base:Nat) (e:TypeId) (z:Value) (size bytes:Nat) (ht:P.underlying t=some (.slice e)) (hinfo:(P.info? e).map (fun i=>(i.zero,i.size,i.bytes))=some (some z,size,bytes))
  (hzs:z.cells.size=size) (hsz:0<size)
  (v:Value) (n:Nat) (xs:List Value) (hs:a.eval s=v) (hown:w.ownsRow base e size v n xs)
  (u:Value) (m:Nat) (news:List Value) (hx:a.eval x=u) (hr:zck w size u m news) (h1:∀ u∈news,u.oneCell'=true)
  (h63:n+m<=maxLen) (hbytes:(n+m)*bytes<=140737488355328) (hbase:base<=w.heap.size)
  (h:∀ v' w',w'.ownsRow base e size v' (n+m) (xs++news)->w.grownBy w' v.ownBlock->(v'.ownBlock=none\/v.ownBlock=v'.ownBlock\/v'.ownBlock=some w.heap.size)->K (a.put o.dst v') w'):Oper.wp P o a w K Q:=by
 obtain ⟨ad,c,rfl,hl,hc⟩:=hr;obtain ⟨i,hi,hz,h2,h3⟩:=info_parts hinfo;by_cases hm:m=0
 ·subst hm
  have hn:news=[]:=List.length_eq_zero_iff.1 (by omega);subst hn;refine wp_append_zero s x t ho base e i size ht hi v n xs hs hown ad c hx (h v w (by simpa using hown) ⟨rfl,rfl,rfl,Nat.le_refl _,fun _ _ _=>rfl⟩ (.inr (.inl rfl)))
 ·obtain ⟨A,rfl,a0⟩:=hc (by omega)
  refine wp_append_lies w s x t ho base e i z size bytes ht hi hz h2 h3 hzs hsz v n xs hs hown A m c news hx hl a0 h1 (by omega) h63 hbytes hbase _ rfl fun g cap w' ho' hg hat hlt=>?_
  rcases hat with h4 | h4
  ·exact h _ w' ho' hg (.inr (.inl h4))
  ·exact h _ w' ho' hg (.inr (.inr (by rw [h4];rfl)))
end
end Go.Proofs.YtgkaafncfjlooaaGreatDoor
