/- Parts of one proof: AddrB, AddrC, AddrD, AddrE, DateDig, MakeW, SchA, SchB, SchC, SchD, SchE, SchF, SchI, SchK, SchL, SchM, GramPlain, IterL, Iter, SchG, SchH, GramA, SchN, GramC, GramB, GramD, RecPlain, EncPlain, MakeA. -/
import Derived.Test.YtgkaafncfjlooaaGreatDoorPartAd1
import Derived.Laws.OwnMore
import Derived.Laws.AppendOwnNone
import Derived.Sort.KeysCollected
import Derived.Sort.Walk0
import Derived.Shelf.SlIter.Nil
import Derived.Shelf.SortM.Plain
import Derived.Shelf.SortM.SortNone
import Derived.Ground.GgzProg
import Derived.Ground.SlgmProg
import Derived.Maps.OwnSet
import Derived.StringKeys
import Derived.Lib.ItoaNum
set_option maxHeartbeats 16000000
set_option maxRecDepth 100000
open Go.Proofs.Tryz
set_option linter.unusedSimpArgs false
set_option linter.unusedVariables false
namespace Go.Proofs.YtgkaafncfjlooaaGreatDoor
section
open Go.RowKit
attribute [local go_sem] zag zaj
theorem zcz {P:Program} {w:World} {ops:Array Oper} {rest:List Oper} {o:Oper} {a:Act} {Q:Exit→Act→World→Prop} (hgd:o.guard = none) (s x:Operand) (t:TypeId)
  (ho:o.op = .call { callee:=.builtin .append,args:=#[s,x],argTypes:=#[t,t] })
  (base:Nat) (e:TypeId) (size bytes:Nat) (z:Value) (ht:P.underlying t = some (.slice e)) (hinfo:(P.info? e).map (fun i=>(i.zero,i.size,i.bytes)) = some (some z,size,bytes))
  (hzs:z.cells.size = size) (hsz:0 < size) (hby:bytes≤128)
  (v:Value) (n:Nat) (xs:List Value) (hs:a.eval s = v) (hown:w.ownsRow base e size v n xs)
  (cs:Array Value) (c:Nat) (hx:a.eval x = .slice (some ⟨w.heap.size,0,none⟩) 1 c) (hcs:cs.size = size) (h1:∀ u∈cs.toList,u.oneCell' = true)
  (hn:n < 1099511627776) (hbase:base≤w.heap.size)
  (h:∀ v' w',w'.ownsRow base e size v' (n + 1) (xs ++ cs.toList)→(w.alloc (.cells cs e)).grownBy w' v.ownBlock→(v'.ownBlock = v.ownBlock∨v'.ownBlock = some (w.heap.size + 1))→(∀ W,Below base W w→Below base W w')→wpList P ops Q rest (a.put o.dst v') w') :
  wpList P ops Q (o :: rest) a (w.alloc (.cells cs e)):=by
 obtain ⟨i,hi,hz,h2,h3⟩:=info_parts hinfo;refine wpList_append_own_at _ hgd s x t ho base e i z size bytes ht hi hz h2 h3 hzs hsz v n xs hs (hown.alloc _) ⟨w.heap.size,0,none⟩ 1 c cs.toList hx (by simp [hcs]) ?_ h1 (zdc (by omega)) ?_ (by simp; omega) ?_
 ·intro j u hu
  have:(⟨w.heap.size,0,none⟩:Addr).add j = ⟨w.heap.size,j,none⟩:=by unfold Addr.add; split <;> simp_all
  rw [this,cell_of_row _ _ _ _ _ _ (heap_alloc_new w _)];simpa using hu
 ·exact Nat.le_trans (Nat.mul_le_mul (Nat.le_of_lt_succ (by omega:n + 1 < 1099511627776 + 1)) hby) (by decide)
 ·intro v' w' ho' hg _ hat
  refine h v' w' ho' hg (by simpa using hat) fun W hW=>(hW.alloc hbase _).grown hg (by simp; omega) ?_
  intro k hk;exact (hown.lt k hk).1
def TwoAt (w:World) (u v:Value) (Y N:List (List UInt8)) (wr:World):Prop :=
 wr.ownsRow w.heap.size 9 1 u Y.length (Y.flatMap zba)∧wr.ownsRow w.heap.size 9 1 v N.length (N.flatMap zba)∧(∀ g,u.ownBlock = some g→v.ownBlock≠some g)∧Below w.heap.size w wr
theorem TwoAt.below {w wr w':World} {u v:Value} {Y N:List (List UInt8)} (h:TwoAt w u v Y N wr) (hb:Below wr.heap.size wr w'):TwoAt w u v Y N w' :=
 ⟨zfn h.1 hb,zfn h.2.1 hb,h.2.2.1,h.2.2.2.trans (hb.mono h.2.2.2.size)⟩
theorem TwoAt.swap {w wr:World} {u v:Value} {Y N:List (List UInt8)} (h:TwoAt w u v Y N wr):TwoAt w v u N Y wr :=
 ⟨h.2.1,h.1,fun g hv hu=>h.2.2.1 g hu hv,h.2.2.2⟩
theorem own_kept {w w':World} {B e size n:Nat} {v:Value} {xs:List Value} {row:Option Nat} (h:w.ownsRow B e size v n xs) (hg:w.grownBy w' row) (hr:∀ g,v.ownBlock = some g→row≠some g):w'.ownsRow B e size v n xs:=by
 refine ⟨h.1,?_⟩
 rcases h.2 with h0 | ⟨g,cap,cur,hv,hg',hh,rest⟩
 ·exact .inl h0
 ·exact .inr ⟨g,cap,cur,hv,hg',(hg.block g (zaa hh) (fun e=>hr g (by rw [hv]; rfl) e.symm)).trans hh,rest⟩
theorem TwoAt.put {w wr w2:World} {u v u2:Value} {Y N:List (List UInt8)} {y:List UInt8} (h:TwoAt w u v Y N wr) (ho:w2.ownsRow w.heap.size 9 1 u2 (Y.length + 1) (Y.flatMap zba ++ [zal y]))
  (hg:(wr.alloc (.cells #[zal y] 9)).grownBy w2 u.ownBlock) (hat:u2.ownBlock = u.ownBlock∨u2.ownBlock = some (wr.heap.size + 1)) (hw:∀ W,Below w.heap.size W wr→Below w.heap.size W w2):TwoAt w u2 v (Y ++ [y]) N w2:=by
 obtain ⟨h1,h2,h3,h4⟩:=h
 refine ⟨by rw [List.length_append,zdz]; exact ho,own_kept (h2.alloc _) hg (fun g hv hu=>h3 g hu hv),fun g hu hv=>?_,hw _ h4⟩
 rcases hat with hat | hat
 ·exact h3 g (by rw [← hat]; exact hu) hv
 ·rw [hat] at hu
  have:=(h2.lt g hv).2;injection hu with hu
  omega
theorem TwoAt.start (w:World):TwoAt w (.slice none 0 0) (.slice none 0 0) [] [] w:=⟨⟨rfl,.inl ⟨rfl,rfl⟩⟩,⟨rfl,.inl ⟨rfl,rfl⟩⟩,(fun g h=>by simp [Value.ownBlock] at h),Below.refl _ _⟩
def PartPost (L:List (List UInt8)) (w:World) (e:Ending) (w':World):Prop:=∃ u v,e = .returned (.tuple #[u,v])∧TwoAt w u v (L.filter zc8) (L.filter fun x=>!zc8 x) w'
theorem zem {p:List UInt8→Bool} (L:List (List UInt8)) (x:List UInt8) (h:p x = true):(L ++ [x]).filter p = L.filter p ++ [x]:=by simp [h]
theorem zez {p:List UInt8→Bool} (L:List (List UInt8)) (x:List UInt8) (h:p x = false):(L ++ [x]).filter p = L.filter p:=by simp [h]
theorem zhp (T:List (List UInt8)) (k:Nat) (h:k < T.length):T.take (k + 1) = T.take k ++ [T.getD k []]:=by
 rw [List.take_succ_eq_append_getElem h,List.getD,List.getElem?_eq_getElem h]; rfl
theorem part_any (S:Nat→Prop) (v:Value) (L:List (List UInt8)) (w:World) (h:Vec w S 1 zba v L) (hn:L.length≤1000000) :
  Calls prog 241 #[v,.func (.func 239) #[] #[]] w (PartPost L w):=by
 obtain ⟨a,cap,rfl⟩:=h.slice;have HV:=zjp h; clear h;go_enter func241,ntmps241
 go_wp2_with fail
 go_loopw [4,5,10] (fun y n i wr=>∃ k:Nat,k≤L.length∧i = .int .i64 k∧TwoAt w y n ((L.take k).filter zc8) ((L.take k).filter fun x=>!zc8 x) wr) (fun _ _ i _=>L.length - (intOf i).toNat)
 case atStart=>exact ⟨0,by omega,rfl,TwoAt.start w⟩
 case round =>
  obtain ⟨k,hk,rfl,ho⟩:=hrel;have HO:=zjp ho; clear ho;by_cases hlt:k < L.length
  ·have hq:decide ((k:Int) < L.length) = true:=by simp; omega
   have hi:(k:Int) < (L.length:Int):=by omega
   obtain ⟨b,off,rfl,_,hb,hcx⟩:=zcc HV.out (by omega);have htk:=zhp L k hlt;have hcx':=hcx k hlt;obtain ⟨x,hx⟩:∃ x,L.getD k [] = x:=⟨_,rfl⟩;rw [hx] at htk hcx';have c1:wr.cell? ⟨b,off + k,none⟩ = some (zal x):=(HO.out.2.2.2.cell (p:=⟨b,off + k,none⟩) hb).trans hcx';have HT:=zjp htk;have l1:((L.take k).filter zc8).length < 1099511627776:=by have:=List.length_filter_le zc8 (L.take k); have:=List.length_take_le k L; omega
   have l2:((L.take k).filter fun x=>!zc8 x).length < 1099511627776:=by have:=List.length_filter_le (fun x=>!zc8 x) (L.take k); have:=List.length_take_le k L; omega
   have hbz:w.heap.size≤wr.heap.size:=HO.out.2.2.2.size;clear hx htk hcx hcx';go_wp2_with fail
   refine (zig x _).mono ?_;rintro e w1 ⟨rfl,rfl⟩;cases hd:zc8 x
   ·have F1:=zjp (zez (p:=zc8) (L.take k) x hd)
    have F2:=zjp (zem (p:=fun x=>!zc8 x) (L.take k) x (by simp [hd]))
    clear hd;go_wp2_with (at_builtin; refine zcz rfl _ _ 28 rfl w.heap.size 9 1 16 (.string ⟨#[]⟩) underlying28 zdv rfl (by decide) (by decide) _ _ _ rfl HO.out.2.1 #[zal x] 1 rfl rfl (by simp [Value.oneCell']) l2 hbz ?_; intro v2 w8 ho8 hg8 hat8 hw8)
    go_roundw
    case rel=>exact ⟨k + 1,by omega,by go_num,by rw [HT.out,F1.out,F2.out]; exact (HO.out.swap.put ho8 hg8 hat8 hw8).swap⟩
    case measure=>simp [intOf]; omega
   ·have F1:=zjp (zem (p:=zc8) (L.take k) x hd)
    have F2:=zjp (zez (p:=fun x=>!zc8 x) (L.take k) x (by simp [hd]))
    clear hd;go_wp2_with (at_builtin; refine zcz rfl _ _ 28 rfl w.heap.size 9 1 16 (.string ⟨#[]⟩) underlying28 zdv rfl (by decide) (by decide) _ _ _ rfl HO.out.1 #[zal x] 1 rfl rfl (by simp [Value.oneCell']) l1 hbz ?_; intro v2 w8 ho8 hg8 hat8 hw8)
    go_roundw
    case rel=>exact ⟨k + 1,by omega,by go_num,by rw [HT.out,F1.out,F2.out]; exact HO.out.put ho8 hg8 hat8 hw8⟩
    case measure=>simp [intOf]; omega
  ·have hq:decide ((k:Int) < L.length) = false:=by simp; omega
   rw [List.take_of_length_le (by omega)] at HO;go_wp2_with fail
   go_ret2;exact ⟨_,_,rfl,HO.out⟩
end
section
open Go.RowKit
attribute [local go_sem] zag zaj
theorem idxP_any (p:P2→Bool) (g:Nat) (lb:Array Value) (eg:∀ args w,(callFunc g args).run prog w = .ok (.enter g args) w) (S:Nat→Prop) (v:Value) (L:List P2) (w:World) (h:Vec w S 2 encP v L) (hn:L.length≤1000000) (hp:PredBelow prog g lb (fun x=>.agg (encP x).toArray) p w) :
  Calls prog 178 #[v,.func (.func g) #[] lb] w fun e w'=>e = .returned (.int .i64 (Lib.idxBy (fun _ (y:P2)=>p y) L default))∧Below w.heap.size w w':=by
 obtain ⟨a,cap,rfl,hcap,h0⟩:=h;by_cases hz:L = []
 ·subst hz
  exact (idxP_nil a cap _ w).mono fun e w' ⟨he,hw⟩=>⟨he,by rw [← hw]; exact Below.refl _ _⟩
 ·obtain ⟨b,off,rfl,_,hb,hc⟩:=h0 (List.length_pos_iff.2 hz)
  have hcon:=AnyQ.slices_IndexFunc Tryz.laysIP 2 Tryz.isAgg122 Tryz.sizeOf122 encP (fun _=>rfl) p g lb eg b off L.length cap L w hp xnl (by omega) hb (fun j hj i u hi=>by
    have e:L[j]? = some L[j]!:=by rw [List.getElem?_eq_getElem hj,getElem!_pos L j hj]
    exact hc j _ e i u hi)
  rw [List.take_of_length_le xnl] at hcon;exact hcon
theorem pred_addr (s:List UInt8) (B:Nat) (w:World) (hB:B < w.heap.size) (hcell:w.cell? ⟨B,0,none⟩ = some (zal s)) :
  PredBelow prog 238 #[.pointer (some ⟨B,0,none⟩)] (fun x=>.agg (encP x).toArray) (fun x=>x.1 == s) w:=fun W x hb=>by
 have hc:W.cell? ⟨B,0,none⟩ = some (zal s):=(hb.cell (p:=⟨B,0,none⟩) hB).trans hcell;have hBW:B < W.heap.size:=Nat.lt_of_lt_of_le hB hb.size;have hne:B≠W.heap.size:=by omega
 have HBb:=zjp hb; clear hb hcell;show Calls prog 238 #[.agg #[zal x.1,zal x.2],.pointer (some ⟨B,0,none⟩)] W _;go_enter func238,ntmps238
 go_wp2
 go_ret;exact ⟨rfl,HBb.out.alloc HBb.out.size _⟩
def RowB (w:World) (A:Nat) (L:List (List UInt8)):Prop:=w.heap[A]? = some (.cells (L.flatMap zba).toArray 9 (0,0))
theorem own_block {w:World} {B A n:Nat} {L:List (List UInt8)} (h:w.ownsRow B 9 1 (.slice (some ⟨A,0,none⟩) n n) n (L.flatMap zba)):B≤A∧RowB w A L:=by
 rcases h.2 with ⟨h0,_⟩ | ⟨g,cap,cur,hv,hg,hh,hn,hc,hsz,ht⟩
 ·cases h0
 ·cases hv
  refine ⟨hg,?_⟩;rw [List.take_of_length_le (by simp [hsz])] at ht;unfold RowB;rw [hh,← ht]
theorem flat_len1 (L:List (List UInt8)):(L.flatMap zba).length = L.length:=by rw [zd3 (k:=1) (fun _=>rfl)]; omega
theorem flat_get1 (L:List (List UInt8)) (j:Nat) (hj:j < L.length):(L.flatMap zba)[j]? = some (zal (L.getD j [])):=by
 have:=zf8 (k:=1) (enc:=zba) (fun _=>rfl) L j L[j] (List.getElem?_eq_getElem hj) 0 (by omega)
 rw [List.getD,List.getElem?_eq_getElem hj];simpa using this
theorem RowB.cell {w:World} {A:Nat} {L:List (List UInt8)} (h:RowB w A L) (j:Nat) (hj:j < L.length):w.cell? ⟨A,j,none⟩ = some (zal (L.getD j [])):=by
 rw [cell_of_row _ _ _ _ _ _ h,List.getElem?_toArray];exact flat_get1 L j hj
theorem RowB.vec {w:World} {A:Nat} {L:List (List UInt8)} (h:RowB w A L) (cap:Nat) (hc:L.length≤cap):Vec w zav 1 zba (.slice (some ⟨A,0,none⟩) L.length cap) L :=
 ⟨_,cap,rfl,hc,fun _=>⟨A,0,rfl,trivial,zaa h,fun j x hj i u hu=>by
  have hj':j < L.length:=(List.getElem?_eq_some_iff.1 hj).1
  have hi:i = 0:=by
   cases i with
   | zero=>rfl
   | succ i=>simp [zba] at hu
  subst hi;have:=h.cell j hj';rw [List.getD,hj] at this;simp [zba] at hu;subst hu
  simpa using this⟩⟩
theorem flat_set (L:List (List UInt8)) (k:Nat) (y:List UInt8):(L.set k y).flatMap zba = (L.flatMap zba).set k (zal y):=by
 induction L generalizing k with
 | nil=>rfl
 | cons x L ih =>
  cases k with
  | zero=>rfl
  | succ k=>rw [List.set_cons_succ,List.flatMap_cons,List.flatMap_cons,ih]; rfl
theorem RowB.set {w:World} {A:Nat} {L:List (List UInt8)} (h:RowB w A L) (k:Nat) (y:List UInt8):RowB (w.setCell ⟨A,k,none⟩ (zal y)) A (L.set k y):=by
 have:=zad (i:=k) (v:=zal y) h;unfold RowB;rw [this,flat_set];simp
def za1 (r:RulesL) (x:List UInt8):List UInt8:=if zc8 x = true then zbk x else zbd r.streets x
def midL (f:List UInt8→List UInt8) (T:List (List UInt8)) (k:Nat):List (List UInt8):=(T.take k).map f ++ T.drop k
theorem mid_len (f:List UInt8→List UInt8) (T:List (List UInt8)) (k:Nat) (hk:k≤T.length):(midL f T k).length = T.length:=by
 unfold midL; simp; omega
theorem mid_get (f:List UInt8→List UInt8) (T:List (List UInt8)) (k:Nat) (hk:k < T.length):(midL f T k).getD k [] = T.getD k []:=by
 unfold midL;rw [List.getD,List.getElem?_append_right (by simp; omega),List.getElem?_drop,List.getD];congr 2;simp; omega
theorem mid_set (f:List UInt8→List UInt8) (T:List (List UInt8)) (k:Nat) (hk:k < T.length) (y:List UInt8) (hy:f (T.getD k []) = y):(midL f T k).set k y = midL f T (k + 1):=by
 unfold midL
 have e:T.drop k = T.getD k [] :: T.drop (k + 1):=by
  rw [List.getD,List.getElem?_eq_getElem hk]; exact List.drop_eq_getElem_cons hk
 rw [zhp T k hk,e,List.set_append_right _ _ (by simp; omega)];have:k - ((T.take k).map f).length = 0:=by simp; omega
 rw [this,List.set_cons_zero,List.map_append,List.append_assoc,← hy];rfl
theorem mid_same (f:List UInt8→List UInt8) (T:List (List UInt8)) (k:Nat) (hk:k < T.length) (hy:f (T.getD k []) = T.getD k []):midL f T k = midL f T (k + 1):=by
 unfold midL
 have e:T.drop k = T.getD k [] :: T.drop (k + 1):=by
  rw [List.getD,List.getElem?_eq_getElem hk]; exact List.drop_eq_getElem_cons hk
 rw [zhp T k hk,e,List.map_append,List.append_assoc,List.map_cons,List.map_nil,hy];rfl
end
section
open Go.RowKit
attribute [local go_sem] zag zaj
def zb5 (T:List (List UInt8)):List (List UInt8):=(T.filter fun x=>!zc8 x) ++ T.filter zc8
def zda (r:RulesL) (l:List UInt8):List UInt8 × Int :=
 if zay r = 0 then (if zdd l = true then (if 6 < (zcq (zbv l)).length∨64 < (za0 (zb5 ((zcq (zbv l)).map (za1 r)))).length then ([],1) else (za0 (zb5 ((zcq (zbv l)).map (za1 r))),0)) else ([],3)) else ([],zay r)
theorem addrTok_len {r:RulesL} (h:zcd r.streets = true) (x:List UInt8) (hx:x.length≤64):(za1 r x).length≤65:=by
 unfold za1;split
 ·have:=short_len x; omega
 ·have:=canon_len h x hx; omega
theorem order2_len (T:List (List UInt8)):(zb5 T).length≤2 * T.length:=by
 unfold zb5;have h1:=List.length_filter_le zc8 T;have h2:=List.length_filter_le (fun x=>!zc8 x) T
 simp; omega
theorem order2_mem {T:List (List UInt8)} {t:List UInt8} (h:t∈zb5 T):t∈T:=by
 unfold zb5 at h
 rcases List.mem_append.1 h with h | h
 ·exact (List.mem_filter.1 h).1
 ·exact (List.mem_filter.1 h).1
def AddrAt (w2:World) (A:Nat) (M:List (List UInt8)) (wr:World):Prop:=RowB wr A M∧Below w2.heap.size w2 wr∧w2.heap.size≤A
theorem AddrAt.below {w2 wr w':World} {A:Nat} {M:List (List UInt8)} (h:AddrAt w2 A M wr) (hb:Below wr.heap.size wr w'):AddrAt w2 A M w' :=
 ⟨zab hb (zaa h.1) h.1,h.2.1.trans (hb.mono h.2.1.size),h.2.2⟩
theorem AddrAt.set {w2 wr:World} {A:Nat} {M:List (List UInt8)} (h:AddrAt w2 A M wr) (k:Nat) (y:List UInt8):AddrAt w2 A (M.set k y) (wr.setCell ⟨A,k,none⟩ (zal y)) :=
 ⟨h.1.set k y,h.2.1.setCell h.2.2 _,h.2.2⟩
theorem addr_yes (S:Nat→Prop) (vt vn vs:Value) (r:RulesL) (s:ByteArray) (w:World) (h:RulesAt w S vt vn vs r) (hc:zay r = 0) (hv:zdd s.data.toList = true) :
  Calls prog 217 #[.agg #[vt,vn,vs],.string s] w fun e w'=>e = .returned (zds (zda r s.data.toList))∧Below w.heap.size w w':=by
 have hs:s.size≤64:=by
  have:=zgl hv;have h2:s.data.toList.length = s.size:=by simp
  omega
 obtain ⟨⟨k1,k2,k3⟩,g1,g2,g3,g4⟩:=zex hc;have G3:=zjp g3;obtain ⟨avs,cvs,rfl⟩:=h.2.2.slice;have HR:=zjp h.any;have HC:=zjp hc; have HV:=zjp hv;clear h hc hv g1 g2 g3 g4
 have hfin:zda r s.data.toList = (if 6 < (zcq (zbv s.data.toList)).length∨64 < (za0 (zb5 ((zcq (zbv s.data.toList)).map (za1 r)))).length then ([],1) else (za0 (zb5 ((zcq (zbv s.data.toList)).map (za1 r))),0)):=by
  unfold zda; rw [if_pos HC.out,if_pos HV.out]
 have HF:=zjp hfin; clear hfin;go_enter func217,ntmps217
 go_wp2_with fail
 refine (zet zav vt vn _ r _ (HR.out.below ((Below.refl _ _).alloc xnl _))).mono ?_;rw [HC.out];rintro e w1 ⟨rfl,hb1⟩;have X1:w1.heap[w.heap.size]? = some (.cells #[vt,vn,.slice avs r.streets.length cvs] 31 (0,0)):=zab hb1 (by simp) (zac rfl);have HX1:=zjp X1;have HB1:=zjp (xbt hb1);clear X1 hb1;go_wp2_with fail
 refine (fold_yes s _ (by omega) HV.out).mono ?_;rintro e w2 ⟨rfl,hb2⟩;have HX2:=zjp (zab hb2 (zaa HX1.out) HX1.out);have HB2:=zjp (HB1.out.trans (hb2.mono HB1.out.size));clear hb2 HX1 HB1;go_wp2_with fail
 have hfl:(zbv s.data.toList).length≤64:=by
  have:=zgy s.data.toList;have h2:s.data.toList.length = s.size:=by simp
  omega
 obtain ⟨fl,hfl'⟩:∃ fl,zbv s.data.toList = fl:=⟨_,rfl⟩;have hasc:ascii fl:=hfl' ▸ zhz _;have HA:=zjp hasc;rw [hfl'] at hfl HF ⊢;clear hasc hfl';refine (zge fl _ HA.out (by omega)).mono ?_;rintro e w4 ⟨A,rfl,hA,ho,hb4⟩;have hrow:=(own_block ho).2;have htl:∀ t∈zcq fl,t.length≤64:=fun t ht=>by have:=toks_le fl [] t ht; simp at this; omega
 have htn:(zcq fl).length≤65:=by have:=(zdy fl []).2.1; unfold zcq; omega
 obtain ⟨T,hT⟩:∃ T,zcq fl = T:=⟨_,rfl⟩;rw [hT] at hrow htl htn HF ⊢;have HAt:=zjp (show AddrAt w2 A T w4 from ⟨hrow,hb4,hA⟩); have HTL:=zjp htl;have zX2:=zaa HX2.out;clear hb4 ho hrow hT htl hA;go_wp2_with fail
 go_loopw [33] (fun i wr=>∃ k:Nat,k≤T.length∧i = .int .i64 k∧AddrAt w2 A (midL (za1 r) T k) wr) (fun i _=>T.length - (intOf i).toNat)
 case atStart=>exact ⟨0,by omega,rfl,by simpa [midL] using HAt.out⟩
 case round =>
  obtain ⟨k,hk,rfl,ho⟩:=hrel;have HO:=zjp ho; clear ho;by_cases hlt:k < T.length
  ·have hq:decide ((k:Int) < T.length) = true:=by simp; omega
   have hi:(k:Int) < (T.length:Int):=by omega
   have hml:=mid_len (za1 r) T k hk;have c1:=HO.out.1.cell k (by omega);rw [mid_get _ _ _ hlt] at c1;have hxl:(T.getD k []).length≤64:=TL_get HTL.out k hlt;have hset:=mid_set (za1 r) T k hlt;have hsame:=mid_same (za1 r) T k hlt;have hfx:za1 r (T.getD k []) = if zc8 (T.getD k []) = true then zbk (T.getD k []) else zbd r.streets (T.getD k []):=rfl
   have hcf:=zgq r.streets (T.getD k []);obtain ⟨x,hx⟩:∃ x,T.getD k [] = x:=⟨_,rfl⟩;rw [hx] at c1 hxl hset hsame hfx hcf;have HSet:=zjp hset; have HSame:=zjp hsame; have HFx:=zjp hfx;clear hx hset hsame hfx hml;have hX:=zab HO.out.2.1 zX2 HX2.out;obtain ⟨p0,p1,p2⟩:=zao hX;have zX:=zaa hX;have HX:=zjp hX; clear hX;go_wp2_with fail
   have eg:∀ args w,(callFunc 238 args).run prog w = .ok (.enter 238 args) w:=enters_of func238 (by kernel_rfl) rfl
   have KI:=idxP_any (fun y=>y.1 == x) 238 #[.pointer (some ⟨wr.heap.size,0,none⟩)] eg zav (.slice avs r.streets.length cvs) r.streets (wr.alloc (.cells #[zal x] 9)) (HR.out.2.2.below (HB2.out.trans (HO.out.2.1.mono HB2.out.size) |>.alloc (by have:=HB2.out.size; have:=HO.out.2.1.size; omega) _)) (by omega) (pred_addr x wr.heap.size _ (by simp) (by simp))
   change Calls _ _ _ _ fun e w'=>e = .returned (.int .i64 (zje r.streets x))∧Below (wr.alloc (.cells #[zal x] 9)).heap.size (wr.alloc (.cells #[zal x] 9)) w' at KI
   obtain ⟨n,hn⟩:∃ n,zje r.streets x = n:=⟨_,rfl⟩;rw [hn] at KI hcf;refine KI.mono ?_;clear eg hn KI;rintro e w5 ⟨rfl,hb5⟩;have hal:Below wr.heap.size wr (wr.alloc (.cells #[zal x] 9)):=(Below.refl _ _).alloc xnl _;have HO5:=zjp ((HO.out.below hal).below hb5);have hX5:w5.heap[w.heap.size]? = some (.cells #[vt,vn,.slice avs r.streets.length cvs] 31 (0,0)):=zab hb5 (by simp; omega) (zaf HX.out);have k0:w5.cell? ⟨wr.heap.size,0,none⟩ = some (zal x):=(hb5.cell (p:=⟨wr.heap.size,0,none⟩) (by simp)).trans (by simp);clear p0 p1 p2 hal hb5 HO c1;obtain ⟨p0,p1,p2⟩:=zao hX5;have hAl:=zaa HO5.out.1;have hml:=mid_len (za1 r) T k hk;have c5:w5.cell? ⟨A,k,none⟩ = some (zal ((midL (za1 r) T k).getD k [])):=HO5.out.1.cell k (by omega);have f5:w5.frozen? ⟨A,k,none⟩ = false:=frozen_of_row _ _ _ _ _ HO5.out.1;generalize (midL (za1 r) T k).getD k [] = old at c5;clear hX5 HX hml;go_wp2_with fail
   refine (zig x _).mono ?_;rintro e w6 ⟨rfl,rfl⟩;cases hd:zc8 x
   ·rw [hd,if_neg (by simp)] at HFx
    clear hd
    rcases hcf with ⟨h1,h2⟩ | ⟨j,hj,h1,h2⟩
    ·rw [h2] at HFx
     have HS:=zjp (HSame.out HFx.out);clear h2 HSame HSet;go_wp2_with fail
     go_roundw
     case rel=>exact ⟨k + 1,by omega,by go_num,by rw [← HS.out]; exact HO5.out⟩
     case measure=>simp [intOf]; omega
    ·rw [← h2] at HFx
     have HS:=zjp (HSet.out _ HFx.out);subst h1;obtain ⟨bs,offs,e1,_,hbs,hcs⟩:=zck HR.out.2.2 (by omega);have hcs1:=hcs j hj 1 _ rfl;subst e1;have s1:w5.cell? ⟨bs,offs + j * 2 + 1,none⟩ = some (zal (r.streets.getD j default).2):=((HB2.out.trans (HO5.out.2.1.mono HB2.out.size)).cell (p:=⟨bs,offs + j * 2 + 1,none⟩) hbs).trans hcs1;obtain ⟨y,hy⟩:∃ y,(r.streets.getD j default).2 = y:=⟨_,rfl⟩;rw [hy] at s1 HS;have hj':(j:Int) < (r.streets.length:Int):=by omega
     clear hcs hcs1 hy h2 HSame HSet HFx;go_wp2_with fail
     go_roundw
     case rel=>exact ⟨k + 1,by omega,by go_num,by rw [← HS.out]; exact HO5.out.set k y⟩
     case measure=>simp [intOf]; omega
   ·rw [hd,if_pos rfl] at HFx
    have HS:=zjp (HSet.out _ HFx.out);clear hd HSame HSet hcf;go_wp2_with fail
    refine (short_any x _ (by omega)).mono ?_;rintro e w6 ⟨rfl,rfl⟩;go_wp2_with fail
    go_roundw
    case rel=>exact ⟨k + 1,by omega,by go_num,by rw [← HS.out]; exact HO5.out.set k _⟩
    case measure=>simp [intOf]; omega
  ·have hq:decide ((k:Int) < T.length) = false:=by simp; omega
   obtain rfl:k = T.length:=by omega
   have hm:midL (za1 r) T T.length = T.map (za1 r):=by unfold midL; simp
   rw [hm] at HO;have hMl:(T.map (za1 r)).length = T.length:=by simp
   have hmem:∀ t∈T.map (za1 r),t.length≤65:=by
    intro t ht;obtain ⟨x,hx,rfl⟩:=List.mem_map.1 ht;exact addrTok_len G3.out x (HTL.out x hx)
   obtain ⟨M,hM⟩:∃ M,T.map (za1 r) = M:=⟨_,rfl⟩;rw [hM] at HO hMl hmem HF;have hjl:=join_le (zb5 M) (fun t ht=>hmem t (order2_mem ht))
   have hol:=order2_len M;have HVM:=zjp (HO.out.1.vec T.length (by omega));rw [hMl] at HVM;have HML:=zjp hMl;have HWr:=zjp (HO.out.2.1.mono HB2.out.size);have HW:=zjp (HB2.out.trans (HO.out.2.1.mono HB2.out.size))
   have hjb:(za0 (zb5 M)).length≤1000000:=by
    have:(zb5 M).length * 66≤130 * 66:=Nat.mul_le_mul_right 66 (by omega);omega
   have hol':(zb5 M).length≤1000:=by omega
   have hM2:M.length≤100:=by omega
   clear hm hM hmem hjl hol hMl HO;go_wp2_with fail
   refine (part_any zav _ M _ HVM.out (by omega)).mono ?_;rintro e w6 ⟨u,v,rfl,h2⟩;obtain ⟨o1,o2,o3,o4⟩:=h2;obtain ⟨i0,hi0,hz0,hz1,hz2⟩:=info_parts zdv;have hyl:=List.length_filter_le zc8 M;have hnl:=List.length_filter_le (fun x=>!zc8 x) M
   have hord:zb5 M = (M.filter fun x=>!zc8 x) ++ M.filter zc8:=rfl
   obtain ⟨Y,hY⟩:∃ Y,M.filter zc8 = Y:=⟨_,rfl⟩;obtain ⟨N,hN⟩:∃ N,(M.filter fun x=>!zc8 x) = N:=⟨_,rfl⟩
   rw [hY] at o1 hyl hord;rw [hN] at o2 hnl hord;have HW6:=zjp (HW.out.trans (o4.mono HW.out.size));have hbz:=o4.size;have O2:=zjp o2;have HO4:=zjp o4;clear hY hN o3 o4 HW
   rcases o1 with ⟨o1l,⟨rfl,h0⟩ | ⟨g,cap,cur,rfl,hg,hh,hn1,hc1,hsz,ht1⟩⟩
   ·have hY0:Y = []:=List.length_eq_zero_iff.1 h0
    subst hY0;rw [List.append_nil] at hord;have HV7:=zjp (Vec.owns (S:=zav) (k:=1) (enc:=zba) (fun _=>rfl) o2 (fun _ _ _=>trivial))
    clear o1l h0 o2;rw [hord] at HF hjb hol';have HW7:=HW6;go_wp2_with (at_builtin; refine wpList_append_own_none rfl _ _ 28 rfl _ 9 i0 1 underlying28 hi0 _ _ _ rfl O2.out rfl ?_)
    refine (join_any zav _ N _ HV7.out (by omega) (by omega)).mono ?_;rintro e w9 ⟨rfl,hb9⟩;rw [← hord] at HF hjb ⊢;clear hord hol';have HW9:=zjp (HW7.out.trans (hb9.mono HW7.out.size)); clear hb9;obtain ⟨J,hJ⟩:∃ J,za0 (zb5 M) = J:=⟨_,rfl⟩;rw [hJ] at HF hjb ⊢;clear hJ;by_cases g1:6 < T.length
    ·have d1:decide ((6:Int) < T.length) = true:=by simp; omega
     rw [if_pos (.inl g1)] at HF;go_wp2_with fail
     go_ret2;exact ⟨by rw [HF.out]; rfl,HW9.out⟩
    ·have d1:decide ((6:Int) < T.length) = false:=by simp; omega
     by_cases g2:64 < J.length
     ·have d2:decide ((64:Int) < J.length) = true:=by simp; omega
      rw [if_pos (.inr g2)] at HF;go_wp2_with fail
      go_ret2;exact ⟨by rw [HF.out]; rfl,HW9.out⟩
     ·have d2:decide ((64:Int) < J.length) = false:=by simp; omega
      rw [if_neg (by omega)] at HF;go_wp2_with fail
      go_ret2;exact ⟨by rw [HF.out]; rfl,HW9.out⟩
   ·have hcells:∀ j u,(Y.flatMap zba)[j]? = some u→w6.cell? ((⟨g,0,none⟩:Addr).add j) = some u:=by
     intro j u hu;have:(⟨g,0,none⟩:Addr).add j = ⟨g,j,none⟩:=by unfold Addr.add; split <;> simp_all
     rw [this,cell_of_row _ _ _ _ _ _ hh];rw [← ht1,List.getElem?_take] at hu;split at hu
     ·rw [← Array.getElem?_toList]; exact hu
     ·cases hu
    have HCl:=zjp hcells
    have hone:∀ u∈Y.flatMap zba,u.oneCell' = true:=by
     intro u hu;obtain ⟨y,_,hy⟩:=List.mem_flatMap.1 hu;simp at hy; subst hy; rfl
    have HOne:=zjp hone;have hYb:N.length + Y.length≤1000:=by omega
    have hmx:N.length + Y.length≤maxLen:=zdc (by omega);have HMx:=zjp hmx;clear o1l hg hh hn1 hc1 hsz ht1 hcells hone o2 hmx;go_wp2_with (at_builtin; refine wpList_append_own _ rfl _ _ 28 rfl wr.heap.size 9 i0 (.string ⟨#[]⟩) 1 16 underlying28 hi0 hz0 hz1 hz2 rfl (by decide) _ _ _ rfl O2.out ⟨g,0,none⟩ Y.length cap (Y.flatMap zba) rfl (by rw [flat_len1]; omega) HCl.out HOne.out HMx.out (by omega) hbz ?_; intro v7 w7 ho7 hg7 _)
    rw [show N.length + Y.length = (N ++ Y).length by simp,← List.flatMap_append,← hord] at ho7;have HV7:=zjp (Vec.owns (S:=zav) (k:=1) (enc:=zba) (fun _=>rfl) ho7 (fun _ _ _=>trivial))
    have hbw7:Below wr.heap.size wr w7:=HO4.out.grown hg7 hbz (fun j hj=>(O2.out.lt j hj).1)
    have HW7:=zjp ((HB2.out.trans HWr.out).trans (hbw7.mono (HB2.out.trans HWr.out).size));clear ho7 hg7 hbw7 HCl HOne HMx;refine (join_any zav _ (zb5 M) _ HV7.out (by omega) (by omega)).mono ?_;rintro e w9 ⟨rfl,hb9⟩;clear hord hol';have HW9:=zjp (HW7.out.trans (hb9.mono HW7.out.size)); clear hb9;obtain ⟨J,hJ⟩:∃ J,za0 (zb5 M) = J:=⟨_,rfl⟩;rw [hJ] at HF hjb ⊢;clear hJ;by_cases g1:6 < T.length
    ·have d1:decide ((6:Int) < T.length) = true:=by simp; omega
     rw [if_pos (.inl g1)] at HF;go_wp2_with fail
     go_ret2;exact ⟨by rw [HF.out]; rfl,HW9.out⟩
    ·have d1:decide ((6:Int) < T.length) = false:=by simp; omega
     by_cases g2:64 < J.length
     ·have d2:decide ((64:Int) < J.length) = true:=by simp; omega
      rw [if_pos (.inr g2)] at HF;go_wp2_with fail
      go_ret2;exact ⟨by rw [HF.out]; rfl,HW9.out⟩
     ·have d2:decide ((64:Int) < J.length) = false:=by simp; omega
      rw [if_neg (by omega)] at HF;go_wp2_with fail
      go_ret2;exact ⟨by rw [HF.out]; rfl,HW9.out⟩
end
section
open Go.RowKit
attribute [local go_sem] zag zaj
theorem addr_no (S:Nat→Prop) (vt vn vs:Value) (r:RulesL) (s:ByteArray) (w:World) (h:RulesAt w S vt vn vs r) (hs:s.size≤9223372036854775000) (hc:zay r = 0) (hv:zdd s.data.toList = false) :
  Calls prog 217 #[.agg #[vt,vn,vs],.string s] w fun e w'=>e = .returned (zds (zda r s.data.toList))∧Below w.heap.size w w':=by
 have HR:=zjp h.any;have HC:=zjp hc; have HV:=zjp hv;clear h hc hv;have HF:=zjp (show zda r s.data.toList = ([],3) by unfold zda; rw [if_pos HC.out,if_neg (by rw [HV.out]; simp)]);go_enter func217,ntmps217
 go_wp2_with fail
 refine (zet zav vt vn vs r _ (HR.out.below ((Below.refl _ _).alloc xnl _))).mono ?_;rw [HC.out];rintro e w1 ⟨rfl,hb1⟩;have HB1:=zjp (xbt hb1);clear hb1;go_wp2_with fail
 refine (fold_no s _ hs HV.out).mono ?_;rintro e w2 ⟨rfl,hb2⟩;have HB2:=zjp (HB1.out.trans (hb2.mono HB1.out.size));clear hb2 HB1;go_wp2_with fail
 go_ret2;exact ⟨by rw [HF.out]; rfl,HB2.out⟩
theorem addr_bad (S:Nat→Prop) (vt vn vs:Value) (r:RulesL) (s:ByteArray) (w:World) (h:RulesAt w S vt vn vs r) (hc:zay r≠0) :
  Calls prog 217 #[.agg #[vt,vn,vs],.string s] w fun e w'=>e = .returned (zds (zda r s.data.toList))∧Below w.heap.size w w':=by
 have HR:=zjp h.any;have HF:=zjp (show zda r s.data.toList = ([],zay r) by unfold zda; rw [if_neg hc]);have hne:(zay r != 0) = true:=by simpa using hc
 clear h hc;go_enter func217,ntmps217
 go_wp2_with fail
 refine (zet zav vt vn vs r _ (HR.out.below ((Below.refl _ _).alloc xnl _))).mono ?_;obtain ⟨c,hcc⟩:∃ c,zay r = c:=⟨_,rfl⟩;rw [hcc] at hne HF ⊢;clear hcc;rintro e w1 ⟨rfl,hb1⟩;have HB1:=zjp (xbt hb1);clear hb1;go_wp2_with fail
 go_ret2;exact ⟨by rw [HF.out]; rfl,HB1.out⟩
theorem addr_any (S:Nat→Prop) (vt vn vs:Value) (r:RulesL) (s:ByteArray) (w:World) (h:RulesAt w S vt vn vs r) (hs:s.size≤9223372036854775000) :
  Calls prog 217 #[.agg #[vt,vn,vs],.string s] w fun e w'=>e = .returned (zds (zda r s.data.toList))∧Below w.heap.size w w':=by
 by_cases hc:zay r = 0
 ·cases hv:zdd s.data.toList with
  | true=>exact addr_yes S vt vn vs r s w h hc hv
  | false=>exact addr_no S vt vn vs r s w h hs hc hv
 ·exact addr_bad S vt vn vs r s w h hc
theorem anormal_any (S:Nat→Prop) (vt vn vs:Value) (r:RulesL) (s:ByteArray) (w:World) (h:RulesAt w S vt vn vs r) (hs:s.size≤9223372036854775000) :
  Calls prog 218 #[.agg #[vt,vn,vs],.string s] w fun e w'=>e = .returned (.bool (zel (zda r s.data.toList) s.data.toList))∧Below w.heap.size w w':=by
 have HR:=zjp h.any; clear h;have HS:=zjp (Lib.toList_data s);go_enter func218,ntmps218
 go_wp2_with fail
 refine (addr_any zav vt vn vs r s _ (HR.out.below ((Below.refl _ _).alloc xnl _)) hs).mono ?_;obtain ⟨p,hp⟩:∃ p,zda r s.data.toList = p:=⟨_,rfl⟩;rw [hp];have HP:=zjp hp; clear hp;obtain ⟨pl,pe⟩:=p;unfold zds;rintro e w1 ⟨rfl,hb1⟩;have HB1:=zjp (xbt hb1);clear hb1;cases he:(pe == 0)
 all_goals
  go_wp2_with fail
  go_ret;refine ⟨zaw ?_,HB1.out⟩;rw [HP.out];simp [zel,he,HS.out]
def zd1 (l:List UInt8):List UInt8 × Int :=
 if zdd l = true then (if 12 < (zcq (zbv l)).flatten.length then ([],1) else ((zcq (zbv l)).flatten,0)) else ([],3)
theorem join_flat (L:List (List UInt8)):Lib.join L [] = L.flatten:=by
 induction L with
 | nil=>rfl
 | cons a L ih =>
  rw [Lib.join_cons,List.flatten_cons];congr 1;unfold Lib.joinTail;simp
theorem flat_le (l:List UInt8):∀ p,(zbu p l).flatten.length≤p.length + l.length:=by
 induction l with
 | nil=>intro p; simp only [zbu]; split <;> simp
 | cons c l ih =>
  intro p;by_cases hc:c = 32
  ·subst hc
   by_cases hp:p = []
   ·subst hp; rw [zbn]; have:=ih []; simp at *; omega
   ·rw [zb0 _ _ hp]; have:=ih []; simp at *; omega
  ·rw [zb4 _ _ _ hc]; have:=ih (p ++ [c]); simp at *; omega
theorem code_any (s:ByteArray) (w:World) (hs:s.size≤9223372036854775000) :
  Calls prog 213 #[.string s] w fun e w'=>e = .returned (zds (zd1 s.data.toList))∧Below w.heap.size w w':=by
 cases hv:zdd s.data.toList
 ·have HV:=zjp hv
  have HF:=zjp (show zd1 s.data.toList = ([],3) by unfold zd1; rw [if_neg (by rw [hv]; simp)]);clear hv;go_enter func213,ntmps213
  go_wp2_with fail
  refine (fold_no s _ hs HV.out).mono ?_;rintro e w2 ⟨rfl,hb2⟩;go_wp2_with fail
  go_ret2;exact ⟨by rw [HF.out]; rfl,hb2⟩
 ·have hs64:s.size≤64:=by
   have:=zgl hv;have h2:s.data.toList.length = s.size:=by simp
   omega
  have hfl:(zbv s.data.toList).length≤64:=by
   have:=zgy s.data.toList;have h2:s.data.toList.length = s.size:=by simp
   omega
  have HV:=zjp hv
  have hfin:zd1 s.data.toList = (if 12 < (zcq (zbv s.data.toList)).flatten.length then ([],1) else ((zcq (zbv s.data.toList)).flatten,0)):=by
   unfold zd1; rw [if_pos hv]
  clear hv;obtain ⟨fl,hfl'⟩:∃ fl,zbv s.data.toList = fl:=⟨_,rfl⟩;have HA:=zjp (show ascii fl from hfl' ▸ zhz _);rw [hfl'] at hfl hfin;have HFl:=zjp hfl';have HF:=zjp hfin; clear hfin hfl';go_enter func213,ntmps213
  go_wp2_with fail
  refine (fold_yes s _ (by omega) HV.out).mono ?_;rw [HFl.out];rintro e w2 ⟨rfl,hb2⟩;have HB2:=zjp hb2; clear hb2;go_wp2_with fail
  refine (zge fl _ HA.out (by omega)).mono ?_;rintro e w4 ⟨A,rfl,hA,ho,hb4⟩;have hrow:=(own_block ho).2;have HB4:=zjp (HB2.out.trans (hb4.mono HB2.out.size));have htn:(zcq fl).length≤65:=by have:=(zdy fl []).2.1; unfold zcq; omega
  have hfle:(zcq fl).flatten.length≤64:=by have:=flat_le fl []; simp at this; unfold zcq; simp; omega
  obtain ⟨T,hT⟩:∃ T,zcq fl = T:=⟨_,rfl⟩;rw [hT] at hrow htn hfle HF ⊢
  have hjj:Lib.join ((T.map mkS).map (·.data.toList)) [] = T.flatten:=by
   rw [List.map_map,← join_flat]; congr 1; conv=>rhs; rw [← List.map_id T]
   exact List.map_congr_left fun x _=>by simp [mkS]
  have hj:=Tryz.strings_Join A 0 T.length (T.map mkS) ⟨#[]⟩ w4 (fun j x hx=>by
    rw [List.getElem?_map] at hx;obtain ⟨y,hy,rfl⟩:=Option.map_eq_some_iff.1 hx;have hj':j < T.length:=(List.getElem?_eq_some_iff.1 hy).1;have:=hrow.cell j hj';rw [List.getD,hy] at this
    simpa [mkS] using this) (zaa hrow) (by simp; omega) (by simp) (by rw [show (⟨#[]⟩:ByteArray).data.toList = [] from rfl,hjj]; omega)
  rw [show (⟨#[]⟩:ByteArray).data.toList = [] from rfl,hjj,List.length_map] at hj;have HJ:=zjp hj;clear hb4 ho hrow hT hA hj hjj HB2;go_wp2_with fail
  refine HJ.out.mono ?_;obtain ⟨J,hJ⟩:∃ J,T.flatten = J:=⟨_,rfl⟩;rw [hJ] at HF hfle ⊢;clear hJ HJ;rintro e w5 ⟨rfl,hb5⟩;have HB5:=zjp (HB4.out.trans (hb5.mono HB4.out.size)); clear hb5 HB4;by_cases g1:12 < J.length
  ·have d1:decide ((12:Int) < J.length) = true:=by simp; omega
   rw [if_pos g1] at HF;go_wp2_with fail
   go_ret2;exact ⟨by rw [HF.out]; rfl,HB5.out⟩
  ·have d1:decide ((12:Int) < J.length) = false:=by simp; omega
   rw [if_neg g1] at HF;go_wp2_with fail
   go_ret2;exact ⟨by rw [HF.out]; rfl,HB5.out⟩
theorem normed_any (s:ByteArray) (w:World) (hs:s.size≤9223372036854775000) :
  Calls prog 215 #[.string s] w fun e w'=>e = .returned (.bool (zel (zd1 s.data.toList) s.data.toList))∧Below w.heap.size w w':=by
 have HS:=zjp (Lib.toList_data s);go_enter func215,ntmps215
 go_wp2_with fail
 refine (code_any s _ hs).mono ?_;obtain ⟨p,hp⟩:∃ p,zd1 s.data.toList = p:=⟨_,rfl⟩;rw [hp];have HP:=zjp hp; clear hp;obtain ⟨pl,pe⟩:=p;unfold zds;rintro e w1 ⟨rfl,hb1⟩;have HB1:=zjp hb1;clear hb1;cases he:(pe == 0)
 all_goals
  go_wp2_with fail
  go_ret;refine ⟨zaw ?_,HB1.out⟩;rw [HP.out];simp [zel,he,HS.out]
end
section
open Go.RowKit Cal
def isDig (l:List UInt8):Prop:=∀ c∈l,48≤c.toNat∧c.toNat≤57
def valD:List UInt8→Nat
 | []=>0
 | c :: cs=>(c.toNat - 48) * 10 ^ cs.length + valD cs
theorem valD_append (l r:List UInt8):valD (l ++ r) = valD l * 10 ^ r.length + valD r:=by
 induction l with
 | nil=>simp [valD]
 | cons c cs ih=>simp only [List.cons_append,valD,ih,List.length_append,Nat.pow_add,Nat.add_mul]; rw [Nat.mul_assoc]; omega
theorem numFrom_dig (l:List UInt8) (h:isDig l):∀ n:Nat,zbc (n:Int) l = some ((n * 10 ^ l.length + valD l:Nat):Int):=by
 induction l with
 | nil=>intro n; simp [zbc,valD]
 | cons c cs ih =>
  intro n;have h1:=h c (by simp);have h2:=ih fun x hx=>h x (by simp [hx])
  have e:(10 * (n:Int) + ((c.toNat:Int) - 48)) = ((10 * n + (c.toNat - 48):Nat):Int):=by omega
  rw [zbc,if_pos (by omega),e,h2];congr 2;simp only [valD,List.length_cons,Nat.pow_succ,Nat.add_mul];have:10 * n * 10 ^ cs.length = n * (10 ^ cs.length * 10):=by rw [Nat.mul_comm 10 n,Nat.mul_assoc,Nat.mul_comm 10]
  omega
theorem numI_dig (l:List UInt8) (h:isDig l):zec l = valD l:=by
 unfold zec;have:=numFrom_dig l h 0;simp only [Int.natCast_zero] at this;rw [show (0:Int) = ((0:Nat):Int) from rfl,numFrom_dig l h 0];simp
theorem zeq (k:Nat):∀ n,(dg n k).length = k:=by
 induction k with
 | zero=>intro n; rfl
 | succ k ih=>intro n; simp [dg,ih]
theorem dg_dig (k:Nat):∀ n:Int,0≤n→isDig (dg n k):=by
 induction k with
 | zero=>intro n _ c hc; simp [dg] at hc
 | succ k ih =>
  intro n hn c hc;simp only [dg,List.mem_append,List.mem_singleton] at hc
  rcases hc with hc | rfl
  ·exact ih (n / 10) (by omega) c hc
  ·have:(UInt8.ofNat (48 + (n % 10).toNat)).toNat = 48 + (n % 10).toNat:=by rw [UInt8.toNat_ofNat']; omega
   omega
theorem dg_val (k:Nat):∀ n:Int,0≤n→n < 10 ^ k→(valD (dg n k):Int) = n:=by
 induction k with
 | zero=>intro n h0 h1; simp at h1; simp [dg,valD]; omega
 | succ k ih =>
  intro n hn h1;have e:(UInt8.ofNat (48 + (n % 10).toNat)).toNat = 48 + (n % 10).toNat:=by rw [UInt8.toNat_ofNat']; omega
  have h2:n / 10 < 10 ^ k:=by rw [Int.pow_succ] at h1; omega
  have:=ih (n / 10) (by omega) h2;simp only [dg,valD_append,valD,List.length_cons,List.length_nil,e];simp;omega
theorem digits8_len (y m d:Int):(zdw y m d).length = 8:=by simp [zdw,zeq]
end
section
open Go.RowKit Cal
attribute [local go_sem] zeq
@[local go_sem] theorem zbb (a b:List UInt8):(⟨a.toArray⟩:ByteArray) ++ ⟨b.toArray⟩ = ⟨(a ++ b).toArray⟩:=by
 apply ByteArray.ext; simp
theorem ret_str {a b:List UInt8} (h:a = b):Ending.returned (.string ⟨a.toArray⟩) = .returned (.string ⟨b.toArray⟩):=by rw [h]
theorem dgb (n:Int) (h:0≤n):zf2 (UInt8.ofNat (48 + (n % 10).toNat)) = .int .u8 (48 + n % 10):=by
 have:(UInt8.ofNat (48 + (n % 10).toNat)).toNat = 48 + (n % 10).toNat:=by rw [UInt8.toNat_ofNat']; omega
 unfold zf2; rw [this]; congr 1; omega
theorem owns_new {w:World} {B:Nat} {e:TypeId} (l:List UInt8) (hB:B≤w.heap.size) (hl:l.length≤1000) :
  (w.alloc (.cells (l.map zf2).toArray e)).ownsRow B e 1 (.slice (some ⟨w.heap.size,0,none⟩) l.length l.length) l.length (l.map zf2) :=
 ⟨by simp,.inr ⟨_,_,_,rfl,hB,zac rfl,Nat.le_refl _,zdc (by omega),by simp,by rw [List.take_of_length_le (by simp)]⟩⟩
theorem two_any (n:Int) (w:World) (h0:0≤n) (h1:n≤99) :
  Calls prog 122 #[.int .i64 n] w fun e w'=>e = .returned (.string ⟨(dg n 2).toArray⟩)∧Below w.heap.size w w':=by
 have ha:0≤n / 10 % 10∧n / 10 % 10≤9:=by omega
 have hb:0≤n % 10∧n % 10≤9:=by omega
 obtain ⟨ha1,ha2⟩:=ha;obtain ⟨hb1,hb2⟩:=hb
 have hcv:∀ w:World,(convert 175 9 (.slice (some ⟨w.heap.size,0,none⟩) 2 2)).run prog (w.alloc (.cells #[.int .u8 (48 + n / 10 % 10),.int .u8 (48 + n % 10)] 5)) = .ok (.string ⟨(dg n 2).toArray⟩) (w.alloc (.cells #[.int .u8 (48 + n / 10 % 10),.int .u8 (48 + n % 10)] 5)):=by
  intro w;have ho:=owns_new (w:=w) (B:=0) (e:=5) (dg n 2) (Nat.zero_le _) (by rw [zeq]; omega);rw [zeq] at ho
  have e1:(dg n 2).map zf2 = [.int .u8 (48 + n / 10 % 10),.int .u8 (48 + n % 10)]:=by
   simp only [dg,List.nil_append,List.cons_append,List.map_cons,List.map_nil];rw [dgb _ (by omega),dgb _ h0]
  rw [e1] at ho;exact zca (dg n 2) (by rw [e1]; exact ho) underlying175 underlying5 underlying9
 go_enter func122,ntmps122
 go_wp2
 go_ret;exact ⟨rfl,(Below.refl _ _).alloc xnl _⟩
theorem dg_two (n:Int):dg n 4 = dg (n / 100) 2 ++ dg n 2:=by
 simp only [dg,List.nil_append,List.append_assoc];have e1:n / 10 / 10 = n / 100:=by omega
 rw [e1]
theorem dg_mod (n:Int) (h:0≤n):dg (n % 100) 2 = dg n 2:=by
 simp only [dg,List.nil_append];have e1:n % 100 / 10 % 10 = n / 10 % 10:=by omega
 have e2:n % 100 % 10 = n % 10:=by omega
 rw [e1,e2]
def writtenL (y m d form:Int):List UInt8 :=
 if form = 0 then dg y 4 ++ [45] ++ dg m 2 ++ [45] ++ dg d 2 else if form = 1 then dg d 2 ++ [46] ++ dg m 2 ++ [46] ++ dg y 4 else dg m 2 ++ [47] ++ dg d 2 ++ [47] ++ dg y 4
theorem mod_any (x n:Int) (w:World) (hx:0≤x) (hx2:x≤1000000000000) (hn:1≤n) (hn2:n≤1000000000) :
  Calls prog 123 #[.int .i64 x,.int .i64 n] w fun e w'=>e = .returned (.int .i64 (x % n))∧w = w':=by
 have h1:0≤x % n:=Int.emod_nonneg _ (by omega);have h2:x % n < n:=Int.emod_lt_of_pos _ (by omega);have h3:0≤x % n + n:=by omega
 have H4:=zjp (show (x % n + n) % n = x % n by rw [Int.add_emod_right]; exact Int.emod_eq_of_lt h1 h2);go_enter func123,ntmps123
 go_wp2
 go_ret;exact ⟨zic (by have:=H4.out; simp [this]),rfl⟩
theorem written_any (y m d form:Int) (w:World) (hb:1800≤y∧y≤2199∧0≤m∧m≤13∧1≤d∧d≤32) (hf:0≤form∧form≤2) :
  Calls prog 83 #[.agg #[.int .i64 y,.int .i64 m,.int .i64 d],.int .i64 form] w fun e w'=>e = .returned (.string ⟨(writtenL y m d form).toArray⟩)∧Below w.heap.size w w':=by
 obtain ⟨b1,b2,b3,b4,b5,b6⟩:=hb;obtain ⟨f1,f2⟩:=hf;have q1:0≤y / 100∧y / 100≤99:=by omega
 have q2:0≤y % 100∧y % 100≤99:=by omega
 obtain ⟨q1,q1'⟩:=q1;obtain ⟨q2,q2'⟩:=q2;have HM:=fun w=>zjp (mod_any form 3 w f1 (by omega) (by omega) (by omega))
 rw [show form % 3 = form by omega] at HM;go_enter func83,ntmps83
 go_wp2_with fail
 have m99:m≤99:=by omega
 have d99:d≤99:=by omega
 have d0:0≤d:=by omega
 have e1:IntKind.i64.wrap (y.tdiv 100) = y / 100:=by rw [Int.tdiv_eq_ediv_of_nonneg (by omega)]; exact IntWalk.i64_in _ ⟨by omega,by omega⟩
 have e2:y.tmod 100 = y % 100:=Int.tmod_eq_emod_of_nonneg (by omega);refine wp_region_noPanic ?_
 refine wp_region_held_drew (S:=(fun w'=>w'.cell? ⟨w.heap.size,0,none⟩ = some (.int .i64 y)∧w'.cell? ⟨w.heap.size,1,none⟩ = some (.int .i64 m)∧w'.cell? ⟨w.heap.size,2,none⟩ = some (.int .i64 d))) (by kernel_rfl) (⟨by simp,by simp,by simp⟩) (fun hHeld=>?_)
 refine tH 0 (h:=?_);refine tH 1 (h:=?_);refine tH 2 (h:=?_);refine tH 4 (h:=?_);refine tH 5 (h:=?_);refine tH 6 (h:=?_);refine tH 9 (h:=?_);refine tH 10 (h:=?_);refine tH 12 (h:=?_);refine tH 13 (h:=?_);refine wpAnyH_ready (rs:=[3]) (by kernel_rfl) (by simp) ?_
 refine AllReadyH.cons rfl (fun K hK=>?_) AllReadyH.nil
 go_simp;refine (two_any _ _ q1 q1').mono ?_; rintro e w1 ⟨rfl,hb1⟩; have z1:w.heap.size < w1.heap.size:=(by clear e1 e2; have:=hb1.size; simp at this; omega); have HB1:=zjp ((((Below.refl _ _).alloc xnl _).drew).trans (hb1.mono (by simp))); have c01:w1.cell? ⟨w.heap.size,0,none⟩ = some (.int .i64 y):=(hb1.cell (p:=⟨w.heap.size,0,none⟩) (by simp)).trans (by simp); have c11:w1.cell? ⟨w.heap.size,1,none⟩ = some (.int .i64 m):=(hb1.cell (p:=⟨w.heap.size,1,none⟩) (by simp)).trans (by simp); have c21:w1.cell? ⟨w.heap.size,2,none⟩ = some (.int .i64 d):=(hb1.cell (p:=⟨w.heap.size,2,none⟩) (by simp)).trans (by simp); clear hb1
 refine hK.out _ _ (⟨c01,c11,c21⟩) (fun hHeld=>?_)
 clear hK K;refine wpAnyH_ready (rs:=[7]) (by kernel_rfl) (by simp) ?_
 refine AllReadyH.cons rfl (fun K hK=>?_) AllReadyH.nil
 go_simp;refine (two_any _ _ q2 q2').mono ?_; rintro e w2 ⟨rfl,hb2⟩; have z2:w.heap.size < w2.heap.size:=(by clear e1 e2; have:=hb2.size; omega); have HB2:=zjp (HB1.out.trans (hb2.mono HB1.out.size)); have c02:=(hb2.cell (p:=⟨w.heap.size,0,none⟩) z1).trans c01; have c12:=(hb2.cell (p:=⟨w.heap.size,1,none⟩) z1).trans c11; have c22:=(hb2.cell (p:=⟨w.heap.size,2,none⟩) z1).trans c21; clear hb2 c01 c11 c21
 refine hK.out _ _ (⟨c02,c12,c22⟩) (fun hHeld=>?_)
 clear hK K;refine tH 8 (h:=?_);refine wpAnyH_ready (rs:=[11]) (by kernel_rfl) (by simp) ?_
 refine AllReadyH.cons rfl (fun K hK=>?_) AllReadyH.nil
 go_simp;refine (two_any _ _ b3 m99).mono ?_; rintro e w3 ⟨rfl,hb3⟩; have z3:w.heap.size < w3.heap.size:=(by clear e1 e2; have:=hb3.size; omega); have HB3:=zjp (HB2.out.trans (hb3.mono HB2.out.size)); have c03:=(hb3.cell (p:=⟨w.heap.size,0,none⟩) z2).trans c02; have c13:=(hb3.cell (p:=⟨w.heap.size,1,none⟩) z2).trans c12; have c23:=(hb3.cell (p:=⟨w.heap.size,2,none⟩) z2).trans c22; clear hb3 c02 c12 c22
 refine hK.out _ _ (⟨c03,c13,c23⟩) (fun hHeld=>?_)
 clear hK K;refine wpAnyH_ready (rs:=[14]) (by kernel_rfl) (by simp) ?_
 refine AllReadyH.cons rfl (fun K hK=>?_) AllReadyH.nil
 go_simp;refine (two_any _ _ d0 d99).mono ?_; rintro e w4 ⟨rfl,hb4⟩; have z4:w.heap.size < w4.heap.size:=(by clear e1 e2; have:=hb4.size; omega); have HB4:=zjp (HB3.out.trans (hb4.mono HB3.out.size)); have c04:=(hb4.cell (p:=⟨w.heap.size,0,none⟩) z3).trans c03; have c14:=(hb4.cell (p:=⟨w.heap.size,1,none⟩) z3).trans c13; have c24:=(hb4.cell (p:=⟨w.heap.size,2,none⟩) z3).trans c23; clear hb4 c03 c13 c23
 refine hK.out _ _ (⟨c04,c14,c24⟩) (fun hHeld=>?_)
 clear hK K;refine tH 15 (h:=?_);refine tH 16 (h:=?_);refine tH 17 (h:=?_);refine wpAnyH_done (by kernel_rfl) ?_ _;refine NoPanic.normal ?_;clear e1 e2;go_wp2_with fail
 refine (HM _).out.mono ?_; rintro e w' ⟨rfl,rfl⟩;go_wp2_with fail
 all_goals
  go_ret;refine ⟨ret_str ?_,HB4.out⟩;simp only [beq_iff_eq,beq_eq_false_iff_ne,ne_eq] at *;simp [writtenL,dg_two y,dg_mod y (by omega), *]
end
section
open Go.RowKit Cal
attribute [local go_sem] zag zaj
abbrev fnV (g:Nat):Value:=.func (.func g) #[] #[]
def ze8:Array Value:=#[.string ⟨#[]⟩,.nilFunc,.nilFunc,.nilFunc]
def kind1:Array Value:=#[.string ⟨#[110,97,109,101]⟩,fnV 205,fnV 206,fnV 207]
def kind2:Array Value:=#[.string ⟨#[100,97,116,101]⟩,fnV 208,fnV 209,fnV 211]
def kind3:Array Value:=#[.string ⟨#[99,111,100,101]⟩,fnV 212,fnV 214,fnV 216]
def kind4:Array Value:=#[.string ⟨#[97,100,100,114,101,115,115]⟩,fnV 217,fnV 218,fnV 207]
def kindsV:Array Value:=ze8 ++ kind1 ++ kind2 ++ kind3 ++ kind4
theorem kinds_any (w:World) :
  Calls prog 180 #[] w fun e w'=>e = .returned (.agg kindsV)∧Below w.heap.size w w':=by
 go_enter func180,ntmps180
 go_upto_region 1 with (fail)
 rename_i hK;refine wp_region_list ?_;refine wpList_buildTo rfl 188 _ rfl (some 1) rfl kind1 (by kernel_rfl) ?_;refine wpList_buildTo rfl 188 _ rfl (some 2) rfl kind2 (by kernel_rfl) ?_;refine wpList_buildTo rfl 188 _ rfl (some 3) rfl kind3 (by kernel_rfl) ?_;refine wpList_buildTo rfl 188 _ rfl (some 4) rfl kind4 (by kernel_rfl) ?_;refine wpList_buildTo rfl 217 _ rfl (some 5) rfl kindsV (by kernel_rfl) ?_;refine wpList_store_row rfl 217 _ _ rfl w.heap.size kindsV rfl rfl 217 _ (heap_alloc_new w _) (by kernel_rfl) (by kernel_rfl) (by kernel_rfl) ?_;refine wpList_nil ?_;rw [World.setRow_alloc_new];refine hK _ _ ?_;go_wp2_with fail
 exact za4 rfl rfl (heap_alloc_new w _) underlying217 rfl (by kernel_rfl) ⟨rfl,(Below.refl _ _).alloc xnl _⟩
def wordB (l:List UInt8):Bool:=bif l.isEmpty then false else bif decide (l.length≤12) then za8 l == l else false
theorem word_is (l:List UInt8) (w:World) :
  Calls prog 89 #[zal l] w fun e w'=>e = .returned (.bool (wordB l))∧Below w.heap.size w w':=by
 unfold wordB;by_cases h0:l = []
 ·subst h0
  go_enter func89,ntmps89
  go_wp2
  go_ret;exact ⟨rfl,Below.refl _ _⟩
 ·have h1:l.isEmpty = false:=by simpa using h0
  have h2:(l == []) = false:=by simpa using h0
  rw [h1];by_cases h3:l.length≤12
  ·have h4:decide (l.length≤12) = true:=by simpa using h3
   have h5:decide ((l.length:Int)≤12) = true:=by simp; omega
   rw [h4];clear h0 h4;go_enter func89,ntmps89
   go_wp2_with fail
   refine (zih ⟨l.toArray⟩ _ (by rw [zaj]; omega)).mono ?_;rintro e w1 ⟨rfl,hb⟩;go_wp2_with fail
   go_ret;exact ⟨rfl,hb⟩
  ·have h4:decide (l.length≤12) = false:=by simpa using h3
   have h5:decide ((l.length:Int)≤12) = false:=by simp; omega
   rw [h4];clear h0 h4;go_enter func89,ntmps89
   go_wp2_with fail
   go_ret;exact ⟨rfl,Below.refl _ _⟩
end
section
open Go.RowKit Cal
attribute [local go_sem] zag zaj
def dayF (y m d:List UInt8):List UInt8 × Int:=bif vldB (zec y) (zec m) (zec d) then (zdw (zec y) (zec m) (zec d),0) else ([],4)
def byteL (l:List UInt8) (i:Nat):Int:=((l.getD i 0).toNat:Int)
def dayN (l:List UInt8):List UInt8 × Int :=
 if l.length = 10 then
  if byteL l 4 = 45∧byteL l 7 = 45 then dayF (l.take 4) ((l.drop 5).take 2) ((l.drop 8).take 2)
  else if byteL l 2 = 46∧byteL l 5 = 46 then dayF ((l.drop 6).take 4) ((l.drop 3).take 2) (l.take 2)
  else if byteL l 2 = 47∧byteL l 5 = 47 then dayF ((l.drop 6).take 4) (l.take 2) ((l.drop 3).take 2)
  else ([],4)
 else ([],4)
def DayIs (x:Value) (p:List UInt8 × Int):Prop:=(∃ a b c:Int,vldB a b c = true∧x = .tuple #[.agg #[.int .i64 a,.int .i64 b,.int .i64 c],.int .i64 0]∧p = (zdw a b c,0))∨(x = .tuple #[.agg #[.int .i64 0,.int .i64 0,.int .i64 0],.int .i64 4]∧p = ([],4))
theorem dateL_is (y m d:List UInt8):DayIs (dateL y m d) (dayF y m d):=by
 unfold dateL dateR dayF;cases h:vldB (zec y) (zec m) (zec d)
 ·exact .inr ⟨rfl,rfl⟩
 ·exact .inl ⟨_,_,_,h,rfl,rfl⟩
theorem parse_is (s:ByteArray):DayIs (parseV s) (dayN s.data.toList):=by
 have hl:s.data.toList.length = s.size:=by simp
 unfold parseV dayN;rw [hl];show DayIs _ (if s.size = 10 then if zgb s 4 = 45∧zgb s 7 = 45 then _ else if zgb s 2 = 46∧zgb s 5 = 46 then _ else if zgb s 2 = 47∧zgb s 5 = 47 then _ else _ else _);split
 ·split
  ·exact dateL_is _ _ _
  ·split
   ·exact dateL_is _ _ _
   ·split
    ·exact dateL_is _ _ _
    ·exact .inr ⟨rfl,rfl⟩
 ·exact .inr ⟨rfl,rfl⟩
def readB (l:List UInt8):Bool:=bif decide (l.length = 8) then vldB (zec (l.take 4)) (zec ((l.drop 4).take 2)) (zec ((l.drop 6).take 2)) else false
theorem read_is (s:ByteArray):∃ a b c:Int,(bif decide (s.size = 8) then dateL (s.data.toList.take 4) ((s.data.toList.drop 4).take 2) ((s.data.toList.drop 6).take 2) else dateV false 0 0 0 4) = .tuple #[.agg #[.int .i64 a,.int .i64 b,.int .i64 c],.int .i64 (cd (readB s.data.toList) 4)]:=by
 have hl:s.data.toList.length = s.size:=by simp
 unfold readB;rw [hl];cases decide (s.size = 8)
 ·exact ⟨0,0,0,rfl⟩
 ·exact ⟨_,_,_,rfl⟩
theorem kind1_any (vt vn vs:Value) (s:ByteArray) (w:World) :
  Calls prog 209 #[.agg #[vt,vn,vs],.string s] w fun e w'=>e = .returned (.bool (readB s.data.toList))∧Below w.heap.size w w':=by
 obtain ⟨a,b,c,hr⟩:=read_is s;have HR:=zjp hr; clear hr;go_enter func209,ntmps209
 go_wp2_with fail
 refine (read_any s _).mono ?_;rw [HR.out];obtain ⟨v,hv⟩:∃ v,readB s.data.toList = v:=⟨_,rfl⟩;rw [hv];have HV:=zjp hv; clear hv HR;rintro e w1 ⟨rfl,hb1⟩;have HB1:=zjp (xbt hb1);clear hb1;cases v
 all_goals
  simp only [cd_false,cd_true];go_wp2_with fail
  go_ret;exact ⟨zaw (by rw [HV.out]; try rfl),HB1.out.alloc HB1.out.size _⟩
theorem kind3_any (vt vn vs:Value) (s:ByteArray) (w:World) (hs:s.size≤9223372036854775000) :
  Calls prog 214 #[.agg #[vt,vn,vs],.string s] w fun e w'=>e = .returned (.bool (zel (zd1 s.data.toList) s.data.toList))∧Below w.heap.size w w':=by
 go_enter func214,ntmps214
 go_wp2_with fail
 refine (normed_any s _ hs).mono ?_;rintro e w1 ⟨rfl,hb1⟩;have HB1:=zjp (xbt hb1);clear hb1;go_wp2_with fail
 go_ret;exact ⟨rfl,HB1.out⟩
end
section
open Go.RowKit Cal
attribute [local go_sem] zag zaj
abbrev F2:=List UInt8 × Int
def encF (x:F2):List Value:=[zal x.1,.int .i64 x.2]
structure SchemaL where
 fields:List F2
 rules:RulesL
def SchemaAt (w:World) (S:Nat→Prop) (vf vt vn vs:Value) (s:SchemaL):Prop:=Vec w S 2 encF vf s.fields∧RulesAt w S vt vn vs s.rules
theorem SchemaAt.below {w w':World} {S:Nat→Prop} {vf vt vn vs:Value} {s:SchemaL} (h:SchemaAt w S vf vt vn vs s) (hb:Below w.heap.size w w'):SchemaAt w' S vf vt vn vs s:=⟨h.1.below hb,h.2.below hb⟩
theorem SchemaAt.any {w:World} {S:Nat→Prop} {vf vt vn vs:Value} {s:SchemaL} (h:SchemaAt w S vf vt vn vs s):SchemaAt w zav vf vt vn vs s:=⟨h.1.any,h.2.any⟩
theorem Vec.take {α:Type} {w:World} {S:Nat→Prop} {k:Nat} {enc:α→List Value} {a:Option Addr} {n cap:Nat} {L:List α} (h:Vec w S k enc (.slice a n cap) L) (i:Nat) (hi:i≤L.length):Vec w S k enc (.slice a i cap) (L.take i):=by
 obtain ⟨a',cap',h1,h2,h3⟩:=h;cases h1
 refine ⟨a,cap,by rw [List.length_take,Nat.min_eq_left hi],by rw [List.length_take]; omega,fun h0=>?_⟩
 rw [List.length_take] at h0;obtain ⟨b,off,h4,h5,h5',h6⟩:=h3 (by omega)
 refine ⟨b,off,h4,h5,h5',fun j x hj=>h6 j x ?_⟩
 rw [List.getElem?_take] at hj;split at hj
 ·exact hj
 ·cases hj
theorem zbq {w:World} {b:Nat} {x y z u:Value} {t:TypeId} {fr:Nat × Nat} (h:w.heap[b]? = some (.cells #[x,y,z,u] t fr)) :
  w.cell? ⟨b,0,none⟩ = some x∧w.cell? ⟨b,1,none⟩ = some y∧w.cell? ⟨b,2,none⟩ = some z∧w.cell? ⟨b,3,none⟩ = some u:=by
 refine ⟨?_,?_,?_,?_⟩ <;> (rw [cell_of_row _ _ _ _ _ _ h]; rfl)
theorem pred_field (nm:List UInt8) (B:Nat) (w:World) (hB:B < w.heap.size) (hcell:w.cell? ⟨B,0,none⟩ = some (zal nm)) :
  PredBelow prog 88 #[.pointer (some ⟨B,0,none⟩)] (fun x=>.agg (encF x).toArray) (fun x=>x.1 == nm) w:=fun W x hb=>by
 have hc:W.cell? ⟨B,0,none⟩ = some (zal nm):=(hb.cell (p:=⟨B,0,none⟩) hB).trans hcell;have hBW:B < W.heap.size:=Nat.lt_of_lt_of_le hB hb.size;have hne:B≠W.heap.size:=by omega
 have HBb:=zjp hb; clear hb hcell;obtain ⟨xn,xk⟩:=x;show Calls prog 88 #[.agg #[zal xn,.int .i64 xk],.pointer (some ⟨B,0,none⟩)] W _;go_enter func88,ntmps88
 go_wp2
 go_ret;exact ⟨rfl,HBb.out.alloc HBb.out.size _⟩
theorem idxF_nil (a:Option Addr) (c:Nat) (f:Value) (w:World) :
  Calls prog 129 #[.slice a 0 c,f] w fun e w'=>e = .returned (.int .i64 (-1))∧w = w':=by
 go_enter func129,ntmps129
 go_wp2
 refine wp_loop_rounds 1 ?_; rw [rounds_succ];go_wp2
 go_ret;exact ⟨rfl,rfl⟩
theorem contF_nil (a:Option Addr) (c:Nat) (f:Value) (w:World) :
  Calls prog 87 #[.slice a 0 c,f] w fun e w'=>e = .returned (.bool false)∧w = w':=by
 go_enter func87,ntmps87
 go_wp2_with fail
 refine (idxF_nil a c _ _).mono ?_;rintro e w1 ⟨rfl,rfl⟩;go_wp2_with fail
 go_ret;exact ⟨rfl,rfl⟩
theorem contF_any (p:F2→Bool) (g:Nat) (lb:Array Value) (eg:∀ args w,(callFunc g args).run prog w = .ok (.enter g args) w) (S:Nat→Prop) (v:Value) (L:List F2) (w:World) (h:Vec w S 2 encF v L) (hn:L.length≤1000000) (hp:PredBelow prog g lb (fun x=>.agg (encF x).toArray) p w) :
  Calls prog 87 #[v,.func (.func g) #[] lb] w fun e w'=>e = .returned (.bool (L.any p))∧Below w.heap.size w w':=by
 obtain ⟨a,cap,rfl,hcap,h0⟩:=h;by_cases hz:L = []
 ·subst hz
  exact (contF_nil a cap _ w).mono fun e w' ⟨he,hw⟩=>⟨he,by rw [← hw]; exact Below.refl _ _⟩
 ·obtain ⟨b,off,rfl,_,hb,hc⟩:=h0 (List.length_pos_iff.2 hz)
  have hcon:=AnyQ.slices_ContainsFunc Tryz.laysCF 2 Tryz.isAgg85 Tryz.sizeOf85 encF (fun _=>rfl) p g lb eg b off L.length cap L w hp xnl (by omega) hb (fun j hj i u hi=>by
    have e:L[j]? = some L[j]!:=by rw [List.getElem?_eq_getElem hj,getElem!_pos L j hj]
    exact hc j _ e i u hi)
  rw [List.take_of_length_le xnl] at hcon;exact hcon
def zb9 (F:List F2) (j:Nat):Bool:=wordB (F.getD j default).1 && !((F.take j).any fun x=>x.1 == (F.getD j default).1) && decide (1≤(F.getD j default).2) && decide ((F.getD j default).2≤4)
def zfs (F:List F2):Bool:=(List.range F.length).all (zb9 F)
def zax (s:SchemaL):Int:=if s.fields.length < 1∨5 < s.fields.length then 6 else if zfs s.fields = true then zay s.rules else 6
theorem zgf (S:Nat→Prop) (vf vt vn vs:Value) (s:SchemaL) (w:World) (h:SchemaAt w S vf vt vn vs s) :
  Calls prog 62 #[.agg #[vf,vt,vn,vs]] w fun e w'=>e = .returned (.int .i64 (zax s))∧Below w.heap.size w w':=by
 obtain ⟨F,r⟩:=s;obtain ⟨h1,h2⟩:=h;dsimp only at h1 h2;obtain ⟨af,cf,rfl⟩:=h1.slice;have H1:=zjp h1.any; have H2:=zjp h2.any;clear h1 h2;have hfin:∀ n:Int,zax ⟨F,r⟩ = n→Ending.returned (.int .i64 n) = .returned (.int .i64 (zax ⟨F,r⟩)):=fun n h=>by rw [h]
 have HF:=zjp hfin; clear hfin;by_cases g1:F.length < 1
 ·have d1:decide ((F.length:Int) < 1) = true:=by simp; omega
  go_enter func62,ntmps62
  go_wp2_with fail
  go_ret;exact ⟨HF.out 6 (by unfold zax; rw [if_pos (.inl g1)]),(Below.refl _ _).alloc xnl _⟩
 ·have d1:decide ((F.length:Int) < 1) = false:=by simp; omega
  by_cases g2:5 < F.length
  ·have d2:decide ((5:Int) < F.length) = true:=by simp; omega
   go_enter func62,ntmps62
   go_wp2_with fail
   go_ret;exact ⟨HF.out 6 (by unfold zax; rw [if_pos (.inr g2)]),(Below.refl _ _).alloc xnl _⟩
  ·have d2:decide ((5:Int) < F.length) = false:=by simp; omega
   have HN:=zjp (show ¬ (F.length < 1∨5 < F.length) by omega);obtain ⟨b,off,rfl,_,hb,hc⟩:=zck H1.out (by omega);have HC:=zjp hc; clear hc;go_enter func62,ntmps62
   go_wp2_with fail
   clear d1 d2;go_loopw [19] (fun i wr=>∃ k:Nat,k≤F.length∧i = .int .i64 k∧wr.heap[w.heap.size]? = some (.cells #[.slice (some ⟨b,off,none⟩) F.length cf,vt,vn,vs] 33 (0,0))∧Below w.heap.size w wr∧∀ j,j < k→zb9 F j = true) (fun i _=>F.length - (intOf i).toNat)
   case atStart=>exact ⟨0,by omega,rfl,zac rfl,(Below.refl _ _).alloc xnl _,fun j hj=>by omega⟩
   case round =>
    obtain ⟨k,hk,rfl,hX,hbw,ha⟩:=hrel;have HA:=zjp ha; clear ha;obtain ⟨p0,p1,p2,p3⟩:=zbq hX;have zX:=zaa hX;have HX:=zjp hX; clear hX;have HW:=zjp hbw;by_cases hlt:k < F.length
    ·have hq:decide ((k:Int) < F.length) = true:=by simp; omega
     have hi:(k:Int) < (F.length:Int):=by omega
     have hcap:=H1.out.len.2;obtain ⟨x,hx⟩:∃ x,F.getD k default = x:=⟨_,rfl⟩;have hc:=HC.out k hlt;rw [hx] at hc;have c0:wr.cell? ⟨b,off + k * 2,none⟩ = some (zal x.1):=(hbw.cell (p:=⟨b,off + k * 2,none⟩) hb).trans (hc 0 _ rfl);have c1:wr.cell? ⟨b,off + k * 2 + 1,none⟩ = some (.int .i64 x.2):=(hbw.cell (p:=⟨b,off + k * 2 + 1,none⟩) hb).trans (hc 1 _ rfl);have hfa:zb9 F k = (wordB x.1 && !((F.take k).any fun y=>y.1 == x.1) && decide (1≤x.2) && decide (x.2≤4)):=by simp only [zb9]; rw [hx]
     have HFa:=zjp hfa;obtain ⟨nm,kd⟩:=x;dsimp only at c0 c1 HFa;clear hx hc hbw hfa;go_wp2_with fail
     have eg:∀ args w,(callFunc 88 args).run prog w = .ok (.enter 88 args) w:=enters_of func88 (by kernel_rfl) rfl
     refine (contF_any (fun y=>y.1 == nm) 88 #[.pointer (some ⟨wr.heap.size,0,none⟩)] eg zav _ (F.take k) _ ((H1.out.take k (by omega)).below (HW.out.alloc HW.out.size _)) (by have:=List.length_take_le k F; omega) (pred_field nm wr.heap.size _ (by simp) (by simp))).mono ?_
     obtain ⟨u,hu⟩:∃ u,(F.take k).any (fun y=>y.1 == nm) = u:=⟨_,rfl⟩
     rw [hu] at HFa ⊢;clear eg hu;rintro e w2 ⟨rfl,hb2⟩;have hX2:w2.heap[w.heap.size]? = some (.cells #[.slice (some ⟨b,off,none⟩) F.length cf,vt,vn,vs] 33 (0,0)):=zab hb2 (by simp; omega) (zaf HX.out);have hY2:w2.heap[wr.heap.size]? = some (.cells #[zal nm,.int .i64 kd] 85 (0,0)):=zab hb2 (by simp) (zac rfl);have HW2:=zjp ((HW.out.alloc HW.out.size (.cells #[zal nm,.int .i64 kd] 85)).trans (hb2.mono (by have:=HW.out.size; simp; omega)));have q0:w2.cell? ⟨wr.heap.size,0,none⟩ = some (zal nm):=by rw [cell_of_row _ _ _ _ _ _ hY2]; rfl
     have q1:w2.cell? ⟨wr.heap.size,1,none⟩ = some (.int .i64 kd):=by rw [cell_of_row _ _ _ _ _ _ hY2]; rfl
     have zX2:=zaa hX2; have zY2:=zaa hY2;have HX2:=zjp hX2; have HY2:=zjp hY2;clear hb2 hX2 hY2 p0 p1 p2 p3 HX HW c0 c1;go_wp2_with fail
     refine (word_is nm _).mono ?_;obtain ⟨wb,hwb⟩:∃ wb,wordB nm = wb:=⟨_,rfl⟩;rw [hwb] at HFa ⊢;clear hwb;rintro e w3 ⟨rfl,hb3⟩;have q0:w3.cell? ⟨wr.heap.size,0,none⟩ = some (zal nm):=(hb3.cell (p:=⟨wr.heap.size,0,none⟩) zY2).trans q0;have q1:w3.cell? ⟨wr.heap.size,1,none⟩ = some (.int .i64 kd):=(hb3.cell (p:=⟨wr.heap.size,1,none⟩) zY2).trans q1;have HX3:=zjp (zab hb3 zX2 HX2.out);have HW3:=zjp (HW2.out.trans (hb3.mono HW2.out.size));clear hb3 HX2 HW2 HY2;cases wb
     ·have HFa:=zjp (show zb9 F k = false by rw [HFa.out]; rfl)
      go_wp2_with fail
      go_ret;exact ⟨HF.out 6 (by unfold zax; rw [if_neg HN.out,if_neg (by rw [zfs,zb7 hlt HFa.out]; simp)]),HW3.out⟩
     ·cases u
      ·by_cases k1:1≤kd
       ·by_cases k4:kd≤4
        ·have HFa:=zjp (show zb9 F k = true by rw [HFa.out]; simp [k1,k4])
         go_wp2_with fail
         go_roundw
         case rel=>exact ⟨k + 1,by omega,by go_num,HX3.out,HW3.out,fun j hj=>by
          by_cases e:j = k
          ·subst e; exact HFa.out
          ·exact HA.out j (by omega)⟩
         case measure=>simp [intOf]; omega
        ·have HFa:=zjp (show zb9 F k = false by rw [HFa.out]; simp [k4])
         have k5:4 < kd:=by omega
         go_wp2_with fail
         go_ret;exact ⟨HF.out 6 (by unfold zax; rw [if_neg HN.out,if_neg (by rw [zfs,zb7 hlt HFa.out]; simp)]),HW3.out⟩
       ·have HFa:=zjp (show zb9 F k = false by rw [HFa.out]; simp [k1])
        have k5:kd < 1:=by omega
        go_wp2_with fail
        go_ret;exact ⟨HF.out 6 (by unfold zax; rw [if_neg HN.out,if_neg (by rw [zfs,zb7 hlt HFa.out]; simp)]),HW3.out⟩
      ·have HFa:=zjp (show zb9 F k = false by rw [HFa.out]; simp)
       go_wp2_with fail
       go_ret;exact ⟨HF.out 6 (by unfold zax; rw [if_neg HN.out,if_neg (by rw [zfs,zb7 hlt HFa.out]; simp)]),HW3.out⟩
    ·have hq:decide ((k:Int) < F.length) = false:=by simp; omega
     clear hbw;go_wp2_with fail
     refine (zet zav vt vn vs r _ (H2.out.below HW.out)).mono ?_;obtain ⟨c,hc⟩:∃ c,zay r = c:=⟨_,rfl⟩;rw [hc];have HCc:=zjp hc; clear hc;rintro e w3 ⟨rfl,hb3⟩;have HW3:=zjp (HW.out.trans (hb3.mono HW.out.size));clear hb3;go_wp2_with fail
     go_ret;exact ⟨HF.out c (by unfold zax; rw [if_neg HN.out,if_pos (by rw [zfs]; exact zjn fun j hj=>HA.out j (by have hj':j < F.length:=hj; omega))]; exact HCc.out),HW3.out⟩
end
section
open Go.RowKit Cal
attribute [local go_sem] zag zaj
def zbp (k:Int):Array Value:=if k = 1 then kind1 else if k = 2 then kind2 else if k = 3 then kind3 else if k = 4 then kind4 else ze8
def zbm (s:SchemaL) (f:Int):Int × Int:=if zax s = 0 then (if 0≤f∧f < s.fields.length then ((s.fields.getD f.toNat default).2,0) else (0,2)) else (0,zax s)
def findV (p:Int × Int):Value:=.tuple #[.agg (zbp p.1),.int .i64 p.2]
theorem zcl {s:SchemaL} (h:zax s = 0):(1≤s.fields.length∧s.fields.length≤5)∧zfs s.fields = true∧zay s.rules = 0:=by
 unfold zax at h;split at h
 ·omega
 ·split at h
  ·rename_i h1 h2; exact ⟨by omega,h2,h⟩
  ·omega
theorem field_kind {F:List F2} (h:zfs F = true) (j:Nat) (hj:j < F.length):1≤(F.getD j default).2∧(F.getD j default).2≤4:=by
 have:=List.all_eq_true.1 h j (List.mem_range.2 hj);unfold zb9 at this;simp only [Bool.and_eq_true,decide_eq_true_iff] at this;exact ⟨this.1.2,this.2⟩
theorem zii {w:World} {g:Nat} {old cs:Array Value} {t:TypeId} {fr:Nat × Nat} (h:w.heap[g]? = some (.cells old t fr)):(w.setRow g cs).heap[g]? = some (.cells cs t fr):=by
 have hlt:=zaa h;have h':w.heap[g] = .cells old t fr:=by simpa [Array.getElem?_eq_getElem hlt] using h
 show (w.heap.modify g _)[g]? = _;rw [Array.getElem?_eq_getElem (by simpa using hlt),Array.getElem_modify_self,h']
theorem zhl {B g:Nat} {a w:World} {cs:Array Value} (h:Below B a w) (hg:B≤g):Below B a (w.setRow g cs):=by
 refine ⟨h.os,h.tape,h.output,by simpa [World.setRow] using h.size,fun k hk=>?_⟩
 show (w.heap.modify g _)[k]? = _;rw [Array.getElem?_modify,if_neg (by omega)];exact h.block k hk
theorem find_bad (S:Nat→Prop) (vf vt vn vs:Value) (s:SchemaL) (f:Int) (w:World) (h:SchemaAt w S vf vt vn vs s) (hc:zax s≠0) :
  Calls prog 137 #[.agg #[vf,vt,vn,vs],.int .i64 f] w fun e w'=>e = .returned (findV (zbm s f))∧Below w.heap.size w w':=by
 have HS:=zjp h.any;have HF:=zjp (show zbm s f = (0,zax s) by unfold zbm; rw [if_neg hc]);have hne:(zax s != 0) = true:=by simpa using hc
 clear h hc;go_enter func137,ntmps137
 go_wp2_with fail
 refine (zgf zav vf vt vn vs s _ (HS.out.below (((Below.refl _ _).alloc xnl _).alloc (by simp) _))).mono ?_;obtain ⟨c,hcc⟩:∃ c,zax s = c:=⟨_,rfl⟩;rw [hcc] at hne HF ⊢;clear hcc;rintro e w1 ⟨rfl,hb1⟩;have X1:w1.heap[w.heap.size + 1]? = some (.cells ze8 188 (0,0)):=zab hb1 (by simp) (heap_alloc2_new _ _ _);have HB1:=zjp ((((Below.refl w.heap.size w).alloc xnl (.cells #[vf,vt,vn,vs] 33)).alloc (by simp) (.cells ze8 188)).trans (hb1.mono (by simp; omega)));have HX1:=zjp X1;have z1:=zaa X1;clear hb1 X1;go_wp2_with (refine wpList_store_row rfl 188 (.tmp 4) (.tmp 11) rfl (w.heap.size + 1) ze8 rfl rfl 188 ze8 HX1.out (by kernel_rfl) (by kernel_rfl) (by kernel_rfl) ?_)
 exact zah rfl rfl (zii HX1.out) underlying188 rfl (by kernel_rfl) ⟨by rw [HF.out]; rfl,zhl HB1.out (by omega)⟩
theorem find_out (S:Nat→Prop) (vf vt vn vs:Value) (s:SchemaL) (f:Int) (w:World) (h:SchemaAt w S vf vt vn vs s) (hc:zax s = 0) (hf:f < 0∨(s.fields.length:Int)≤f) :
  Calls prog 137 #[.agg #[vf,vt,vn,vs],.int .i64 f] w fun e w'=>e = .returned (findV (zbm s f))∧Below w.heap.size w w':=by
 obtain ⟨af,cf,rfl⟩:=h.1.slice;have HS:=zjp h.any;have HF:=zjp (show zbm s f = (0,2) by unfold zbm; rw [if_pos hc,if_neg (by omega)]);have HC:=zjp hc;clear h hc;have hf':f < 0∨(0≤f∧(s.fields.length:Int)≤f):=by omega
 clear hf
 rcases hf' with hf | ⟨hf0,hf⟩
 all_goals
  go_enter func137,ntmps137
  go_wp2_with fail
  refine (zgf zav _ vt vn vs s _ (HS.out.below (((Below.refl _ _).alloc xnl _).alloc (by simp) _))).mono ?_;rw [HC.out];rintro e w1 ⟨rfl,hb1⟩;have X0:w1.heap[w.heap.size]? = some (.cells #[.slice af s.fields.length cf,vt,vn,vs] 33 (0,0)):=zab hb1 (by simp; omega) (heap_alloc2_old _ _ _);have X1:w1.heap[w.heap.size + 1]? = some (.cells ze8 188 (0,0)):=zab hb1 (by simp) (heap_alloc2_new _ _ _);have HB1:=zjp ((((Below.refl w.heap.size w).alloc xnl (.cells #[.slice af s.fields.length cf,vt,vn,vs] 33)).alloc (by simp) (.cells ze8 188)).trans (hb1.mono (by simp; omega)));have HX1:=zjp X1;have z1:=zaa X1; have z0:=zaa X0;obtain ⟨p0,p1,p2,p3⟩:=zbq X0;clear hb1 X1 X0;go_wp2_with (refine wpList_store_row rfl 188 (.tmp 4) (.tmp 22) rfl (w.heap.size + 1) ze8 rfl rfl 188 ze8 HX1.out (by kernel_rfl) (by kernel_rfl) (by kernel_rfl) ?_)
  exact zah rfl rfl (zii HX1.out) underlying188 rfl (by kernel_rfl) ⟨by rw [HF.out]; rfl,zhl HB1.out (by omega)⟩
theorem setRow_other {w:World} {g k:Nat} {cs:Array Value} (h:k≠g):(w.setRow g cs).heap[k]? = w.heap[k]?:=by
 show (w.heap.modify g _)[k]? = _;rw [Array.getElem?_modify,if_neg (fun e=>h e.symm)]
theorem index_kind (kd:Int) (h1:1≤kd) (h4:kd≤4):∀ w,(Instr.index 217 (.agg kindsV) (.int .i64 kd)).run prog w = .ok (.agg (zbp kd)) w:=by
 obtain rfl | rfl | rfl | rfl:kd = 1∨kd = 2∨kd = 3∨kd = 4:=by omega
 ·exact fun w=>by kernel_rfl
 ·exact fun w=>by kernel_rfl
 ·exact fun w=>by kernel_rfl
 ·exact fun w=>by kernel_rfl
theorem kindAt_one (kd:Int):(zbp kd).all (·.oneCell') = true∧(zbp kd).size = 4:=by
 unfold zbp;repeat' split
 all_goals exact ⟨by kernel_rfl,by kernel_rfl⟩
theorem find_in' (S:Nat→Prop) (vf vt vn vs:Value) (s:SchemaL) (f:Nat) (w:World) (h:SchemaAt w S vf vt vn vs s) (hc:zax s = 0) (hf:f < s.fields.length) :
  Calls prog 137 #[.agg #[vf,vt,vn,vs],.int .i64 f] w fun e w'=>e = .returned (findV (zbm s f))∧Below w.heap.size w w':=by
 obtain ⟨af,cf,rfl⟩:=h.1.slice;obtain ⟨⟨g1,g2⟩,g3,g4⟩:=zcl hc;obtain ⟨b,off,rfl,_,hb,hcc⟩:=zck h.1 (by omega);have hc1:=hcc f hf 1 _ rfl;obtain ⟨k1,k4⟩:=field_kind g3 f hf;have HF':=zjp (show zbm s f = ((s.fields.getD f default).2,0) by unfold zbm; rw [if_pos hc,if_pos (by omega)]; simp);obtain ⟨kd,hkd⟩:∃ kd,(s.fields.getD f default).2 = kd:=⟨_,rfl⟩;rw [hkd] at HF' hc1 k1 k4;have HF:=HF';have HS:=zjp h.any;have HC:=zjp hc;have hix:=index_kind kd k1 k4;obtain ⟨ko,ks⟩:=kindAt_one kd;have KO:=zjp ko; have KS:=zjp ks;have HIX:=zjp hix;have HC1:=zjp hc1;clear h hc g3 g4 hcc hkd HF' ko ks hix hc1;have hlt':(f:Int) < (s.fields.length:Int):=by omega
 go_enter func137,ntmps137
 go_wp2_with fail
 refine (zgf zav _ vt vn vs s _ (HS.out.below (((Below.refl _ _).alloc xnl _).alloc (by simp) _))).mono ?_;rw [HC.out];rintro e w1 ⟨rfl,hb1⟩;have X0:w1.heap[w.heap.size]? = some (.cells #[.slice (some ⟨b,off,none⟩) s.fields.length cf,vt,vn,vs] 33 (0,0)):=zab hb1 (by simp; omega) (heap_alloc2_old _ _ _);have X1:w1.heap[w.heap.size + 1]? = some (.cells ze8 188 (0,0)):=zab hb1 (by simp) (heap_alloc2_new _ _ _);have HB1:=zjp ((((Below.refl w.heap.size w).alloc xnl (.cells #[.slice (some ⟨b,off,none⟩) s.fields.length cf,vt,vn,vs] 33)).alloc (by simp) (.cells ze8 188)).trans (hb1.mono (by simp; omega)));have c1:w1.cell? ⟨b,off + f * 2 + 1,none⟩ = some (.int .i64 kd):=(HB1.out.cell (p:=⟨b,off + f * 2 + 1,none⟩) hb).trans HC1.out;have HX1:=zjp X1;have z1:=zaa X1; have z0:=zaa X0;have zb:b < w1.heap.size:=Nat.lt_of_lt_of_le hb HB1.out.size;obtain ⟨p0,p1,p2,p3⟩:=zbq X0;clear hb1 X1 X0;go_wp2_with fail
 refine wp_region_noPanic ?_
 refine wp_region_held_drew (S:=(fun w'=>w'.cell? ⟨w.heap.size,0,none⟩ = some (.slice (some ⟨b,off,none⟩) s.fields.length cf)∧w'.cell? ⟨b,off + f * 2 + 1,none⟩ = some (.int .i64 kd))) (by kernel_rfl) (⟨p0,c1⟩) (fun hHeld=>?_)
 refine tH 1 (h:=?_);refine tH 2 (h:=?_);refine tH 3 (h:=?_);refine tH 4 (h:=?_);refine tH 5 (h:=?_);refine tH 6 (h:=?_);refine wpAnyH_ready (rs:=[0]) (by kernel_rfl) (by simp) ?_
 refine AllReadyH.cons rfl (fun K hK=>?_) AllReadyH.nil
 go_simp;refine (kinds_any _).mono ?_; rintro e w2 ⟨rfl,hb2⟩; have p0a:=(hb2.cell (p:=⟨w.heap.size,0,none⟩) z0).trans p0; have c1a:=(hb2.cell (p:=⟨b,off + f * 2 + 1,none⟩) zb).trans c1; have HB2:=zjp (HB1.out.drew.trans (hb2.mono HB1.out.size)); have HX2:=zjp (zab hb2 z1 HX1.out)
 refine hK.out _ _ (⟨p0a,c1a⟩) (fun hHeld=>?_)
 clear hK K;have hix:=HIX.out;refine tH 7 (h:=?_);refine wpAnyH_ready (rs:=[8]) (by kernel_rfl) (by simp) ?_
 refine AllReadyH.cons rfl (fun K hK=>?_) AllReadyH.nil
 refine wp_store_row 188 (.tmp 4) (.tmp 30) rfl (w.heap.size + 1) (zbp kd) rfl rfl 188 ze8 HX2.out (by rw [KS.out]; kernel_rfl) (by rw [KS.out]; rfl) KO.out ?_;have p0b:(w2.setRow (w.heap.size + 1) (zbp kd)).cell? ⟨w.heap.size,0,none⟩ = some (.slice (some ⟨b,off,none⟩) s.fields.length cf):=(World.cell?_of_block (w:=w2) (a:=⟨w.heap.size,0,none⟩) (setRow_other (show w.heap.size≠w.heap.size + 1 by omega))).trans p0a;have c1b:(w2.setRow (w.heap.size + 1) (zbp kd)).cell? ⟨b,off + f * 2 + 1,none⟩ = some (.int .i64 kd):=(World.cell?_of_block (w:=w2) (a:=⟨b,off + f * 2 + 1,none⟩) (setRow_other (show b≠w.heap.size + 1 by omega))).trans c1a
 refine hK.out _ _ ⟨p0b,c1b⟩ (fun hHeld=>?_)
 clear hK K;refine tH 9 (h:=?_);refine wpAnyH_done (by kernel_rfl) ?_ _;refine NoPanic.normal ?_;go_wp2_with fail
 exact zah rfl rfl (zii HX2.out) underlying188 rfl (by rw [KS.out]; kernel_rfl) ⟨by rw [HF.out]; rfl,zhl HB2.out (by omega)⟩
theorem find_s (S:Nat→Prop) (vf vt vn vs:Value) (s:SchemaL) (f:Int) (w:World) (h:SchemaAt w S vf vt vn vs s) :
  Calls prog 137 #[.agg #[vf,vt,vn,vs],.int .i64 f] w fun e w'=>e = .returned (findV (zbm s f))∧Below w.heap.size w w':=by
 by_cases hc:zax s = 0
 ·by_cases hf:0≤f∧f < s.fields.length
  ·obtain ⟨n,rfl⟩:=Int.eq_ofNat_of_zero_le hf.1
   exact find_in' S vf vt vn vs s n w h hc (by omega)
  ·exact find_out S vf vt vn vs s f w h hc (by omega)
 ·exact find_bad S vf vt vn vs s f w h hc
end
section
open Go.RowKit Cal
attribute [local go_sem] zag zaj
def normK (k:Int) (r:RulesL) (l:List UInt8):List UInt8 × Int:=if k = 1 then zc9 r l else if k = 2 then dayN l else if k = 3 then zd1 l else zda r l
def zco (s:SchemaL) (f:Int) (l:List UInt8):List UInt8 × Int:=if (zbm s f).2 = 0 then (if l = [] then ([],0) else normK (zbm s f).1 s.rules l) else ([],(zbm s f).2)
def ownK (k:Int) (r:RulesL) (l:List UInt8):Bool:=if k = 1 then zel (zc9 r l) l else if k = 2 then readB l else if k = 3 then zel (zd1 l) l else zel (zda r l) l
def zaq (s:SchemaL) (f:Int) (l:List UInt8):Bool:=if (zbm s f).2 = 0 then (if l = [] then true else ownK (zbm s f).1 s.rules l) else false
theorem zed {s:SchemaL} {f:Int} (h:(zbm s f).2 = 0):(zbm s f).1 = 1∨(zbm s f).1 = 2∨(zbm s f).1 = 3∨(zbm s f).1 = 4:=by
 by_cases hc:zax s = 0
 ·unfold zbm at h ⊢
  rw [if_pos hc] at h ⊢;by_cases hf:0≤f∧f < s.fields.length
  ·rw [if_pos hf]
   have:=field_kind (zcl hc).2.1 f.toNat (by omega);dsimp only;omega
  ·rw [if_neg hf] at h
   simp at h
 ·unfold zbm at h
  rw [if_neg hc] at h;exact absurd h hc
end
section
open Go.RowKit Cal
attribute [local go_sem] zag zaj
theorem zgv (S:Nat→Prop) (vf vt vn vs:Value) (s:SchemaL) (f:Int) (x:ByteArray) (w:World) (h:SchemaAt w S vf vt vn vs s) (hx:x.size≤9223372036854775000) :
  Calls prog 93 #[.agg #[vf,vt,vn,vs],.int .i64 f,.string x] w fun e w'=>e = .returned (.bool (zaq s f x.data.toList))∧Below w.heap.size w w':=by
 have HS:=zjp h.any;have HL:=zjp (Lib.toList_data x);have hfin:∀ p,zaq s f x.data.toList = p→Ending.returned (.bool p) = .returned (.bool (zaq s f x.data.toList)):=fun p h=>by rw [h]
 have HF:=zjp hfin;clear h hfin;have K:=find_s zav vf vt vn vs s f (w.alloc (.cells #[vf,vt,vn,vs] 33)) (HS.out.below ((Below.refl _ _).alloc xnl _));have hkk:=zed (s:=s) (f:=f);have hval:zaq s f x.data.toList = if (zbm s f).2 = 0 then (if x.data.toList = [] then true else ownK (zbm s f).1 s.rules x.data.toList) else false:=rfl
 obtain ⟨⟨kd,er⟩,hp⟩:∃ p,zbm s f = p:=⟨_,rfl⟩;rw [hp] at K hkk hval;dsimp only at hkk hval;change Calls _ _ _ _ fun e w'=>e = .returned (.tuple #[.agg (zbp kd),.int .i64 er])∧_ at K
 have HK:=zjp K;have HVal:=zjp hval;obtain ⟨ko,ks⟩:=kindAt_one kd;have KO:=zjp ko; have KS:=zjp ks;clear K hp hval ko ks;by_cases he:er = 0
 ·subst he
  have hkd:=hkk rfl;clear hkk;by_cases hx0:x.data.toList = []
  ·have e1:x.toList = []:=by rw [HL.out,hx0]
   have HE:=zjp (show zaq s f x.data.toList = true by rw [HVal.out,if_pos rfl,if_pos hx0]);clear hx0 hkd;go_enter func93,ntmps93
   go_wp2_with fail
   refine HK.out.mono ?_;rintro e w1 ⟨rfl,hb1⟩;have HB1:=zjp (xbt hb1);have HX1:=zjp (xbn hb1);clear hb1 HK;go_wp2_with (refine wpList_store_row rfl 188 (.tmp 7) (.tmp 13) rfl w1.heap.size (zbp kd) rfl rfl 188 ze8 (heap_alloc_new w1 _) (by rw [KS.out]; kernel_rfl) (by rw [KS.out]; rfl) KO.out ?_; rw [World.setRow_alloc_new])
   go_ret;exact ⟨HF.out _ HE.out,HB1.out.alloc HB1.out.size _⟩
  ·have e1:(x.toList == []) = false:=by rw [HL.out]; simpa using hx0
   have e2:x.toList.isEmpty = false:=by rw [HL.out]; simpa using hx0
   have HE:=zjp (show zaq s f x.data.toList = ownK kd s.rules x.data.toList by rw [HVal.out,if_pos rfl,if_neg hx0]);clear hx0
   rcases hkd with rfl | rfl | rfl | rfl
   ·have HE2:=zjp (show zaq s f x.data.toList = zel (zc9 s.rules x.data.toList) x.data.toList from HE.out)
    go_enter func93,ntmps93
    go_wp2_with fail
    refine HK.out.mono ?_;rintro e w1 ⟨rfl,hb1⟩;have HB1:=zjp (xbt hb1);have HX1:=zjp (xbn hb1);clear hb1 HK;have cf:(w1.alloc (.cells (zbp 1) 188)).cell? ⟨w1.heap.size,2,none⟩ = some (fnV 206):=by rw [cell_of_row _ _ _ _ _ _ (heap_alloc_new w1 _)]; rfl
    have z0:=zaa HX1.out;obtain ⟨p0,p1,p2,p3⟩:=zbq HX1.out;go_wp2_with (refine wpList_store_row rfl 188 (.tmp 7) (.tmp 13) rfl w1.heap.size (zbp 1) rfl rfl 188 ze8 (heap_alloc_new w1 _) (by rw [KS.out]; kernel_rfl) (by rw [KS.out]; rfl) KO.out ?_; rw [World.setRow_alloc_new])
    have HB2:=HB1.out.alloc HB1.out.size (.cells (zbp 1) 188);have HB2':=zjp HB2;refine (normal_any zav vt vn vs s.rules x _ (HS.out.2.below HB2) hx).mono ?_;clear HB2;rw [← HE2.out];obtain ⟨pb,hpp⟩:∃ p,zaq s f x.data.toList = p:=⟨_,rfl⟩;rw [hpp];have HPP:=zjp hpp;rintro e w3 ⟨rfl,hb3⟩;have HB3:=zjp (HB2'.out.trans (hb3.mono HB2'.out.size));clear hb3 hpp HE HE2 cf p0 p1 p2 p3;go_wp2_with fail
    go_ret;exact ⟨HF.out _ HPP.out,HB3.out⟩
   ·have HE2:=zjp (show zaq s f x.data.toList = readB x.data.toList from HE.out)
    go_enter func93,ntmps93
    go_wp2_with fail
    refine HK.out.mono ?_;rintro e w1 ⟨rfl,hb1⟩;have HB1:=zjp (xbt hb1);have HX1:=zjp (xbn hb1);clear hb1 HK;have cf:(w1.alloc (.cells (zbp 2) 188)).cell? ⟨w1.heap.size,2,none⟩ = some (fnV 209):=by rw [cell_of_row _ _ _ _ _ _ (heap_alloc_new w1 _)]; rfl
    have z0:=zaa HX1.out;obtain ⟨p0,p1,p2,p3⟩:=zbq HX1.out;go_wp2_with (refine wpList_store_row rfl 188 (.tmp 7) (.tmp 13) rfl w1.heap.size (zbp 2) rfl rfl 188 ze8 (heap_alloc_new w1 _) (by rw [KS.out]; kernel_rfl) (by rw [KS.out]; rfl) KO.out ?_; rw [World.setRow_alloc_new])
    have HB2:=HB1.out.alloc HB1.out.size (.cells (zbp 2) 188);have HB2':=zjp HB2;refine (kind1_any vt vn vs x _).mono ?_;clear HB2;rw [← HE2.out];obtain ⟨pb,hpp⟩:∃ p,zaq s f x.data.toList = p:=⟨_,rfl⟩;rw [hpp];have HPP:=zjp hpp;rintro e w3 ⟨rfl,hb3⟩;have HB3:=zjp (HB2'.out.trans (hb3.mono HB2'.out.size));clear hb3 hpp HE HE2 cf p0 p1 p2 p3;go_wp2_with fail
    go_ret;exact ⟨HF.out _ HPP.out,HB3.out⟩
   ·have HE2:=zjp (show zaq s f x.data.toList = zel (zd1 x.data.toList) x.data.toList from HE.out)
    go_enter func93,ntmps93
    go_wp2_with fail
    refine HK.out.mono ?_;rintro e w1 ⟨rfl,hb1⟩;have HB1:=zjp (xbt hb1);have HX1:=zjp (xbn hb1);clear hb1 HK;have cf:(w1.alloc (.cells (zbp 3) 188)).cell? ⟨w1.heap.size,2,none⟩ = some (fnV 214):=by rw [cell_of_row _ _ _ _ _ _ (heap_alloc_new w1 _)]; rfl
    have z0:=zaa HX1.out;obtain ⟨p0,p1,p2,p3⟩:=zbq HX1.out;go_wp2_with (refine wpList_store_row rfl 188 (.tmp 7) (.tmp 13) rfl w1.heap.size (zbp 3) rfl rfl 188 ze8 (heap_alloc_new w1 _) (by rw [KS.out]; kernel_rfl) (by rw [KS.out]; rfl) KO.out ?_; rw [World.setRow_alloc_new])
    have HB2:=HB1.out.alloc HB1.out.size (.cells (zbp 3) 188);have HB2':=zjp HB2;refine (kind3_any vt vn vs x _ hx).mono ?_;clear HB2;rw [← HE2.out];obtain ⟨pb,hpp⟩:∃ p,zaq s f x.data.toList = p:=⟨_,rfl⟩;rw [hpp];have HPP:=zjp hpp;rintro e w3 ⟨rfl,hb3⟩;have HB3:=zjp (HB2'.out.trans (hb3.mono HB2'.out.size));clear hb3 hpp HE HE2 cf p0 p1 p2 p3;go_wp2_with fail
    go_ret;exact ⟨HF.out _ HPP.out,HB3.out⟩
   ·have HE2:=zjp (show zaq s f x.data.toList = zel (zda s.rules x.data.toList) x.data.toList from HE.out)
    go_enter func93,ntmps93
    go_wp2_with fail
    refine HK.out.mono ?_;rintro e w1 ⟨rfl,hb1⟩;have HB1:=zjp (xbt hb1);have HX1:=zjp (xbn hb1);clear hb1 HK;have cf:(w1.alloc (.cells (zbp 4) 188)).cell? ⟨w1.heap.size,2,none⟩ = some (fnV 218):=by rw [cell_of_row _ _ _ _ _ _ (heap_alloc_new w1 _)]; rfl
    have z0:=zaa HX1.out;obtain ⟨p0,p1,p2,p3⟩:=zbq HX1.out;go_wp2_with (refine wpList_store_row rfl 188 (.tmp 7) (.tmp 13) rfl w1.heap.size (zbp 4) rfl rfl 188 ze8 (heap_alloc_new w1 _) (by rw [KS.out]; kernel_rfl) (by rw [KS.out]; rfl) KO.out ?_; rw [World.setRow_alloc_new])
    have HB2:=HB1.out.alloc HB1.out.size (.cells (zbp 4) 188);have HB2':=zjp HB2;refine (anormal_any zav vt vn vs s.rules x _ (HS.out.2.below HB2) hx).mono ?_;clear HB2;rw [← HE2.out];obtain ⟨pb,hpp⟩:∃ p,zaq s f x.data.toList = p:=⟨_,rfl⟩;rw [hpp];have HPP:=zjp hpp;rintro e w3 ⟨rfl,hb3⟩;have HB3:=zjp (HB2'.out.trans (hb3.mono HB2'.out.size));clear hb3 hpp HE HE2 cf p0 p1 p2 p3;go_wp2_with fail
    go_ret;exact ⟨HF.out _ HPP.out,HB3.out⟩
 ·have hne:(er == 0) = false:=by simpa using he
  have HE:=zjp (show zaq s f x.data.toList = false by rw [HVal.out,if_neg he]);clear he hkk;go_enter func93,ntmps93
  go_wp2_with fail
  refine HK.out.mono ?_;rintro e w1 ⟨rfl,hb1⟩;have HB1:=zjp (xbt hb1);have HX1:=zjp (xbn hb1);clear hb1 HK;go_wp2_with (refine wpList_store_row rfl 188 (.tmp 7) (.tmp 13) rfl w1.heap.size (zbp kd) rfl rfl 188 ze8 (heap_alloc_new w1 _) (by rw [KS.out]; kernel_rfl) (by rw [KS.out]; rfl) KO.out ?_; rw [World.setRow_alloc_new])
  go_ret;exact ⟨HF.out _ HE.out,HB1.out.alloc HB1.out.size _⟩
end
section
open Go.RowKit Cal
attribute [local go_sem] zag zaj
def posL:Nat→List UInt8→List (List UInt8)
 | _,[]=>[]
 | j,c :: l=>[UInt8.ofNat (97 + j),c] :: posL (j + 1) l
theorem zi1 (l:List UInt8):∀ j,(posL j l).length = l.length:=by
 induction l with
 | nil=>intro j; rfl
 | cons c l ih=>intro j; simp [posL,ih]
theorem posL_snoc (l:List UInt8) (c:UInt8):∀ j,posL j (l ++ [c]) = posL j l ++ [[UInt8.ofNat (97 + (j + l.length)),c]]:=by
 induction l with
 | nil=>intro j; simp [posL]
 | cons d l ih=>intro j; simp only [List.cons_append,posL,ih,List.length_cons]; rw [show j + 1 + l.length = j + (l.length + 1) by omega]
theorem two_bytes (w:World) (a b:UInt8):(convert 175 9 (.slice (some ⟨w.heap.size,0,none⟩) 2 2)).run prog (w.alloc (.cells #[.int .u8 a.toNat,.int .u8 b.toNat] 5)) = .ok (zal [a,b]) (w.alloc (.cells #[.int .u8 a.toNat,.int .u8 b.toNat] 5)):=by
 have ho:(w.alloc (.cells (([a,b]:List UInt8).map zf2).toArray 5)).ownsRow 0 5 1 (.slice (some ⟨w.heap.size,0,none⟩) 2 2) 2 (([a,b]:List UInt8).map zf2) :=
  ⟨by simp,.inr ⟨_,_,_,rfl,Nat.zero_le _,zac rfl,Nat.le_refl _,zdc (by omega),by simp,by simp⟩⟩
 exact zca [a,b] ho underlying175 underlying5 underlying9
theorem zcj {P:Program} {w:World} {ops:Array Oper} {rest:List Oper} {o:Oper} {a:Act} {Q:Exit→Act→World→Prop} (hgd:o.guard = none) (s x:Operand) (t:TypeId)
  (ho:o.op = .call { callee:=.builtin .append,args:=#[s,x],argTypes:=#[t,t] })
  (base:Nat) (e:TypeId) (size bytes:Nat) (z:Value) (ht:P.underlying t = some (.slice e)) (hinfo:(P.info? e).map (fun i=>(i.zero,i.size,i.bytes)) = some (some z,size,bytes))
  (hzs:z.cells.size = size) (hsz:0 < size) (hby:bytes≤128)
  (v:Value) (n:Nat) (xs:List Value) (hs:a.eval s = v) (hown:w.ownsRow base e size v n xs) (k:Nat) (hk:k = w.heap.size)
  (cs:Array Value) (c:Nat) (hx:a.eval x = .slice (some ⟨k,0,none⟩) 1 c) (hcs:cs.size = size) (h1:∀ u∈cs.toList,u.oneCell' = true)
  (hn:n < 1099511627776) (hbase:base≤w.heap.size)
  (h:∀ v' w',w'.ownsRow base e size v' (n + 1) (xs ++ cs.toList)→(∀ W,Below base W w→Below base W w')→wpList P ops Q rest (a.put o.dst v') w') :
  wpList P ops Q (o :: rest) a (w.alloc (.cells cs e)):=by
 subst hk;exact za6 hgd s x t ho base e size bytes z ht hinfo hzs hsz hby v n xs hs hown cs c hx hcs h1 hn hbase h
theorem positional_any (s:ByteArray) (w:World) (hs:s.size≤26) :
  Calls prog 211 #[.string s] w fun e w'=>∃ v,e = .returned v∧OwnAt w v (posL 0 s.data.toList) w':=by
 have hl:s.data.toList.length = s.size:=by simp
 have HL:=zjp hl; clear hl;have d1:decide ((26:Int) < s.size) = false:=by simp; omega
 go_enter func211,ntmps211
 go_wp2_with fail
 clear d1;go_loopw [3,10] (fun v i wr=>∃ k:Nat,k≤s.size∧i = .int .i64 k∧OwnAt w v (posL 0 (s.data.toList.take k)) wr) (fun _ i _=>s.size - (intOf i).toNat)
 case atStart=>exact ⟨0,by omega,rfl,OwnAt.start w⟩
 case round =>
  obtain ⟨k,hk,rfl,ho⟩:=hrel;have HO:=zjp ho; clear ho;by_cases hlt:k < s.size
  ·have hq:decide ((k:Int) < s.size) = true:=by simp; omega
   have ht:=zes s k hlt;have hsn:=posL_snoc (s.data.toList.take k) s[k] 0;have htl:(s.data.toList.take k).length = k:=by rw [List.length_take,HL.out]; omega
   rw [htl,Nat.zero_add] at hsn;have HT:=zjp ht; have HSn:=zjp hsn;have hpl:(posL 0 (s.data.toList.take k)).length < 1099511627776:=by rw [zi1,htl]; omega
   have hbz:=HO.out.2.size;have ha:((UInt8.ofNat (97 + k)).toNat:Int) = 97 + (k:Int):=by rw [UInt8.toNat_ofNat']; omega
   have hcv:=two_bytes wr (UInt8.ofNat (97 + k)) s[k];rw [ha] at hcv;obtain ⟨z,hz⟩:∃ z,[UInt8.ofNat (97 + k),s[k]] = z:=⟨_,rfl⟩;rw [hz] at hcv;have HZ:=zjp hz;have hone:∀ u∈(#[zal z]:Array Value).toList,u.oneCell' = true:=by intro u hu; simp at hu; subst hu; rfl
   have HO2:=zjp (HO.out.below (w':=wr.alloc (.cells #[.int .u8 (97 + (k:Int)),.int .u8 s[k].toNat] 5)) ((Below.refl _ _).alloc xnl _));have HK1:=zjp (show wr.heap.size + 1 = (wr.alloc (.cells #[.int .u8 (97 + (k:Int)),.int .u8 s[k].toNat] 5)).heap.size by simp);clear ht hsn htl ha hz;go_wp2_with (at_builtin; refine zcj rfl _ _ 28 rfl w.heap.size 9 1 16 (.string ⟨#[]⟩) underlying28 zdv rfl (by decide) (by decide) _ _ _ rfl HO2.out.1 (wr.heap.size + 1) HK1.out #[zal z] 1 rfl rfl hone hpl HO2.out.2.size ?_; intro v2 w8 ho8 hw8)
   go_roundw
   case rel=>exact ⟨k + 1,by omega,by go_num,by rw [HT.out,HSn.out]; exact ⟨by rw [List.length_append,zdz,HZ.out]; exact ho8,hw8 _ HO2.out.2⟩⟩
   case measure=>simp [intOf]; omega
  ·have hq:decide ((k:Int) < s.size) = false:=by simp; omega
   rw [List.take_of_length_le (by rw [HL.out]; omega)] at HO;go_wp2_with fail
   go_ret;exact ⟨_,rfl,HO.out⟩
end
section
open Go.RowKit Cal
def okT (t:List UInt8):Prop:=t≠[]∧∀ b∈t,okB b = true∧b≠32
theorem toksA_run (t:List UInt8) (h:∀ b∈t,b≠32):∀ p r,zbu p (t ++ r) = zbu (p ++ t) r:=by
 induction t with
 | nil=>intro p r; simp
 | cons c t ih =>
  intro p r;rw [List.cons_append,zb4 _ _ _ (h c List.mem_cons_self),ih (fun b hb=>h b (List.mem_cons_of_mem _ hb)),List.append_assoc]
  rfl
theorem toks_join:∀ (L:List (List UInt8)),(∀ t∈L,okT t)→zcq (za0 L) = L:=by
 intro L;induction L with
 | nil=>intro _; rfl
 | cons t L ih =>
  intro h;obtain ⟨h1,h2⟩:=h t List.mem_cons_self;have hr:=ih fun x hx=>h x (List.mem_cons_of_mem _ hx)
  unfold zcq at hr ⊢;by_cases hL:L = []
  ·subst hL
   rw [show za0 [t] = t ++ [] by simp [za0],toksA_run t (fun b hb=>(h2 b hb).2),List.nil_append,ze3 _ h1]
  ·rw [zbj _ _ hL,List.append_assoc,toksA_run t (fun b hb=>(h2 b hb).2),List.nil_append,List.cons_append,List.nil_append,zb0 _ _ h1,hr]
theorem join_ok (L:List (List UInt8)) (h:∀ t∈L,okT t):∀ b∈za0 L,okB b = true:=by
 intro b hb
 rcases join_mem L b hb with h1 | ⟨t,ht,hbt⟩
 ·subst h1; rfl
 ·exact ((h t ht).2 b hbt).1
theorem ok_plain {b:UInt8} (h:okB b = true):zbo b = [b]:=by
 have hlt:=okB_lt h;unfold zbo;by_cases hu:isUp b = true
 ·exfalso
  unfold okB at h;simp only [Bool.or_eq_true,zdu,zew,decide_eq_true_iff,beq_iff_eq] at h;rw [up_iff,decide_eq_true_iff] at hu
  rcases h with (h | h) | h
  ·omega
  ·omega
  ·subst h; simp at hu
 ·rw [if_neg hu]
  unfold okB at h;simp only [Bool.or_eq_true,beq_iff_eq] at h
  rcases h with h | h
  ·rw [if_pos (by simpa using h)]
  ·subst h; rfl
theorem ok_pair {a b:UInt8} (h:okB a = true):zi9 a b = false:=by
 have hlt:=okB_lt h;rw [zhu]; simp; omega
theorem ok_byte {b:UInt8} (h:okB b = true):zff b = true:=by
 unfold okB at h;simp only [Bool.or_eq_true,zdu,zew,decide_eq_true_iff,beq_iff_eq] at h;rw [ok_iff,decide_eq_true_iff]
 rcases h with (h | h) | h
 ·omega
 ·omega
 ·subst h; decide
theorem raw_same (l:List UInt8) (h:∀ b∈l,okB b = true):rawL l = l∧zct l = true:=by
 induction l using rawL.induct with
 | case1=>exact ⟨rfl,rfl⟩
 | case2 a=>exact ⟨by simp only [rawL]; exact ok_plain (h a (by simp)),by simp only [zct]; exact ok_byte (h a (by simp))⟩
 | case3 a b r hp ih=>exfalso; rw [ok_pair (h a (by simp))] at hp; cases hp
 | case4 a b r hp ih =>
  have hp':=ok_pair (a:=a) (b:=b) (h a (by simp));have:=ih fun x hx=>h x (List.mem_cons_of_mem _ hx)
  refine ⟨?_,?_⟩
  ·rw [rawL,hp']; simp only [Bool.false_eq_true,if_false]; rw [this.1,ok_plain (h a (by simp))]; rfl
  ·rw [zct,hp']; simp only [Bool.false_eq_true,if_false]; rw [this.2,ok_byte (h a (by simp))]; rfl
theorem fold_same (L:List (List UInt8)) (h:∀ t∈L,okT t):zbv (za0 L) = za0 L∧zcq (zbv (za0 L)) = L:=by
 have h1:=(raw_same (za0 L) (join_ok L h)).1;have h2:=toks_join L h;have h3:zbv (za0 L) = za0 L:=by unfold zbv; rw [h1,h2]
 exact ⟨h3,by rw [h3,h2]⟩
theorem foldV_join (L:List (List UInt8)) (h:∀ t∈L,okT t) (hl:(za0 L).length≤64):zdd (za0 L) = true:=by
 unfold zdd;rw [(raw_same (za0 L) (join_ok L h)).2]; simpa using hl
theorem toksA_ne (l:List UInt8):∀ p,∀ t∈zbu p l,t≠[]:=by
 induction l with
 | nil =>
  intro p t ht;simp only [zbu] at ht;split at ht
  ·simp at ht
  ·simp at ht; subst ht; assumption
 | cons c l ih =>
  intro p t ht;by_cases hc:c = 32
  ·subst hc
   by_cases hp:p = []
   ·subst hp; rw [zbn] at ht; exact ih [] t ht
   ·rw [zb0 _ _ hp] at ht
    rcases List.mem_cons.1 ht with rfl | ht
    ·exact hp
    ·exact ih [] t ht
  ·rw [zb4 _ _ _ hc] at ht; exact ih _ t ht
theorem toks_ok (l:List UInt8):∀ t∈zcq (zbv l),okT t:=by
 intro t ht
 refine ⟨toksA_ne _ [] t ht,fun b hb=>?_⟩
 rcases toksA_mem _ [] t ht b hb with h | h
 ·simp at h
 ·exact ⟨fold_ok l b h.1,h.2⟩
end
section
open Go.RowKit Cal
theorem letters_low (t:List UInt8):∀ b∈za8 t,zf0 b = true:=fun b hb=>(List.mem_filter.1 hb).2
theorem low_same {t:List UInt8} (h:∀ b∈t,zf0 b = true):za8 t = t:=List.filter_eq_self.2 h
theorem low_okT {t:List UInt8} (h0:t≠[]) (h:∀ b∈t,zf0 b = true):okT t:=⟨h0,fun b hb=>⟨by simp [okB,h b hb],by
 intro e; subst e; have:=h 32 hb; rw [zdu] at this; simp at this⟩⟩
theorem token_low {t:List UInt8} (h:zb6 t = true):t≠[]∧∀ b∈t,zf0 b = true:=by
 unfold zb6 at h;cases h1:t.isEmpty
 ·simp only [h1,cond_false] at h
  cases h2:decide (t.length≤64)
  ·simp [h2] at h
  ·simp only [h2,cond_true,beq_iff_eq] at h
   exact ⟨by simpa using h1,fun b hb=>letters_low t b (by rw [h]; exact hb)⟩
 ·simp [h1] at h
theorem pair_facts {L:List P2} (h:zcd L = true) (j:Nat) (hj:j < L.length):zb6 (L.getD j default).1 = true∧zb6 (L.getD j default).2 = true∧zje L (L.getD j default).2 < 0:=by
 have:=pairs_at h j hj;unfold zdt at this;simp only [Bool.and_eq_true,decide_eq_true_iff] at this;exact ⟨this.1.1.1,this.1.1.2,this.2⟩
theorem canon_neg {L:List P2} {s:List UInt8} (h:zje L s < 0):zbd L s = s:=by
 rcases zgq L s with ⟨_,h2⟩ | ⟨k,_,h1,_⟩
 ·exact h2
 ·omega
theorem zik {L:List P2} (h:zcd L = true) (s:List UInt8):(zbd L s = s)∨(∃ k,k < L.length∧zbd L s = (L.getD k default).2∧zb6 (zbd L s) = true∧zbd L (zbd L s) = zbd L s):=by
 rcases zgq L s with ⟨_,h2⟩ | ⟨k,hk,h1,h3⟩
 ·exact .inl h2
 ·right
  obtain ⟨_,g2,g3⟩:=pair_facts h k hk;rw [h3] at g2 g3;exact ⟨k,hk,h3.symm,g2,canon_neg g3⟩
theorem normTok_same {r:RulesL} (hc:zay r = 0) {x t:List UInt8} (ht:t∈zcv r x):okT t∧zcv r t = [t]:=by
 obtain ⟨_,_,h2,_,h4⟩:=zex hc;unfold zcv at ht;by_cases hd:((za8 x).isEmpty || zhh r.titles (za8 x)) = true
 ·rw [if_pos hd] at ht; simp at ht
 ·rw [if_neg hd] at ht
  simp at ht;simp only [Bool.or_eq_true,not_or,Bool.not_eq_true] at hd;obtain ⟨hd1,hd2⟩:=hd
  have key:∀ y:List UInt8,y≠[]→(∀ b∈y,zf0 b = true)→zhh r.titles y = false→zbd r.nicks y = y→okT y∧zcv r y = [y]:=by
   intro y h0 h1 h3 h5;refine ⟨low_okT h0 h1,?_⟩;unfold zcv;rw [low_same h1,h3,h5,if_neg (by simpa using h0)]
  rcases zik h2 (za8 x) with hs | ⟨k,hk,e1,e2,e3⟩
  ·rw [hs] at ht
   subst ht;exact key _ (by simpa using hd1) (letters_low x) hd2 hs
  ·rw [← ht] at e1 e2 e3
   obtain ⟨g1,g2⟩:=token_low e2;refine key t g1 g2 ?_ e3;rw [e1];have:=List.any_eq_false.1 h4 (r.nicks.getD k default) (by rw [List.getD,List.getElem?_eq_getElem hk]; exact List.getElem_mem hk);simpa using this
theorem zi7 {r:RulesL} (hc:zay r = 0) (T:List (List UInt8)):(∀ t∈za9 r T,okT t)∧za9 r (za9 r T) = za9 r T:=by
 have h:∀ t∈za9 r T,okT t∧zcv r t = [t]:=by
  intro t ht;obtain ⟨x,_,hx⟩:=List.mem_flatMap.1 ht;exact normTok_same hc hx
 refine ⟨fun t ht=>(h t ht).1,?_⟩
 have:∀ L:List (List UInt8),(∀ t∈L,zcv r t = [t])→za9 r L = L:=by
  intro L;induction L with
  | nil=>intro _; rfl
  | cons t L ih =>
   intro hL;have:=ih fun x hx=>hL x (List.mem_cons_of_mem _ hx)
   unfold za9 at this ⊢;rw [List.flatMap_cons,this,hL t List.mem_cons_self]; rfl
 exact this _ fun t ht=>(h t ht).2
theorem nameN_same {r:RulesL} {l v:List UInt8} (h:zc9 r l = (v,0)):zc9 r v = (v,0):=by
 unfold zc9 at h;by_cases hc:zay r = 0
 ·rw [if_pos hc] at h
  by_cases hv:zdd l = true
  ·rw [if_pos hv] at h
   obtain ⟨h1,h2⟩:=zi7 hc (zcq (zbv l));generalize za9 r (zcq (zbv l)) = N at h h1 h2;by_cases hb:6 < N.length∨64 < (za0 N).length
   ·rw [if_pos hb] at h; simp at h
   ·rw [if_neg hb] at h
    obtain rfl:za0 N = v:=congrArg Prod.fst h;obtain ⟨f1,f2⟩:=fold_same N h1;unfold zc9;rw [if_pos hc,if_pos (foldV_join N h1 (by omega)),f2,h2,if_neg hb]
  ·rw [if_neg hv] at h; simp at h
 ·rw [if_neg hc] at h
  exact absurd (congrArg Prod.snd h) hc
theorem codeN_same {l v:List UInt8} (h:zd1 l = (v,0)):zd1 v = (v,0):=by
 unfold zd1 at h;by_cases hv:zdd l = true
 ·rw [if_pos hv] at h
  have hok:=toks_ok l;generalize zcq (zbv l) = T at h hok;by_cases hb:12 < T.flatten.length
  ·rw [if_pos hb] at h; simp at h
  ·rw [if_neg hb] at h
   obtain rfl:T.flatten = v:=congrArg Prod.fst h
   have hbytes:∀ b∈T.flatten,okB b = true∧b≠32:=by
    intro b hb';obtain ⟨t,ht,hbt⟩:=List.mem_flatten.1 hb';exact (hok t ht).2 b hbt
   by_cases h0:T.flatten = []
   ·rw [h0]; rfl
   ·have hL:∀ t∈[T.flatten],okT t:=by
     intro t ht; simp at ht; subst ht; exact ⟨h0,hbytes⟩
    obtain ⟨f1,f2⟩:=fold_same [T.flatten] hL;have f3:=foldV_join [T.flatten] hL (by simp [za0]; simp at hb; omega);rw [show za0 [T.flatten] = T.flatten from rfl] at f1 f2 f3;unfold zd1;rw [if_pos f3,f2];simp only [List.flatten_cons,List.flatten_nil,List.append_nil];rw [if_neg hb]
 ·rw [if_neg hv] at h; simp at h
end
section
open Go.RowKit Cal
theorem dropWhile_fix (l:List UInt8):(l.dropWhile (· == 48)).dropWhile (· == 48) = l.dropWhile (· == 48):=by
 induction l with
 | nil=>rfl
 | cons c l ih =>
  by_cases hc:(c == 48) = true
  ·rw [List.dropWhile_cons,if_pos hc,ih]
  ·rw [List.dropWhile_cons,if_neg hc,List.dropWhile_cons,if_neg hc]
theorem short_num (x:List UInt8):zc8 (zbk x) = true:=by
 unfold zbk;split
 ·assumption
 ·rfl
theorem short_same (x:List UInt8):zbk (zbk x) = zbk x:=by
 have hd:=dropWhile_fix x;generalize hr:x.dropWhile (· == 48) = r at hd;have e:zbk x = if zc8 r = true then r else 48 :: r:=by unfold zbk; rw [hr]
 by_cases hn:zc8 r = true
 ·rw [e,if_pos hn]; unfold zbk; rw [hd,if_pos hn]
 ·rw [e,if_neg hn]; unfold zbk
  rw [show (48 :: r).dropWhile (· == 48) = r.dropWhile (· == 48) from rfl,hd,if_neg hn]
theorem dropWhile_mem (l:List UInt8):∀ b∈l.dropWhile (· == 48),b∈l:=by
 induction l with
 | nil=>intro b hb; simp at hb
 | cons c l ih =>
  intro b hb;by_cases hc:(c == 48) = true
  ·rw [List.dropWhile_cons,if_pos hc] at hb; exact List.mem_cons_of_mem _ (ih b hb)
  ·rw [List.dropWhile_cons,if_neg hc] at hb; exact hb
theorem short_ok {x:List UInt8} (h:okT x):okT (zbk x):=by
 have h1:∀ b∈x.dropWhile (· == 48),okB b = true∧b≠32:=fun b hb=>h.2 b (dropWhile_mem x b hb)
 unfold zbk;split
 ·rename_i hn
  refine ⟨fun e=>?_,h1⟩
  rw [e] at hn; cases hn
 ·refine ⟨by simp,fun b hb=>?_⟩
  rcases List.mem_cons.1 hb with rfl | hb
  ·exact ⟨by decide,by decide⟩
  ·exact h1 b hb
theorem low_not_num {t:List UInt8} (h:∀ b∈t,zf0 b = true):zc8 t = false:=by
 cases t with
 | nil=>rfl
 | cons c t =>
  have:=h c List.mem_cons_self;rw [zdu,decide_eq_true_iff] at this;show isDgt c = false;rw [zew]; simp; omega
theorem addrTok_same {r:RulesL} (h:zcd r.streets = true) {x:List UInt8} (hx:okT x):okT (za1 r x)∧za1 r (za1 r x) = za1 r x:=by
 by_cases hn:zc8 x = true
 ·have e:za1 r x = zbk x:=by unfold za1; rw [if_pos hn]
  rw [e];refine ⟨short_ok hx,?_⟩;unfold za1;rw [if_pos (short_num x),short_same]
 ·have e:za1 r x = zbd r.streets x:=by unfold za1; rw [if_neg hn]
  rw [e]
  rcases zik h x with hs | ⟨k,hk,e1,e2,e3⟩
  ·rw [hs]; exact ⟨hx,by rw [e,hs]⟩
  ·obtain ⟨g1,g2⟩:=token_low e2
   refine ⟨low_okT g1 g2,?_⟩;unfold za1;rw [low_not_num g2,e3]; simp
theorem order2_same (T:List (List UInt8)):zb5 (zb5 T) = zb5 T:=by
 have hn:∀ L:List (List UInt8),L.filter (fun _=>false) = []:=fun L=>by induction L with
  | nil=>rfl
  | cons x L ih=>rw [List.filter_cons]; simp
 unfold zb5;simp [List.filter_append,List.filter_filter,hn]
theorem zi6 (T:List (List UInt8)):(zb5 T).length = T.length:=by
 induction T with
 | nil=>rfl
 | cons t T ih =>
  unfold zb5 at ih ⊢;cases h:zc8 t <;> simp [List.filter_cons,h] at ih ⊢ <;> omega
theorem map_same {f:List UInt8→List UInt8}:∀ (T:List (List UInt8)),(∀ t∈T,f t = t)→T.map f = T:=by
 intro T;induction T with
 | nil=>intro _; rfl
 | cons t T ih=>intro h; rw [List.map_cons,h t List.mem_cons_self,ih fun x hx=>h x (List.mem_cons_of_mem _ hx)]
theorem addrN_same {r:RulesL} {l v:List UInt8} (h:zda r l = (v,0)):zda r v = (v,0):=by
 unfold zda at h;by_cases hc:zay r = 0
 ·rw [if_pos hc] at h
  obtain ⟨_,_,_,h3,_⟩:=zex hc;by_cases hv:zdd l = true
  ·rw [if_pos hv] at h
   have hok:=toks_ok l;generalize zcq (zbv l) = T at h hok
   have hM:∀ t∈zb5 (T.map (za1 r)),okT t∧za1 r t = t:=by
    intro t ht;obtain ⟨x,hx,rfl⟩:=List.mem_map.1 (order2_mem ht);exact addrTok_same h3 (hok x hx)
   have hlen:(zb5 (T.map (za1 r))).length = T.length:=by rw [zi6,List.length_map]
   by_cases hb:6 < T.length∨64 < (za0 (zb5 (T.map (za1 r)))).length
   ·rw [if_pos hb] at h; simp at h
   ·rw [if_neg hb] at h
    have hs:=order2_same (T.map (za1 r));generalize zb5 (T.map (za1 r)) = M at h hM hlen hb hs;obtain rfl:za0 M = v:=congrArg Prod.fst h;have h1:∀ t∈M,okT t:=fun t ht=>(hM t ht).1
    obtain ⟨f1,f2⟩:=fold_same M h1;unfold zda;rw [if_pos hc,if_pos (foldV_join M h1 (by omega)),f2,map_same M fun t ht=>(hM t ht).2,hs,if_neg (by rw [hlen]; exact hb)]
  ·rw [if_neg hv] at h; simp at h
 ·rw [if_neg hc] at h
  exact absurd (congrArg Prod.snd h) hc
theorem numI_dg (n:Int) (k:Nat) (h0:0≤n) (h:n < 10 ^ k):zec (dg n k) = n:=by
 rw [numI_dig _ (dg_dig k n h0),dg_val k n h0 h]
theorem day_read {a b c:Int} (h:vldB a b c = true):readB (zdw a b c) = true:=by
 obtain ⟨b1,b2,b3,b4,b5,b6⟩:=vld_bd h
 have e1:(zdw a b c).take 4 = dg a 4:=by
  unfold zdw; rw [List.append_assoc,List.take_append_of_le_length (by rw [zeq]; omega),List.take_of_length_le (by rw [zeq]; omega)]
 have e2:((zdw a b c).drop 4).take 2 = dg b 2:=by
  unfold zdw; rw [List.append_assoc,List.drop_append_of_le_length (by rw [zeq]; omega),List.drop_eq_nil_of_le (by rw [zeq]; omega),List.nil_append,List.take_append_of_le_length (by rw [zeq]; omega),List.take_of_length_le (by rw [zeq]; omega)]
 have e3:((zdw a b c).drop 6).take 2 = dg c 2:=by
  unfold zdw; rw [List.drop_append_of_le_length (by simp [zeq]),List.drop_eq_nil_of_le (by simp [zeq]),List.nil_append,List.take_of_length_le (by rw [zeq]; omega)]
 unfold readB;rw [digits8_len,e1,e2,e3,numI_dg a 4 (by omega) (by omega),numI_dg b 2 (by omega) (by omega),numI_dg c 2 (by omega) (by omega),h];rfl
theorem dayN_read {l v:List UInt8} (h:dayN l = (v,0)):readB v = true:=by
 rcases parse_is ⟨l.toArray⟩ with ⟨a,b,c,hv,_,hd⟩ | ⟨_,hd⟩
 ·rw [show (⟨l.toArray⟩:ByteArray).data.toList = l by simp,h] at hd
  obtain rfl:v = zdw a b c:=congrArg Prod.fst hd;exact day_read hv
 ·rw [show (⟨l.toArray⟩:ByteArray).data.toList = l by simp,h] at hd
  simp at hd
theorem own_of {p:List UInt8 × Int} {v:List UInt8} (h:p = (v,0)):zel p v = true:=by subst h; simp [zel]
theorem value_normal {s:SchemaL} {f:Int} {l v:List UInt8} (h:zco s f l = (v,0)):zaq s f v = true∧zaq s f [] = true∧((zbm s f).1 = 2∨zco s f v = (v,0)):=by
 unfold zco at h;by_cases he:(zbm s f).2 = 0
 ·have hk:=zed he
  have e2:zaq s f [] = true:=by unfold zaq; rw [if_pos he,if_pos rfl]
  by_cases hv0:v = []
  ·subst hv0
   exact ⟨e2,e2,.inr (by unfold zco; rw [if_pos he,if_pos rfl])⟩
  ·rw [if_pos he] at h
   by_cases hl:l = []
   ·rw [if_pos hl] at h
    exact absurd (congrArg Prod.fst h).symm hv0
   ·rw [if_neg hl] at h
    have e1:zaq s f v = ownK (zbm s f).1 s.rules v:=by unfold zaq; rw [if_pos he,if_neg hv0]
    have e3:zco s f v = normK (zbm s f).1 s.rules v:=by unfold zco; rw [if_pos he,if_neg hv0]
    rw [e1,e3]
    rcases hk with hk | hk | hk | hk
    ·rw [hk] at h ⊢
     have:=nameN_same (r:=s.rules) h;exact ⟨own_of this,e2,.inr this⟩
    ·rw [hk] at h ⊢
     exact ⟨dayN_read (show dayN l = (v,0) from h),e2,.inl rfl⟩
    ·rw [hk] at h ⊢
     have:=codeN_same (show zd1 l = (v,0) from h);exact ⟨own_of this,e2,.inr this⟩
    ·rw [hk] at h ⊢
     have:=addrN_same (r:=s.rules) h;exact ⟨own_of this,e2,.inr this⟩
 ·rw [if_neg he] at h
  exact absurd (congrArg Prod.snd h) he
end
section
open Go.RowKit Go.Maps
def setL (L:List (List UInt8)):List (List UInt8):=L.eraseDups.mergeSort leB
theorem erase_nodup (L:List (List UInt8)):∀ n,L.length≤n→L.eraseDups.Nodup:=by
 intro n;induction n generalizing L with
 | zero=>intro h; have:L = []:=List.length_eq_zero_iff.1 (by omega); subst this; simp
 | succ n ih =>
  intro h;cases L with
  | nil=>simp
  | cons a L =>
   rw [List.eraseDups_cons];refine List.nodup_cons.2 ⟨?_,ih _ ?_⟩
   ·rw [List.mem_eraseDups]; simp
   ·have:=List.length_filter_le (fun b=>!b == a) L; simp at h ⊢; omega
theorem erase_len (L:List (List UInt8)):∀ n,L.length≤n→L.eraseDups.length≤L.length:=by
 intro n;induction n generalizing L with
 | zero=>intro h; have:L = []:=List.length_eq_zero_iff.1 (by omega); subst this; simp
 | succ n ih =>
  intro h;cases L with
  | nil=>simp
  | cons a L =>
   rw [List.eraseDups_cons,List.length_cons,List.length_cons];have h1:=List.length_filter_le (fun b=>!b == a) L
   have:=ih (L.filter fun b=>!b == a) (by simp at h ⊢; omega)
   omega
theorem set_mem (L:List (List UInt8)) (x:List UInt8):x∈setL L ↔ x∈L:=by
 unfold setL; rw [List.mem_mergeSort,List.mem_eraseDups]
theorem set_len (L:List (List UInt8)):(setL L).length≤L.length:=by
 unfold setL; rw [(List.mergeSort_perm _ _).length_eq]; exact erase_len L _ xnl
def AscB (L:List (List UInt8)):Prop:=∀ i,i + 1 < L.length→Op.bytesLess (L.getD i []) (L.getD (i + 1) []) = true
theorem set_of_perm {L ss:List (List UInt8)} (hn:ss.Nodup) (hm:∀ x,x∈ss ↔ x∈L):ss.mergeSort leB = setL L:=by
 refine mergeSort_of_perm ((List.perm_ext_iff_of_nodup hn (erase_nodup L _ xnl)).2 fun x=>?_)
 rw [hm,List.mem_eraseDups]
def bigrA:List UInt8→List (List UInt8)
 | a :: b :: r=>[a,b] :: bigrA (b :: r)
 | _=>[]
theorem zh3:∀ l:List UInt8,(bigrA l).length = l.length - 1:=by
 intro l;induction l using bigrA.induct with
 | case1 a b r ih=>simp [bigrA,ih]
 | case2 l h =>
  match l,h with
  | [],_=>rfl
  | [a],_=>rfl
  | a :: b :: r,h=>exact absurd rfl (h a b r)
def zd6 (t:List UInt8):List UInt8:=[95] ++ t ++ [95]
def zbh (T:List (List UInt8)):List (List UInt8):=T.flatMap fun t=>bigrA (zd6 t)
def zfa (l:List UInt8):List (List UInt8):=setL (zbh (zcq l))
theorem gramsAll_len (T:List (List UInt8)):T≠[]→(zbh T).length = (za0 T).length + 1:=by
 induction T with
 | nil=>intro h; exact absurd rfl h
 | cons t T ih =>
  intro _
  have e:(zbh (t :: T)).length = t.length + 1 + (zbh T).length:=by
   simp only [zbh,List.flatMap_cons,List.length_append,zh3,zd6]; simp; try omega
  by_cases hT:T = []
  ·subst hT; rw [e]; simp [zbh,za0]
  ·rw [e,ih hT,zbj _ _ hT]; simp; omega
theorem grams_bound {l:List UInt8} (h:l.length≤64):(zfa l).length≤65:=by
 have h1:=set_len (zbh (zcq l));have h2:=(zdy l []).1;by_cases hT:zcq l = []
 ·unfold zfa; rw [hT]; simp [zbh,setL]
 ·have h3:=gramsAll_len (zcq l) hT
  unfold zfa; unfold zcq at *; simp at h2; omega
theorem pos_asc (l:List UInt8):∀ j,j + l.length≤26→AscB (posL j l):=by
 intro j hj i hi
 have key:∀ (l:List UInt8) (j i:Nat),i < l.length→(posL j l).getD i [] = [UInt8.ofNat (97 + (j + i)),l.getD i 0]:=by
  intro l;induction l with
  | nil=>intro j i hi; simp at hi
  | cons c l ih =>
   intro j i hi;cases i with
   | zero=>rfl
   | succ i =>
    have:=ih (j + 1) i (by simp at hi; omega);simp only [posL,List.getD_cons_succ] at this ⊢;rw [this]; congr 2; congr 1; omega
 rw [zi1] at hi;rw [key l j i (by omega),key l j (i + 1) (by omega),bytesLess_eq,decide_eq_true_iff];refine List.cons_lt_cons_iff.2 (.inl ?_);rw [UInt8.lt_iff_toNat_lt,UInt8.toNat_ofNat',UInt8.toNat_ofNat']; omega
end
end Go.Proofs.YtgkaafncfjlooaaGreatDoor
section
namespace Go.Proofs
open Go.Shelf
def Tryz.keys256_ren:Go.Shelf.Ren:=⟨fun | 7=>256 | 10=>274 | n=>n,fun | 23=>269 | 26=>9 | 3=>270 | 28=>266 | 0=>0 | 27=>265 | 33=>148 | 4=>4 | n=>n,fun | n=>n⟩
theorem Tryz.keys256:Go.Proofs.SlLaysZ.n7 prog Tryz.keys256_ren:={
 mixed:=by kernel_rfl
 f7:=⟨Tryz.f256.name,by decide,func256.trans (congrArg some (by kernel_rfl))⟩
 f10:=⟨Tryz.f274.name,by decide,func274.trans (congrArg some (by kernel_rfl))⟩
 t0:=underlying0
 a0:=Tryz.isAgg0
 z0:=Tryz.sizeOf0
 v0:=Tryz.zeroValue0
 t4:=underlying4
 a4:=Tryz.isAgg4
 z4:=Tryz.sizeOf4
 v4:=Tryz.zeroValue4
 t23:=underlying269
 a23:=Tryz.isAgg269
 z23:=Tryz.sizeOf269
 v23:=Tryz.zeroValue269
 t26:=underlying9
 a26:=Tryz.isAgg9
 z26:=Tryz.sizeOf9
 v26:=Tryz.zeroValue9
 t27:=underlying265
 a27:=Tryz.isAgg265
 z27:=Tryz.sizeOf265
 v27:=Tryz.zeroValue265
 t28:=underlying266
 a28:=Tryz.isAgg266
 z28:=Tryz.sizeOf266
 v28:=Tryz.zeroValue266
 t33:=underlying148
 a33:=Tryz.isAgg148
 z33:=Tryz.sizeOf148
 v33:=Tryz.zeroValue148 }
def Tryz.sorted255_ren:Go.Shelf.Ren:=⟨fun | 6=>255 | 8=>272 | 9=>273 | 11=>287 | 13=>145 | 12=>288 | 23=>194 | 24=>195 | 14=>296 | 15=>297 | 16=>298 | 17=>299 | 18=>300 | 19=>301 | 20=>302 | 21=>303 | 22=>304 | 25=>307 | 26=>224 | 27=>225 | 28=>308 | 29=>309 | 30=>310 | 31=>315 | n=>n,fun | 26=>9 | 28=>266 | 24=>28 | 0=>0 | 3=>3 | 37=>119 | 48=>228 | 50=>39 | 4=>4 | 40=>222 | 39=>221 | 45=>103 | 5=>5 | 9=>9 | 51=>237 | 55=>240 | 57=>247 | 58=>248 | 33=>148 | n=>n,fun | n=>n⟩
theorem Tryz.sorted255:Go.Proofs.SlLaysZ.n6 prog Tryz.sorted255_ren:={
 mixed:=by kernel_rfl
 f6:=⟨Tryz.f255.name,by decide,func255.trans (congrArg some (by kernel_rfl))⟩
 f8:=⟨Tryz.f272.name,by decide,func272.trans (congrArg some (by kernel_rfl))⟩
 f11:=⟨Tryz.f287.name,by decide,func287.trans (congrArg some (by kernel_rfl))⟩
 t0:=underlying0
 a0:=Tryz.isAgg0
 z0:=Tryz.sizeOf0
 v0:=Tryz.zeroValue0
 t24:=underlying28
 a24:=Tryz.isAgg28
 z24:=Tryz.sizeOf28
 v24:=Tryz.zeroValue28
 t26:=underlying9
 a26:=Tryz.isAgg9
 z26:=Tryz.sizeOf9
 v26:=Tryz.zeroValue9
 t28:=underlying266
 a28:=Tryz.isAgg266
 z28:=Tryz.sizeOf266
 v28:=Tryz.zeroValue266
 i26:=by kernel_rfl }
def Tryz.sort273_ren:Go.Shelf.Ren:=⟨fun | 6=>273 | 8=>145 | 9=>288 | 19=>194 | 20=>195 | 21=>296 | 22=>297 | 23=>298 | 24=>299 | 25=>300 | 26=>301 | 27=>302 | 28=>303 | 29=>304 | 36=>307 | 31=>224 | 32=>225 | 37=>308 | 38=>309 | 39=>310 | 41=>315 | n=>n,fun | 27=>28 | 29=>9 | 3=>3 | 32=>119 | 26=>28 | 0=>0 | 44=>228 | 46=>39 | 4=>4 | 36=>222 | 35=>221 | 41=>103 | 5=>5 | 9=>9 | 53=>237 | 57=>240 | 63=>247 | 64=>248 | n=>n,fun | n=>n⟩
theorem Tryz.sort273:Go.Proofs.SlLaysM.n6 prog Tryz.sort273_ren:={
 mixed:=by kernel_rfl
 f6:=⟨Tryz.f273.name,by decide,func273.trans (congrArg some (by kernel_rfl))⟩
 f8:=func145.trans (congrArg some (by kernel_rfl))
 f9:=⟨Tryz.f288.name,by decide,func288.trans (congrArg some (by kernel_rfl))⟩
 f19:=func194.trans (congrArg some (by kernel_rfl))
 f20:=func195.trans (congrArg some (by kernel_rfl))
 f21:=⟨Tryz.f296.name,by decide,func296.trans (congrArg some (by kernel_rfl))⟩
 f22:=⟨Tryz.f297.name,by decide,func297.trans (congrArg some (by kernel_rfl))⟩
 f23:=⟨Tryz.f298.name,by decide,func298.trans (congrArg some (by kernel_rfl))⟩
 f24:=⟨Tryz.f299.name,by decide,func299.trans (congrArg some (by kernel_rfl))⟩
 f25:=⟨Tryz.f300.name,by decide,func300.trans (congrArg some (by kernel_rfl))⟩
 f26:=⟨Tryz.f301.name,by decide,func301.trans (congrArg some (by kernel_rfl))⟩
 f27:=⟨Tryz.f302.name,by decide,func302.trans (congrArg some (by kernel_rfl))⟩
 f28:=⟨Tryz.f303.name,by decide,func303.trans (congrArg some (by kernel_rfl))⟩
 f29:=⟨Tryz.f304.name,by decide,func304.trans (congrArg some (by kernel_rfl))⟩
 f31:=func224.trans (congrArg some (by kernel_rfl))
 f32:=func225.trans (congrArg some (by kernel_rfl))
 f36:=⟨Tryz.f307.name,by decide,func307.trans (congrArg some (by kernel_rfl))⟩
 f37:=⟨Tryz.f308.name,by decide,func308.trans (congrArg some (by kernel_rfl))⟩
 f38:=⟨Tryz.f309.name,by decide,func309.trans (congrArg some (by kernel_rfl))⟩
 f39:=⟨Tryz.f310.name,by decide,func310.trans (congrArg some (by kernel_rfl))⟩
 f41:=⟨Tryz.f315.name,by decide,func315.trans (congrArg some (by kernel_rfl))⟩
 t0:=underlying0
 a0:=Tryz.isAgg0
 z0:=Tryz.sizeOf0
 v0:=Tryz.zeroValue0
 t3:=underlying3
 a3:=Tryz.isAgg3
 z3:=Tryz.sizeOf3
 v3:=Tryz.zeroValue3
 t4:=underlying4
 a4:=Tryz.isAgg4
 z4:=Tryz.sizeOf4
 v4:=Tryz.zeroValue4
 t5:=underlying5
 a5:=Tryz.isAgg5
 z5:=Tryz.sizeOf5
 v5:=Tryz.zeroValue5
 t9:=underlying9
 a9:=Tryz.isAgg9
 z9:=Tryz.sizeOf9
 v9:=Tryz.zeroValue9
 t26:=underlying28
 a26:=Tryz.isAgg28
 z26:=Tryz.sizeOf28
 v26:=Tryz.zeroValue28
 t27:=underlying28
 a27:=Tryz.isAgg28
 z27:=Tryz.sizeOf28
 v27:=Tryz.zeroValue28
 t29:=underlying9
 a29:=Tryz.isAgg9
 z29:=Tryz.sizeOf9
 v29:=Tryz.zeroValue9
 t32:=underlying119
 a32:=Tryz.isAgg119
 z32:=Tryz.sizeOf119
 v32:=Tryz.zeroValue119
 t35:=underlying221
 a35:=Tryz.isAgg221
 z35:=Tryz.sizeOf221
 v35:=Tryz.zeroValue221
 t36:=underlying222
 a36:=Tryz.isAgg222
 z36:=Tryz.sizeOf222
 v36:=Tryz.zeroValue222
 t41:=underlying103
 a41:=Tryz.isAgg103
 z41:=Tryz.sizeOf103
 v41:=Tryz.zeroValue103
 t44:=underlying228
 a44:=Tryz.isAgg228
 z44:=Tryz.sizeOf228
 v44:=Tryz.zeroValue228
 t46:=underlying39
 a46:=Tryz.isAgg39
 z46:=Tryz.sizeOf39
 v46:=Tryz.zeroValue39
 t53:=underlying237
 a53:=Tryz.isAgg237
 z53:=Tryz.sizeOf237
 v53:=Tryz.zeroValue237
 t57:=underlying240
 a57:=Tryz.isAgg240
 z57:=Tryz.sizeOf240
 v57:=Tryz.zeroValue240
 t63:=underlying247
 a63:=Tryz.isAgg247
 z63:=Tryz.sizeOf247
 v63:=Tryz.zeroValue247
 t64:=underlying248
 a64:=Tryz.isAgg248
 z64:=Tryz.sizeOf248
 v64:=Tryz.zeroValue248 }
end Go.Proofs
end
section
namespace Go.Proofs
open Go.RowKit Go.Maps Go.Sort Go.Shelf
theorem Tryz.sorts255 (m:Nat):AnyZ.SortsIn prog Tryz.sorted255_ren Fence.wide m :=
 ⟨fun blk off cap ss W hH hblk hsz=>callsIn_wide.2 (AnyM.slices_Sort_string Tryz.sort273 blk off cap ss W hH hblk hsz),
  fun p cap W=>callsIn_wide.2 (AnyM.slices_Sort_string_none Tryz.sort273 p cap W)⟩
theorem Tryz.maps_Keys (mb:Option Nat) (W:World):CallsIn Fence.wide 5 prog 256 #[.map mb] W fun e w'=>e = .returned (.func (.func 274) #[] #[.pointer (some ⟨W.heap.size,0,none⟩)])∧w' = W.alloc (.cells #[.map mb] 269) :=
 AnyZ.keys_in Tryz.keys256 Fence.wide 5 trivial rfl mb W
theorem Tryz.slices_Sorted_keys {H:Type} (b nn:Nat) (D0:DataW H) (R:Value→Option (DataW H × List MemPlace)) (w:World) (hown:w.ownsMap prog 9 R b nn D0) (hmax:Maps.size D0≤maxLen) (hbytes:Maps.size D0 * 16≤140737488355328) :
  CallsIn Fence.wide 5 prog 255 #[.func (.func 274) #[] #[.pointer (some ⟨w.heap.size,0,none⟩)]] (w.alloc (.cells #[.map (some b)] 269)) fun e w'=>∃ (v:Value) (ss:List (List UInt8)),e = .returned v∧ss.Perm (strKeys D0) ∧
   w'.ownsRow (w.alloc (.cells #[.map (some b)] 269)).heap.size 9 1 v ss.length ((ss.mergeSort (fun x y=>decide (x≤y))).map encStr)∧(v = .slice none 0 0 ↔ ss = [])∧Below (w.alloc (.cells #[.map (some b)] 269)).heap.size (w.alloc (.cells #[.map (some b)] 269)) w':=by
 have hbl:=hown.lt
 have hseq:SeqGives Fence.wide 2 prog 274 #[.pointer (some ⟨w.heap.size,0,none⟩)] encStr (fun ss=>ss.Perm (strKeys D0)) (Maps.size D0) (w.alloc (.cells #[.map (some b)] 269)) :=
  AnyZ.keys_gives (ρ:=Tryz.keys256_ren) { Tryz.keys256 with } Fence.wide _ trivial rfl (by omega) w.heap.size b nn D0 _ (by simp) (by simp) (by
   obtain ⟨es,clock,hb,Ft,hs,hD⟩:=hown
   exact ⟨es,clock,(Below.heap_alloc _ _ b hbl).trans hb,Ft,hs,hD⟩)
 exact AnyZ.sorted_in Tryz.sorted255 Fence.wide 5 trivial trivial trivial trivial rfl (by omega) (Tryz.sorts255 _) (enters_of func273 (by kernel_rfl) rfl) 274 #[.pointer (some ⟨w.heap.size,0,none⟩)] trivial (enters_of func274 (by kernel_rfl) rfl) _ _ hmax hbytes _ hseq
end Go.Proofs
end
namespace Go.Proofs.YtgkaafncfjlooaaGreatDoor
section
open Go.RowKit Cal
attribute [local go_sem] zag zaj
end
section
open Go.RowKit Cal
attribute [local go_sem] zag zaj
theorem vec_block {w:World} {A:Nat} {L:List (List UInt8)} (h:w.heap[A]? = some (.cells (L.flatMap zba).toArray 9 (0,0))) (n:Nat) (hn:n = L.length):Vec w zav 1 zba (.slice (some ⟨A,0,none⟩) n n) L:=by
 subst hn; exact RowB.vec h _ xnl
theorem zfi {α:Type} [Inhabited α] (T:List α) (k:Nat) (h:k < T.length):T.take (k + 1) = T.take k ++ [T.getD k default]:=by
 rw [List.take_succ_eq_append_getElem h,List.getD,List.getElem?_eq_getElem h]; rfl
end
section
open Go.RowKit Go.Maps
attribute [local go_sem] zag zaj
theorem lawS:Keyed prog 9:=string_keyed underlying9
def unitD:DataW Unit:=.agg []
def setD (L:List (List UInt8)):DataW Unit:=setOf unitD (L.map Lit.string)
theorem keyLit (L:List (List UInt8)):∀ x∈L.map Lit.string,WideAt.IsKeyLit x:=by
 intro x hx;obtain ⟨y,_,rfl⟩:=List.mem_map.1 hx;trivial
theorem setD_snoc (L:List (List UInt8)) (x:List UInt8):setD (L ++ [x]) = (setD L).put (.string x) unitD:=by
 unfold setD; rw [List.map_append,List.map_cons,List.map_nil,setOf_snoc]
theorem of_any (S:Nat→Prop) (v:Value) (L:List (List UInt8)) (w:World) (h:Vec w S 1 zba v L) (hn:L.length≤1000000) (hL:∀ t∈L,t.length≤1000000) :
  Calls prog 257 #[v] w fun e w'=>e = .returned (.map (some w.heap.size))∧w'.ownsMap prog 9 unitElem w.heap.size L.length (setD L)∧Below w.heap.size w w':=by
 have hmm:=@run_makeMap prog;obtain ⟨a,cap,rfl⟩:=h.slice;by_cases hz:L = []
 ·subst hz
  clear h;go_enter func257,ntmps257
  go_wp2
  refine wp_loop_rounds 1 ?_; rw [rounds_succ];go_wp2
  go_ret;exact ⟨rfl,World.ownsMap_made _ _ _ _,(Below.refl _ _).alloc xnl _⟩
 ·obtain ⟨b,off,rfl,_,hb,hc⟩:=zcc h (List.length_pos_iff.2 hz)
  have HC:=zjp hc; have HLn:=zjp hL;clear hc h hz hL;go_enter func257,ntmps257
  go_wp2
  go_loopw [9] (fun i wr=>∃ k:Nat,k≤L.length∧i = .int .i64 k∧wr.ownsMap prog 9 unitElem w.heap.size k (setD (L.take k))∧Below w.heap.size w wr) (fun i _=>L.length - (intOf i).toNat)
  case atStart=>exact ⟨0,by omega,rfl,World.ownsMap_made _ _ _ _,(Below.refl _ _).alloc xnl _⟩
  case round =>
   obtain ⟨k,hk,rfl,ho,hbw⟩:=hrel;have HO:=zjp ho; have HB:=zjp hbw;by_cases hlt:k < L.length
   ·have hq:decide ((k:Int) < L.length) = true:=by simp; omega
    have c1:wr.cell? ⟨b,off + k,none⟩ = some (zal (L.getD k [])):=(hbw.cell (p:=⟨b,off + k,none⟩) hb).trans (HC.out k hlt);have hx1:(L.getD k []).length≤1000000:=by rw [List.getD,List.getElem?_eq_getElem hlt]; exact HLn.out _ (List.getElem_mem hlt)
    have htk:=zfi L k hlt;rw [show (default:List UInt8) = [] from rfl] at htk;obtain ⟨x,hx⟩:∃ x,L.getD k [] = x:=⟨_,rfl⟩;rw [hx] at c1 hx1 htk;have HT:=zjp htk;have hkey:=zjp (WideMaps.keyOf_string_mk (P:=prog) (k:=9) (s:=⟨x.toArray⟩) underlying9 (by rw [zaj]; unfold maxLen; omega));clear hx htk hbw ho;go_wp2_with (at_mapUpdate; refine wpList_mapUpdate_own _ rfl _ _ _ 269 rfl 9 270 lawS underlying269 (unitElem (H:=Unit)) w.heap.size k _ rfl HO.out (by unfold maxLen; omega) _ _ _ rfl rfl hkey.out _ [] unitElem_mk ?_; intro w1 hown1 hgrow1)
    go_roundw
    case rel=>exact ⟨k + 1,by omega,by go_num,by rw [HT.out,setD_snoc]; exact hown1,HB.out.grown hgrow1 HB.out.size (fun j hj=>by cases hj; exact Nat.le_refl _)⟩
    case measure=>simp [intOf]; omega
   ·have hq:decide ((k:Int) < L.length) = false:=by simp; omega
    go_wp2_with fail
    go_ret;exact ⟨rfl,by rw [List.take_of_length_le (by omega)] at HO; exact HO.out.mono hk,HB.out⟩
theorem keyStr {l:Lit} (h:KeysOf prog 9 l):∃ x,l = .string x:=by
 obtain ⟨v,hv⟩:=h;obtain ⟨x,_,h2,_⟩:=keyOf_str underlying9 hv;exact ⟨x,h2⟩
theorem setD_perm {w:World} {b n:Nat} {L:List (List UInt8)} (h:w.ownsMap prog 9 unitElem b n (setD L)):L.eraseDups.Perm (strKeys (setD L)):=by
 have ht:=tidy_setOf unitD (L.map Lit.string) (keyLit L);obtain ⟨es,e1,hk⟩:=h.keysOf;obtain ⟨es',e2,hp⟩:=ht;have e3:setD L = .map es':=e2;have hes:es = es':=by rw [e1] at e3; cases e3; rfl
 subst hes;rw [e1]
 refine perm_strKeys hp (fun p hp'=>keyStr (hk p hp')) (erase_nodup L _ xnl) fun x=>?_
 rw [← e1,List.mem_eraseDups];unfold setD;rw [has_setOf _ _ _ (keyLit L),List.any_map,List.any_eq_true];constructor
 ·intro hx; exact ⟨x,hx,by simp [Lit.sameKey]⟩
 ·rintro ⟨y,hy,he⟩
  have:=WideAt.sameKey_eq (show (Lit.string y).sameKey (Lit.string x) = true from he);cases this; exact hy
theorem flat_enc (L:List (List UInt8)):L.map encStr = L.flatMap zba:=by
 induction L with
 | nil=>rfl
 | cons a L ih=>rw [List.map_cons,List.flatMap_cons,ih]; rfl
theorem set_any (S:Nat→Prop) (v:Value) (L:List (List UInt8)) (w:World) (h:Vec w S 1 zba v L) (hn:L.length≤1000000) (hL:∀ t∈L,t.length≤1000000) :
  Calls prog 233 #[v] w fun e w'=>∃ v',e = .returned v'∧OwnAt w v' (setL L) w':=by
 have HV:=zjp h; have HLn:=zjp hL;clear h hL;go_enter func233,ntmps233
 go_wp2_with fail
 refine (of_any S v L _ HV.out hn HLn.out).mono ?_;rintro e w1 ⟨rfl,ho,hb⟩;have HO:=zjp ho; have HB:=zjp hb;clear ho hb;go_wp2_with fail
 refine ((callsIn_wide (n:=5)).1 (Tryz.maps_Keys _ _)).mono ?_;rintro e w' ⟨rfl,rfl⟩;go_wp2_with fail
 refine ((callsIn_wide (n:=5)).1 (Tryz.slices_Sorted_keys w.heap.size L.length (setD L) unitElem w1 HO.out (by have:=HO.out.size_le; unfold maxLen; omega) (by have:=HO.out.size_le; omega))).mono ?_;rintro e w2 ⟨v',ss,rfl,hp,hrow,_,hb2⟩;have e1:ss.mergeSort leB = setL L:=mergeSort_of_perm (hp.trans (setD_perm HO.out).symm);have e2:ss.length = (setL L).length:=by rw [← e1,(List.mergeSort_perm _ _).length_eq]
 have hrow2:w2.ownsRow (w1.alloc (.cells #[.map (some w.heap.size)] 269)).heap.size 9 1 v' (setL L).length ((setL L).flatMap zba):=by
  rw [← flat_enc,← e2,← e1]; exact hrow
 have HR:=zjp hrow2;have HB2:=zjp ((HB.out.alloc HB.out.size (.cells #[.map (some w.heap.size)] 269)).trans (hb2.mono (by have:=HB.out.size; simp; omega)));clear e1 e2 hrow hrow2 hp hb2;have hbz:=HB.out.size;go_wp2_with fail
 go_ret;exact ⟨v',rfl,ownsRow_base_a HR.out (by simp; omega),HB2.out⟩
end
section
open Go.RowKit Cal
def FormOk (p:List UInt8 × Int):Prop:=p.1.length≤64∧(p.2≠0→p.1 = [])
theorem FormOk.err (e:Int):FormOk ([],e):=⟨by simp,fun _=>rfl⟩
theorem nameN_form (r:RulesL) (l:List UInt8):FormOk (zc9 r l):=by
 unfold zc9;repeat' split
 all_goals first | exact FormOk.err _ | skip
 all_goals exact ⟨by dsimp only; omega,fun h=>absurd rfl h⟩
theorem addrN_form (r:RulesL) (l:List UInt8):FormOk (zda r l):=by
 unfold zda;repeat' split
 all_goals first | exact FormOk.err _ | skip
 all_goals exact ⟨by dsimp only; omega,fun h=>absurd rfl h⟩
theorem codeN_form (l:List UInt8):FormOk (zd1 l):=by
 unfold zd1;repeat' split
 all_goals first | exact FormOk.err _ | skip
 all_goals exact ⟨by dsimp only; omega,fun h=>absurd rfl h⟩
theorem dayF_form (y m d:List UInt8):FormOk (dayF y m d):=by
 unfold dayF;cases vldB (zec y) (zec m) (zec d)
 ·exact FormOk.err _
 ·exact ⟨by show (zdw _ _ _).length≤64; rw [digits8_len]; omega,fun h=>absurd rfl h⟩
theorem dayN_form (l:List UInt8):FormOk (dayN l):=by
 unfold dayN;repeat' split
 all_goals first | exact FormOk.err _ | exact dayF_form _ _ _
theorem valueN_form (s:SchemaL) (f:Int) (l:List UInt8):FormOk (zco s f l):=by
 unfold zco normK;repeat' split
 all_goals first | exact FormOk.err _ | exact nameN_form _ _ | exact dayN_form _ | exact codeN_form _ | exact addrN_form _ _
theorem zjd {s:SchemaL} {f:Nat} (h:zax s = 0) (hf:f < s.fields.length):zbm s f = ((s.fields.getD f default).2,0):=by
 unfold zbm;rw [if_pos h,if_pos (by omega),Int.toNat_natCast]
end
section
open Go.RowKit Cal
theorem nameN_toks {r:RulesL} {l v:List UInt8} (h:zc9 r l = (v,0)):∃ M:List (List UInt8),(∀ t∈M,okT t)∧v = za0 M∧M.length≤6∧v.length≤64:=by
 unfold zc9 at h;by_cases hc:zay r = 0
 ·rw [if_pos hc] at h
  by_cases hv:zdd l = true
  ·rw [if_pos hv] at h
   obtain ⟨h1,_⟩:=zi7 hc (zcq (zbv l));generalize za9 r (zcq (zbv l)) = M at h h1;by_cases hb:6 < M.length∨64 < (za0 M).length
   ·rw [if_pos hb] at h; simp at h
   ·rw [if_neg hb] at h
    obtain rfl:za0 M = v:=congrArg Prod.fst h;exact ⟨M,h1,rfl,by omega,by omega⟩
  ·rw [if_neg hv] at h; simp at h
 ·rw [if_neg hc] at h
  exact absurd (congrArg Prod.snd h) hc
theorem addrN_toks {r:RulesL} {l v:List UInt8} (h:zda r l = (v,0)):∃ M:List (List UInt8),(∀ t∈M,okT t)∧v = za0 M∧M.length≤6∧v.length≤64:=by
 unfold zda at h;by_cases hc:zay r = 0
 ·rw [if_pos hc] at h
  obtain ⟨_,_,_,h3,_⟩:=zex hc;by_cases hv:zdd l = true
  ·rw [if_pos hv] at h
   have hok:=toks_ok l;generalize zcq (zbv l) = T at h hok
   have hM:∀ t∈zb5 (T.map (za1 r)),okT t:=by
    intro t ht;obtain ⟨x,hx,rfl⟩:=List.mem_map.1 (order2_mem ht);exact (addrTok_same h3 (hok x hx)).1
   have hlen:(zb5 (T.map (za1 r))).length = T.length:=by rw [zi6,List.length_map]
   by_cases hb:6 < T.length∨64 < (za0 (zb5 (T.map (za1 r)))).length
   ·rw [if_pos hb] at h; simp at h
   ·rw [if_neg hb] at h
    obtain rfl:za0 (zb5 (T.map (za1 r))) = v:=congrArg Prod.fst h;exact ⟨_,hM,rfl,by omega,by omega⟩
  ·rw [if_neg hv] at h; simp at h
 ·rw [if_neg hc] at h
  exact absurd (congrArg Prod.snd h) hc
def zf7 (k:Int) (l:List UInt8):List (List UInt8):=if l = [] then [] else if k = 2 then posL 0 l else if k = 3 then [61 :: l] else zfa l
end
section
open Go.RowKit
attribute [local go_sem] zag zaj zbb
theorem wrapT_cons (t:List UInt8):zd6 t = 95 :: (t ++ [95]):=rfl
theorem bigr_getD (l:List UInt8):∀ j,j + 1 < l.length→(bigrA l).getD j [] = [l.getD j 0,l.getD (j + 1) 0]:=by
 induction l using bigrA.induct with
 | case1 a b r ih =>
  intro j hj;cases j with
  | zero=>rfl
  | succ j =>
   have:=ih j (by simp at hj ⊢; omega);simp only [bigrA,List.getD_cons_succ] at this ⊢;exact this
 | case2 l h =>
  intro j hj
  match l,h with
  | [],_=>simp at hj
  | [a],_=>simp at hj
  | a :: b :: r,h=>exact absurd rfl (h a b r)
theorem take_two (l:List UInt8) (j:Nat) (h:j + 1 < l.length):((⟨l.toArray⟩:ByteArray).extract j (j + 2)) = ⟨[l.getD j 0,l.getD (j + 1) 0].toArray⟩:=by
 have:=ext_mk l j (j + 2) (by omega);unfold mkS at this;rw [this];congr 2;rw [List.drop_take,List.drop_eq_getElem_cons (by omega),List.drop_eq_getElem_cons (by omega),List.getD,List.getD,List.getElem?_eq_getElem (by omega),List.getElem?_eq_getElem h];rw [show j + 2 - j = 2 by omega]; rfl
theorem zjc (T:List (List UInt8)) (k:Nat) (h:k < T.length):zbh (T.take (k + 1)) = zbh (T.take k) ++ bigrA (zd6 (T.getD k [])):=by
 have:=zfi T k h;rw [show (default:List UInt8) = [] from rfl] at this;rw [this]; simp [zbh]
theorem zey (T:List (List UInt8)) (h:∀ t∈T,t.length≤64):(zbh T).length≤65 * T.length:=by
 induction T with
 | nil=>simp [zbh]
 | cons t T ih =>
  have h1:=ih fun x hx=>h x (List.mem_cons_of_mem _ hx)
  have h2:=h t List.mem_cons_self
  have e:(zbh (t :: T)).length = t.length + 1 + (zbh T).length:=by
   simp only [zbh,List.flatMap_cons,List.length_append,zh3,zd6]; simp; try omega
  rw [e,List.length_cons]; omega
theorem toks_len (l:List UInt8) (h:l.length≤64):(zcq l).length≤65∧∀ t∈zcq l,t.length≤64:=by
 have h1:=zdy l [];unfold zcq
 refine ⟨by simp at h1; omega,fun t ht=>?_⟩
 have:∀ (L:List (List UInt8)),t∈L→t.length≤(za0 L).length:=by
  intro L;induction L with
  | nil=>intro h; simp at h
  | cons a L ih =>
   intro h;by_cases hL:L = []
   ·subst hL; simp at h; subst h; exact Nat.le_refl _
   ·rw [zbj _ _ hL]
    rcases List.mem_cons.1 h with rfl | h
    ·simp
    ·have:=ih h; simp; omega
 have:=this _ ht;simp at h1; omega
theorem ggrams_any (s:ByteArray) (w:World) (hs:s.size≤64) (ha:ascii s.data.toList) :
  Calls prog 207 #[.string s] w fun e w'=>∃ v,e = .returned v∧Vec w' zav 1 zba v (zfa s.data.toList)∧Below w.heap.size w w':=by
 have hl:s.data.toList.length = s.size:=by simp
 obtain ⟨hT1,hT2⟩:=toks_len s.data.toList (by omega);have hc:=zge s.data.toList w ha (by omega);rw [show zal s.data.toList = .string s by simp] at hc;obtain ⟨T,hT⟩:∃ T,zcq s.data.toList = T:=⟨_,rfl⟩;have hG:zfa s.data.toList = setL (zbh T):=by unfold zfa; rw [hT]
 rw [hT] at hT1 hT2 hc;rw [hG];have HC:=zjp hc; have HT2:=zjp hT2;have d1:decide ((64:Int) < s.size) = false:=by simp; omega
 clear hl hc hT hG hT2 ha;go_enter func207,ntmps207
 go_wp2_with fail
 refine HC.out.mono ?_;rintro e w1 ⟨A,rfl,hA,ho,hb1⟩;have HR:=zjp (own_block ho).2;have zA:=zaa HR.out;have HB1:=zjp hb1;clear ho hb1 HC d1;go_wp2_with fail
 go_loopw [3,13] (fun v i wr=>∃ k:Nat,k≤T.length∧i = .int .i64 k∧OwnAt w1 v (zbh (T.take k)) wr) (fun _ i _=>T.length - (intOf i).toNat)
 case atStart=>exact ⟨0,by omega,rfl,OwnAt.start w1⟩
 case round =>
  obtain ⟨k,hk,rfl,ho⟩:=hrel;have HO:=zjp ho; clear ho;by_cases hlt:k < T.length
  ·have hq:decide ((k:Int) < T.length) = true:=by simp; omega
   have hgl:=zey (T.take k) (fun t ht=>HT2.out t (List.mem_of_mem_take ht))
   have htl:=List.length_take_le k T;have hx1:(T.getD k []).length≤64:=by rw [List.getD,List.getElem?_eq_getElem hlt]; exact HT2.out _ (List.getElem_mem hlt)
   have c1:=(show RowB _ A T from zab HO.out.2 zA HR.out).cell k hlt;have HG:=zjp (zjc T k hlt);obtain ⟨t,ht⟩:∃ t,T.getD k [] = t:=⟨_,rfl⟩;rw [ht] at c1 hx1 HG;clear ht;obtain ⟨wo,rfl⟩:∃ wo:World,wo = wr:=⟨_,rfl⟩;go_wp2_with fail
   go_loopw [3,23] (fun v i wr=>∃ j:Nat,j≤1 + t.length∧i = .int .i64 j∧OwnAt w1 v (zbh (T.take k) ++ (bigrA (zd6 t)).take j) wr) (fun _ i _=>1 + t.length - (intOf i).toNat)
   case atStart=>exact ⟨0,by omega,rfl,by simpa using HO.out⟩
   case round =>
    obtain ⟨j,hj,rfl,ho2⟩:=hrel;have HO2:=zjp ho2; clear ho2;have hwl:(zd6 t).length = t.length + 2:=by simp [zd6]
    by_cases hlj:j < 1 + t.length
    ·have hq2:decide ((j:Int) < 1 + t.length) = true:=by simp; omega
     have hext:=take_two (zd6 t) j (by omega);have hbg:=bigr_getD (zd6 t) j (by omega);have hbl:j < (bigrA (zd6 t)).length:=by rw [zh3]; omega
     have htk:=zfi (bigrA (zd6 t)) j hbl;rw [show (default:List UInt8) = [] from rfl,hbg] at htk;obtain ⟨z,hz⟩:∃ z,[(zd6 t).getD j 0,(zd6 t).getD (j + 1) 0] = z:=⟨_,rfl⟩;rw [hz] at hext htk;rw [wrapT_cons] at hext;have HTK:=zjp htk
     have hln:(zbh (T.take k) ++ (bigrA (zd6 t)).take j).length < 1099511627776:=by
      have:=List.length_take_le j (bigrA (zd6 t));simp only [List.length_append]; omega
     have hone:∀ u∈(#[zal z]:Array Value).toList,u.oneCell' = true:=by intro u hu; simp at hu; subst hu; rfl
     clear hbg hbl htk hz hwl;go_wp2_with (at_builtin; refine za6 rfl _ _ 28 rfl w1.heap.size 9 1 16 (.string ⟨#[]⟩) underlying28 zdv rfl (by decide) (by decide) _ _ _ rfl HO2.out.1 #[zal z] 1 rfl rfl hone hln HO2.out.2.size ?_; intro v2 w8 ho8 hw8)
     go_roundw
     case rel=>exact ⟨j + 1,by omega,by go_num,by rw [HTK.out,← List.append_assoc]; exact ⟨by rw [List.length_append,zdz]; exact ho8,hw8 _ HO2.out.2⟩⟩
     case measure=>simp [intOf]; omega
    ·have hq2:decide ((j:Int) < 1 + t.length) = false:=by simp; omega
     rw [show (bigrA (zd6 t)).take j = bigrA (zd6 t) from List.take_of_length_le (by rw [zh3]; omega),← HG.out] at HO2;go_wp2_with fail
     go_roundw
     case rel=>exact ⟨k + 1,by omega,by go_num,HO2.out⟩
     case measure=>simp [intOf]; omega
  ·have hq:decide ((k:Int) < T.length) = false:=by simp; omega
   rw [List.take_of_length_le (by omega)] at HO;have hgl:=zey T HT2.out;have HV:=zjp (Vec.owns (S:=zav) (k:=1) (enc:=zba) (fun _=>rfl) HO.out.1 (fun _ _ _=>trivial))
   have hsm:∀ x∈zbh T,x.length≤1000000:=by
    intro x hx;obtain ⟨t,ht,hx⟩:=List.mem_flatMap.1 hx
    have key:∀ l:List UInt8,∀ x∈bigrA l,x.length = 2:=by
     intro l;induction l using bigrA.induct with
     | case1 a b r ih =>
      intro x hx;simp only [bigrA] at hx
      rcases List.mem_cons.1 hx with rfl | hx
      ·rfl
      ·exact ih x hx
     | case2 l h =>
      intro x hx
      match l,h with
      | [],_=>simp [bigrA] at hx
      | [a],_=>simp [bigrA] at hx
      | a :: b :: r,h=>exact absurd rfl (h a b r)
    have:=key _ x hx; omega
   have HSm:=zjp hsm; clear hsm;go_wp2_with fail
   refine (set_any zav _ (zbh T) _ HV.out (by omega) HSm.out).mono ?_;rintro e w3 ⟨v3,rfl,ho3⟩;have HV3:=zjp (Vec.owns (S:=zav) (k:=1) (enc:=zba) (fun _=>rfl) ho3.1 (fun _ _ _=>trivial))
   have HB3:=zjp ((HB1.out.trans (HO.out.2.mono HB1.out.size)).trans (ho3.2.mono (Nat.le_trans HB1.out.size HO.out.2.size)));clear ho3;go_wp2_with fail
   go_ret;exact ⟨v3,rfl,HV3.out,HB3.out⟩
end
section
open Go.RowKit Cal
attribute [local go_sem] zag zaj zbb
theorem kind4_any (s:ByteArray) (w:World) (hs:s.size≤1000) :
  Calls prog 216 #[.string s] w fun e w'=>∃ v,e = .returned v∧Vec w' zav 1 zba v [61 :: s.data.toList]∧Below w.heap.size w w':=by
 have hs2:(⟨#[61]⟩:ByteArray) ++ s = ⟨(61 :: s.data.toList).toArray⟩:=by
  apply ByteArray.ext; simp
 go_enter func216,ntmps216
 go_wp2
 go_ret;exact ⟨_,rfl,vec_block (L:=[61 :: s.data.toList]) (zac rfl) 1 rfl,(Below.refl _ _).alloc xnl _⟩
def zfq (s:SchemaL) (f:Int) (l:List UInt8):List (List UInt8) × Int:=if (zbm s f).2 = 0 then (if zaq s f l = true then (zf7 (zbm s f).1 l,0) else ([],7)) else ([],(zbm s f).2)
def GramsIs (p:List (List UInt8) × Int) (w:World) (e:Ending) (w':World):Prop:=∃ v,e = .returned (.tuple #[v,.int .i64 p.2])∧Vec w' zav 1 zba v p.1∧Below w.heap.size w w'
theorem own_small {p:List UInt8 × Int} {l:List UInt8} (h:zel p l = true) (hf:FormOk p):l.length≤64∧p = (l,0):=by
 obtain ⟨a,b⟩:=p;unfold zel at h;cases hb:(b == (0:Int))
 ·rw [hb] at h; cases h
 ·rw [hb] at h
  simp only [cond_true,beq_iff_eq] at h hb;subst h hb;exact ⟨hf.1,rfl⟩
theorem join_ascii {M:List (List UInt8)} (h:∀ t∈M,okT t):ascii (za0 M):=fun b hb=>okB_lt (join_ok M h b hb)
theorem zi5 {k:Int} {r:RulesL} {l:List UInt8} (h:ownK k r l = true) (hk:k = 1∨k = 2∨k = 3∨k = 4):l.length≤64∧(k = 1∨k = 4→ascii l)∧(k = 2→l.length = 8):=by
 unfold ownK at h
 rcases hk with rfl | rfl | rfl | rfl
 ·obtain ⟨h1,h2⟩:=own_small (show zel (zc9 r l) l = true from h) (nameN_form r l)
  obtain ⟨M,g1,g2,_⟩:=nameN_toks h2;exact ⟨h1,fun _=>by rw [g2]; exact join_ascii g1,fun e=>by omega⟩
 ·have hr:readB l = true:=h
  unfold readB at hr;cases hd:decide (l.length = 8)
  ·rw [hd] at hr; cases hr
  ·have:l.length = 8:=by simpa using hd
   exact ⟨by omega,fun e=>by omega,fun _=>this⟩
 ·obtain ⟨h1,h2⟩:=own_small (show zel (zd1 l) l = true from h) (codeN_form l)
  exact ⟨h1,fun e=>by omega,fun e=>by omega⟩
 ·obtain ⟨h1,h2⟩:=own_small (show zel (zda r l) l = true from h) (addrN_form r l)
  obtain ⟨M,g1,g2,_⟩:=addrN_toks h2;exact ⟨h1,fun _=>by rw [g2]; exact join_ascii g1,fun e=>by omega⟩
theorem grams_s (S:Nat→Prop) (vf vt vn vs:Value) (s:SchemaL) (f:Int) (x:ByteArray) (w:World) (h:SchemaAt w S vf vt vn vs s) (hx:x.size≤9223372036854775000) :
  Calls prog 138 #[.agg #[vf,vt,vn,vs],.int .i64 f,.string x] w (GramsIs (zfq s f x.data.toList) w):=by
 have HS:=zjp h.any;have HL:=zjp (Lib.toList_data x);clear h;have K:=find_s zav vf vt vn vs s f (w.alloc (.cells #[vf,vt,vn,vs] 33)) (HS.out.below ((Below.refl _ _).alloc xnl _));have hkk:=zed (s:=s) (f:=f);have hval:zfq s f x.data.toList = if (zbm s f).2 = 0 then (if zaq s f x.data.toList = true then (zf7 (zbm s f).1 x.data.toList,0) else ([],7)) else ([],(zbm s f).2):=rfl
 have hown:(zbm s f).2 = 0→x.data.toList≠[]→zaq s f x.data.toList = ownK (zbm s f).1 s.rules x.data.toList:=fun h0 h1=>by unfold zaq; rw [if_pos h0,if_neg h1]
 obtain ⟨⟨kd,er⟩,hp⟩:∃ p,zbm s f = p:=⟨_,rfl⟩;rw [hp] at K hkk hval hown;dsimp only at hkk hval hown;change Calls _ _ _ _ fun e w'=>e = .returned (.tuple #[.agg (zbp kd),.int .i64 er])∧_ at K
 have HK:=zjp K;have HVal:=zjp hval; have HOwn:=zjp hown;obtain ⟨ko,ks⟩:=kindAt_one kd;have KO:=zjp ko; have KS:=zjp ks;clear K hp hval ko ks hown;by_cases he:er = 0
 ·subst he
  have hkd:=hkk rfl;clear hkk;cases hno:zaq s f x.data.toList
  ·have HE:=zjp (show zfq s f x.data.toList = ([],7) by rw [HVal.out,if_pos rfl,hno,if_neg (by simp)])
   have HN:=zjp hno;clear hno hkd;rw [HE.out];go_enter func138,ntmps138
   go_wp2_with fail
   refine HK.out.mono ?_;rintro e w1 ⟨rfl,hb1⟩;have HB1:=zjp (xbt hb1);have HX1:=zjp (xbn hb1);clear hb1 HK;have z0:=zaa HX1.out;obtain ⟨p0,p1,p2,p3⟩:=zbq HX1.out;go_wp2_with (refine wpList_store_row rfl 188 (.tmp 8) (.tmp 14) rfl w1.heap.size (zbp kd) rfl rfl 188 ze8 (heap_alloc_new w1 _) (by rw [KS.out]; kernel_rfl) (by rw [KS.out]; rfl) KO.out ?_; rw [World.setRow_alloc_new])
   have HB2:=zjp (HB1.out.alloc HB1.out.size (.cells (zbp kd) 188));refine (zgv zav vf vt vn vs s f x _ (HS.out.below HB2.out) hx).mono ?_;rw [HN.out];rintro e w3 ⟨rfl,hb3⟩;have HB3:=zjp (HB2.out.trans (hb3.mono HB2.out.size));clear hb3 p0 p1 p2 p3;go_wp2_with fail
   go_ret2;exact ⟨_,rfl,Vec.nil _ _ _ _,HB3.out⟩
  ·by_cases hx0:x.data.toList = []
   ·have e1:x.toList = []:=by rw [HL.out,hx0]
    have HE:=zjp (show zfq s f x.data.toList = ([],0) by rw [HVal.out,if_pos rfl,hno,if_pos rfl]; unfold zf7; rw [if_pos hx0]);have HN:=zjp hno;clear hno hkd hx0;rw [HE.out];go_enter func138,ntmps138
    go_wp2_with fail
    refine HK.out.mono ?_;rintro e w1 ⟨rfl,hb1⟩;have HB1:=zjp (xbt hb1);have HX1:=zjp (xbn hb1);clear hb1 HK;have z0:=zaa HX1.out;obtain ⟨p0,p1,p2,p3⟩:=zbq HX1.out;go_wp2_with (refine wpList_store_row rfl 188 (.tmp 8) (.tmp 14) rfl w1.heap.size (zbp kd) rfl rfl 188 ze8 (heap_alloc_new w1 _) (by rw [KS.out]; kernel_rfl) (by rw [KS.out]; rfl) KO.out ?_; rw [World.setRow_alloc_new])
    have HB2:=zjp (HB1.out.alloc HB1.out.size (.cells (zbp kd) 188));refine (zgv zav vf vt vn vs s f x _ (HS.out.below HB2.out) hx).mono ?_;rw [HN.out];rintro e w3 ⟨rfl,hb3⟩;have HB3:=zjp (HB2.out.trans (hb3.mono HB2.out.size));clear hb3 p0 p1 p2 p3;go_wp2_with fail
    go_ret2;exact ⟨_,rfl,Vec.nil _ _ _ _,HB3.out⟩
   ·have e1:(x.toList == []) = false:=by rw [HL.out]; simpa using hx0
    have e2:x.toList.isEmpty = false:=by rw [HL.out]; simpa using hx0
    have ho:=HOwn.out rfl hx0;rw [hno] at ho;obtain ⟨g1,g2,g3⟩:=zi5 ho.symm hkd;have hl:x.data.toList.length = x.size:=by simp
    rw [hl] at g1 g3;have HG2:=zjp g2;have HE:=zjp (show zfq s f x.data.toList = (zf7 kd x.data.toList,0) by rw [HVal.out,if_pos rfl,hno,if_pos rfl]);have HGK:=zjp (show zf7 kd x.data.toList = if kd = 2 then posL 0 x.data.toList else if kd = 3 then [61 :: x.data.toList] else zfa x.data.toList by unfold zf7; rw [if_neg hx0]);have HN:=zjp hno;clear hno hx0 ho hl g2;rw [HE.out,HGK.out]
    rcases hkd with rfl | rfl | rfl | rfl
    ·rw [if_neg (by omega),if_neg (by omega)]
     (first | have HAs:=zjp (HG2.out (by omega)) | skip);clear HG2 HE HGK HOwn HVal;go_enter func138,ntmps138
     go_wp2_with fail
     refine HK.out.mono ?_;rintro e w1 ⟨rfl,hb1⟩;have HB1:=zjp (xbt hb1);have HX1:=zjp (xbn hb1);clear hb1 HK;have z0:=zaa HX1.out;obtain ⟨p0,p1,p2,p3⟩:=zbq HX1.out;go_wp2_with (refine wpList_store_row rfl 188 (.tmp 8) (.tmp 14) rfl w1.heap.size (zbp 1) rfl rfl 188 ze8 (heap_alloc_new w1 _) (by rw [KS.out]; kernel_rfl) (by rw [KS.out]; rfl) KO.out ?_; rw [World.setRow_alloc_new])
     have HB2:=zjp (HB1.out.alloc HB1.out.size (.cells (zbp 1) 188));refine (zgv zav vf vt vn vs s f x _ (HS.out.below HB2.out) hx).mono ?_;rw [HN.out];rintro e w3 ⟨rfl,hb3⟩;have HB3:=zjp (HB2.out.trans (hb3.mono HB2.out.size));have HX3:=zjp (zab (b:=w1.heap.size) (o:=.cells (zbp 1) 188 (0,0)) hb3 (by simp) (zac rfl));have cf:w3.cell? ⟨w1.heap.size,3,none⟩ = some (fnV 207):=by rw [cell_of_row _ _ _ _ _ _ HX3.out]; rfl
     clear hb3 p0 p1 p2 p3;go_wp2_with fail
     refine (ggrams_any x _ g1 HAs.out).mono ?_;rintro e w4 ⟨v,rfl,ho⟩;have HO:=zjp ho; clear ho;go_wp2_with fail
     go_ret2;exact ⟨v,rfl,HO.out.1,HB3.out.trans ((HO.out.2).mono HB3.out.size)⟩
    ·rw [if_pos rfl]
     have g4:x.size≤26:=by have:=g3 rfl; omega
     (first | have HAs:=zjp (HG2.out (by omega)) | skip);clear HG2 HE HGK HOwn HVal;go_enter func138,ntmps138
     go_wp2_with fail
     refine HK.out.mono ?_;rintro e w1 ⟨rfl,hb1⟩;have HB1:=zjp (xbt hb1);have HX1:=zjp (xbn hb1);clear hb1 HK;have z0:=zaa HX1.out;obtain ⟨p0,p1,p2,p3⟩:=zbq HX1.out;go_wp2_with (refine wpList_store_row rfl 188 (.tmp 8) (.tmp 14) rfl w1.heap.size (zbp 2) rfl rfl 188 ze8 (heap_alloc_new w1 _) (by rw [KS.out]; kernel_rfl) (by rw [KS.out]; rfl) KO.out ?_; rw [World.setRow_alloc_new])
     have HB2:=zjp (HB1.out.alloc HB1.out.size (.cells (zbp 2) 188));refine (zgv zav vf vt vn vs s f x _ (HS.out.below HB2.out) hx).mono ?_;rw [HN.out];rintro e w3 ⟨rfl,hb3⟩;have HB3:=zjp (HB2.out.trans (hb3.mono HB2.out.size));have HX3:=zjp (zab (b:=w1.heap.size) (o:=.cells (zbp 2) 188 (0,0)) hb3 (by simp) (zac rfl));have cf:w3.cell? ⟨w1.heap.size,3,none⟩ = some (fnV 211):=by rw [cell_of_row _ _ _ _ _ _ HX3.out]; rfl
     clear hb3 p0 p1 p2 p3;go_wp2_with fail
     refine (positional_any x _ (by omega)).mono ?_;rintro e w4 ⟨v,rfl,ho⟩;have HO:=zjp ho; clear ho;go_wp2_with fail
     go_ret2;exact ⟨v,rfl,Vec.owns (k:=1) (enc:=zba) (fun _=>rfl) HO.out.1 (fun _ _ _=>trivial),HB3.out.trans ((HO.out.2).mono HB3.out.size)⟩
    ·rw [if_neg (by omega),if_pos rfl]
     (first | have HAs:=zjp (HG2.out (by omega)) | skip);clear HG2 HE HGK HOwn HVal;go_enter func138,ntmps138
     go_wp2_with fail
     refine HK.out.mono ?_;rintro e w1 ⟨rfl,hb1⟩;have HB1:=zjp (xbt hb1);have HX1:=zjp (xbn hb1);clear hb1 HK;have z0:=zaa HX1.out;obtain ⟨p0,p1,p2,p3⟩:=zbq HX1.out;go_wp2_with (refine wpList_store_row rfl 188 (.tmp 8) (.tmp 14) rfl w1.heap.size (zbp 3) rfl rfl 188 ze8 (heap_alloc_new w1 _) (by rw [KS.out]; kernel_rfl) (by rw [KS.out]; rfl) KO.out ?_; rw [World.setRow_alloc_new])
     have HB2:=zjp (HB1.out.alloc HB1.out.size (.cells (zbp 3) 188));refine (zgv zav vf vt vn vs s f x _ (HS.out.below HB2.out) hx).mono ?_;rw [HN.out];rintro e w3 ⟨rfl,hb3⟩;have HB3:=zjp (HB2.out.trans (hb3.mono HB2.out.size));have HX3:=zjp (zab (b:=w1.heap.size) (o:=.cells (zbp 3) 188 (0,0)) hb3 (by simp) (zac rfl));have cf:w3.cell? ⟨w1.heap.size,3,none⟩ = some (fnV 216):=by rw [cell_of_row _ _ _ _ _ _ HX3.out]; rfl
     clear hb3 p0 p1 p2 p3;go_wp2_with fail
     refine (kind4_any x _ (by omega)).mono ?_;rintro e w4 ⟨v,rfl,ho⟩;have HO:=zjp ho; clear ho;go_wp2_with fail
     go_ret2;exact ⟨v,rfl,HO.out.1,HB3.out.trans ((HO.out.2).mono HB3.out.size)⟩
    ·rw [if_neg (by omega),if_neg (by omega)]
     (first | have HAs:=zjp (HG2.out (by omega)) | skip);clear HG2 HE HGK HOwn HVal;go_enter func138,ntmps138
     go_wp2_with fail
     refine HK.out.mono ?_;rintro e w1 ⟨rfl,hb1⟩;have HB1:=zjp (xbt hb1);have HX1:=zjp (xbn hb1);clear hb1 HK;have z0:=zaa HX1.out;obtain ⟨p0,p1,p2,p3⟩:=zbq HX1.out;go_wp2_with (refine wpList_store_row rfl 188 (.tmp 8) (.tmp 14) rfl w1.heap.size (zbp 4) rfl rfl 188 ze8 (heap_alloc_new w1 _) (by rw [KS.out]; kernel_rfl) (by rw [KS.out]; rfl) KO.out ?_; rw [World.setRow_alloc_new])
     have HB2:=zjp (HB1.out.alloc HB1.out.size (.cells (zbp 4) 188));refine (zgv zav vf vt vn vs s f x _ (HS.out.below HB2.out) hx).mono ?_;rw [HN.out];rintro e w3 ⟨rfl,hb3⟩;have HB3:=zjp (HB2.out.trans (hb3.mono HB2.out.size));have HX3:=zjp (zab (b:=w1.heap.size) (o:=.cells (zbp 4) 188 (0,0)) hb3 (by simp) (zac rfl));have cf:w3.cell? ⟨w1.heap.size,3,none⟩ = some (fnV 207):=by rw [cell_of_row _ _ _ _ _ _ HX3.out]; rfl
     clear hb3 p0 p1 p2 p3;go_wp2_with fail
     refine (ggrams_any x _ g1 HAs.out).mono ?_;rintro e w4 ⟨v,rfl,ho⟩;have HO:=zjp ho; clear ho;go_wp2_with fail
     go_ret2;exact ⟨v,rfl,HO.out.1,HB3.out.trans ((HO.out.2).mono HB3.out.size)⟩
 ·have hne:(er != 0) = true:=by simpa using he
  have HE:=zjp (show zfq s f x.data.toList = ([],er) by rw [HVal.out,if_neg he]);clear he hkk;rw [HE.out];go_enter func138,ntmps138
  go_wp2_with fail
  refine HK.out.mono ?_;rintro e w1 ⟨rfl,hb1⟩;have HB1:=zjp (xbt hb1);clear hb1 HK;go_wp2_with (refine wpList_store_row rfl 188 (.tmp 8) (.tmp 14) rfl w1.heap.size (zbp kd) rfl rfl 188 ze8 (heap_alloc_new w1 _) (by rw [KS.out]; kernel_rfl) (by rw [KS.out]; rfl) KO.out ?_; rw [World.setRow_alloc_new])
  go_ret2;exact ⟨_,rfl,Vec.nil _ _ _ _,HB1.out.alloc HB1.out.size _⟩
end
section
open Go.RowKit
structure RecL where
 id:Int
 ver:Int
 vals:List (List UInt8)
def noRec:RecL:=⟨0,0,[]⟩
def zbl (i v:Int):Bool:=decide (1≤i) && decide (i≤1048576) && decide (1≤v) && decide (v≤1048576)
def ze5 (s:SchemaL):Nat→List (List UInt8)→Bool
 | _,[]=>true
 | i,x :: l=>zaq s i x && ze5 s (i + 1) l
def zer (s:SchemaL) (r:RecL):Int:=if (zbl r.id r.ver && (r.vals.length == s.fields.length) && ze5 s 0 r.vals) = true then 0 else 7
def zdj (s:SchemaL) (r:RecL):Int:=if zax s = 0 then zer s r else zax s
def zeu (s:SchemaL):Nat→List (List UInt8)→List (List UInt8)→List (List UInt8) × Int
 | _,C,[]=>(C,0)
 | i,C,x :: l=>if (zco s i x).2 = 0 then zeu s (i + 1) (C ++ [(zco s i x).1]) l else ([],(zco s i x).2)
def makeN (s:SchemaL) (id ver:Int) (raws:List (List UInt8)):RecL × Int :=
 if zax s = 0 then
  if raws.length = s.fields.length then
   if zbl id ver = true then (if (zeu s 0 [] raws).2 = 0 then (⟨id,ver,(zeu s 0 [] raws).1⟩,0) else (noRec,(zeu s 0 [] raws).2))
   else (noRec,7)
  else (noRec,8)
 else (noRec,zax s)
theorem makeA_len (s:SchemaL) (raws:List (List UInt8)):∀ i C,(zeu s i C raws).2 = 0→(zeu s i C raws).1.length = C.length + raws.length:=by
 induction raws with
 | nil=>intro i C _; simp [zeu]
 | cons x l ih =>
  intro i C h;unfold zeu at h ⊢;split at h
  ·rename_i h0
   rw [if_pos h0,ih _ _ h]; simp; omega
  ·rename_i h0
   exact absurd h h0
theorem normA_append (s:SchemaL) (A B:List (List UInt8)):∀ i,ze5 s i (A ++ B) = (ze5 s i A && ze5 s (i + A.length) B):=by
 induction A with
 | nil=>intro i; simp [ze5]
 | cons x A ih=>intro i; simp only [List.cons_append,ze5,ih,List.length_cons,Bool.and_assoc]; rw [show i + 1 + A.length = i + (A.length + 1) by omega]
theorem zhf (s:SchemaL) (L:List (List UInt8)):∀ i,ze5 s i L = true→∀ j,j < L.length→zaq s (i + j:Nat) (L.getD j []) = true:=by
 induction L with
 | nil=>intro i _ j hj; simp at hj
 | cons x L ih =>
  intro i h j hj;simp only [ze5,Bool.and_eq_true] at h;cases j with
  | zero=>simpa using h.1
  | succ j =>
   have:=ih (i + 1) h.2 j (by simpa using hj);rw [show i + (j + 1) = i + 1 + j by omega];simpa using this
theorem normA_of (s:SchemaL) (L:List (List UInt8)):∀ i,(∀ j,j < L.length→zaq s (i + j:Nat) (L.getD j []) = true)→ze5 s i L = true:=by
 induction L with
 | nil=>intro i _; rfl
 | cons x L ih =>
  intro i h;simp only [ze5,Bool.and_eq_true]
  refine ⟨by simpa using h 0 (by simp),ih (i + 1) fun j hj=>?_⟩
  have:=h (j + 1) (by simpa using hj);rw [show i + (j + 1) = i + 1 + j by omega] at this;simpa using this
theorem makeA_norm (s:SchemaL) (raws:List (List UInt8)):∀ i C,(zeu s i C raws).2 = 0→i = C.length→ze5 s 0 C = true→ze5 s 0 (zeu s i C raws).1 = true:=by
 induction raws with
 | nil=>intro i C _ _ h; simpa [zeu] using h
 | cons x l ih =>
  intro i C h hi hC;unfold zeu at h ⊢;split at h
  ·rename_i h0
   rw [if_pos h0];refine ih _ _ h (by simp; omega) ?_;rw [normA_append,hC,Bool.true_and,Nat.zero_add];obtain ⟨⟨v,e⟩,hp⟩:∃ p,zco s i x = p:=⟨_,rfl⟩;rw [hp] at h0 ⊢;dsimp only at h0;subst h0;simp only [ze5,Bool.and_true];rw [← hi];exact (value_normal hp).1
  ·rename_i h0
   exact absurd h h0
theorem makeN_ok {s:SchemaL} {id ver:Int} {raws:List (List UInt8)} {r:RecL} (h:makeN s id ver raws = (r,0)) :
  zax s = 0∧r.id = id∧r.ver = ver∧zbl id ver = true∧r.vals.length = s.fields.length∧raws.length = s.fields.length∧ze5 s 0 r.vals = true∧r.vals = (zeu s 0 [] raws).1∧(zeu s 0 [] raws).2 = 0:=by
 unfold makeN at h;split at h
 ·rename_i h1
  split at h
  ·rename_i h2
   split at h
   ·rename_i h3
    split at h
    ·rename_i h4
     obtain rfl:RecL.mk id ver (zeu s 0 [] raws).1 = r:=congrArg Prod.fst h;exact ⟨h1,rfl,rfl,h3,by simpa [h2] using makeA_len s raws 0 [] h4,h2,makeA_norm s raws 0 [] h4 rfl rfl,rfl,h4⟩
    ·rename_i h4
     exact absurd (congrArg Prod.snd h) h4
   ·exact absurd (congrArg Prod.snd h) (show (7:Int)≠0 by decide)
  ·exact absurd (congrArg Prod.snd h) (show (8:Int)≠0 by decide)
 ·rename_i h1
  exact absurd (congrArg Prod.snd h) h1
theorem checkN_of {s:SchemaL} {r:RecL} (h0:zax s = 0) (h1:zbl r.id r.ver = true) (h2:r.vals.length = s.fields.length) (h3:ze5 s 0 r.vals = true):zdj s r = 0:=by
 unfold zdj zer;rw [if_pos h0,h1,h3,h2]; simp
theorem zgp {s:SchemaL} {r:RecL} (h:zdj s r = 0):zax s = 0∧zbl r.id r.ver = true∧r.vals.length = s.fields.length∧ze5 s 0 r.vals = true:=by
 unfold zdj at h;split at h
 ·rename_i h0
  unfold zer at h;split at h
  ·rename_i h1
   simp only [Bool.and_eq_true,beq_iff_eq] at h1;exact ⟨h0,h1.1.1,h1.1.2,h1.2⟩
  ·exact absurd h (by decide)
 ·rename_i h0; exact absurd h h0
theorem normalB_nil {s:SchemaL} {f:Int} (h:(zbm s f).2 = 0):zaq s f [] = true:=by
 unfold zaq; rw [if_pos h,if_pos rfl]
theorem none_norm {s:SchemaL} (h:zax s = 0):ze5 s 0 (List.replicate s.fields.length []) = true:=by
 refine normA_of _ _ _ fun j hj=>?_
 rw [List.length_replicate] at hj;have e:(List.replicate s.fields.length ([]:List UInt8)).getD j [] = []:=by simp [List.getD,List.getElem?_replicate]; split <;> rfl
 rw [e];refine normalB_nil ?_;rw [zjd h (by simpa using hj)]
end
section
open Go.RowKit
structure BitsL where
 len:Int
 words:List Int
def zbg:BitsL:=⟨0,[]⟩
structure ParL where
 len:Int
 hashes:Int
 salt:Int
instance:Inhabited ParL:=⟨⟨0,0,0⟩⟩
structure EncL where
 id:Int
 ver:Int
 fields:List BitsL
def zc6 (n:Int):Bool:=decide (64≤n) && decide (n≤512) && (n % 64 == 0)
def zdk (p:ParL):Bool:=zc6 p.len && decide (1≤p.hashes) && decide (p.hashes≤16) && decide (-1≤p.salt) && decide (p.salt < 5)
def posN (len y:Int):Nat→Int→List Int
 | 0,_=>[]
 | n + 1,x=>x :: posN len y n ((x + y) % len)
def zgm (p:ParL) (k:Int × Int) (g:List UInt8):Int:=(zde k.1 k.2 [[49],g]) % p.len
def zh4 (p:ParL) (k:Int × Int) (g:List UInt8):Int:=1 + (zde k.1 k.2 [[50],g]) % (p.len - 1)
def zbt (p:ParL) (k:Int × Int) (g:List UInt8):List Int:=posN p.len (zh4 p k g) p.hashes.toNat (zgm p k g)
def zfy (ws:List Int) (i:Int):List Int:=ws.set (i / 64).toNat (bits .or .u64 (ws.getD (i / 64).toNat 0) (IntKind.u64.wrap (2 ^ (i % 64).toNat)))
def zek (p:ParL) (k:Int × Int) (ws:List Int) (g:List UInt8):List Int:=(zbt p k g).foldl zfy ws
def ze1 (n:Int):List Int:=List.replicate (n / 64).toNat 0
def zg3 (p:ParL) (k:Int × Int) (G:List (List UInt8)):BitsL × Int :=
 if zdk p = true then (if G.length≤80 then (⟨p.len,G.foldl (zek p k) (ze1 p.len)⟩,0) else (zbg,1)) else (zbg,10)
structure ParOk (p:ParL):Prop where
 len1:64≤p.len
 len2:p.len≤512
 len3:p.len % 64 = 0
 h1:1≤p.hashes
 h2:p.hashes≤16
 s1:-1≤p.salt
 s2:p.salt < 5
theorem ParOk.right {p:ParL} (h:ParOk p):zc6 p.len = true:=by
 have h1:=h.len1; have h2:=h.len2; have h3:=h.len3;simp [zc6,h1,h2,h3]
theorem ParOk.bloom {p:ParL} (h:ParOk p):zdk p = true:=by
 have h0:=h.right; have h1:=h.h1; have h2:=h.h2; have h3:=h.s1; have h4:=h.s2;simp [zdk,h0,h1,h2,h3,h4]
theorem orBit_len (ws:List Int) (i:Int):(zfy ws i).length = ws.length:=by simp [zfy]
theorem orBits_len (l:List Int):∀ ws:List Int,(l.foldl zfy ws).length = ws.length:=by
 induction l with
 | nil=>intro ws; rfl
 | cons x l ih=>intro ws; rw [List.foldl_cons,ih,orBit_len]
theorem orGrams_len (p:ParL) (k:Int × Int) (G:List (List UInt8)):∀ ws:List Int,(G.foldl (zek p k) ws).length = ws.length:=by
 induction G with
 | nil=>intro ws; rfl
 | cons x l ih=>intro ws; rw [List.foldl_cons,ih]; exact orBits_len _ _
def zdp (t:List UInt8):List UInt8:=[102,105,101,108,100] ++ t
def zeh (t:List UInt8):List UInt8:=[115,97,108,116,61] ++ t
def keyN (k:Int × Int) (num:List UInt8) (salted:Bool) (salt:List UInt8):Int × Int :=
 let x:=zeo k.1 k.2 (zdp num)
 bif salted then zeo x.1 x.2 (zeh salt) else x
def saltOf (p:ParL) (vals:List (List UInt8)):List UInt8:=if 0≤p.salt then vals.getD p.salt.toNat [] else []
def zdh (s:SchemaL) (p:ParL) (k:Int × Int) (vals:List (List UInt8)) (i:Nat):BitsL :=
 if vals.getD i [] = [] then zbg else (zg3 p (keyN k (Lib.decDigits i) (decide (0≤p.salt)) (saltOf p vals)) (zfq s i (vals.getD i [])).1).1
theorem bigrams_two:∀ (l:List UInt8),∀ x∈bigrA l,x.length = 2
 | [],x,h=>by simp [bigrA] at h
 | [a],x,h=>by simp [bigrA] at h
 | a :: b :: l,x,h=>by
  simp only [bigrA,List.mem_cons] at h
  rcases h with rfl | h
  ·rfl
  ·exact bigrams_two (b :: l) x h
theorem posL_two:∀ (l:List UInt8) (j:Nat),∀ x∈posL j l,x.length = 2
 | [],j,x,h=>by simp [posL] at h
 | c :: l,j,x,h=>by
  simp only [posL,List.mem_cons] at h
  rcases h with rfl | h
  ·rfl
  ·exact posL_two l (j + 1) x h
theorem gramsL_two (l:List UInt8):∀ x∈zfa l,x.length = 2:=by
 intro x h;unfold zfa at h;rw [set_mem] at h;unfold zbh at h;obtain ⟨t,_,ht⟩:=List.mem_flatMap.1 h;exact bigrams_two _ _ ht
theorem zjb {s:SchemaL} {i:Int} {l:List UInt8} (h:zaq s i l = true) (hi:(zbm s i).2 = 0):(zfq s i l).2 = 0∧(zfq s i l).1.length≤80∧(∀ g∈(zfq s i l).1,g.length≤100)∧l.length≤64:=by
 unfold zfq;rw [if_pos hi,if_pos h];by_cases h0:l = []
 ·subst h0; simp [zf7]
 ·have ho:ownK (zbm s i).1 s.rules l = true:=by unfold zaq at h; rw [if_pos hi,if_neg h0] at h; exact h
  obtain ⟨g1,g2,g3⟩:=zi5 ho (zed hi);refine ⟨rfl,?_,?_,g1⟩
  ·unfold zf7
   rw [if_neg h0];split
   ·rw [zi1]; omega
   ·split
    ·simp
    ·have:=grams_bound g1; show (zfa l).length≤80; omega
  ·unfold zf7
   rw [if_neg h0];split
   ·intro g hg; rw [posL_two _ _ g hg]; omega
   ·split
    ·intro g hg; simp at hg; subst hg; simp; omega
    ·intro g hg; rw [gramsL_two _ g hg]; omega
end
section
open Go.RowKit
theorem zil (op:BinOp) (x y:Int):0≤bits op .u64 x y∧bits op .u64 x y < 18446744073709551616:=by
 have:∃ e,bits op .u64 x y = IntKind.u64.wrap e:=by unfold bits; exact ⟨_,rfl⟩
 obtain ⟨e,he⟩:=this;rw [he];simp only [IntKind.wrap,IntKind.bits,IntKind.signed];simp;omega
theorem zdo (w:World) (r:Option Nat):w.grownBy w r:=⟨rfl,rfl,rfl,Nat.le_refl _,fun _ _ _=>rfl⟩
theorem zcm {w w1 w2:World} {r:Option Nat} (h:w.grownBy w1 r) (h':w1.grownBy w2 r):w.grownBy w2 r :=
 ⟨h'.os.trans h.os,h'.tape.trans h.tape,h'.output.trans h.output,Nat.le_trans h.size h'.size,fun k hk hr=>(h'.block k (Nat.lt_of_lt_of_le hk h.size) hr).trans (h.block k hk hr)⟩
theorem zfp {w w1:World} {r:Option Nat} (h:w.grownBy w1 r) (n:Nat):w.grownBy (w1.drewN n) r:=⟨h.os,h.tape,h.output,h.size,h.block⟩
theorem zcw {w w1:World} {D i:Nat} {v:Value} (h:w.grownBy w1 (some D)):w.grownBy (w1.setCell ⟨D,i,none⟩ v) (some D) :=
 zcm h ⟨rfl,rfl,rfl,by simp [World.setCell],fun k hk hr=>heap_setCell_other _ _ _ _ (fun e=>hr (by rw [e]))⟩
theorem zgx {w w1:World} {r:Option Nat} (h:Below w.heap.size w w1):w.grownBy w1 r:=⟨h.os,h.tape,h.output,h.size,fun k hk _=>h.block k hk⟩
theorem grown_blk {w w1:World} {D k:Nat} {o:Obj} (h:w.grownBy w1 (some D)) (ho:w.heap[k]? = some o) (hk:k≠D):w1.heap[k]? = some o:=by
 have hlt:k < w.heap.size:=by
  rcases Nat.lt_or_ge k w.heap.size with h' | h'
  ·exact h'
  ·simp [Array.getElem?_eq_none h'] at ho
 rw [h.block k hlt (by simpa using hk)]; exact ho
def ListAt (w:World) (D:Nat) (s:Value) (n:Nat):Prop :=
 ∃ a cap,s = .slice a n cap∧n≤400∧(0 < n→∃ b off,a = some ⟨b,off,none⟩∧b < D∧∀ i,i < n→∃ x:Int,w.cell? ⟨b,off + i,none⟩ = some (.int .i64 x))
theorem ListAt.same {w w1:World} {D n:Nat} {s:Value} (h:ListAt w D s n) (hg:∀ k,k < D→w1.heap[k]? = w.heap[k]?):ListAt w1 D s n:=by
 obtain ⟨a,cap,h1,h2,h3⟩:=h
 refine ⟨a,cap,h1,h2,fun hn=>?_⟩
 obtain ⟨b,off,h4,h5,h7⟩:=h3 hn
 refine ⟨b,off,h4,h5,fun i hi=>?_⟩
 obtain ⟨x,hx⟩:=h7 i hi;exact ⟨x,(World.cell?_of_block (w:=w) (a:=⟨b,off + i,none⟩) (hg b h5)).trans hx⟩
def DeckAt (w:World) (D:Nat):Prop :=
 ∃ (s:Value) (n:Nat) (t st:Int),w.heap[D]? = some (.cells #[s,.int .i64 t,.int .u64 st] 81 (0,0))∧ListAt w D s n∧0≤t∧t≤n
theorem DeckAt.lt {w:World} {D:Nat} (h:DeckAt w D):D < w.heap.size:=by
 obtain ⟨s,n,t,st,h,_⟩:=h;exact (Array.getElem?_eq_some_iff.1 h).1
theorem DeckAt.same {w w1:World} {D:Nat} (h:DeckAt w D) (hg:∀ k,k≤D→w1.heap[k]? = w.heap[k]?):DeckAt w1 D:=by
 obtain ⟨s,n,t,st,h1,h2,h3⟩:=h;exact ⟨s,n,t,st,(hg D xnl).trans h1,h2.same fun k hk=>hg k (Nat.le_of_lt hk),h3⟩
theorem DeckAt.below {w w1:World} {D:Nat} (h:DeckAt w D) (hb:Below w.heap.size w w1):DeckAt w1 D:=by
 have hlt:=h.lt;exact h.same fun k hk=>hb.block k (by omega)
structure Moved (D:Nat) (w w':World):Prop where
 grown:w.grownBy w' (some D)
 deck:DeckAt w' D
 lt:D < w.heap.size
theorem Moved.start {D:Nat} {w:World} (h:DeckAt w D):Moved D w w:=⟨zdo _ _,h,h.lt⟩
theorem Moved.trans {D:Nat} {w w1 w2:World} (h:Moved D w w1) (h':Moved D w1 w2):Moved D w w2:=⟨zcm h.grown h'.grown,h'.deck,h.lt⟩
theorem Moved.below {D:Nat} {w w1 w2:World} (h:Moved D w w1) (hb:Below w1.heap.size w1 w2):Moved D w w2:=⟨zcm h.grown (zgx hb),h.deck.below hb,h.lt⟩
theorem Moved.alloc {D:Nat} {w w1:World} (h:Moved D w w1) (o:Obj):Moved D w (w1.alloc o):=h.below ((Below.refl _ _).alloc xnl _)
theorem Moved.drew {D:Nat} {w w1:World} (h:Moved D w w1):Moved D w w1.drew:=h.below (Below.refl _ _).drew
theorem Moved.set {D:Nat} {w w1:World} (h:Moved D w w1) {a:Addr} (ha:w.heap.size≤a.block) (v:Value):Moved D w (w1.setCell a v):=by
 have:=h.lt
 refine ⟨⟨h.grown.os,h.grown.tape,h.grown.output,by simpa [World.setCell] using h.grown.size,fun k hk hr=>?_⟩,h.deck.same fun k hk=>heap_setCell_other _ _ _ _ (by omega),this⟩
 rw [heap_setCell_other _ _ _ _ (by omega)]; exact h.grown.block k hk hr
theorem Moved.blk {D k:Nat} {w w1:World} {o:Obj} (h:Moved D w w1) (hk:k≠D) (ho:w.heap[k]? = some o):w1.heap[k]? = some o:=grown_blk h.grown ho hk
theorem Moved.size {D:Nat} {w w1:World} (h:Moved D w w1):w.heap.size≤w1.heap.size:=h.grown.size
theorem Moved.base {D B:Nat} {w0 w w1:World} (h:Moved D w w1) (hb:Below B w0 w) (hB:B≤D):Below B w0 w1 :=
 hb.trans ⟨h.grown.os,h.grown.tape,h.grown.output,h.grown.size,fun k hk=>h.grown.block k (by have:=h.lt; omega) (by simp; omega)⟩
def WordPost (D:Nat) (w:World) (e:Ending) (w':World):Prop :=
 ∃ r:Int,e = .returned (.int .u64 r)∧0≤r∧r < 18446744073709551616∧Moved D w w'
theorem word_done {D n:Nat} {w w':World} {s:Value} {r t st:Int} (hL:ListAt w D s n) (hg:w.grownBy w' (some D)) (hD:w'.heap[D]? = some (.cells #[s,.int .i64 t,.int .u64 st] 81 (0,0)))
  (hlt:D < w.heap.size) (h0:0≤t) (h1:t≤n) (hr:0≤r∧r < 18446744073709551616):WordPost D w (.returned (.int .u64 r)) w' :=
 ⟨r,rfl,hr.1,hr.2,hg,⟨s,n,t,st,hD,hL.same fun k hk=>hg.block k (by omega) (by simp; omega),h0,h1⟩,hlt⟩
theorem word_more (D:Nat) (w:World) (b off n cap:Nat) (t st x:Int) (hD:w.heap[D]? = some (.cells #[.slice (some ⟨b,off,none⟩) n cap,.int .i64 t,.int .u64 st] 81 (0,0)))
  (hL:ListAt w D (.slice (some ⟨b,off,none⟩) n cap) n) (hn:n≤400) (h0:0≤t) (h1:t < n) (hb:b < D) (hx:w.cell? ⟨b,off + t.toNat,none⟩ = some (.int .i64 x)) :
  Calls prog 36 #[.pointer (some ⟨D,0,none⟩)] w (WordPost D w):=by
 obtain ⟨p0,p1,p2⟩:=zao hD;obtain ⟨f0,f1,f2⟩:=free3 hD;obtain ⟨t,rfl⟩:=Int.eq_ofNat_of_zero_le h0;rw [Int.toNat_natCast] at hx;have hlt:=zaa hD;have HD:=zjp hD; clear hD;go_enter func36,ntmps36
 go_wp2
 go_quiet (fail)
 go_wp2
 go_quiet (fail)
 go_wp2
 go_quiet (fail)
 go_wp2
 go_ret;exact word_done hL (zfp (zcw (zcw (zfp (zdo w _) _))) _) (zad (zad HD.out)) hlt (by omega) (by omega) (zil _ _ _)
theorem word_end (D:Nat) (w:World) (a:Option Addr) (n cap:Nat) (t st:Int) (hD:w.heap[D]? = some (.cells #[.slice a n cap,.int .i64 t,.int .u64 st] 81 (0,0)))
  (hL:ListAt w D (.slice a n cap) n) (hn:n≤400) (h0:0≤t) (h1:t = n) :
  Calls prog 36 #[.pointer (some ⟨D,0,none⟩)] w (WordPost D w):=by
 subst h1;obtain ⟨p0,p1,p2⟩:=zao hD;obtain ⟨f0,f1,f2⟩:=free3 hD;have hlt:=zaa hD;have HD:=zjp hD; clear hD;go_enter func36,ntmps36
 go_wp2
 go_quiet (fail)
 go_wp2
 go_quiet (fail)
 go_wp2
 go_ret;exact word_done hL (zfp (zcw (zfp (zdo w _) _)) _) (zad HD.out) hlt (by omega) (by omega) (zil _ _ _)
theorem word_any (D:Nat) (w:World) (h:DeckAt w D) :
  Calls prog 36 #[.pointer (some ⟨D,0,none⟩)] w (WordPost D w):=by
 obtain ⟨s,n,t,st,hD,hL,h0,h1⟩:=h;have hL':=hL;obtain ⟨a,cap,rfl,hn,h2⟩:=hL;by_cases ht:t = n
 ·exact word_end D w a n cap t st hD hL' hn h0 ht
 ·have ht':t < n:=by clear h2 hL'; omega
  obtain ⟨b,off,rfl,hb,hc⟩:=h2 (by clear h2 hL'; omega);obtain ⟨x,hx⟩:=hc t.toNat (by clear hc h2 hL'; omega);exact word_more D w b off n cap t st x hD hL' hn h0 ht' hb hx
theorem next_val {r k:Int} (h0:0≤r) (h1:r < 18446744073709551616) (hk:1≤k):0≤(wrap64 (r / 2)).tmod k∧(wrap64 (r / 2)).tmod k < k:=by
 have e:wrap64 (r / 2) = r / 2:=IntWalk.wrap64_in (r / 2) (by constructor <;> omega);have h2:0≤r / 2:=by omega
 rw [e,Int.tmod_eq_emod_of_nonneg h2];exact ⟨Int.emod_nonneg _ (by omega),Int.emod_lt_of_pos _ (by omega)⟩
def NextPost (D:Nat) (w:World) (k:Int) (e:Ending) (w':World):Prop :=
 ∃ r:Int,e = .returned (.int .i64 r)∧0≤r∧r < k∧Moved D w w'
theorem zc0 (D:Nat) (w:World) (k:Int) (h:DeckAt w D) (hk:1≤k) (hk2:k≤1000000000) :
  Calls prog 25 #[.pointer (some ⟨D,0,none⟩),.int .i64 k] w (NextPost D w k):=by
 go_enter func25,ntmps25
 go_wp2_with fail
 refine (word_any D _ h).mono ?_;rintro e w1 ⟨r,rfl,h0,h1,h2⟩;have H1:=zjp h1; clear h1;have H2:=zjp h2; clear h2;go_wp2_with fail
 go_ret;have hv:=next_val h0 H1.out hk;exact ⟨_,rfl,hv.1,hv.2,H2.out⟩
theorem few_any (a:Option Addr) (n cap:Nat) (w:World) :
  Calls prog 7 #[.slice a n cap] w fun e w'=>e = .returned (.bool (decide (n≤400)))∧w = w':=by
 go_enter func7,ntmps7
 go_wp2
 go_ret;exact ⟨zaw (by simp; omega),rfl⟩
theorem new_any (a:Option Addr) (n cap:Nat) (w:World) :
  Calls prog 8 #[.slice a n cap] w fun e w'=>e = .returned (.pointer (some ⟨w.heap.size,0,none⟩))∧w.alloc (.cells #[.slice a n cap,.int .i64 0,.int .u64 11400714819323198485] 81) = w':=by
 go_enter func8,ntmps8
 go_wp2
 go_ret;exact ⟨rfl,rfl⟩
theorem deck_new {w:World} {a:Option Addr} {n cap:Nat} (hn:n≤400) (h:0 < n→∃ b off,a = some ⟨b,off,none⟩∧b < w.heap.size∧∀ i,i < n→∃ x:Int,w.cell? ⟨b,off + i,none⟩ = some (.int .i64 x)) :
  DeckAt (w.alloc (.cells #[.slice a n cap,.int .i64 0,.int .u64 11400714819323198485] 81)) w.heap.size:=by
 refine ⟨_,n,0,_,zac rfl,⟨a,cap,rfl,hn,fun h0=>?_⟩,by omega,by omega⟩
 obtain ⟨b,off,h1,h2,h3⟩:=h h0
 refine ⟨b,off,h1,h2,fun i hi=>?_⟩
 obtain ⟨x,hx⟩:=h3 i hi;exact ⟨x,(World.cell?_of_block (w:=w) (a:=⟨b,off + i,none⟩) (((Below.refl _ _).alloc xnl _).block b h2)).trans hx⟩
end
end Go.Proofs.YtgkaafncfjlooaaGreatDoor
