/- Parts of one proof: AtkIdx, AtkDelC, AtkAlw, AtkGrow, RefBitsA, RefBitsC, RefBitsD, SortL, AtkSort, AtkCmp, AtkSrt, AtkGrp, AtkMap, AtkHits, AtkAlign, AdmFill, AdmPlain, AdmA, AdmB, AdmC. -/
import Derived.Test.YtgkaafncfjlooaaGreatDoorPartEx5
import Derived.Shelf.SlSortCmp.WholeK
import Derived.Shelf.SlSortCmp.NoneTotal
import Derived.Ground.SlsfProg
set_option maxHeartbeats 16000000
set_option maxRecDepth 100000
open Go.Proofs.Tryz
set_option linter.unusedSimpArgs false
set_option linter.unusedVariables false
namespace Go.Proofs.YtgkaafncfjlooaaGreatDoor
section
open Go.RowKit
def zfd (b:BitsL) (g:GrpL):Bool:=decide (cmpB g.arr b=0)
theorem grpEq_any (S T:Nat->Prop) (x:GV) (bb:Nat) (u:BV) (b:BitsL) (w:World) (hx:Vec w S 1 zc7 (.slice x.wa x.wn x.wc) x.ws) (hn:x.ws.length<=1000000) (hb:w.heap[bb]?=some (.cells (za4 u).toArray 56 (0,0))) (hu:BitsAt w T (.agg (za4 u).toArray) b) :
  Calls prog 99 #[.agg (zf5 x).toArray,.pointer (some ⟨bb,0,none⟩)] w fun e w'=>e = .returned (.bool (zfd b (pG x)))/\Below w.heap.size w w':=by
 obtain ⟨ul,ua,un,uc⟩:=u;obtain ⟨xl,wa,wn,wc,xa,xn,xc,ws,a2⟩:=x;have a1:BitsAt w S (.agg #[.int .i64 xl,.slice wa wn wc]) ⟨xl,ws⟩:=⟨_,rfl,hx⟩;obtain ⟨u0,u1⟩:=zae hb;obtain ⟨r,hr⟩:=xex (cmpB (⟨xl,ws⟩:BitsL) b)
 have hg:zfd b (pG ⟨xl,wa,wn,wc,xa,xn,xc,ws,a2⟩)=(r == 0):=by
  show decide (cmpB ⟨xl,ws⟩ b=0)=_;rw [hr];rfl
 rw [hg];have HR:=zjy hr;have a3:=zjy a1;have HU:=zjy hu;have lb:=zaa hb;dsimp only at u0 u1 hn;clear hr hg a1 hu hx hb;go_enter func99,ntmps99
 go_wp2_with fail
 refine zah (fun W hW=>?_)
 have b1:=xal hW
 clear hW;refine (cmpB_any S T _ _ ⟨xl,ws⟩ b _ (a3.o.below b1) (HU.o.below b1) hn).mono ?_;rw [HR.o];rintro e w1 ⟨rfl,a0⟩;have HB:=zjy (b1.trans (a0.mono b1.size));clear b1 a0;go_wp2_with fail
 go_ret;exact ⟨rfl,HB.o⟩
theorem gidx_any (S T:Nat->Prop) (v:Value) (C:List GV) (bb:Nat) (u:BV) (b:BitsL) (w:World) (h:Vec w S 3 zf5 v C) (hw:∀ x∈C,Vec w S 1 zc7 (.slice x.wa x.wn x.wc) x.ws/\x.ws.length<=1000000) (hb:w.heap[bb]?=some (.cells (za4 u).toArray 56 (0,0))) (hu:BitsAt w T (.agg (za4 u).toArray) b) (hn:C.length<=1000000) :
  Calls prog 98 #[v,.func (.func 99) #[] #[.pointer (some ⟨bb,0,none⟩)]] w fun e w'=>e = .returned (.int .i64 (idxG (fun x=>zfd b (pG x)) 0 C))/\Below w.heap.size w w':=by
 obtain ⟨a,cap,rfl⟩:=h.slice;have HV:=zjy h;have HI:=zjy hw;have b3:=zjy hb;have HU:=zjy hu;have lb:=zaa hb;clear h hw hb hu;obtain ⟨p,hp⟩:∃ p:GV->Bool,(fun x=>zfd b (pG x))=p:=⟨_,rfl⟩
 have HP:=zjy hp;rw [hp];obtain ⟨r,hr⟩:=xex (idxG p 0 C);rw [hr];have HR:=zjy hr;clear hr hp;go_enter func98,ntmps98
 go_wp2_with fail
 go_loopw [8] (fun i wr=>∃ k:Nat,i = .int .i64 k/\k<=C.length/\Hid (idxG p k (C.drop k)=r)/\Below w.heap.size w wr) (fun i _=>C.length - (intOf i).toNat)
 case atStart=>exact ⟨0,rfl,by omega,zjy HR.o,Below.refl _ _⟩
 case round =>
  obtain ⟨k,rfl,hk,HT,a8⟩:=hrel;have HB:=zjy a8;clear a8;by_cases hlt:k<C.length
  ·have hq:decide ((k:Int)<C.length)=true:=by simp;omega
   have a6:(k:Int)<(C.length:Int):=by omega
   obtain ⟨g,off,rfl,lg,hc⟩:=(HV.o.below HB.o).get k hlt;have a1:=HI.o _ (List.getElem_mem hlt);have ht:=HT.o;rw [List.drop_eq_getElem_cons hlt] at ht;obtain ⟨x,hx⟩:=xex (C[k]);rw [hx] at hc ht a1;have c0:=hc 0 _ rfl;have c1:=hc 1 _ rfl;have c2:=hc 2 _ rfl;rw [Nat.add_zero] at c0;have a5:p x=zfd b (pG x):=by rw [<- HP.o]
   have b0:=zjy a5;have b1:=zjy a1;have a9:=zab HB.o lb b3.o;have HBB:=zjy a9;clear HT hx a1 hc a5 a9;unfold idxG at ht;have a7:=fun (W:World) (hb1:Below w.heap.size w W)=>grpEq_any S T x bb u b W (b1.o.1.below hb1) b1.o.2 (zab hb1 lb b3.o) (HU.o.below hb1)
   have b2:=zjy a7;clear a7;obtain ⟨xl,wa,wn,wc,xa,xn,xc,ws,b4⟩:=x;dsimp only at c0 c1 c2;cases hp:p ⟨xl,wa,wn,wc,xa,xn,xc,ws,b4⟩
   ·rw [hp] at ht
    have HT:=zjy (show idxG p (k+1) (C.drop (k+1))=r from ht);have a0:=b0.o;rw [hp] at a0;have a3:=zjy a0.symm;clear ht hp a0;go_wp2_with fail
    refine (b2.o _ HB.o).mono ?_;rw [a3.o];rintro e w1 ⟨rfl,hb⟩;have a4:=xhh HB hb;clear hb;go_wp2_with fail
    go_roundw
    case rel=>exact ⟨k+1,by go_num,by omega,HT,a4.o⟩
    case measure=>simp [intOf];omega
   ·rw [hp] at ht
    have a2:=zjy (show Ending.returned (.int .i64 (k:Int))=Ending.returned (.int .i64 r) by rw [show (k:Int)=r from ht]);have a0:=b0.o;rw [hp] at a0;have a3:=zjy a0.symm;clear ht hp a0;go_wp2_with fail
    refine (b2.o _ HB.o).mono ?_;rw [a3.o];rintro e w1 ⟨rfl,hb⟩;have a4:=xhh HB hb;clear hb;go_wp2_with fail
    go_ret;exact ⟨a2.o,a4.o⟩
  ·have hq:decide ((k:Int)<C.length)=false:=by simp;omega
   have ht:=HT.o;rw [List.drop_eq_nil_of_le (by omega)] at ht;have a2:=zjy (show Ending.returned (.int .i64 (-1:Int))=Ending.returned (.int .i64 r) by rw [show (-1:Int)=r from ht]);clear HT ht;go_wp2_with fail
   go_ret;exact ⟨a2.o,HB.o⟩
end
section
open Go.RowKit
theorem filter_all {α:Type} {p:α->Bool} {l:List α} (h:∀ x∈l,p x=true):l.filter p=l:=List.filter_eq_self.2 h
theorem own_row {w:World} {B e size n:Nat} {g cap:Nat} {xs:List Value} (h:w.ownsRow B e size (.slice (some ⟨g,0,none⟩) n cap) n xs):∃ cur,w.heap[g]?=some (.cells cur e (0,0))/\B<=g/\n<=cap/\cap<=maxLen/\cur.size=cap*size/\cur.toList.take (n*size)=xs:=by
 rcases h.2 with ⟨e,_⟩ | ⟨g',cap',cur,e,hB,hh,h1,h2,h3,h4⟩
 ·cases e
 ·cases e;exact ⟨cur,hh,hB,h1,h2,h3,h4⟩
theorem zeroBits:∀ w,(zeroValue 56).run prog w = .ok (.agg #[.int .i64 0,.slice none 0 0]) w:=fun _=>by kernel_rfl
theorem DelAt.cleared {w0 w:World} {g cap:Nat} {C D:List BV} {i:Nat} {wr:World} (h:DelAt w0 w g cap C D i C.length wr) (vs:List Value) (hiC:i<=C.length) :
  OwnV 56 2 za4 w0 (.slice (some ⟨g,0,none⟩) i cap) (C.filter ze7) (wr.setCells g (i*2) vs)/\(∀ k o,k≠g->w.heap[k]?=some o->(wr.setCells g (i*2) vs).heap[k]?=some o)/\w.heap.size<=(wr.setCells g (i*2) vs).heap.size:=by
 obtain ⟨a4,a3,hB,h1,h2,h3,h4⟩:=own_row h.own;obtain ⟨a2,e1,e2,e3,e4,e5⟩:=zi4 vs (i*2) wr a4 a3;have a0:D.take i=C.filter ze7:=by rw [h.head,List.take_of_length_le xnl]
 have a5:(C.filter ze7).length=i:=by rw [<- a0,List.length_take,h.len];omega
 have hb:=e5 w0.heap.size w0 hB h.b
 refine ⟨⟨?_,hb⟩,fun k o hk ho=>e4 k o hk (h.keep k o hk ho),?_⟩
 ·rw [a5]
  refine ⟨by rw [zd8 (k:=2) (enc:=za4) (fun _=>rfl),a5],.inr ⟨g,cap,a2,rfl,hB,e1,by omega,h2,by rw [e2];exact h3,?_⟩⟩
  have ht:a2.toList.take (i*2)=a4.toList.take (i*2):=by
   apply List.ext_getElem?;intro q;rw [List.getElem?_take,List.getElem?_take];by_cases hq:q<i*2
   ·rw [if_pos hq,if_pos hq]
    have:=e3 q hq;simpa using this
   ·rw [if_neg hq,if_neg hq]
  rw [ht,<- a0]
  have h5:a4.toList.take (i*2)=(D.flatMap za4).take (i*2):=by
   rw [<- h4,List.take_take,Nat.min_eq_left (by omega)]
  rw [h5,flat_takeK (k:=2) (enc:=za4) (fun _=>rfl)]
 ·have:wr.heap.size<=(wr.setCells g (i*2) vs).heap.size:=by
   rcases Nat.lt_or_ge (wr.setCells g (i*2) vs).heap.size wr.heap.size with hlt | hge
   ·exfalso
    have a1:wr.heap[(wr.setCells g (i*2) vs).heap.size]?=some wr.heap[(wr.setCells g (i*2) vs).heap.size]:=Array.getElem?_eq_getElem hlt;by_cases hk:(wr.setCells g (i*2) vs).heap.size=g
    ·have:=zaa e1;omega
    ·have:=zaa (e4 _ _ hk a1);omega
   ·exact hge
  exact Nat.le_trans h.size this
def DelPost (w0 w:World) (v:Value) (C:List BV) (e:Ending) (w':World):Prop :=
 ∃ v',e = .returned v'/\OwnV 56 2 za4 w0 v' (C.filter ze7) w'/\(∀ k o,some k≠v.ownBlock->w.heap[k]?=some o->w'.heap[k]?=some o)/\w.heap.size<=w'.heap.size
theorem bdel_any (w0:World) (v:Value) (C:List BV) (L:List BitsL) (w:World) (ho:OwnV 56 2 za4 w0 v C w) (hA:BitsAll w (fun b=>some b≠v.ownBlock) C L) (hi:∀ b∈L,InI b.len) (hn:L.length<=1000000) :
  Calls prog 107 #[v,.func (.func 109) #[] #[]] w (DelPost w0 w v C):=by
 have a2:=hA.1;have b1:BitsVec w zau v L:=⟨C,(OwnV.vec (size:=2) (enc:=za4) (fun _=>rfl) ho).any,hA.weaken fun _ _=>trivial⟩
 have a7:=ho.form;have HO:=zjy ho;have HA:=zjy hA;have HI:=zjy hi;have d6:=zjy b1;have e5:=fun (k:Nat) (h1:k<C.length) (h2:k<L.length)=>validV_eq (hA.2 k h1 h2)
 have c6:=zjy e5;obtain ⟨a,a3,ev⟩:=zar ho.1;subst ev;have e2:=zjy a2;clear ho hA hi b1 e5 a2;go_enter func107,ntmps107
 go_wp2_with fail
 refine (bidxN_any zau _ L _ d6.o HI.o hn).mono ?_;rintro e w1 ⟨rfl,hb⟩;have HB:=zjy hb;clear hb;have a2:=e2.o
 rcases idxG_split notV L 0 with ⟨h1,h2⟩ | ⟨k,h1,hk,h2,h3⟩
 ·have b9:C.filter ze7=C:=filter_all fun c hc=>by
   obtain ⟨q,hq,rfl⟩:=List.mem_iff_getElem.1 hc;rw [c6.o q hq (by omega)];have:=h2 _ (List.getElem_mem (show q<L.length by omega));unfold notV at this;simpa using this
  have e4:=zjy b9;rw [h1];clear h1 h2 b9 a2 a7;go_wp2_with fail
  go_ret;exact ⟨_,rfl,by rw [e4.o];exact HO.o.below HB.o,fun k o _ hk=>zab HB.o (zaa hk) hk,HB.o.size⟩
 ·rw [h1,Nat.zero_add]
  have b5:k<C.length:=by omega
  rcases a7 with ⟨_,h0⟩ | ⟨g,cp,e0,hcp,hcm,lg⟩
  ·rw [h0] at b5;simp at b5
  cases e0;have e6:ze7 C[k]=false:=by rw [c6.o k b5 hk];unfold notV at h2;simpa using h2
  have b2:(C.take k).filter ze7=C.take k:=filter_all fun c hc=>by
   obtain ⟨q,hq,rfl⟩:=List.mem_iff_getElem.1 hc;rw [List.length_take] at hq;rw [List.getElem_take,c6.o q (by omega) (by omega)];have:=h3 L[q] (List.mem_iff_getElem.2 ⟨q,by rw [List.length_take];omega,by rw [List.getElem_take]⟩);unfold notV at this;simpa using this
  have e9:DelAt w0 w g a3 C C k (k+1) w1 :=
   ⟨(HO.o.below HB.o).1,(HO.o.below HB.o).2,rfl,by rw [List.take_succ_eq_append_getElem b5,List.filter_append,b2];simp [e6],rfl,by omega,fun q o _ hq=>zab HB.o (zaa hq) hq,HB.o.size⟩
  have g0:=zjy e9;obtain ⟨n,c9⟩:=xex (C.length);have d9:=zjy c9;have hnn:n<=1000000:=by omega
  have hkn:k<n:=by omega
  have f6:n<=a3:=by omega
  have e7:a3<=9223372036854775807:=by unfold maxLen at hcm;exact hcm
  have dk:((k:Int) == -1)=false:=by first | (simp;done) | (simp;omega)
  have f8:=zjy (show L.length=n by omega);rw [c9];clear h1 h2 h3 e6 b2 e9 a2 hcp hcm c9 hk b5 lg hn;go_wp2_with fail
  go_loopw [5,6] (fun i j wr=>∃ (i' j':Nat) (D:List BV),i = .int .i64 i'/\j = .int .i64 j'/\j'<=n/\i'<j'/\DelAt w0 w g a3 C D i' j' wr) (fun _ j _=>n - (intOf j).toNat)
  case atStart=>exact ⟨k,k+1,C,rfl,by go_num,by omega,by omega,g0.o⟩
  case round =>
   obtain ⟨i,j,D,rfl,rfl,hj,f5,hd⟩:=hrel;obtain ⟨WR,f7⟩:∃ u,u=wr:=⟨_,rfl⟩;subst f7;have HD:=zjy hd;by_cases hlt:j<n
   ·have hq:decide ((j:Int)<n)=true:=by simp;omega
    have a8:j<C.length:=by rw [d9.o];exact hlt
    have c3:j<L.length:=by rw [f8.o];exact hlt
    have d1:j<D.length:=by rw [hd.len];exact a8
    have d0:(j:Int)<(n:Int):=by omega
    have a6:=Vec.owns (S:=zau) (k:=2) (enc:=za4) (fun _=>rfl) (L:=D) (by rw [hd.len];exact hd.own) (fun _ _ _=>trivial)
    obtain ⟨b',f2,e',f3,d5⟩:=a6.get j d1;cases e';have c0:=d5 0 _ rfl;have c1:=d5 1 _ rfl;rw [hd.elem a8 d1] at c0 c1;rw [Nat.zero_add] at c1;rw [Nat.add_zero,Nat.zero_add] at c0;have c4:=HA.o.2 j a8 c3;have a4:=c6.o j a8 c3;have d2:=HI.o _ (List.getElem_mem c3);have a5:=fun (w9:World) (h9:DelAt w0 w g a3 C D i j w9) hv=>h9.put a8 hv f5
    have a1:=hd.skip a8;obtain ⟨x,hx⟩:=xex (C[j]);obtain ⟨bl,e8⟩:=xex (L[j]);rw [hx] at c0 c1 c4 a4 a1;simp only [hx] at a5;rw [e8] at c4 a4 d2;obtain ⟨xl,xa,xn,xc⟩:=x;dsimp only at c0 c1 a5
    have b8:BitsAt WR zau (.agg #[.int .i64 xl,.slice xa xn xc]) bl:=by
     obtain ⟨s,e,hv⟩:=c4
     exact ⟨s,e,(hv.move (S':=fun b=>b<w.heap.size/\some b≠(Value.slice (some ⟨g,0,none⟩) C.length a3).ownBlock) xnl fun b hb hs=>⟨rfl,hb,hs⟩).move hd.size fun b hb hs=>⟨by
      have e1:w.heap[b]?=some w.heap[b]:=Array.getElem?_eq_getElem hb;rw [e1]
      exact hd.keep b _ (fun e=>hs.2 (by rw [e];rfl)) e1,trivial⟩⟩
    obtain ⟨f0,a0,-,-,-,b7,-⟩:=own_row hd.own;have g1:=zjy b8;have f9:=zjy d2;have d7:=zjy a5;have c2:=zjy a1;have e3:=zjy a0;have b4:notV bl = !ze7 ⟨xl,xa,xn,xc⟩:=by unfold notV;rw [a4]
    have d8:=zjy b4;have d4:i*2+1<f0.size:=by rw [b7];omega
    have lg:=zaa a0;clear d5 c4 a4 d2 a5 a1 hx e8 b8 a0 b4 hd a6 b7 a8 c3 d1 f3;go_wp2_with fail
    refine zah (fun WA hWA=>?_)
    have bA:=xal hWA
    have gA:WA.heap[WR.heap.size]?=some (.cells #[.int .i64 xl,.slice xa xn xc] 56 (0,0)):=by rw [hWA];exact zac rfl
    clear hWA;refine (notV_any zau _ bl _ (g1.o.below bA) f9.o).mono ?_;obtain ⟨vx,c7⟩:=xex (ze7 ⟨xl,xa,xn,xc⟩);have c8:=d8.o;rw [c7] at c8;rw [c8];have f1:=zjy c7;rintro e w3 ⟨rfl,hb⟩;have b3:=bA.trans (hb.mono bA.size);have HB3:=zjy b3;have c5:=zab hb (zaa gA) gA;obtain ⟨T,hT⟩:=xex (WR.heap.size);rw [hT] at c5;obtain ⟨t0,t1⟩:=zae c5;have lT:=zaa c5;have b0:=zab b3 lg e3.o;have hTg:T≠g:=by omega
    clear bA gA hb c7 c8 c0 c1 c5;cases vx
    ·have d3:=zjy ((c2.o f1.o).below b3)
     clear b3 b0;rw [hT];go_wp2_with fail
     go_roundw
     case rel=>exact ⟨i,j+1,D,rfl,by go_num,by omega,by omega,d3.o⟩
     case measure=>simp [intOf];omega
    ·have q0:(w3.cell? ⟨g,i*2,none⟩).isSome=true:=by rw [cell_of_row _ _ _ _ _ _ b0,Array.getElem?_eq_getElem (by omega)];rfl
     have q1:(w3.cell? ⟨g,i*2+1,none⟩).isSome=true:=by rw [cell_of_row _ _ _ _ _ _ b0,Array.getElem?_eq_getElem d4];rfl
     obtain ⟨v0,q0⟩:=Option.isSome_iff_exists.1 q0;obtain ⟨v1,q1⟩:=Option.isSome_iff_exists.1 q1;have ff0:=frozen_of_row _ _ (i*2) _ _ b0;have ff1:=frozen_of_row _ _ (i*2+1) _ _ b0;have lg3:=zaa b0;have f4:(i:Int)<(n:Int):=by omega
     have d3:=zjy (show DelAt w0 w g a3 C (D.set i ⟨xl,xa,xn,xc⟩) (i+1) (j+1) ((w3.setCell ⟨g,i*2,none⟩ (.int .i64 xl)).setCell ⟨g,i*2+1,none⟩ (.slice xa xn xc)) from d7.o w3 (HD.o.below b3) f1.o);clear b3 b0;rw [hT];go_wp2_with fail
     go_roundw
     case rel=>exact ⟨i+1,j+1,_,by go_num,by go_num,by omega,by omega,d3.o⟩
     case measure=>simp [intOf];omega
   ·have hq:decide ((j:Int)<n)=false:=by simp;omega
    obtain ⟨f0,a0,-,-,-,b7,-⟩:=own_row hd.own;have d0:j=C.length:=by rw [d9.o];omega
    rw [d0] at hd;have b6:i<=C.length:=by rw [d9.o];omega
    obtain ⟨vs,hvs⟩:=run_clear2 (P:=prog) WR 57 56 _ underlying57 zeroBits rfl g (i*2) (n - i) (a3 - i) (by omega)
     (fun q hq'=>by rw [cell_of_row _ _ _ _ _ _ a0,Array.getElem?_eq_getElem (by rw [b7];omega)];rfl) (fun q hq'=>frozen_of_row _ _ _ _ _ a0)
    have a9:=zjy (hd.cleared vs b6);have s1:(i:Int)<=(n:Int):=by omega
    have s2:(i:Int)<=(a3:Int):=by omega
    have s3:¬ a3=i:=by omega
    have s4:(n:Int)<=(a3:Int):=by omega
    clear hd a0 b7 d0 b6;go_wp2_with fail
    go_ret;exact ⟨_,rfl,a9.o.1,fun k o hk ho=>a9.o.2.1 k o (fun e=>hk (by rw [e];rfl)) ho,a9.o.2.2⟩
end
section
open Go.RowKit
def zes:BitsL->List BitsL->Option BitsL
 | a,[]=>some a
 | a,b :: r=>(andB a b).bind fun x=>zes x r
theorem zix (b:BitsL):∀ (r:List BitsL) (a:BitsL),zes a (r++[b])=(zes a r).bind fun x=>andB x b
 | [],a=>by simp [zes]
 | c :: r,a=>by
  simp only [List.cons_append,zes];cases andB a c with
  | none=>rfl
  | some x=>exact zix b r x
theorem ziy (l:List BitsL):∀ (r:List BitsL) (a:BitsL),zes a r=none->zes a (r++l)=none
 | [],a,h=>by simp [zes] at h
 | c :: r,a,h=>by
  simp only [List.cons_append,zes] at h ⊢;cases hc:andB a c with
  | none=>rfl
  | some x=>rw [hc] at h;exact ziy l r x h
def zb6 (L:List BitsL):Int :=
 match L.filter zap with
 | []=>0
 | b :: r=>match zes b r with
  | none=>0
  | some x=>zcn x
theorem zip_range (A B:List Int):zgx (zih A B):=by
 intro x hx;unfold zih at hx;rw [List.mem_iff_getElem] at hx;obtain ⟨i,hi,rfl⟩:=hx;rw [List.getElem_zipWith];exact bits_range .and _ _
def CloneBPost (S:Nat->Prop) (L:List BitsL) (w:World) (e:Ending) (w':World):Prop :=
 ∃ (v':Value) (C:List BV),e = .returned v'/\OwnV 56 2 za4 w v' C w'/\BitsAll w' (fun b=>b<w.heap.size/\S b) C L
theorem bclone_any (S:Nat->Prop) (v:Value) (L:List BitsL) (w:World) (h:BitsVec w S v L) (hn:L.length<=1000000) :
  Calls prog 108 #[v] w (CloneBPost S L w):=by
 obtain ⟨C,hC,hA⟩:=h;have a2:=hA.1;obtain ⟨a,a4,rfl⟩:=hC.slice;have a6:BitsAll w (fun b=>b<w.heap.size/\S b) C L:=hA.move xnl fun b hb hs=>⟨rfl,hb,hs⟩
 have HC:=zjy hC;have HA:=zjy a6;obtain ⟨n,a1⟩:=xex (C.length);have HN:=zjy a1;rw [a1];have hn2:n<=1000000:=by omega
 clear hA a6
 rcases a with _ | ad
 ·have h0:C=[]:=by
   rcases Nat.eq_zero_or_pos C.length with h1 | h1
   ·exact List.length_eq_zero_iff.1 h1
   ·obtain ⟨b,off,e,_⟩:=hC.get 0 h1
    cases e
  have H0:=zjy h0;have hq:=fun w':World=>Lib.run_eql_slice_nil (P:=prog) w' 57 _ none n a4 0 0 underlying57
  simp only [Option.isNone] at hq;clear hC a2 a1 h0;go_enter func108,ntmps108
  go_wp2_with fail
  go_ret;refine ⟨_,[],rfl,OwnV.start _ _ _ _,?_⟩;have:=HA.o;rwa [H0.o] at this
 ·have bA:Below w.heap.size w (w.alloc (.cells #[] 56)):=(Below.refl _ _).alloc xnl _
  have a0:OwnV 56 2 za4 w (.slice (some ⟨w.heap.size,0,none⟩) 0 0) ([]:List BV) (w.alloc (.cells #[] 56)) :=
   ⟨⟨rfl,.inr ⟨w.heap.size,0,#[],rfl,Nat.le_refl _,zac rfl,Nat.le_refl _,Nat.zero_le _,rfl,rfl⟩⟩,bA⟩
  have a5:zck (w.alloc (.cells #[] 56)) 2 (.slice (some ad) n a4) C.length (C.flatMap za4):=by
   rw [<- a1];exact Vec.reads (k:=2) (enc:=za4) (fun _=>rfl) (hC.below bA)
  have hl:([]:List BV).length+C.length<=1000000000:=by simp;omega
  have a9:=zjy a0;have a8:=zjy a5;have HB:=zjy bA;have HL:=zjy hl;have hq:=fun w':World=>Lib.run_eql_slice_nil (P:=prog) w' 57 _ (some ad) n a4 0 0 underlying57
  simp only [Option.isNone] at hq;clear a0 a5 bA hC a2 a1 hl;go_enter func108,ntmps108
  go_wp2_with (at_builtin;refine zcv rfl (.tmp 5) (.tmp 6) 57 rfl 56 (.agg #[.int .i64 0,.slice none 0 0]) 2 32 za4 (fun _=>rfl) ze9 underlying57 zgd rfl (by decide) (by decide) (w0:=w) (v:=.slice (some ⟨w.heap.size,0,none⟩) 0 0) (A:=[]) (B:=C) rfl a9.o rfl a8.o HL.o ?_;intro v7 w7 a3 hk7 a7)
  go_ret;rw [List.nil_append] at a3;exact ⟨_,C,rfl,a3,HA.o.move (Nat.le_trans HB.o.size a7) fun b hb hs=>⟨a3.2.block b hb,hs⟩⟩
theorem andB_len {a b x:BitsL} (h:andB a b=some x):x.len=a.len/\zgx x.words/\x.words.length=a.words.length:=by
 unfold andB at h;split at h
 ·next h1 =>
  cases h;refine ⟨rfl,zip_range _ _,?_⟩;have e1:=zcw h1.1;have e2:=zcw h1.2.1;have e3:=h1.2.2;exact andL_len (by omega)
 ·cases h
theorem InI.len {a x:BitsL} (h:InI a.len) (e:x.len=a.len):InI x.len:=by rw [e];exact h
theorem two_set {w:World} {b:Nat} {u v:Value} {t:TypeId} (h:w.heap[b]?=some (.cells #[u,v] t (0,0))) (x y:Value):((w.setCell ⟨b,0,none⟩ x).setCell ⟨b,1,none⟩ y).heap[b]?=some (.cells #[x,y] t (0,0)):=by
 exact zad (i:=1) (v:=y) (zad (i:=0) (v:=x) h)
theorem always_any (S:Nat->Prop) (v:Value) (L:List BitsL) (w:World) (h:BitsVec w S v L) (hi:∀ b∈L,InI b.len) (hw:∀ b∈L,zap b=true->zgx b.words) (hn:L.length<=1000000) :
  Calls prog 72 #[v] w fun e w'=>e = .returned (.int .i64 (zb6 L))/\Below w.heap.size w w':=by
 have HV:=zjy h;have HI:=zjy hi;have e8:=zjy hw;have HF:=zjy (show ∀ r:Int,zb6 L=r->Ending.returned (.int .i64 r) = .returned (.int .i64 (zb6 L)) from fun r h=>by rw [h])
 clear h hi hw;go_enter func72,ntmps72
 go_wp2_with fail
 refine (bclone_any S _ L _ HV.o hn).mono ?_;rintro e w1 ⟨v1,C,rfl,ho,hA⟩;have HO:=zjy ho;have a9:=ho.1.lt;have HA:=zjy (show BitsAll w1 (fun b=>some b≠v1.ownBlock) C L from hA.move xnl fun b _ hs=>⟨rfl,fun e=>by have h1:=(a9 b e.symm).1;have h2:=hs.1;omega⟩)
 have f4:=zjy hA;clear ho hA a9;go_wp2_with fail
 refine (bdel_any w v1 C L _ HO.o HA.o HI.o hn).mono ?_;rintro e w2 ⟨v2,rfl,a8,d9,d6⟩;obtain ⟨a2,c2,e2⟩:=zar a8.1;subst e2
 have b2:BitsAll w2 zau (C.filter ze7) (L.filter zap):=(f4.o.move (w':=w2) (T:=zau) d6 fun b hb hs=>⟨by
  have e1:w1.heap[b]?=some w1.heap[b]:=Array.getElem?_eq_getElem hb;rw [e1]
  exact d9 b _ (fun e=>by have h1:=(HO.o.1.lt b e.symm).1;have h2:=hs.1;omega) e1,trivial⟩).filter
 obtain ⟨F,hF⟩:=xex (C.filter ze7);obtain ⟨G,hG⟩:=xex (L.filter zap);rw [hF] at a8 b2 ⊢;rw [hG] at b2;have HG:=zjy hG
 have e6:∀ b∈G,zap b=true/\b∈L:=fun b hb=>by
  rw [<- hG] at hb;have:=List.mem_filter.1 hb;exact ⟨this.2,this.1⟩
 have f1:=zjy e6;have a5:=zjy a8;have c6:=zjy (show BitsVec w2 zau (.slice a2 F.length c2) G from ⟨F,(OwnV.vec (size:=2) (enc:=za4) (fun _=>rfl) a8).any,b2⟩)
 have e4:F.length=G.length:=b2.1
 have f8:G.length<=1000000:=by
  have:G.length<=L.length:=by rw [<- hG];exact List.length_filter_le _ _
  omega
 obtain ⟨n,c3⟩:=xex (G.length);rw [e4,c3] at c6 ⊢;rw [c3] at f8;have HN:=zjy c3;clear d9 d6 b2 hF hG e6 a8 HA f4 HO e4 c3;by_cases h0:n=0
 ·have d0:((n:Int) == 0)=true:=by simp;omega
  have HR:=zjy (show zb6 L=0 by
   unfold zb6;have:G=[]:=List.length_eq_zero_iff.1 (by rw [HN.o];exact h0)
   rw [HG.o,this])
  clear h0;go_wp2_with fail
  go_ret;exact ⟨HF.o _ HR.o,a5.o.2⟩
 ·have d0:((n:Int) == 0)=false:=by simp;omega
  have hn1:(0:Int)<(n:Int):=by omega
  obtain ⟨m,hm⟩:=xex (n - 1);have d7:m+1=n:=by omega
  have b8:=zjy d7;have hm6:m<=1000000:=by omega
  obtain ⟨b0,R,b1⟩:∃ b0 R,G=b0 :: R:=by
   cases hG:G with
   | nil=>have:=HN.o;rw [hG] at this;simp at this;omega
   | cons b R=>exact ⟨b,R,rfl⟩
  have b5:=zjy b1;have e5:R.length+1=n:=by have:=HN.o;rw [b1] at this;simpa using this
  have d3:=zjy e5;obtain ⟨b,off,⟨xl,xa,xn,xc⟩,e,lb,c0,c1,hat⟩:=c6.o.at 0 (by rw [HN.o];omega);have e3:G.getD 0 zch=b0:=by rw [b1];rfl
  rw [e3] at hat;cases e;rw [Nat.zero_mul,Nat.add_zero] at c0 c1;dsimp only at c0 c1;have c8:=zjy hat;have e7:=f1.o b0 (by rw [b1];exact List.mem_cons_self);have a7:=zjy e7;have d1:=c6.o.len;have s1:(1:Int)<=(n:Int):=by omega
  have s2:(1:Int)<=(c2:Int):=by omega
  have s4:(n:Int)<=(c2:Int):=by omega
  have HM:=zjy hm;clear hat b1 e5 e3 e7 d1 h0 d7 hm;by_cases hc1:c2=1
  ·have hm0:m=0:=by have:=b8.o;omega
   go_wp2_with fail
   rw [HM.o]
   refine zal (fun W3 hW3=>?_)
   have b3:=xal hW3
   have g3:W3.heap[w2.heap.size]?=some (.cells #[.int .i64 xl,.slice xa xn xc] 56 (0,0)):=by rw [hW3];exact zac rfl
   clear hW3;obtain ⟨A,hA⟩:=xex (w2.heap.size);rw [hA] at g3 ⊢
   have d2:=zjy (show BitsAt W3 (fun q=>q≠A) (.agg #[.int .i64 xl,.slice xa xn xc]) b0 from by
    obtain ⟨s,e,hv⟩:=c8.o
    exact ⟨s,e,(hv.move (S':=fun q=>q≠A) xnl fun q hq _=>⟨rfl,by show q≠A;omega⟩).below b3⟩)
   have f2:=zjy g3;have c7:=zjy b3;have f3:=zjy hA;obtain ⟨x0,x1⟩:=zae g3;clear g3 b3 hA c0 c1 c8;go_loopw [21] (fun i wr=>i = .int .i64 0/\wr=W3) (fun _ _=>0)
   case atStart=>exact ⟨rfl,rfl⟩
   case round =>
    obtain ⟨rfl,rfl⟩:=hrel;have hq:decide ((0:Int)<m)=false:=by simp;omega
    have HR:=zjy (show zb6 L=zcn b0 by
     unfold zb6;have h3:=d3.o;have h4:=b8.o;have h5:R=[]:=List.length_eq_zero_iff.1 (by omega);rw [HG.o,b5.o,h5]
     rfl)
    go_wp2_with fail
    have hI:=HI.o b0 a7.o.2
    refine (bcount_any (fun q=>q≠A) _ b0 _ d2.o hI.1 hI.2 (fun h=>e8.o b0 a7.o.2 h)).mono ?_
    rintro e w4 ⟨rfl,a3⟩;have a6:=zjy a3;clear x0 x1 hI a3;go_wp2_with fail
    go_ret;exact ⟨HF.o _ HR.o,a5.o.2.trans ((c7.o.trans (a6.o.mono c7.o.size)).mono (by have:=a5.o.2.size;exact this))⟩
  go_wp2_with fail
  rw [HM.o]
  refine zal (fun W3 hW3=>?_)
  have b3:=xal hW3
  have g3:W3.heap[w2.heap.size]?=some (.cells #[.int .i64 xl,.slice xa xn xc] 56 (0,0)):=by rw [hW3];exact zac rfl
  clear hW3;obtain ⟨A,hA⟩:=xex (w2.heap.size);rw [hA] at g3 ⊢
  have d2:=zjy (show BitsAt W3 (fun q=>q≠A) (.agg #[.int .i64 xl,.slice xa xn xc]) b0 from by
   obtain ⟨s,e,hv⟩:=c8.o
   exact ⟨s,e,(hv.move (S':=fun q=>q≠A) xnl fun q hq _=>⟨rfl,by show q≠A;omega⟩).below b3⟩)
  have f2:=zjy g3;have c7:=zjy b3;have f3:=zjy hA;clear g3 b3 hA c0 c1 c8;go_loopw [21] (fun i wr=>∃ k:Nat,k<=m/\i = .int .i64 k/\∃ (x:BV) (X:BitsL),wr.heap[A]?=some (.cells (za4 x).toArray 56 (0,0))/\BitsAt wr (fun q=>q≠A) (.agg (za4 x).toArray) X/\Hid (zes b0 (R.take k)=some X/\X.len=b0.len/\(zap X=true->zgx X.words))/\Below w2.heap.size w2 wr) (fun i _=>m - (intOf i).toNat)
  case atStart=>exact ⟨0,by omega,rfl,⟨xl,xa,xn,xc⟩,b0,f2.o,d2.o,zjy ⟨by simp [zes],rfl,fun _=>e8.o b0 a7.o.2 a7.o.1⟩,c7.o⟩
  case round =>
   obtain ⟨k,hk,rfl,⟨yl,ya,yn,yc⟩,X,hgA,hX,HAnd,hbw⟩:=hrel;obtain ⟨WR,f7⟩:∃ u,u=wr:=⟨_,rfl⟩;subst f7;have g1:=zjy hgA;have HX:=zjy hX;have d5:=zjy hbw;have lA:=zaa hgA;by_cases hlt:k<m
   ·have hq:decide ((k:Int)<m)=true:=by simp;omega
    have d8:k+1<G.length:=by rw [HN.o];have:=b8.o;omega
    obtain ⟨b',f5,⟨zl,za,zn,zc⟩,e',lb',z0,z1,hz⟩:=(c6.o.below hbw).at (k+1) d8;cases e';dsimp only at z0 z1;rw [show off+(k+1)*2=off+2+k*2 by omega] at z0 z1;have c4:k<R.length:=by have:=d3.o;have:=b8.o;omega
    have e0:G.getD (k+1) zch=R[k]:=by rw [b5.o,List.getD,List.getElem?_cons_succ,List.getElem?_eq_getElem c4];rfl
    have a4:=f1.o R[k] (by rw [b5.o];exact List.mem_cons_of_mem _ (List.getElem_mem c4));have b9:zes b0 (R.take (k+1))=(zes b0 (R.take k)).bind fun x=>andB x R[k]:=by rw [List.take_succ_eq_append_getElem c4,zix]
    rw [e0] at hz;obtain ⟨Z,hZ⟩:=xex (R[k]);have a1:R=R.take (k+1)++R.drop (k+1):=(List.take_append_drop _ _).symm;rw [hZ] at hz a4 b9;rw [HAnd.o.1] at b9;have HZ:=zjy hz;have d4:=zjy a4;have f0:=zjy (show zes b0 (R.take (k+1))=andB X Z from b9);have b7:=zjy a1;obtain ⟨x0,x1⟩:=zae hgA;clear hgA hX hbw hz e0 a4 b9 hZ d8 c4 lb' a1;go_wp2_with fail
    refine zah (fun WA hWA=>?_)
    have bA:=xal hWA
    clear hWA
    refine (band_any (fun q=>q≠A) zau _ _ X Z _ (HX.o.below bA) (HZ.o.below bA) ((HI.o b0 a7.o.2).len HAnd.o.2.1) (HI.o Z d4.o.2)).mono ?_
    rintro e w4 ⟨v4,rfl,c9,a3⟩;have b4:=bA.trans (a3.mono bA.size);have a0:=zjy (zab b4 lA g1.o);have a6:=xhh d5 b4;have hsz:=bA.size;obtain ⟨P,hP⟩:=xex (andB X Z);have HP:=zjy hP;rw [hP] at c9 ⊢;obtain ⟨⟨pl,pa,pn,pc⟩,rfl,hv5⟩:=c9.form
    have e9:=zjy (show BitsAt w4 (fun q=>q≠A) (.agg (za4 ⟨pl,pa,pn,pc⟩).toArray) (P.getD zch) from by
     obtain ⟨s,e,hv⟩:=hv5
     exact ⟨s,e,hv.move (S':=fun q=>q≠A) xnl fun q _ hq=>⟨rfl,by have h':WA.heap.size<=q:=hq;show q≠A;omega⟩⟩)
    dsimp only;have f6:=zaa a0.o;have b4z:=b4.size;clear bA a3 b4 c9 hv5 x0 x1 z0 z1 hP;cases P with
    | none =>
     have HR:=zjy (show zb6 L=0 by
      unfold zb6;rw [HG.o,b5.o]
      have h1:zes b0 R=none:=by
       rw [b7.o];exact ziy _ _ _ (by rw [f0.o,HP.o])
      simp only [h1])
     simp only [Option.isSome,Bool.false_eq_true,if_false];go_wp2_with fail
     go_ret;exact ⟨HF.o _ HR.o,a5.o.2.trans ((a6.o.alloc a6.o.size _).mono (by have:=a5.o.2.size;exact this))⟩
    | some Y =>
     have hy:=andB_len HP.o;have HY:=zjy hy;simp only [Option.isSome,if_true,Option.getD_some] at e9 ⊢;have g0:=frozen_of_row _ _ 0 _ _ a0.o;have f9:=frozen_of_row _ _ 1 _ _ a0.o;obtain ⟨x0,x1⟩:=zae a0.o;clear hy;go_wp2_with fail
     have hW:∀ W6,W6=(((w4.setCell ⟨A,0,none⟩ (.int .i64 pl)).setCell ⟨A,1,none⟩ (.slice pa pn pc)).alloc (.cells #[.int .i64 pl,.slice pa pn pc] 56)) ->
       W6.heap[A]?=some (.cells (za4 ⟨pl,pa,pn,pc⟩).toArray 56 (0,0))/\BitsAt W6 (fun q=>q≠A) (.agg (za4 ⟨pl,pa,pn,pc⟩).toArray) Y/\Below w2.heap.size w2 W6:=by
      intro W6 c5;have hAe:=f3.o;have h5:=two_set a0.o (.int .i64 pl) (.slice pa pn pc)
      have b6:Below w2.heap.size w2 W6:=by
       rw [c5];have h7:=(a6.o.setCell (p:=⟨A,0,none⟩) (by show w2.heap.size<=A;omega) (.int .i64 pl)).setCell (p:=⟨A,1,none⟩) (by show w2.heap.size<=A;omega) (.slice pa pn pc);exact h7.alloc h7.size _
      have z5:((w4.setCell ⟨A,0,none⟩ (.int .i64 pl)).setCell ⟨A,1,none⟩ (.slice pa pn pc)).heap.size=w4.heap.size:=by simp [World.setCell]
      refine ⟨?_,?_,b6⟩
      ·rw [c5,Below.heap_alloc _ _ _ (by rw [z5];exact f6)]
       exact h5
      ·obtain ⟨s,e,hv⟩:=e9.o
       refine ⟨s,e,hv.move (S':=fun q=>q≠A) (by rw [c5];simp [World.setCell,World.alloc]) fun q hq hqA=>⟨?_,hqA⟩⟩
       rw [c5,Below.heap_alloc _ _ _ (by rw [z5];exact hq),Below.heap_setCell _ _ _ _ hqA,Below.heap_setCell _ _ _ _ hqA]
     have HW:=zjy (hW _ rfl);clear hW x0 x1 g0 f9;go_roundw
     case rel=>exact ⟨k+1,by omega,by go_num,⟨pl,pa,pn,pc⟩,Y,HW.o.1,HW.o.2.1,zjy ⟨by rw [f0.o,HP.o],by rw [HY.o.1];exact HAnd.o.2.1,fun _=>HY.o.2.1⟩,HW.o.2.2⟩
     case measure=>simp [intOf];omega
   ·have hq:decide ((k:Int)<m)=false:=by simp;omega
    have HR:=zjy (show zb6 L=zcn X by
     unfold zb6;have h1:=HAnd.o.1;have h3:=d3.o;have h4:=b8.o;rw [List.take_of_length_le (by omega)] at h1;rw [HG.o,b5.o]
     simp only [h1])
    obtain ⟨x0,x1⟩:=zae hgA;clear hgA hX hbw;go_wp2_with fail
    have hI:=(HI.o b0 a7.o.2).len HAnd.o.2.1
    refine (bcount_any (fun q=>q≠A) _ X _ HX.o hI.1 hI.2 HAnd.o.2.2).mono ?_
    rintro e w4 ⟨rfl,a3⟩;have a6:=zjy a3;clear x0 x1 hI a3;go_wp2_with fail
    go_ret;exact ⟨HF.o _ HR.o,a5.o.2.trans ((d5.o.trans (a6.o.mono d5.o.size)).mono (by have:=a5.o.2.size;exact this))⟩
end
section
open Go.RowKit
abbrev zfb (x:GV):Value:=.slice x.a x.n x.c
abbrev wdV (x:GV):Value:=.slice x.wa x.wn x.wc
def WS (w0:World) (v:Value) (C:List GV) (b:Nat):Prop:=w0.heap.size<=b/\some b≠v.ownBlock/\∀ y∈C,some b≠(zfb y).ownBlock
structure GRow (w0:World) (v:Value) (C:List GV) (w:World):Prop where
 own:OwnV 160 3 zf5 w0 v C w
 ids:∀ x∈C,w.ownsRow w0.heap.size 3 1 (zfb x) x.mem.length (x.mem.map (Value.int .i64))
 off:∀ x∈C,(zfb x).ownBlock=none\/(zfb x).ownBlock≠v.ownBlock
 apart:C.Pairwise fun x y=>(zfb x).ownBlock=none\/(zfb x).ownBlock≠(zfb y).ownBlock
 wds:∀ x∈C,Vec w (WS w0 v C) 1 zc7 (wdV x) x.ws
theorem GRow.nil {w0 w:World} (hb:Below w0.heap.size w0 w):GRow w0 (.slice none 0 0) [] w:=⟨OwnV.nil hb,fun x h=>by simp at h,fun x h=>by simp at h,List.Pairwise.nil,fun x h=>by simp at h⟩
theorem GRow.below {w0 w w':World} {v:Value} {C:List GV} (h:GRow w0 v C w) (hb:Below w.heap.size w w'):GRow w0 v C w' :=
 ⟨h.own.below hb,fun x hx=>zcf (h.ids x hx) hb,h.off,h.apart,fun x hx=>(h.wds x hx).below hb⟩
theorem GRow.put {w0 w w':World} {v v':Value} {C:List GV} (h:GRow w0 v C w) (x:GV) (hx:zfb x = .slice none 0 0) (hm:x.mem=[]) (hw:Vec w (WS w0 v C) 1 zc7 (wdV x) x.ws) (ho:OwnV 160 3 zf5 w0 v' (C++[x]) w')
  (hk:∀ k o,some k≠v.ownBlock->w.heap[k]?=some o->w'.heap[k]?=some o) (hz:w.heap.size<=w'.heap.size) (hv:v'.ownBlock=none\/v.ownBlock=v'.ownBlock\/v'.ownBlock=some w.heap.size):GRow w0 v' (C++[x]) w':=by
 have a0:∀ y,y∈C++[x]->y=x\/y∈C:=by
  intro y hy
  rcases List.mem_append.1 hy with h1 | h1
  ·exact .inr h1
  ·exact .inl (by simpa using h1)
 have a2:∀ {z:GV},Vec w (WS w0 v C) 1 zc7 (wdV z) z.ws->Vec w' (WS w0 v' (C++[x])) 1 zc7 (wdV z) z.ws:=by
  intro z a1
  refine a1.move hz fun b hb hs=>⟨?_,hs.1,?_,fun y hy=>?_⟩
  ·have e1:w.heap[b]?=some w.heap[b]:=Array.getElem?_eq_getElem hb
   rw [e1];exact hk b _ hs.2.1 e1
  ·rcases hv with h3 | h3 | h3
   ·rw [h3];simp
   ·rw [<- h3];exact hs.2.1
   ·rw [h3];simp;omega
  ·rcases a0 y hy with rfl | h1
   ·rw [hx];simp [Value.ownBlock]
   ·exact hs.2.2 y h1
 refine ⟨ho,fun y hy=>?_,fun y hy=>?_,?_,fun y hy=>?_⟩
 ·rcases a0 y hy with rfl | h1
  ·rw [hx,hm];exact ⟨rfl,.inl ⟨rfl,rfl⟩⟩
  ·exact zdb (h.ids y h1) hk (h.off y h1)
 ·rcases a0 y hy with rfl | h1
  ·rw [hx];exact .inl rfl
  ·rcases h.off y h1 with h2 | h2
   ·exact .inl h2
   ·rcases hv with h3 | h3 | h3
    ·rw [h3]
     by_cases h4:(zfb y).ownBlock=none
     ·exact .inl h4
     ·exact .inr h4
    ·rw [<- h3];exact .inr h2
    ·right
     rw [h3];intro e;have:=((h.ids y h1).lt _ e).2;omega
 ·refine List.pairwise_append.2 ⟨h.apart,by simp,fun y hy z a1=>?_⟩
  obtain rfl:z=x:=by simpa using a1
  rw [hx];by_cases h2:(zfb y).ownBlock=none
  ·exact .inl h2
  ·exact .inr h2
 ·rcases a0 y hy with rfl | h1
  ·exact a2 hw
  ·exact a2 (h.wds y h1)
theorem own_setG {w:World} {B e n:Nat} {v:Value} {C:List GV} {g:Nat} (h:w.ownsRow B e 3 v n (C.flatMap zf5)) (hg:v.ownBlock=some g) (j:Nat) (hj:j<C.length) (x:GV) (hx:x.len=C[j].len/\wdV x=wdV C[j]) :
  (w.setCell ⟨g,j*3+2,none⟩ (zfb x)).ownsRow B e 3 v n ((C.set j x).flatMap zf5):=by
 have hl:(C.flatMap zf5).length=C.length*3:=zd8 (k:=3) (enc:=zf5) (fun _=>rfl) C
 refine ⟨by rw [<- h.1,hl,zd8 (k:=3) (enc:=zf5) (fun _=>rfl),List.length_set],?_⟩
 rcases h.2 with ⟨hv,_⟩ | ⟨g',cap,cur,hv,hB,hh,h1,h2,h3,h4⟩
 ·rw [hv] at hg;cases hg
 ·rw [hv] at hg
  have a3:g'=g:=by simpa [Value.ownBlock] using hg
  subst a3;refine .inr ⟨g',cap,cur.setIfInBounds (j*3+2) (zfb x),hv,hB,zad hh,h1,h2,by simpa using h3,?_⟩;have hn:n*3=C.length*3:=by rw [<- h.1,hl]
  rw [Array.toList_setIfInBounds,hn];rw [hn] at h4;apply List.ext_getElem?;intro t
  have a2:∀ t,t<C.length*3->cur.toList[t]?=(C.flatMap zf5)[t]?:=by
   intro t ht;have:=congrArg (fun l=>l[t]?) h4
   simp only [List.getElem?_take,if_pos ht] at this;exact this
  have hcl:C.length*3<=cur.toList.length:=by
   have:=congrArg List.length h4;rw [List.length_take,hl] at this;omega
  rw [List.getElem?_take];by_cases ht:t<C.length*3
  ·rw [if_pos ht,List.getElem?_set]
   have hq:t / 3<C.length:=by omega
   have e1:t / 3*3+t % 3=t:=by omega
   have a0:=zgf (k:=3) (enc:=zf5) (fun _=>rfl) (C.set j x) (t / 3) ((C.set j x)[t / 3]'(by simpa using hq)) (List.getElem?_eq_getElem (by simpa using hq)) (t % 3) (by omega)
   have a1:=zgf (k:=3) (enc:=zf5) (fun _=>rfl) C (t / 3) C[t / 3] (List.getElem?_eq_getElem hq) (t % 3) (by omega)
   rw [e1] at a0 a1;rw [a0,a2 t ht,a1];by_cases hjt:j=t / 3
   ·subst hjt
    rw [List.getElem_set_self]
    rcases (by omega:t % 3=0\/t % 3=1\/t % 3=2) with h0 | h0 | h0
    ·rw [if_neg (by omega),h0]
     show some (Value.int .i64 C[t / 3].len)=some (Value.int .i64 x.len);rw [hx.1]
    ·rw [if_neg (by omega),h0]
     show some (wdV C[t / 3])=some (wdV x);rw [hx.2]
    ·rw [if_pos (by omega),if_pos (by omega),h0];rfl
   ·rw [List.getElem_set_ne hjt,if_neg (by omega)]
  ·rw [if_neg ht,List.getElem?_eq_none (by rw [zd8 (k:=3) (enc:=zf5) (fun _=>rfl),List.length_set];omega)]
theorem GRow.add {w0 w w1:World} {v:Value} {C:List GV} (h:GRow w0 v C w) (j:Nat) (hj:j<C.length) (g:Nat) (hg:v.ownBlock=some g) (u:Value) (id:Int) (a:Option Addr) (n c:Nat) (hu:u = .slice a n c)
  (ho:w1.ownsRow w0.heap.size 3 1 u (C[j].mem.length+1) ((C[j].mem++[id]).map (Value.int .i64)))
  (hk:∀ k o,some k≠(zfb C[j]).ownBlock->w.heap[k]?=some o->w1.heap[k]?=some o) (hb:Below w0.heap.size w0 w1) (hv:(zfb C[j]).ownBlock=u.ownBlock\/u.ownBlock=some w.heap.size) (hz:w.heap.size<=w1.heap.size) :
  GRow w0 v (C.set j ⟨C[j].len,C[j].wa,C[j].wn,C[j].wc,a,n,c,C[j].ws,C[j].mem++[id]⟩) (w1.setCell ⟨g,j*3+2,none⟩ u):=by
 subst hu;obtain ⟨B,hB⟩:=xex (w0.heap.size);have b7:=h.own.1.lt g hg;have a4:=h.off C[j] (List.getElem_mem hj)
 have b2:∀ k,(Value.slice a n c).ownBlock=some k->k≠g:=by
  intro k a2 e;subst e
  rcases hv with h1 | h1
  ·rw [<- h1] at a2
   rcases a4 with h2 | h2
   ·rw [h2] at a2;cases a2
   ·rw [a2,hg] at h2;exact h2 rfl
  ·rw [h1] at a2
   have:w.heap.size=k:=by simpa using a2
   omega
 have a3:=zdb h.own.1 hk (by
  by_cases h0:v.ownBlock=none
  ·exact .inl h0
  ·right
   rcases a4 with h2 | h2
   ·rw [h2];exact h0
   ·exact Ne.symm h2)
 have a7:=own_setG (x:=⟨C[j].len,C[j].wa,C[j].wn,C[j].wc,a,n,c,C[j].ws,C[j].mem++[id]⟩) a3 hg j hj ⟨rfl,rfl⟩
 have a8:OwnV 160 3 zf5 w0 v (C.set j ⟨C[j].len,C[j].wa,C[j].wn,C[j].wc,a,n,c,C[j].ws,C[j].mem++[id]⟩) (w1.setCell ⟨g,j*3+2,none⟩ (.slice a n c)):=by
  refine ⟨?_,hb.setCell (p:=⟨g,j*3+2,none⟩) b7.1 _⟩;rw [List.length_set];exact a7
 have a6:∀ {e size m:Nat} {u:Value} {xs:List Value},w1.ownsRow w0.heap.size e size u m xs->(u.ownBlock=none\/u.ownBlock≠some g)->(w1.setCell ⟨g,j*3+2,none⟩ (.slice a n c)).ownsRow w0.heap.size e size u m xs:=by
  intro e size n' u xs h1 h2
  refine zdb (r:=some g) h1 (fun k o a2 hko=>?_) h2
  exact zam hko (fun e=>a2 (by rw [e]))
 have b0:∀ i k (hi:i<C.length) (a9:k<C.length),i≠k->(zfb C[i]).ownBlock=none\/(zfb C[i]).ownBlock≠(zfb C[k]).ownBlock:=by
  intro i k hi a9 hne
  rcases Nat.lt_or_ge i k with h1 | h1
  ·exact List.pairwise_iff_getElem.1 h.apart i k hi a9 h1
  ·rcases List.pairwise_iff_getElem.1 h.apart k i a9 hi (by omega) with h2 | h2
   ·by_cases h3:(zfb C[i]).ownBlock=none
    ·exact .inl h3
    ·exact .inr (by rw [h2];exact h3)
   ·exact .inr (Ne.symm h2)
 have b6:∀ i (hi:i<C.length) b,(zfb C[i]).ownBlock=some b->b<w.heap.size:=fun i hi b e=>((h.ids C[i] (List.getElem_mem hi)).lt b e).2
 have a5:∀ i (hi:i<C.length),i≠j->(Value.slice a n c).ownBlock=none\/(Value.slice a n c).ownBlock≠(zfb C[i]).ownBlock:=by
  intro i hi a0
  rcases hv with h1 | h1
  ·rw [<- h1];exact b0 j i hj hi (Ne.symm a0)
  ·right
   rw [h1];intro e;have:=b6 i hi _ e.symm;omega
 have a1:∀ {x:GV},x∈C.set j ⟨C[j].len,C[j].wa,C[j].wn,C[j].wc,a,n,c,C[j].ws,C[j].mem++[id]⟩->x=⟨C[j].len,C[j].wa,C[j].wn,C[j].wc,a,n,c,C[j].ws,C[j].mem++[id]⟩\/∃ i,∃ hi:i<C.length,i≠j/\x=C[i]:=by
  intro x hx;obtain ⟨i,hi,rfl⟩:=List.mem_iff_getElem.1 hx;by_cases a0:j=i
  ·subst a0;left;rw [List.getElem_set_self]
  ·right
   exact ⟨i,by simpa using hi,Ne.symm a0,by rw [List.getElem_set_ne a0]⟩
 refine ⟨a8,fun x hx=>?_,fun x hx=>?_,?_,?_⟩
 ·rcases a1 hx with rfl | ⟨i,hi,a0,rfl⟩
  ·refine a6 (show w1.ownsRow w0.heap.size 3 1 (.slice a n c) (C[j].mem++[id]).length ((C[j].mem++[id]).map (Value.int .i64)) by rw [List.length_append];exact ho) ?_
   by_cases h0:(Value.slice a n c).ownBlock=none
   ·exact .inl h0
   ·exact .inr fun e=>b2 g e rfl
  ·refine a6 (zdb (h.ids C[i] (List.getElem_mem hi)) hk (b0 i j hi hj a0)) ?_
   rw [<- hg];exact h.off C[i] (List.getElem_mem hi)
 ·rcases a1 hx with rfl | ⟨i,hi,a0,rfl⟩
  ·by_cases h0:(Value.slice a n c).ownBlock=none
   ·exact .inl h0
   ·exact .inr fun e=>b2 g (by rw [<- hg];exact e) rfl
  ·exact h.off C[i] (List.getElem_mem hi)
 ·refine List.pairwise_iff_getElem.2 fun p q hp hq hpq=>?_
  have b4:p<C.length:=by simpa using hp
  have b3:q<C.length:=by simpa using hq
  by_cases e1:j=p
  ·subst e1
   rw [List.getElem_set_self,List.getElem_set_ne (by omega)];exact a5 q b3 (by omega)
  ·by_cases e2:j=q
   ·subst e2
    rw [List.getElem_set_ne e1,List.getElem_set_self]
    rcases a5 p b4 (by omega) with h1 | h1
    ·by_cases h2:(zfb C[p]).ownBlock=none
     ·exact .inl h2
     ·exact .inr (by rw [show (zfb ⟨C[j].len,C[j].wa,C[j].wn,C[j].wc,a,n,c,C[j].ws,C[j].mem++[id]⟩).ownBlock=none from h1];exact h2)
    ·exact .inr (Ne.symm h1)
   ·rw [List.getElem_set_ne e1,List.getElem_set_ne e2]
    exact b0 p q b4 b3 (by omega)
 ·have b1:∀ {z:GV},Vec w (WS w0 v C) 1 zc7 (wdV z) z.ws->Vec (w1.setCell ⟨g,j*3+2,none⟩ (.slice a n c)) (WS w0 v (C.set j ⟨C[j].len,C[j].wa,C[j].wn,C[j].wc,a,n,c,C[j].ws,C[j].mem++[id]⟩)) 1 zc7 (wdV z) z.ws:=by
   intro z b5
   refine b5.move (by simpa [World.setCell] using hz) fun b hb hs=>⟨?_,hs.1,hs.2.1,fun y hy=>?_⟩
   ·have e1:w.heap[b]?=some w.heap[b]:=Array.getElem?_eq_getElem hb
    rw [e1];refine zam (hk b _ (hs.2.2 _ (List.getElem_mem hj)) e1) ?_;intro e;have e2:b=g:=e;exact hs.2.1 (by rw [hg,e2])
   ·rcases a1 hy with rfl | ⟨i,hi,a0,rfl⟩
    ·rcases hv with h1 | h1
     ·show some b≠(Value.slice a n c).ownBlock
      rw [<- h1];exact hs.2.2 _ (List.getElem_mem hj)
     ·show some b≠(Value.slice a n c).ownBlock
      rw [h1];simp;omega
    ·exact hs.2.2 _ (List.getElem_mem hi)
  intro x hx
  rcases a1 hx with rfl | ⟨i,hi,a0,rfl⟩
  ·exact b1 (h.wds C[j] (List.getElem_mem hj))
  ·exact b1 (h.wds _ (List.getElem_mem hi))
end
section
open Go.RowKit
theorem rorder_any (x y:Int) (w:World):Calls prog 44 #[.int .i64 x,.int .i64 y] w fun e w'=>e = .returned (.int .i64 (zf9 x y))/\w=w':=by
 obtain ⟨c,hc⟩:=xex (zf9 x y);rw [hc];unfold zf9 at hc;by_cases h1:x<y
 ·have d1:decide (x<y)=true:=by simpa using h1
  rw [if_pos h1] at hc;subst hc;go_enter func44,ntmps44
  go_wp2_with fail
  go_ret;exact ⟨rfl,rfl⟩
 ·have d1:decide (x<y)=false:=by simpa using h1
  rw [if_neg h1] at hc;by_cases h2:y<x
  ·have d2:decide (y<x)=true:=by simpa using h2
   rw [if_pos h2] at hc;subst hc;go_enter func44,ntmps44
   go_wp2_with fail
   go_ret;exact ⟨rfl,rfl⟩
  ·have d2:decide (y<x)=false:=by simpa using h2
   rw [if_neg h2] at hc;subst hc;go_enter func44,ntmps44
   go_wp2_with fail
   go_ret;exact ⟨rfl,rfl⟩
theorem cmp3_gt {x y:Int} (h:y<x):zf9 x y=1:=by unfold zf9;rw [if_neg (by omega),if_pos h]
theorem cmp3_lt {x y:Int} (h:x<y):zf9 x y = -1:=by unfold zf9;rw [if_pos h]
theorem cmp3_no {x y:Int} (h:¬ x<y) (h2:¬ y<x):zf9 x y=0:=by unfold zf9;rw [if_neg h,if_neg h2]
theorem cmpB_one {a b:BitsL} (h:zf9 a.len b.len≠0):cmpB a b=zf9 a.len b.len:=by unfold cmpB orN;rw [if_neg h]
theorem cmpB_two {a b:BitsL} (h:zf9 a.len b.len=0) (h2:zf9 a.words.length b.words.length≠0):cmpB a b=zf9 a.words.length b.words.length:=by unfold cmpB orN;rw [if_pos h];unfold orN;rw [if_neg h2]
theorem cmpB_three {a b:BitsL} (h:zf9 a.len b.len=0) (h2:zf9 a.words.length b.words.length=0):cmpB a b=cmpW a.words b.words:=by
 unfold cmpB orN;rw [if_pos h];unfold orN;rw [if_pos h2];unfold orN;split
 next h3=>rw [h3];rfl
 next h3=>rfl
theorem rcmpB_any (S T:Nat->Prop) (u v:Value) (a b:BitsL) (w:World) (hu:BitsAt w S u a) (hv:BitsAt w T v b) (hn:a.words.length<=1000000) :
  Calls prog 16 #[u,v] w fun e w'=>e = .returned (.int .i64 (cmpB a b))/\Below w.heap.size w w':=by
 obtain ⟨su,rfl,hu⟩:=hu;obtain ⟨sv,rfl,hv⟩:=hv;obtain ⟨aa,ca,rfl⟩:=hu.slice;obtain ⟨ab,cb,rfl⟩:=hv.slice;have HU:=zjy hu;have HV:=zjy hv;clear hu hv;have a6:∀ n:Int,cmpB a b=n->Ending.returned (.int .i64 n) = .returned (.int .i64 (cmpB a b)):=fun n h=>by rw [h]
 have HF:=zjy a6;clear a6;go_enter func16,ntmps16
 go_wp2_with fail
 refine zah (fun W hW=>?_)
 have b6:=xam hW
 have b7:W.heap[w.heap.size]?=some (.cells #[.int .i64 a.len,.slice aa a.words.length ca] 56 (0,0)):=by rw [hW];exact zaf (zac rfl)
 have b2:W.heap[w.heap.size+1]?=some (.cells #[.int .i64 b.len,.slice ab b.words.length cb] 56 (0,0)):=by rw [hW];exact zac (by simp)
 clear hW;have a2:=zjy b6;obtain ⟨a0,a1⟩:=zae b7;obtain ⟨b0,b1⟩:=zae b2;have lW:=zaa b2;clear b7 b2 b6;refine (rorder_any _ _ _).mono ?_;rintro e w1 ⟨rfl,rfl⟩;by_cases h1:zf9 a.len b.len=0
 ·rw [h1]
  have d1:((0:Int) != 0)=false:=rfl;have H1:=zjy h1;clear h1;go_wp2_with fail
  refine (rorder_any _ _ _).mono ?_;rintro e w1 ⟨rfl,rfl⟩;by_cases h2:zf9 a.words.length b.words.length=0
  ·rw [h2]
   have a5:a.words.length=b.words.length:=by have:=cmp3_eq h2;omega
   have H2:=zjy h2;have HL:=zjy a5;clear h2 a5;obtain ⟨z,hz⟩:=xex (cmpW a.words b.words);have HZ:=zjy hz;clear hz;have a4:=zjy (HF.o z ((cmpB_three H1.o H2.o).trans HZ.o));go_wp2_with fail
   go_loopw [7] (fun i wr=>∃ k:Nat,i = .int .i64 k/\k<=a.words.length/\Hid (cmpW (a.words.drop k) (b.words.drop k)=z)/\Below W.heap.size W wr) (fun i _=>a.words.length - (intOf i).toNat)
   case atStart=>exact ⟨0,rfl,by omega,zjy HZ.o,Below.refl _ _⟩
   case round =>
    obtain ⟨k,rfl,hk,HT,a3⟩:=hrel;have a7:=zjy a3;have a0':=(a3.cell (p:=⟨w.heap.size,0,none⟩) (by show w.heap.size<_;omega)).trans a0;have b9:=(a3.cell (p:=⟨w.heap.size,1,none⟩) (by show w.heap.size<_;omega)).trans a1;have b0':=(a3.cell (p:=⟨w.heap.size+1,0,none⟩) lW).trans b0;have b8:=(a3.cell (p:=⟨w.heap.size+1,1,none⟩) lW).trans b1;by_cases hlt:k<a.words.length
    ·have hq:decide ((k:Int)<a.words.length)=true:=by simp;omega
     have a9:k<b.words.length:=by rw [<- HL.o];exact hlt
     have hi1:(k:Int)<(a.words.length:Int):=by omega
     have hi2:(k:Int)<(b.words.length:Int):=by omega
     obtain ⟨ba,oa,rfl,hba,b5⟩:=(HU.o.below (a2.o.trans (a3.mono a2.o.size))).get k hlt;have c0:=b5 0 _ rfl;rw [Nat.mul_one,Nat.add_zero] at c0;obtain ⟨bb,ob,rfl,hbb,b4⟩:=(HV.o.below (a2.o.trans (a3.mono a2.o.size))).get k a9;have e0:=b4 0 _ rfl;rw [Nat.mul_one,Nat.add_zero] at e0;have ht:=HT.o;rw [cmpW_drop hlt a9,zbb _ _ hlt,zbb _ _ a9] at ht;obtain ⟨x,hx⟩:=xex (a.words[k]);obtain ⟨y,hy⟩:=xex (b.words[k]);rw [hx] at c0 ht;rw [hy] at e0 ht;have b3:=zjy ht;clear hx hy b5 b4 ht a3;go_wp2_with fail
     refine wp_region_noPanic ?_
     refine wp_region_held_drew (S:=(fun w'=>w'.cell? ⟨w.heap.size,1,none⟩=some (.slice (some ⟨ba,oa,none⟩) a.words.length ca)/\w'.cell? ⟨w.heap.size+1,1,none⟩=some (.slice (some ⟨bb,ob,none⟩) b.words.length cb)/\w'.cell? ⟨ba,oa+k,none⟩=some (.int .u64 x)/\w'.cell? ⟨bb,ob+k,none⟩=some (.int .u64 y))) (by kernel_rfl) (⟨b9,b8,c0,e0⟩) (fun hHeld=>?_)
     refine tH 0 ?_;refine tH 1 ?_;refine tH 2 ?_;refine tH 3 ?_;refine tH 4 ?_;refine tH 5 ?_;refine tH 6 ?_;refine tH 7 ?_;refine tH 8 ?_;refine tH 9 ?_;refine tH 10 ?_;refine wpAnyH_done (by kernel_rfl) ?_ _;refine NoPanic.normal ?_;by_cases h3:x<y
     ·have d3:decide (x<y)=true:=by simpa using h3
      have a8:z = -1:=by rw [<- b3.o,cmp3_lt h3];rfl
      subst a8;go_wp2_with fail
      go_ret;exact ⟨a4.o,a2.o.trans ((a7.o.drew).mono a2.o.size)⟩
     ·have d3:decide (x<y)=false:=by simpa using h3
      have H3:=zjy h3;go_wp2_with fail
      clear hHeld;refine wp_region_noPanic ?_
      refine wp_region_held_drew (S:=(fun w'=>w'.cell? ⟨w.heap.size,1,none⟩=some (.slice (some ⟨ba,oa,none⟩) a.words.length ca)/\w'.cell? ⟨w.heap.size+1,1,none⟩=some (.slice (some ⟨bb,ob,none⟩) b.words.length cb)/\w'.cell? ⟨ba,oa+k,none⟩=some (.int .u64 x)/\w'.cell? ⟨bb,ob+k,none⟩=some (.int .u64 y))) (by kernel_rfl) (⟨b9,b8,c0,e0⟩) (fun hHeld=>?_)
      refine tH 0 ?_;refine tH 1 ?_;refine tH 2 ?_;refine tH 3 ?_;refine tH 4 ?_;refine tH 5 ?_;refine tH 6 ?_;refine tH 7 ?_;refine tH 8 ?_;refine tH 9 ?_;refine tH 10 ?_;refine wpAnyH_done (by kernel_rfl) ?_ _;refine NoPanic.normal ?_;by_cases h4:y<x
      ·have d4:decide (y<x)=true:=by simpa using h4
       have a8:z=1:=by rw [<- b3.o,cmp3_gt h4];rfl
       subst a8;go_wp2_with fail
       go_ret;exact ⟨a4.o,a2.o.trans ((a7.o.drew.drew).mono a2.o.size)⟩
      ·have d4:decide (y<x)=false:=by simpa using h4
       have ht:=b3.o;rw [if_pos (show zf9 x y=0 from cmp3_no (by have:=H3.o;omega) h4)] at ht;have c2:=zjy ht;clear ht;go_wp2_with fail
       go_roundw
       case rel=>exact ⟨k+1,by go_num,by omega,c2,a7.o.drew.drew⟩
       case measure=>simp [intOf];omega
    ·have hq:decide ((k:Int)<a.words.length)=false:=by simp;omega
     have ht:=HT.o;rw [show a.words.drop k=[] from List.drop_eq_nil_of_le (by omega),show b.words.drop k=[] from List.drop_eq_nil_of_le (by have:=HL.o;omega)] at ht;have c1:z=0:=ht.symm;subst c1;clear ht;go_wp2_with fail
     go_ret;exact ⟨a4.o,a2.o.trans (a7.o.mono a2.o.size)⟩
  ·have d2:(zf9 a.words.length b.words.length != 0)=true:=by simpa using h2
   have a4:=zjy (HF.o _ (cmpB_two H1.o h2));clear h2;go_wp2_with fail
   go_ret;exact ⟨a4.o,a2.o⟩
 ·have d1:(zf9 a.len b.len != 0)=true:=by simpa using h1
  have a4:=zjy (HF.o _ (cmpB_one h1));clear h1;go_wp2_with fail
  go_ret;exact ⟨a4.o,a2.o⟩
end
section
open Go.RowKit
theorem zi9 (n:Int) (w:World) (hn:-9223372036854775808<=n) (hn2:n<=9223372036854775807) :
  Calls prog 80 #[.int .i64 n] w fun e w'=>e = .returned (.bool (zda n))/\w=w':=by
 unfold zda;by_cases h1:64<=n
 ·by_cases h2:n<=512
  ·have e1:decide ((64:Int)<=n)=true:=by simpa using h1
   have e2:decide (n<=(512:Int))=true:=by simpa using h2
   rw [e1,e2];go_enter func80,ntmps80
   go_wp2_with fail
   go_ret;exact ⟨rfl,rfl⟩
  ·have e1:decide ((64:Int)<=n)=true:=by simpa using h1
   have e2:decide (n<=(512:Int))=false:=by simpa using h2
   rw [e1,e2];go_enter func80,ntmps80
   go_wp2_with fail
   go_ret;exact ⟨rfl,rfl⟩
 ·have e1:decide ((64:Int)<=n)=false:=by simpa using h1
  rw [e1];go_enter func80,ntmps80
  go_wp2_with fail
  go_ret;exact ⟨rfl,rfl⟩
theorem zgm (n:Int) (w:World) (h:zda n=true):Calls prog 114 #[.int .i64 n] w (NewPost n w):=by
 have h0:=h;simp only [zda,Bool.and_eq_true,decide_eq_true_iff,beq_iff_eq] at h0;obtain ⟨⟨h1,h2⟩,h3⟩:=h0;obtain ⟨m,hm⟩:∃ m:Nat,n=64*m:=⟨(n / 64).toNat,by omega⟩;have a0:n / 64=(m:Int):=by omega
 have hz:ze6 n=List.replicate m 0:=by unfold ze6;rw [a0];rfl
 have a1:=run_make_row' (P:=prog) 54 39 (.int .u64 0) 8 underlying54 infoU rfl .i64 .i64 m (by omega) (by omega);rw [made_words] at a1;have HR:=zjy h;have HM:=zjy hm;have HZ:=zjy hz;clear h hm h3 hz;go_enter func114,ntmps114
 go_wp2_with fail
 refine (zi9 n _ (by omega) (by omega)).mono ?_;rw [HR.o];rintro e w1 ⟨rfl,rfl⟩;go_wp2_with fail
 exact zai rfl rfl (zaf (zac rfl)) underlying56 rfl (by kernel_rfl)
  ⟨w.heap.size+1,m,rfl,HM.o,Nat.le_succ _,by rw [HZ.o];exact zac (by simp),((Below.refl _ _).alloc xnl _).alloc (by simp) _⟩
theorem zed (S:Nat->Prop) (v:Value) (b:BitsL) (w:World) (h:BitsAt w S v b) (hn:-9223372036854775808<=b.len) (hn2:b.len<=9223372036854775807) :
  Calls prog 50 #[v] w fun e w'=>e = .returned (.bool (zap b))/\Below w.heap.size w w':=by
 obtain ⟨s,rfl,hv⟩:=h;obtain ⟨a,cap,rfl⟩:=hv.slice;clear hv;unfold zap;cases hr:zda b.len
 ·have HR:=zjy hr;clear hr
  go_enter func50,ntmps50
  go_wp2_with fail
  refine (zi9 _ _ hn hn2).mono ?_;rw [HR.o];rintro e w1 ⟨rfl,rfl⟩;go_wp2_with fail
  go_ret;exact ⟨rfl,(Below.refl _ _).alloc xnl _⟩
 ·have h0:=hr
  simp only [zda,Bool.and_eq_true,decide_eq_true_iff,beq_iff_eq] at h0;obtain ⟨⟨h1,h2⟩,h3⟩:=h0;have HR:=zjy hr;clear hr h3;go_enter func50,ntmps50
  go_wp2_with fail
  refine (zi9 _ _ hn hn2).mono ?_;rw [HR.o];rintro e w1 ⟨rfl,rfl⟩;go_wp2_with fail
  go_ret;exact ⟨rfl,(Below.refl _ _).alloc xnl _⟩
theorem rbnew_no (n:Int) (w:World) (h:zda n=false) (h1:-9223372036854775808<=n) (h2:n<=9223372036854775807) :
  Calls prog 114 #[.int .i64 n] w fun e w'=>e = .returned (.tuple #[.agg #[.int .i64 0,.slice none 0 0],.int .i64 2])/\Below w.heap.size w w':=by
 have HR:=zjy h;clear h;go_enter func114,ntmps114
 go_wp2_with fail
 refine (zi9 n _ h1 h2).mono ?_;rw [HR.o];rintro e w1 ⟨rfl,rfl⟩;go_wp2_with fail
 exact zai rfl rfl (zac rfl) underlying56 rfl (by kernel_rfl)
  ⟨rfl,(Below.refl w.heap.size w).alloc xnl _⟩
end
section
open Go.RowKit
theorem one_encU:∀ x:Int,∀ u∈zc7 x,u.oneCell'=true:=by intro x u hu;simp at hu;subst hu;rfl
theorem rcopy9_any (S:Nat->Prop) (v:Value) (b:BitsL) (w:World) (h:BitsAt w S v b) (hn:b.words.length<=1000000) :
  Calls prog 51 #[v] w fun e w'=>∃ v',e = .returned (.agg #[.int .i64 b.len,v'])/\OwnV 39 1 zc7 w v' b.words w':=by
 obtain ⟨s,rfl,hv⟩:=h;obtain ⟨a,a4,rfl⟩:=hv.slice;obtain ⟨len,ws⟩:=b;dsimp only at hv hn ⊢;have HV:=zjy hv;clear hv;go_enter func51,ntmps51
 go_wp2_with fail
 refine zal (fun W hW=>?_)
 have a3:=xam hW
 have a2:W.heap[w.heap.size]?=some (.cells #[.int .i64 len,.slice a ws.length a4] 56 (0,0)):=by rw [hW];exact zaf (zac rfl)
 have a1:W.heap[w.heap.size+1]?=some (.cells #[.int .i64 0,.slice none 0 0] 56 (0,0)):=by rw [hW];exact zac (by simp)
 have hR:zck W.drew 1 (.slice a ws.length a4) ws.length (ws.flatMap zc7):=Vec.reads (k:=1) (enc:=zc7) (fun _=>rfl) (HV.o.below (a3.drew))
 have lz:=zaa a1;have HR:=zjy hR;have HB:=zjy a3.drew;have HX:=zjy a2;have HZ:=zjy a1;clear hW a3 hR a1;obtain ⟨x0,x1⟩:=zae a2;clear a2;refine wp_region_noPanic ?_
 refine wp_region_held_drew (S:=(fun w'=>w'.cell? ⟨w.heap.size,0,none⟩=some (.int .i64 len)/\w'.cell? ⟨w.heap.size,1,none⟩=some (.slice a ws.length a4))) (by kernel_rfl) (⟨x0,x1⟩) (fun hHeld=>?_)
 refine tH 0 ?_;refine tH 1 ?_;refine tH 2 ?_;refine tH 3 ?_
 refine xrH 4 rfl fun K hK=>?_
 refine zbr (.const (.slice none 0 0)) (.tmp 6) 54 (by rfl) 39 (.int .u64 0) 1 8 zc7 (fun _=>rfl) one_encU underlying54 infoU rfl (by decide) (by decide) (w0:=W.drew) (v:=.slice none 0 0) (A:=[]) (B:=ws) (by rfl) (OwnV.nil (Below.refl _ _)) (by rfl) HR.o (by simp;omega) ?_;intro v' W2 ho hk hz;obtain ⟨a',c',e'⟩:=zar ho.1;subst e';have a5:=hk _ _ (by simp [Value.ownBlock]) (show W.drew.heap[w.heap.size]?=_ from HX.o);have a0:=hk _ _ (by simp [Value.ownBlock]) (show W.drew.heap[w.heap.size+1]?=_ from HZ.o);obtain ⟨e0,e1⟩:=zae a0;have f0:=frozen_of_row _ _ 0 _ _ a0;have f1:=frozen_of_row _ _ 1 _ _ a0
 refine hK.out _ _ (zae a5) (fun hHeld=>?_)
 clear hK K;refine tH 5 ?_
 refine xrH 6 rfl fun K hK=>?_
 go_simp;skip
 refine hK.out _ _ (zae (zam (zam a5 (by simp)) (by simp))) (fun hHeld=>?_)
 clear hK K;refine wpAnyH_done (by kernel_rfl) ?_ _;refine NoPanic.normal ?_;go_wp2_with fail
 have a7:∀ k,(Value.slice a' ([]++ws).length c').ownBlock=some k->w.heap.size+1<k:=fun k e=>by have:=(World.ownsRow.lt ho.1 k e).1;have:W.drew.heap.size=W.heap.size:=rfl;omega
 have a8:=HB.o.trans (ho.2.mono HB.o.size);have a6:=ho.rebase HB.o
 have h3:(((W2.setCell ⟨w.heap.size+1,0,none⟩ (.int .i64 len)).setCell ⟨w.heap.size+1,1,none⟩ (.slice a' ([]++ws).length c'))).ownsRow w.heap.size 39 1 (.slice a' ([]++ws).length c') ws.length (ws.flatMap zc7):=by
  refine zdb (r:=some (w.heap.size+1)) a6.1 (fun k o hne hk'=>zam (zam hk' (fun e=>hne (by rw [e]))) (fun e=>hne (by rw [e]))) ?_
  by_cases h0:(Value.slice a' ([]++ws).length c').ownBlock=none
  ·exact .inl h0
  ·exact .inr fun e=>absurd (a7 _ e) (by omega)
 exact za5 rfl rfl (zad (i:=1) (v:=.slice a' ([]++ws).length c') (zad (i:=0) (v:=.int .i64 len) a0)) underlying56 rfl (by kernel_rfl) ⟨_,rfl,h3,(a8.setCell (p:=⟨w.heap.size+1,0,none⟩) (by simp) _).setCell (p:=⟨w.heap.size+1,1,none⟩) (by simp) _⟩
theorem own_setU {w:World} {B e n:Nat} {v:Value} {ws:List Int} {g:Nat} (h:w.ownsRow B e 1 v n (ws.flatMap zc7)) (hg:v.ownBlock=some g) (q:Nat) (x:Int):(w.setCell ⟨g,q,none⟩ (.int .u64 x)).ownsRow B e 1 v n ((ws.set q x).flatMap zc7):=by
 refine ⟨by rw [<- h.1,fl_u,fl_u,List.length_map,List.length_map,List.length_set],?_⟩
 rcases h.2 with ⟨hv,_⟩ | ⟨g',cap,cur,hv,hB,hh,h1,h2,h3,h4⟩
 ·rw [hv] at hg;cases hg
 ·rw [hv] at hg
  have a0:g'=g:=by simpa [Value.ownBlock] using hg
  subst a0;refine .inr ⟨g',cap,cur.setIfInBounds q (.int .u64 x),hv,hB,zad hh,h1,h2,by simpa using h3,?_⟩;rw [Array.toList_setIfInBounds,fl_u,List.map_set,<- fl_u,<- h4,List.take_set]
theorem rset9_yes (S:Nat->Prop) (v:Value) (b:BitsL) (i:Int) (w:World) (h:BitsAt w S v b) (hvb:zap b=true) (i0:0<=i) (i1:i<b.len) :
  Calls prog 121 #[v,.int .i64 i] w fun e w'=>∃ v',e = .returned (.tuple #[v',.int .i64 0])/\BitsAt w' (fun x=>w.heap.size<=x) v' ⟨b.len,zf6 b.words i⟩/\Below w.heap.size w w':=by
 obtain ⟨s,rfl,hv⟩:=h;obtain ⟨a,d5,rfl⟩:=hv.slice;obtain ⟨len,ws⟩:=b;dsimp only at hv i1 ⊢;have a5:=hvb;simp only [zap,zda,Bool.and_eq_true,decide_eq_true_iff,beq_iff_eq] at a5;obtain ⟨⟨⟨l1,l2⟩,l3⟩,l4⟩:=a5;have hm:(ws.length:Int)*64=len:=by omega
 have hm8:ws.length<=8:=by omega
 have c4:1<=ws.length:=by omega
 have HV:=zjy hv.any;have d8:=zjy hvb;have HM:=zjy hm;clear hv hvb l3 l4 hm;go_enter func121,ntmps121
 go_wp2_with fail
 refine zah (fun W hW=>?_)
 have a7:=xam hW
 have b4:W.heap[w.heap.size]?=some (.cells #[.int .i64 len,.slice a ws.length d5] 56 (0,0)):=by rw [hW];exact zaf (zac rfl)
 have b3:W.heap[w.heap.size+1]?=some (.cells #[.int .i64 0,.slice none 0 0] 56 (0,0)):=by rw [hW];exact zac (by simp)
 clear hW;refine (zed zau _ ⟨len,ws⟩ W ⟨_,rfl,HV.o.below a7⟩ (by dsimp only;omega) (by dsimp only;omega)).mono ?_;rw [d8.o];rintro e w1 ⟨rfl,hb⟩;have b0:=zjy (zab hb (zaa b4) b4);have a9:=zjy (zab hb (zaa b3) b3);have b1:=zjy (a7.trans (hb.mono a7.size));have lx:=zaa b0.o;obtain ⟨x0,x1⟩:=zae b0.o;have d1:decide (i<(0:Int))=false:=by simp;omega
 have d2:decide (len<=i)=false:=by simp;omega
 clear a7 b4 b3 hb;go_wp2_with fail
 refine (rcopy9_any zau _ ⟨len,ws⟩ _ ⟨_,rfl,HV.o.below b1.o⟩ (by dsimp only;omega)).mono ?_;rintro e w2 ⟨v',rfl,ho⟩;dsimp only at ho ⊢
 rcases ho.form with ⟨_,h0⟩ | ⟨g,cp,rfl,hcp,hcm,lg⟩
 ·rw [h0] at c4;simp at c4
 have hgB:w1.heap.size<=g:=(World.ownsRow.lt ho.1 g rfl).1;have c9:=zjy (zab ho.2 (zaa b0.o) b0.o);have c8:=zjy (zab ho.2 (zaa a9.o) a9.o);have c1:=zjy (b1.o.trans (ho.2.mono b1.o.size));have HO:=zjy ho;clear ho x0 x1 hcp hcm;go_wp2_with fail
 refine zal (fun W6 hW6=>?_)
 have h6:W6.heap[w2.heap.size]?=some (.cells #[.int .i64 len,.slice (some ⟨g,0,none⟩) ws.length cp] 56 (0,0)):=by rw [hW6];exact zac rfl
 have b6:=xal hW6
 have a6:=zcf HO.o.1 b6;obtain ⟨d0,c6⟩:=zae h6;have hq:(i / 64).toNat<ws.length:=by have:=HM.o;omega
 have a4:Vec W6 zau 1 zc7 (.slice (some ⟨g,0,none⟩) ws.length cp) ws:=Vec.owns (k:=1) (enc:=zc7) (fun _=>rfl) a6 fun _ _ _=>trivial
 obtain ⟨b',off,eb,_,hc⟩:=a4.get _ hq;cases eb;have cw:=hc 0 _ rfl;rw [Nat.mul_one,Nat.add_zero,Nat.zero_add] at cw;rw [<- zbb ws 0 hq] at cw;obtain ⟨wd,b5⟩:=xex (ws.getD (i / 64).toNat 0);rw [b5] at cw
 obtain ⟨a8,a0⟩:∃ a8,W6.heap[g]?=some (.cells a8 39 (0,0)):=by
  rcases a6.2 with ⟨e,_⟩ | ⟨g',cap',a8,e,_,hh,_⟩
  ·cases e
  ·cases e;exact ⟨a8,hh⟩
 have fw:=frozen_of_row _ _ (i / 64).toNat _ _ a0;have lg6:=zaa a0;have ht1:i.tdiv 64=i / 64:=Int.tdiv_eq_ediv_of_nonneg i0;have ht2:i.tmod 64=i % 64:=Int.tmod_eq_emod_of_nonneg i0;have hw1:IntKind.i64.wrap (i / 64)=i / 64:=by rw [IntKind.wrap_i64];omega
 have j0:(0:Int)<=i / 64:=by omega
 have j1:i / 64<(ws.length:Int):=by have:=HM.o;omega
 have j2:(0:Int)<=i % 64:=by omega
 have j3:¬ (i % 64<0):=by omega
 have e3:=zjy a6;have H6:=zjy h6;have d3:=zjy b6;have d7:=zjy b5;have HX6:=zjy (zab b6 (zaa c9.o) c9.o);have c7:=zjy (zab b6 (zaa c8.o) c8.o);clear hW6 h6 b6 a6 a4 hc b5 a0 hq;refine wp_region_noPanic ?_
 refine zaw (by kernel_rfl) (fun w'=>w'.cell? ⟨w2.heap.size,1,none⟩=some (.slice (some ⟨g,0,none⟩) ws.length cp)/\w'.cell? ⟨g,(i / 64).toNat,none⟩=some (.int .u64 wd)) 11 (⟨c6,cw⟩) (fun hHeld=>?_)
 refine tK 0 ?_;refine tK 1 ?_;refine tK 2 ?_;refine tK 3 ?_;refine tK 4 ?_;refine tK 5 ?_;refine tK 6 ?_;refine tK 7 ?_;refine tK 8 ?_;refine tK 9 ?_;refine tK 10 ?_
 refine xrK 11 rfl fun K hK=>?_
 go_simp;refine zav hK (by decide) ?_;clear hK K;refine zas (by kernel_rfl) ?_ _;refine NoPanic.normal ?_;obtain ⟨x,hx⟩:=xex (bits .or .u64 wd (IntKind.u64.wrap (2 ^ (i % 64).toNat)));rw [hx];obtain ⟨W7,a3⟩:∃ u,u=(W6.setCell ⟨g,(i / 64).toNat,none⟩ (.int .u64 x)).drew:=⟨_,rfl⟩;rw [<- a3];have z2:=c1.o.size;have z6:=d3.o.size;have lz:=zaa c7.o;have l2:=zaa H6.o;have b9:w2.heap.size≠g:=by omega
 have b8:∀ k o,k≠g->W6.heap[k]?=some o->W7.heap[k]?=some o:=fun k o hne ho=>by rw [a3];exact (show (W6.setCell ⟨g,(i / 64).toNat,none⟩ (.int .u64 x)).heap[k]?=some o from zam ho hne)
 have z7:W7.heap.size=W6.heap.size:=by rw [a3];simp [World.setCell,World.drew]
 have c0:=b8 _ _ b9 H6.o;have lz1:=zaa a9.o;have a1:=b8 _ _ (by omega) c7.o
 have c3:W7.ownsRow w1.heap.size 39 1 (.slice (some ⟨g,0,none⟩) ws.length cp) ws.length ((ws.set (i / 64).toNat x).flatMap zc7):=by
  rw [a3];exact own_setU e3.o rfl _ _
 have c5:Below w.heap.size w W7:=by
  rw [a3];exact ((c1.o.trans (d3.o.mono c1.o.size)).setCell (p:=⟨g,(i / 64).toNat,none⟩) (by have:=b1.o.size;show w.heap.size<=g;omega) _).drew
 have he:zf6 ws i=ws.set (i / 64).toNat x:=by
  rw [<- hx,<- d7.o];rfl
 obtain ⟨e0,e1⟩:=zae c0;obtain ⟨y0,y1⟩:=zae a1;have f0:=frozen_of_row _ _ 0 _ _ a1;have f1:=frozen_of_row _ _ 1 _ _ a1;have lz7:=zaa a1;have l67:=zaa c0;have HE:=zjy he;have d9:=zjy c3;have d6:=zjy a1;have e4:=zjy c5;have hge:w.heap.size+1<g:=by have:=zaa a9.o;omega
 clear a3 b8 c0 a1 c3 c5 he hx d0 c6 cw;go_wp2_with fail
 refine zai rfl rfl (zad (i:=1) (v:=.slice (some ⟨g,0,none⟩) ws.length cp) (zad (i:=0) (v:=.int .i64 len) d6.o)) underlying56 rfl (by kernel_rfl)
  ⟨_,rfl,⟨_,rfl,?_⟩,(e4.o.setCell (p:=⟨w.heap.size+1,0,none⟩) (by simp) _).setCell (p:=⟨w.heap.size+1,1,none⟩) (by simp) _⟩
 have d4:Vec W7 (fun b=>w.heap.size<=b/\b≠w.heap.size+1) 1 zc7 (.slice (some ⟨g,0,none⟩) ws.length cp) (ws.set (i / 64).toNat x):=by
  have h:=d9.o;have b7:(ws.set (i / 64).toNat x).length=ws.length:=List.length_set;rw [<- b7] at h;have h':=Vec.owns (k:=1) (enc:=zc7) (fun _=>rfl) h (S:=fun b=>b=g\/True) fun _ _ _=>.inr trivial
  obtain ⟨a2,c2,e2,k1,k2⟩:=h';rw [b7] at e2;cases e2
  refine ⟨_,_,by rw [b7],k1,fun h0=>?_⟩
  obtain ⟨b2,o2,q1,_,q3,q4⟩:=k2 h0;cases q1;exact ⟨_,_,rfl,⟨by omega,by omega⟩,q3,q4⟩
 have h8:=(d4.set1 (a:=⟨w.heap.size+1,0,none⟩) (fun b hb=>hb.2) (.int .i64 len)).set1 (a:=⟨w.heap.size+1,1,none⟩) (fun b hb=>hb.2) (.slice (some ⟨g,0,none⟩) ws.length cp)
 have h9:=h8.move (S':=fun b=>w.heap.size<=b) xnl fun b _ hb=>⟨rfl,hb.1⟩
 rw [<- HE.o] at h9;exact h9
end
end Go.Proofs.YtgkaafncfjlooaaGreatDoor
section
namespace Go.Proofs
open Go.Shelf
def Tryz.sortg_ren:Go.Shelf.Ren:=⟨fun | 6=>102 | 15=>145 | 14=>144 | 28=>194 | 29=>195 | 20=>186 | 21=>187 | 22=>188 | 23=>189 | 24=>190 | 25=>191 | 26=>192 | 27=>193 | 46=>223 | 47=>224 | 48=>225 | 49=>226 | 50=>227 | 57=>245 | n=>n,fun | 22=>157 | 24=>160 | 25=>164 | 3=>3 | 39=>119 | 0=>0 | 53=>228 | 55=>39 | 4=>4 | 46=>222 | 45=>221 | 50=>103 | 5=>5 | 9=>9 | 66=>237 | 70=>240 | 76=>247 | 77=>248 | n=>n,fun | n=>n⟩
theorem Tryz.sortg:Go.Proofs.SlLaysF0.n6 prog Tryz.sortg_ren:={
 mixed:=by kernel_rfl
 f6:=⟨Tryz.f102.name,by decide,func102.trans (congrArg some (by kernel_rfl))⟩
 f14:=⟨Tryz.f144.name,by decide,func144.trans (congrArg some (by kernel_rfl))⟩
 f15:=func145.trans (congrArg some (by kernel_rfl))
 f20:=⟨Tryz.f186.name,by decide,func186.trans (congrArg some (by kernel_rfl))⟩
 f21:=⟨Tryz.f187.name,by decide,func187.trans (congrArg some (by kernel_rfl))⟩
 f22:=⟨Tryz.f188.name,by decide,func188.trans (congrArg some (by kernel_rfl))⟩
 f23:=⟨Tryz.f189.name,by decide,func189.trans (congrArg some (by kernel_rfl))⟩
 f24:=⟨Tryz.f190.name,by decide,func190.trans (congrArg some (by kernel_rfl))⟩
 f25:=⟨Tryz.f191.name,by decide,func191.trans (congrArg some (by kernel_rfl))⟩
 f26:=⟨Tryz.f192.name,by decide,func192.trans (congrArg some (by kernel_rfl))⟩
 f27:=⟨Tryz.f193.name,by decide,func193.trans (congrArg some (by kernel_rfl))⟩
 f28:=func194.trans (congrArg some (by kernel_rfl))
 f29:=func195.trans (congrArg some (by kernel_rfl))
 f46:=⟨Tryz.f223.name,by decide,func223.trans (congrArg some (by kernel_rfl))⟩
 f47:=func224.trans (congrArg some (by kernel_rfl))
 f48:=func225.trans (congrArg some (by kernel_rfl))
 f49:=⟨Tryz.f226.name,by decide,func226.trans (congrArg some (by kernel_rfl))⟩
 f50:=⟨Tryz.f227.name,by decide,func227.trans (congrArg some (by kernel_rfl))⟩
 f57:=⟨Tryz.f245.name,by decide,func245.trans (congrArg some (by kernel_rfl))⟩
 t0:=underlying0
 a0:=Tryz.isAgg0
 z0:=Tryz.sizeOf0
 v0:=Tryz.zeroValue0
 t3:=underlying3
 a3:=Tryz.isAgg3
 z3:=Tryz.sizeOf3
 v3:=Tryz.zeroValue3
 t4:=underlying4
 a4:=Tryz.isAgg4
 z4:=Tryz.sizeOf4
 v4:=Tryz.zeroValue4
 t5:=underlying5
 a5:=Tryz.isAgg5
 z5:=Tryz.sizeOf5
 v5:=Tryz.zeroValue5
 t9:=underlying9
 a9:=Tryz.isAgg9
 z9:=Tryz.sizeOf9
 v9:=Tryz.zeroValue9
 t22:=underlying157
 a22:=Tryz.isAgg157
 z22:=Tryz.sizeOf157
 v22:=Tryz.zeroValue157
 t25:=underlying164
 a25:=Tryz.isAgg164
 z25:=Tryz.sizeOf164
 v25:=Tryz.zeroValue164
 t39:=underlying119
 a39:=Tryz.isAgg119
 z39:=Tryz.sizeOf119
 v39:=Tryz.zeroValue119
 t45:=underlying221
 a45:=Tryz.isAgg221
 z45:=Tryz.sizeOf221
 v45:=Tryz.zeroValue221
 t46:=underlying222
 a46:=Tryz.isAgg222
 z46:=Tryz.sizeOf222
 v46:=Tryz.zeroValue222
 t50:=underlying103
 a50:=Tryz.isAgg103
 z50:=Tryz.sizeOf103
 v50:=Tryz.zeroValue103
 t53:=underlying228
 a53:=Tryz.isAgg228
 z53:=Tryz.sizeOf228
 v53:=Tryz.zeroValue228
 t55:=underlying39
 a55:=Tryz.isAgg39
 z55:=Tryz.sizeOf39
 v55:=Tryz.zeroValue39
 t66:=underlying237
 a66:=Tryz.isAgg237
 z66:=Tryz.sizeOf237
 v66:=Tryz.zeroValue237
 t70:=underlying240
 a70:=Tryz.isAgg240
 z70:=Tryz.sizeOf240
 v70:=Tryz.zeroValue240
 t76:=underlying247
 a76:=Tryz.isAgg247
 z76:=Tryz.sizeOf247
 v76:=Tryz.zeroValue247
 t77:=underlying248
 a77:=Tryz.isAgg248
 z77:=Tryz.sizeOf248
 v77:=Tryz.zeroValue248 }
end Go.Proofs
end
namespace Go.Proofs.YtgkaafncfjlooaaGreatDoor
section
open Go.RowKit
def UClonePost (ws:List Int) (w:World) (e:Ending) (w':World):Prop :=
 ∃ (a:Option Addr) (n c:Nat),e = .returned (.slice a n c)/\Vec w' (fun b=>w.heap.size<=b) 1 zc7 (.slice a n c) ws/\Below w.heap.size w w'
theorem uclone_any (S:Nat->Prop) (v:Value) (ws:List Int) (w:World) (h:Vec w S 1 zc7 v ws) (hn:ws.length<=1000000) :
  Calls prog 101 #[v] w (UClonePost ws w):=by
 obtain ⟨a,a3,rfl⟩:=h.slice;have HC:=zjy h;obtain ⟨n,a1⟩:=xex (ws.length);have HN:=zjy a1;rw [a1];have hn2:n<=1000000:=by omega
 rcases a with _ | ad
 ·have h0:ws=[]:=by
   rcases Nat.eq_zero_or_pos ws.length with h1 | h1
   ·exact List.length_eq_zero_iff.1 h1
   ·obtain ⟨b,off,e,_⟩:=h.get 0 h1
    cases e
  have H0:=zjy h0;have hq:=fun w':World=>Lib.run_eql_slice_nil (P:=prog) w' 54 _ none n a3 0 0 underlying54
  simp only [Option.isNone] at hq;clear h a1 h0;go_enter func101,ntmps101
  go_wp2_with fail
  go_ret;exact ⟨_,_,_,rfl,by rw [H0.o];exact OwnV.vec (size:=1) (enc:=zc7) (fun _=>rfl) (OwnV.start 39 1 zc7 w),Below.refl _ _⟩
 ·have bA:Below w.heap.size w (w.alloc (.cells #[] 39)):=(Below.refl _ _).alloc xnl _
  have a0:OwnV 39 1 zc7 w (.slice (some ⟨w.heap.size,0,none⟩) 0 0) ([]:List Int) (w.alloc (.cells #[] 39)) :=
   ⟨⟨rfl,.inr ⟨w.heap.size,0,#[],rfl,Nat.le_refl _,zac rfl,Nat.le_refl _,Nat.zero_le _,rfl,rfl⟩⟩,bA⟩
  have a4:zck (w.alloc (.cells #[] 39)) 1 (.slice (some ad) n a3) ws.length (ws.flatMap zc7):=by
   rw [<- a1];exact Vec.reads (k:=1) (enc:=zc7) (fun _=>rfl) (h.below bA)
  have hl:([]:List Int).length+ws.length<=1000000000:=by simp;omega
  have a6:=zjy a0;have a5:=zjy a4;have HL:=zjy hl;have hq:=fun w':World=>Lib.run_eql_slice_nil (P:=prog) w' 54 _ (some ad) n a3 0 0 underlying54
  simp only [Option.isNone] at hq;clear a0 a4 bA h a1 hl;go_enter func101,ntmps101
  go_wp2_with (at_builtin;refine zcv rfl (.tmp 5) (.tmp 6) 54 rfl 39 (.int .u64 0) 1 8 zc7 (fun _=>rfl) one_encU underlying54 infoU rfl (by decide) (by decide) (w0:=w) (v:=.slice (some ⟨w.heap.size,0,none⟩) 0 0) (A:=[]) (B:=ws) rfl a6.o rfl a5.o HL.o ?_;intro v7 w7 a2 hk7 hz7)
  go_ret;rw [List.nil_append] at a2;obtain ⟨a7,c7,e7⟩:=zar a2.1;subst e7;exact ⟨_,_,_,rfl,OwnV.vec (size:=1) (enc:=zc7) (fun _=>rfl) a2,a2.2⟩
end
section
open Go.RowKit
theorem gcmp_any (S:Nat->Prop) (x y:GV) (W:World) (hx:Vec W S 1 zif (zfb x) x.mem) (hy:Vec W S 1 zif (zfb y) y.mem) (h1:1<=x.mem.length) (h2:1<=y.mem.length) :
  Calls prog 103 #[.agg (zf5 x).toArray,.agg (zf5 y).toArray] W fun e w'=>e = .returned (.int .i64 (zf9 (x.mem.getD 0 0) (y.mem.getD 0 0)))/\∃ q os',w'=Sort.grow (W.drewN q) os':=by
 obtain ⟨xl,wa,wn,wc,xa,xn,xc,ws,mem⟩:=x;obtain ⟨yl,a5,a3,a4,ya,yn,yc,ws',a1⟩:=y;dsimp only [zfb] at hx hy h1 h2 ⊢;obtain ⟨b,off,rfl,lb,c⟩:=hx.get 0 h1;obtain ⟨b',a0,rfl,a8,c'⟩:=hy.get 0 h2;have c0:=c 0 _ rfl;have d0:=c' 0 _ rfl;have b0:=hx.len;have a9:=hy.len;have e1:mem.getD 0 0=mem[0]:=by rw [List.getD,List.getElem?_eq_getElem h1];rfl
 have e2:a1.getD 0 0=a1[0]:=by rw [List.getD,List.getElem?_eq_getElem h2];rfl
 rw [e1,e2];obtain ⟨p,hp⟩:=xex (mem[0]);obtain ⟨q,hq⟩:=xex (a1[0]);rw [hp] at c0 ⊢;rw [hq] at d0 ⊢;obtain ⟨r,hr⟩:=xex (zf9 p q);rw [hr];have a2:=fun W'=>cmpI_any p q W'
 rw [hr] at a2;have hxn:0<xn:=by omega
 have hyn:0<yn:=by omega
 clear c c' hx hy e1 e2 hp hq hr b0 a9 h1 h2;show Calls prog 103 #[.agg #[.int .i64 xl,.slice wa wn wc,.slice (some ⟨b,off,none⟩) xn xc],.agg #[.int .i64 yl,.slice a5 a3 a4,.slice (some ⟨b',a0,none⟩) yn yc]] W fun e w'=>e = .returned (.int .i64 r)/\∃ q os',w'=Sort.grow (W.drewN q) os'
 go_enter func103,ntmps103
 go_wp2_with fail
 refine zal (fun W2 hW2=>?_)
 have b1:=zjy hW2;have b2:=xam hW2
 have gx:W2.heap[W.heap.size]?=some (.cells #[.int .i64 xl,.slice wa wn wc,.slice (some ⟨b,off,none⟩) xn xc] 160 (0,0)):=by rw [hW2];exact zaf (zac rfl)
 have gy:W2.heap[W.heap.size+1]?=some (.cells #[.int .i64 yl,.slice a5 a3 a4,.slice (some ⟨b',a0,none⟩) yn yc] 160 (0,0)):=by rw [hW2];exact zac (by simp)
 obtain ⟨x0,x1,x2⟩:=zan gx;obtain ⟨y0,y1,y2⟩:=zan gy;have a7:=(b2.cell (p:=⟨b,off,none⟩) lb).trans c0;have a6:=(b2.cell (p:=⟨b',a0,none⟩) a8).trans d0;clear hW2 b2 gx gy x0 x1 y0 y1 c0 d0;refine wp_region_noPanic ?_
 refine wp_region_held_drew (S:=(fun w'=>w'.cell? ⟨W.heap.size,2,none⟩=some (.slice (some ⟨b,off,none⟩) xn xc)/\w'.cell? ⟨W.heap.size+1,2,none⟩=some (.slice (some ⟨b',a0,none⟩) yn yc)/\w'.cell? ⟨b,off,none⟩=some (.int .i64 p)/\w'.cell? ⟨b',a0,none⟩=some (.int .i64 q))) (by kernel_rfl) (⟨x2,y2,a7,a6⟩) (fun hHeld=>?_)
 refine tH 0 ?_;refine tH 1 ?_;refine tH 2 ?_;refine tH 3 ?_;refine tH 4 ?_;refine tH 5 ?_;refine tH 6 ?_;refine tH 7 ?_;refine tH 8 ?_;refine tH 9 ?_
 refine xrH 10 rfl fun K hK=>?_
 go_simp;refine (a2 _).mono ?_;rintro e w' ⟨rfl,rfl⟩
 refine hK.out _ _ (⟨x2,y2,a7,a6⟩) (fun hHeld=>?_)
 clear hK K
 refine xrH 11 rfl fun K hK=>?_
 go_simp;skip
 refine hK.out _ _ (⟨x2,y2,a7,a6⟩) (fun hHeld=>?_)
 clear hK K;refine wpAnyH_done (by kernel_rfl) ?_ _;refine NoPanic.normal ?_;go_wp2_with fail
 go_ret;refine ⟨rfl,1,#[.cells #[.int .i64 xl,.slice wa wn wc,.slice (some ⟨b,off,none⟩) xn xc] 160]++#[.cells #[.int .i64 yl,.slice a5 a3 a4,.slice (some ⟨b',a0,none⟩) yn yc] 160],?_⟩;rw [b1.o,Sort.alloc_eq_grow,Sort.alloc_eq_grow,Sort.grow_grow];rfl
theorem perm_asc {α:Type} (key:α->Int):∀ {l l':List α},l'.Perm l->l.Pairwise (fun x y=>key x<key y)->l'.Pairwise (fun x y=>key x<=key y)->l'=l
 | [],l',hp,_,_=>hp.eq_nil
 | x :: l,l',hp,h1,h2=>by
  cases l' with
  | nil=>exact absurd hp.symm.eq_nil (by simp)
  | cons y t =>
   have h3:=List.pairwise_cons.1 h1;have h4:=List.pairwise_cons.1 h2
   have hy:y=x:=by
    have hm:y∈x :: l:=hp.subset List.mem_cons_self;have hx:x∈y :: t:=hp.symm.subset List.mem_cons_self
    rcases List.mem_cons.1 hm with e | hm
    ·exact e
    rcases List.mem_cons.1 hx with e | hx
    ·exact e.symm
    have:=h3.1 y hm;have:=h4.1 x hx;omega
   subst hy;rw [perm_asc key (List.Perm.cons_inv hp) h3.2 h4.2]
end
section
open Go.RowKit
def MemAt (g:Nat) (w:World) (x:GV):Prop:=Vec w (fun b=>b≠g) 1 zif (zfb x) x.mem/\1<=x.mem.length
abbrev GSub (g:Nat) (w:World):Type:={ x:GV // MemAt g w x }
def keyG {g:Nat} {w:World} (x:GSub g w):Int:=x.1.mem.getD 0 0
def cfG {g:Nat} {w:World} (x y:GSub g w):Int:=zf9 (keyG x) (keyG y)
theorem ltG {g:Nat} {w:World} (x y:GSub g w):ltOf cfG x y=decide (keyG x<keyG y):=by
 unfold ltOf cfG zf9;by_cases h1:keyG x<keyG y
 ·simp [h1]
 ·by_cases h2:keyG y<keyG x <;> simp [h1,h2]
theorem swoG (g:Nat) (w:World):Sort.SWO (ltOf (cfG (g:=g) (w:=w))) where
 irrefl x:=by rw [ltG];simp
 trans x y z h1 h2:=by rw [ltG] at *;simp at *;omega
 ntrans x y z h1 h2:=by rw [ltG] at *;simp at *;omega
def encGS {g:Nat} {w:World} (x:GSub g w):List Value:=zf5 x.1
theorem sort_block {α:Type} [Inhabited α] (enc:α->List Value) (k:Nat) (w:World) (g off m:Nat) (d:Array α) (os:Array Obj) (b:Nat) (hb:b<w.heap.size) (hg:b≠g):(sortWorldK enc k w g off m d os).heap[b]?=w.heap[b]?:=by
 unfold sortWorldK Sort.grow Sort.putRowK Sort.putRow Sort.mapBlock Sort.ahead;dsimp only;rw [Array.getElem?_append_left (by simpa using hb),Array.getElem?_modify,if_neg (Ne.symm hg)]
theorem cmpLaysG (g:Nat) (w:World) [Inhabited (GSub g w)] (n:Nat):CmpLays prog 103 #[] encGS 3 (cfG (g:=g) (w:=w)) g 0 n w:=by
 intro m os dk hd x y
 have a0:∀ z:GSub g w,Vec (sortWorldK encGS 3 w g 0 m dk os) (fun b=>b≠g) 1 zif (zfb z.1) z.1.mem:=fun z =>
  z.2.1.move (size_sortWorldK_c encGS 3 w g 0 m dk os) fun b hb hs=>⟨sort_block encGS 3 w g 0 m dk os b hb hs,hs⟩
 exact gcmp_any _ x.1 y.1 _ (a0 x) (a0 y) x.2.2 y.2.2
theorem grow_below (w:World) (n:Nat) (os:Array Obj):Below w.heap.size w (Sort.grow (Sort.ahead w n) os) :=
 ⟨rfl,rfl,rfl,by simp [Sort.grow,Sort.ahead],fun k hk=>by
  unfold Sort.grow Sort.ahead;dsimp only
  rw [Array.getElem?_append_left hk]⟩
theorem holdsG {w:World} {g cap:Nat} {cur:Array Value} {t:TypeId} [Inhabited (GSub g w)] (hc:w.heap[g]?=some (.cells cur t (0,0))) (d:Array (GSub g w)) (C:List GV) (hd:d.toList.map (·.1)=C) (hv:Vec w (fun _=>True) 3 zf5 (.slice (some ⟨g,0,none⟩) C.length cap) C):Sort.HoldsK encGS 3 w g 0 d:=by
 intro j hj;have hs:C.length=d.size:=by rw [<- hd];simp
 have a2:j<d.size*3:=by simpa using hj
 have hq:j / 3<C.length:=by omega
 have hq':j / 3<d.size:=by omega
 obtain ⟨b,off,e,_,a0⟩:=hv.get (j / 3) hq;cases e;have a3:C[j / 3]=(d[j / 3]'hq').1:=by subst hd;simp
 have a1:(zf5 C[j / 3])[j % 3]?=some (zf5 C[j / 3])[j % 3]!:=by
  have h3:(zf5 C[j / 3]).length=3:=rfl;rw [List.getElem?_eq_getElem (by omega),getElem!_pos _ _ (by omega)]
 have h1:=a0 (j % 3) _ a1;rw [show 0+j / 3*3+j % 3=0+j by omega] at h1;refine ⟨?_,frozen_of_row _ _ _ _ _ hc⟩;rw [h1,Sort.get_flatK _ _ _ _ a2,getElem!_pos d _ hq'];unfold encGS;rw [<- a3];rfl
theorem gsort_any (w0:World) (v:Value) (C:List GV) (w:World) (h:GRow w0 v C w) (h1:∀ x∈C,1<=x.mem.length) (hs:C.Pairwise fun x y=>x.mem.getD 0 0<y.mem.getD 0 0) (hn:C.length<=1000000) :
  Calls prog 102 #[v,.func (.func 103) #[] #[]] w fun e w'=>e = .returned (.tuple #[])/\Below w.heap.size w w':=by
 rcases h.own.form with ⟨rfl,rfl⟩ | ⟨g,cap,rfl,hcap,hcm,lg⟩
 ·have hc:=AnyF.slices_SortFunc_none { Tryz.sortg with } none 0 (.func (.func 103) #[] #[]) w
  exact hc.mono fun e w' ⟨h2,h3⟩=>⟨h2,by rw [h3];exact Below.refl _ _⟩
 ·rcases Nat.eq_zero_or_pos C.length with h0 | h0
  ·rw [h0]
   have hc:=AnyF.slices_SortFunc_none { Tryz.sortg with } (some ⟨g,0,none⟩) cap (.func (.func 103) #[] #[]) w
   exact hc.mono fun e w' ⟨h2,h3⟩=>⟨h2,by rw [h3];exact Below.refl _ _⟩
  ·obtain ⟨cur,a1,-⟩:=own_row h.own.1
   have hP:∀ x∈C,MemAt g w x:=fun x hx=>by
    refine ⟨?_,h1 x hx⟩;obtain ⟨a',a2,e',a6,h3⟩:=Vec.owns (k:=1) (enc:=zif) (S:=fun _=>True) (fun _=>rfl) (by rw [show x.mem.flatMap zif=x.mem.map (Value.int .i64) from encIn_flat _];exact h.ids x hx) (fun _ _ _=>trivial)
    refine ⟨a',a2,e',a6,fun h4=>?_⟩
    obtain ⟨b,off,ea,-,lb,hc⟩:=h3 h4;refine ⟨b,off,ea,?_,lb,hc⟩;have hb:(zfb x).ownBlock=some b:=by rw [e',ea];rfl
    rcases h.off x hx with h2 | h2
    ·rw [h2] at hb;cases hb
    ·rw [hb] at h2
     intro e2;exact h2 (by rw [e2];rfl)
   haveI inh:Inhabited (GSub g w):=⟨⟨C[0],hP _ (List.getElem_mem h0)⟩⟩;obtain ⟨d,hd⟩:∃ d:Array (GSub g w),d.toList.map (·.1)=C:=⟨(C.attach.map fun x=>(⟨x.1,hP x.1 x.2⟩:GSub g w)).toArray,by simp⟩
   have a3:d.size=C.length:=by rw [<- hd];simp
   have eg:∀ args w,(callFunc 103 args).run prog w = .ok (.enter 103 args) w:=enters_of func103 (by kernel_rfl) rfl
   have hH:=holdsG a1 d C hd ((OwnV.vec (size:=3) (enc:=zf5) (fun _=>rfl) h.own).move xnl fun _ _ _=>⟨rfl,trivial⟩)
   have hc:=AnyQ.slices_SortFunc Tryz.sortg 3 Tryz.isAgg160 Tryz.sizeOf160 encGS (fun _=>rfl) (fun x v hv=>one_encG x.1 v hv) cfG (swoG g w) 103 #[] g 0 cap d w eg (cmpLaysG g w d.size) hH lg (by omega)
   rw [a3] at hc;change Calls prog 102 _ _ _ at hc;refine hc.mono ?_;rintro e w' ⟨he,d',n,os,hp,a4,hw⟩;refine ⟨he,?_⟩
   have a9:d'=d:=by
    obtain ⟨a5,-,a0⟩:=hp;rw [<- a3] at a0 a4;have e1:d'.extract 0 d.size=d':=by rw [<- a5];exact Array.extract_size
    have e2:d.extract 0 d.size=d:=Array.extract_size;rw [e1,e2] at a0;refine Array.ext' (perm_asc keyG a0 ?_ ?_)
    ·rw [<- hd,List.pairwise_map] at hs
     exact hs
    ·refine List.pairwise_iff_getElem.2 fun i j hi hj hij=>?_
     have a8:i<d'.size:=by simpa using hi
     have a7:j<d'.size:=by simpa using hj
     have h5:=a4 i j (Nat.zero_le _) hij (by omega);rw [ltG,getElem!_pos d' i a8,getElem!_pos d' j a7] at h5;have h6:=of_decide_eq_false h5;have h7:d'.toList[i]=d'[i]:=by simp
     have h8:d'.toList[j]=d'[j]:=by simp
     rw [h7,h8];omega
   rw [hw,a9];unfold sortWorldK;rw [Sort.putRowK_self _ _ _ _ _ _ (Sort.holdsK_ahead _ _ _ _ _ _ _ hH)];exact grow_below w n os
end
section
open Go.RowKit
theorem infoGr:(prog.info? 160).map (fun i=>(i.zero,i.size,i.bytes))=some (some (.agg #[.int .i64 0,.slice none 0 0,.slice none 0 0]),3,56):=by kernel_rfl
theorem infoAg:(prog.info? 107).map (fun i=>(i.zero,i.size,i.bytes))=some (some (.agg #[.int .i64 0,.slice none 0 0,.slice none 0 0]),3,56):=by kernel_rfl
def GroupsPost (L:List GrpL) (w:World) (e:Ending) (w':World):Prop:=∃ v,e = .returned v/\GroupsAt w' (fun b=>w.heap.size<=b) v L/\Below w.heap.size w w'
theorem pG_set (C:List GV) (i:Nat) (x:GV):(C.set i x).map pG=(C.map pG).set i (pG x):=List.map_set
theorem gput_at (C:List GV) (x:BitsL) (id:Int) (k:Nat) (hk:k<C.length) (h1:zfd x (pG C[k])=true) (h2:∀ y∈C.take k,zfd x (pG y)=false) (a:Option Addr) (n c:Nat) :
  (C.set k ⟨C[k].len,C[k].wa,C[k].wn,C[k].wc,a,n,c,C[k].ws,C[k].mem++[id]⟩).map pG=addG (C.map pG) id x:=by
 have e1:cmpB (pG C[k]).arr x=0:=by unfold zfd at h1;simpa using h1
 rw [addG_at (C.map pG) k (by simpa using hk) (fun t ht=>?_) (by simpa using e1),pG_set,List.getElem_map]
 ·rfl
 ·have a0:t<C.length:=by omega
  rw [zbb _ _ (by simpa using a0),List.getElem_map];have:=h2 C[t] (List.mem_iff_getElem.2 ⟨t,by rw [List.length_take];omega,by rw [List.getElem_take]⟩);unfold zfd at this;simpa using this
theorem gput_new (C:List GV) (x:BitsL) (id:Int) (wa:Option Addr) (wn wc:Nat) (h2:∀ y∈C,zfd x (pG y)=false) (a:Option Addr) (n c:Nat) (hk:C.length<(C++[(⟨x.len,wa,wn,wc,none,0,0,x.words,[]⟩:GV)]).length) :
  ((C++[(⟨x.len,wa,wn,wc,none,0,0,x.words,[]⟩:GV)]).set C.length ⟨(C++[(⟨x.len,wa,wn,wc,none,0,0,x.words,[]⟩:GV)])[C.length].len,(C++[(⟨x.len,wa,wn,wc,none,0,0,x.words,[]⟩:GV)])[C.length].wa,(C++[(⟨x.len,wa,wn,wc,none,0,0,x.words,[]⟩:GV)])[C.length].wn,(C++[(⟨x.len,wa,wn,wc,none,0,0,x.words,[]⟩:GV)])[C.length].wc,a,n,c,(C++[(⟨x.len,wa,wn,wc,none,0,0,x.words,[]⟩:GV)])[C.length].ws,(C++[(⟨x.len,wa,wn,wc,none,0,0,x.words,[]⟩:GV)])[C.length].mem++[id]⟩).map pG=addG (C.map pG) id x:=by
 have e:(C++[(⟨x.len,wa,wn,wc,none,0,0,x.words,[]⟩:GV)])[C.length]=⟨x.len,wa,wn,wc,none,0,0,x.words,[]⟩:=by simp
 rw [e,addG_new (fun g hg=>?_),List.set_append_right _ _ xnl,Nat.sub_self,List.set_cons_zero,List.map_append]
 ·rfl
 ·obtain ⟨y,hy,rfl⟩:=List.mem_map.1 hg
  have:=h2 y hy;unfold zfd at this;simpa using this
theorem groups_any (S:Nat->Prop) (v:Value) (L:List BitsL) (w:World) (h:BitsVec w S v L) (hi:∀ b∈L,InI b.len) (hn:L.length<=100000) :
  Calls prog 68 #[v] w (GroupsPost (zd0 L) w):=by
 obtain ⟨a,cap,rfl⟩:=h.slice;have HV:=zjy h;have HI:=zjy hi;obtain ⟨G,hG⟩:=xex (zd0 L);rw [hG];have HG:=zjy hG;clear h hi hG;go_enter func68,ntmps68
 go_wp2_with fail
 go_loopw [3,12] (fun v t wr=>∃ (j:Nat) (C:List GV),t = .int .i64 j/\j<=L.length/\C.length<=j/\GRow w v C wr/\Hid (GOk (C.map pG) j)/\Hid (zfk (C.map pG) j (L.drop j)=G)) (fun _ t _=>L.length - (intOf t).toNat)
 case atStart=>exact ⟨0,[],rfl,by omega,by simp,GRow.nil (Below.refl _ _),zjy (GOk.nil 0),HG⟩
 case round =>
  obtain ⟨j,C,rfl,hj,hCl,e6,e3,HT⟩:=hrel;have b3:=zjy e6;clear e6;have g8:=b3.o.own.2;by_cases hlt:j<L.length
  ·have hq:decide ((j:Int)<(L.length:Int))=true:=by simp;omega
   have hji:(j:Int)<(L.length:Int):=by omega
   obtain ⟨b,off,⟨xl,xa,xn,xc⟩,rfl,lb,c0,c1,hat⟩:=(HV.o.below g8).at j hlt;dsimp only at c0 c1;rw [zbb _ _ hlt] at hat;have h8:=HI.o _ (List.getElem_mem hlt);have hT:=HT.o;rw [List.drop_eq_getElem_cons hlt] at hT;obtain ⟨x,hx⟩:=xex (L[j]);rw [hx] at hat h8 hT;have f0:zfk (if zap x=true then addG (C.map pG) j x else C.map pG) (j+1) (L.drop (j+1))=G:=hT;have d5:=zjy f0;have l1:=zjy hat;have k9:=zjy h8;have HBw:=zjy g8;clear hT f0 hat h8 hx HT g8;go_wp2_with fail
   refine zah (fun W1 hW1=>?_)
   have b1:=xal hW1
   have i2:W1.heap[wr.heap.size]?=some (.cells #[.int .i64 xl,.slice xa xn xc] 56 (0,0)):=by rw [hW1];exact zac rfl
   clear hW1;refine (zfq S _ x _ (l1.o.below b1) k9.o.1 k9.o.2).mono ?_;obtain ⟨vx,d8⟩:=xex (zap x);rw [d8] at d5 ⊢;have k6:=zjy d8;rintro e w2 ⟨rfl,d9⟩;have b2:=b1.trans (d9.mono b1.size);have g9:=zab d9 (zaa i2) i2;obtain ⟨X,hX⟩:=xex (wr.heap.size);rw [hX] at g9 ⊢;have h4:=zjy b2;have HX:=zjy hX;have l0:=zjy g9;have lX:=zaa g9;clear b1 i2 d8 d9 b2 g9 c0 c1 hX;cases vx
   ·have i4:=zjy (show zfk (C.map pG) (j+1) (L.drop (j+1))=G by have:=d5.o;simpa using this)
    have a0:=zjy (b3.o.below h4.o);clear d5;go_wp2_with fail
    go_roundw
    case rel=>exact ⟨j+1,C,by go_num,by omega,by omega,a0.o,zjy e3.o.skip,i4⟩
    case measure=>simp [intOf];omega
   ·have i4:=zjy (show zfk (addG (C.map pG) j x) (j+1) (L.drop (j+1))=G by have:=d5.o;simpa using this)
    have a0:=zjy (b3.o.below h4.o);have e5:∀ y∈C,Vec w2 zau 1 zc7 (wdV y) y.ws/\y.ws.length<=1000000:=fun y hy=>⟨(a0.o.wds y hy).any,by have:=(zcw (e3.o.val (pG y) (List.mem_map_of_mem hy))).2;have e:(pG y).arr.words.length=y.ws.length:=rfl;omega⟩
    have f5:=zjy e5;have hx8:x.words.length<=8:=(zcw k6.o).2;have g6:=zjy (l1.o.below h4.o);clear d5 e5;go_wp2_with fail
    refine (gidx_any zau S _ C X ⟨xl,xa,xn,xc⟩ x _ (OwnV.vec (size:=3) (enc:=zf5) (fun _=>rfl) a0.o.own).any f5.o l0.o g6.o (by omega)).mono ?_
    rintro e w3 ⟨rfl,e8⟩;have HB3:=xhh h4 e8;have a4:=zjy (a0.o.below e8);have g3:=zjy (zab e8 lX l0.o);have i6:=zjy (g6.o.below e8);have c7:=zaa g3.o;have g7:=zjy (idxG_split (fun y=>zfd x (pG y)) C 0)
    obtain ⟨q,j3⟩:=xex (idxG (fun y=>zfd x (pG y)) 0 C)
    rw [j3] at g7 ⊢;clear e8 j3 f5;go_upto_if 24 with (fail)
    go_cut [3,6] (fun s3 s6 wx=>∃ (C':List GV) (a2:Nat) (ht:a2<C'.length),s6 = .int .i64 a2/\GRow w s3 C' wx/\C'.length<=j+1/\Hid (∀ y∈C',y.mem.length<=j)/\Hid (∀ a n c,(C'.set a2 ⟨C'[a2].len,C'[a2].wa,C'[a2].wn,C'[a2].wc,a,n,c,C'[a2].ws,C'[a2].mem++[(j:Int)]⟩).map pG=addG (C.map pG) j x))
    case first =>
     have j5:∀ y∈C,y.mem.length<=j:=fun y hy=>e3.o.mems (pG y) (List.mem_map_of_mem hy)
     have k8:=zjy j5;clear j5
     rcases g7.o with ⟨rfl,hall⟩ | ⟨k,hqk,hk,h1,h2⟩
     ·have i8:=zjy hall
      obtain ⟨nC,d4⟩:=xex (C.length);obtain ⟨av,cv,ev⟩:=zar a4.o.own.1;rw [d4] at ev;subst ev;have d2:=zjy d4;have hnj:nC<=j:=by omega
      obtain ⟨x0,x1⟩:=zae g3.o;obtain ⟨sx,es,d8⟩:=i6.o;have l7:xl=x.len/\sx = .slice xa xn xc:=by simpa [eq_comm] using es
      obtain ⟨j0,rfl⟩:=l7;have m0:=zjy j0;have i3:=zjy (d8.below (w':=w3.drew) (Below.refl _ _).drew);have x0d:w3.drew.cell? ⟨X,0,none⟩=some (.int .i64 xl):=x0;have x1d:w3.drew.cell? ⟨X,1,none⟩=some (.slice xa xn xc):=x1;clear j0 d8 es;obtain ⟨i0,d1,d0,c9,c8⟩:=info_parts infoGr;have g2:=zjy d1;have f4:=zjy d0;have f3:=zjy c9;have f2:=zjy c8;clear d1 d0 c9 c8 hall d4 g7;go_wp2_with fail
      refine wp_region_noPanic ?_
      refine wp_region_held_drew (S:=(fun w'=>w'.cell? ⟨X,0,none⟩=some (.int .i64 xl)/\w'.cell? ⟨X,1,none⟩=some (.slice xa xn xc))) (by kernel_rfl) (⟨x0,x1⟩) (fun hHeld=>?_)
      refine tH 0 ?_;refine tH 1 ?_;refine tH 2 ?_;refine tH 3 ?_;refine tH 4 ?_
      refine xrH 5 rfl fun K hK=>?_
      go_simp;refine (uclone_any S _ x.words w3.drew i3.o (by omega)).mono ?_;rintro e w4 ⟨ua,un,uc,rfl,j1,k2⟩;have b4:Below w3.heap.size w3 w4:=(Below.refl _ _).drew.trans k2;have g4:=zjy b4;have m2:=zjy j1;clear j1 k2 b4
      refine hK.out _ _ (⟨(g4.o.cell (p:=⟨X,0,none⟩) c7).trans x0,(g4.o.cell (p:=⟨X,1,none⟩) c7).trans x1⟩) (fun hHeld=>?_)
      clear hK K;refine tH 6 ?_;refine tH 7 ?_;refine tH 8 ?_;have bA:=g4.o.trans ((Below.refl w4.heap.size w4).alloc xnl (.cells #[.int .i64 xl,.slice ua un uc,.slice none 0 0] 160) |>.mono g4.o.size);have a9:=zjy bA;clear bA
      refine xrH 9 rfl fun K hK=>?_
      go_simp;skip
      refine hK.out _ _ (⟨(a9.o.cell (p:=⟨X,0,none⟩) c7).trans x0,(a9.o.cell (p:=⟨X,1,none⟩) c7).trans x1⟩) (fun hHeld=>?_)
      clear hK K;have f1:(w4.alloc (.cells #[.int .i64 xl,.slice ua un uc,.slice none 0 0] 160)).heap[w4.heap.size]?=some (.cells #[.int .i64 xl,.slice ua un uc,.slice none 0 0] 160 (0,0)):=zac rfl
      have a6:∀ i u,(zf5 (⟨xl,ua,un,uc,none,0,0,x.words,[]⟩:GV))[i]?=some u->(w4.alloc (.cells #[.int .i64 xl,.slice ua un uc,.slice none 0 0] 160)).cell? ((⟨w4.heap.size,0,none⟩:Addr).add i)=some u:=fun i u hu=>by
       rw [zbu,cell_of_row _ _ _ _ _ _ f1,Nat.zero_add];simpa using hu
      have a7:=zjy a6;have b8:=zjy (a4.o.below a9.o);have b6:=b8.o.own.1;rw [d2.o] at b6;have f8:=zjy b6;have l2:w.heap.size<=w3.heap.size:=a4.o.own.2.size;have hz4:w3.heap.size<=w4.heap.size:=g4.o.size;have k3:=zjy (show ∀ k,(Value.slice av nC cv).ownBlock=some k->w.heap.size<=k/\k<w3.heap.size from fun k hk=>a4.o.own.1.lt k hk)
      have h3:=zjy (show some X≠(Value.slice av nC cv).ownBlock from fun e=>by have h1:=(b3.o.own.1.lt X e.symm).2;have:=HX.o;omega)
      clear f1 a6 b6
      refine xrH 10 rfl fun K hK=>?_
      refine wp_append_lies _ (.tmp 27) (.tmp 36) 157 (by rfl) w.heap.size 160 i0 (.agg #[.int .i64 0,.slice none 0 0,.slice none 0 0]) 3 56 underlying157 g2.o f4.o f3.o f2.o rfl (by decide) (.slice av nC cv) nC (C.flatMap zf5) (by rfl) f8.o ⟨w4.heap.size,0,none⟩ 1 1 (zf5 ⟨xl,ua,un,uc,none,0,0,x.words,[]⟩) (by rfl) rfl a7.o (one_encG _) (by omega) (by unfold maxLen;omega) (by omega) (by simp;omega) (w4.heap.size+1) (by simp) ?_;intro g5 c4 w5 a1 b5 a8 e7;have d6:=zjy a1;have c6:=zjy b5;have i5:=zjy a8;clear a1 b5 a8
      refine hK.out _ _ (⟨(c6.o.cell_far ⟨X,0,none⟩ (by simp;omega) h3.o).trans ((a9.o.cell (p:=⟨X,0,none⟩) c7).trans x0),(c6.o.cell_far ⟨X,1,none⟩ (by simp;omega) h3.o).trans ((a9.o.cell (p:=⟨X,1,none⟩) c7).trans x1)⟩) (fun hHeld=>?_)
      clear hK K;have l4:=zjy (show w5.cell? ⟨X,0,none⟩=some (.int .i64 xl)/\w5.cell? ⟨X,1,none⟩=some (.slice xa xn xc) from ⟨(c6.o.cell_far ⟨X,0,none⟩ (by simp;omega) h3.o).trans ((a9.o.cell (p:=⟨X,0,none⟩) c7).trans x0),(c6.o.cell_far ⟨X,1,none⟩ (by simp;omega) h3.o).trans ((a9.o.cell (p:=⟨X,1,none⟩) c7).trans x1)⟩)
      refine xrH 11 rfl fun K hK=>?_
      go_simp;skip
      refine hK.out _ _ (l4.o) (fun hHeld=>?_)
      clear hK K;refine wpAnyH_done (by kernel_rfl) ?_ _;refine NoPanic.normal ?_;go_wp2_with fail
      go_meet;obtain ⟨N,hN⟩:∃ N,N=(⟨xl,ua,un,uc,none,0,0,x.words,[]⟩:GV):=⟨_,rfl⟩;have j6:nC<(C++[N]).length:=by simp;have:=d2.o;omega
      have k5:Below w.heap.size w (w4.alloc (.cells #[.int .i64 xl,.slice ua un uc,.slice none 0 0] 160)):=b8.o.own.2
      have a5:OwnV 160 3 zf5 w (.slice (some ⟨g5,0,none⟩) (nC+1) c4) (C++[N]) w5:=by
       refine ⟨?_,k5.grown c6.o k5.size (fun q hq=>(k3.o q hq).1)⟩
       rw [List.length_append,d2.o,List.flatMap_append,hN];simpa using d6.o
      have h7:=b8.o.put (w':=w5) (v':=.slice (some ⟨g5,0,none⟩) (nC+1) c4) N (by rw [hN]) (by rw [hN]) (by
       rw [hN]
       refine (m2.o.below ((Below.refl w4.heap.size w4).alloc xnl _)).move xnl fun b hb hs=>⟨rfl,?_,?_,fun y hy=>?_⟩
       ·exact Nat.le_trans l2 hs
       ·intro e;have h1:=(k3.o b e.symm).2;have h2:w3.heap.size<=b:=hs;omega
       ·intro e;have h1:=((a4.o.ids y hy).lt b e.symm).2;have h2:w3.heap.size<=b:=hs;omega) a5 (fun k o hk hko=>(c6.o.block k (zaa hko) hk).trans hko) c6.o.size (by
       rcases i5.o with h1 | h1
       ·exact .inr (.inl h1)
       ·exact .inr (.inr (by rw [h1];simp [Value.ownBlock])))
      refine ⟨C++[N],nC,j6,rfl,h7,by simp;have:=d2.o;omega,zjy fun y hy=>?_,zjy fun a n c=>?_⟩
      ·rcases List.mem_append.1 hy with h1 | h1
       ·exact k8.o y h1
       ·have:y=N:=by simpa using h1
        rw [this,hN];simp
      ·have e1:=d2.o
       have e2:=m0.o;subst e1;rw [e2] at hN;subst hN;exact gput_new C x j ua un uc i8.o a n c j6
     ·rw [Nat.zero_add] at hqk
      subst hqk;have H1:=zjy h1;have H2:=zjy h2;clear h1 h2 g7;go_wp2_with fail
      go_meet;exact ⟨C,k,hk,rfl,a4.o,by omega,k8,zjy fun a n c=>gput_at C x j k hk H1.o H2.o a n c⟩
    case rest =>
     obtain ⟨C',a2,ht,rfl,a3,hl',g0,f7⟩:=hcut;have f6:=zjy a3
     rcases a3.own.1.2 with ⟨_,h0⟩ | ⟨g,cap5,cur,rfl,hg,hgc,hn1,hn2,hn3,hn4⟩
     ·have:C'.length=0:=h0
      omega
     obtain ⟨y,hy⟩:=xex (C'[a2]);have c3:=a3.ids _ (List.getElem_mem ht)
     have h9:wc.cell? ⟨g,a2*3+2,none⟩=some (zfb C'[a2]):=by
      obtain ⟨b0,o0,e0,_,hc⟩:=(OwnV.vec (size:=3) (enc:=zf5) (fun _=>rfl) a3.own).get a2 ht
      cases e0;have:=hc 2 _ rfl;rwa [Nat.zero_add] at this
     rw [hy] at c3 h9;obtain ⟨yl,ya,yn,yc,ma,mn,mc,yw,ym⟩:=y;dsimp only [zfb] at c3 h9;have l3:=(frozen_of_row _ _ _ _ _ hgc:wc.frozen? ⟨g,a2*3+2,none⟩=false);have i9:=zaa hgc;have b9:=f7.o;rw [hy] at b9;have m6:=zjy b9;have g1:=zjy c3;have HY:=zjy hy;have htn:(a2:Int)<(C'.length:Int):=by omega
     obtain ⟨i0,d1,d0,c9,c8⟩:=info_parts infoZ;have g2:=zjy d1;have f4:=zjy d0;have f3:=zjy c9;have f2:=zjy c8;have d3:=a3.off _ (List.getElem_mem ht);rw [hy] at d3;have i1:=a3.own.2;have m1:=zjy i1;have k4:=i1.size
     have f9:=zjy (show some g≠(Value.slice ma mn mc).ownBlock from by
      rcases d3 with h1 | h1
      ·rw [show (Value.slice ma mn mc).ownBlock=none from h1];simp
      ·exact fun e=>h1 (by rw [show (zfb ⟨yl,ya,yn,yc,ma,mn,mc,yw,ym⟩).ownBlock=some g from e.symm];rfl))
     have hyl:ym.length<=j:=by have:=g0.o _ (List.getElem_mem ht);rw [HY.o] at this;exact this
     clear hgc hn1 hn2 hn3 hn4 a3 f7 b9 c3 hy d1 d0 c9 c8 d3 i1;have bA:=(Below.refl wc.heap.size wc).alloc xnl (.cells #[.int .i64 j] 3);have a5:=zfu g1.o bA
     have a6:∀ i u,[Value.int .i64 j][i]?=some u->(wc.alloc (.cells #[.int .i64 j] 3)).cell? ((⟨wc.heap.size,0,none⟩:Addr).add i)=some u:=fun i u hu=>by
      have hX:(wc.alloc (.cells #[.int .i64 j] 3)).heap[wc.heap.size]?=some (.cells #[.int .i64 j] 3 (0,0)):=zac rfl;rw [zbu,cell_of_row _ _ _ _ _ _ hX,Nat.zero_add];simpa using hu
     have b7:∀ u∈[Value.int .i64 j],u.oneCell'=true:=by intro u hu;simp at hu;subst hu;rfl
     have k1:=(bA.cell (p:=⟨g,a2*3+2,none⟩) i9).trans h9;have k0:=(bA.frozen (p:=⟨g,a2*3+2,none⟩) i9).trans l3;have a9:=zjy bA;have c5:=zjy a5;have a7:=zjy a6;have d7:=zjy b7;have l9:=zjy k1;have l8:=zjy k0;clear bA a5 a6 b7 k1 k0
     go_wp2_with (at_builtin;refine wpList_append_lies _ rfl (.tmp 45) (.tmp 47) 22 rfl w.heap.size 3 i0 (.int .i64 0) 1 8 underlying22 g2.o f4.o f3.o f2.o rfl (by decide) (.slice ma mn mc) ym.length (ym.map (Value.int .i64)) rfl c5.o ⟨wc.heap.size,0,none⟩ 1 1 [.int .i64 j] rfl rfl a7.o d7.o (by omega) (by unfold maxLen;omega) (by omega) (by simp;omega) (wc.heap.size+1) (by simp) ?_;intro g5 c4 w5 a1 b5 a8 e7;have cY5:w5.cell? ⟨g,a2*3+2,none⟩=some (.slice ma mn mc):=(b5.cell_far ⟨g,a2*3+2,none⟩ (by simp;omega) f9.o).trans l9.o;have fY5:w5.frozen? ⟨g,a2*3+2,none⟩=false:=(b5.frozen_far ⟨g,a2*3+2,none⟩ (by simp;omega) f9.o).trans l8.o;have m5:=zjy (show GRow w (.slice (some ⟨g,0,none⟩) C'.length cap5) (C'.set a2 ⟨yl,ya,yn,yc,some ⟨g5,0,none⟩,ym.length+1,c4,yw,ym++[(j:Int)]⟩) (w5.setCell ⟨g,a2*3+2,none⟩ (.slice (some ⟨g5,0,none⟩) (ym.length+1) c4)) from by
      have j2:=(f6.o.below a9.o).add a2 ht g rfl (.slice (some ⟨g5,0,none⟩) (ym.length+1) c4) (j:Int) _ _ _ rfl (w1:=w5) (by rw [HY.o,List.map_append];exact a1) (by rw [HY.o];exact fun k o hk hko=>(b5.block k (zaa hko) hk).trans hko) ((m1.o.trans (a9.o.mono k4)).grown b5 (Nat.le_trans k4 a9.o.size) (fun q hq=>((zcf g1.o a9.o).lt q hq).1)) (by rw [HY.o];exact a8.elim Or.inl fun h1=>Or.inr (by rw [h1];simp [Value.ownBlock])) b5.size
      rw [HY.o] at j2
      exact j2);          clear a1 b5 a8)
     have j4:=m6.o (some ⟨g5,0,none⟩) (ym.length+1) c4;have k7:=zjy j4;clear j4;go_roundw
     case rel =>
      refine ⟨j+1,C'.set a2 ⟨yl,ya,yn,yc,some ⟨g5,0,none⟩,ym.length+1,c4,yw,ym++[(j:Int)]⟩,by go_num,by omega,by rw [List.length_set];omega,m5.o,?_,?_⟩
      ·exact zjy (by rw [k7.o];exact e3.o.add k6.o)
      ·exact zjy (by rw [k7.o];exact i4.o)
     case measure=>simp [intOf];omega
  ·have hq:decide ((j:Int)<(L.length:Int))=false:=by simp;omega
   have j9:j=L.length:=by omega
   have hT:=HT.o;rw [j9,List.drop_length] at hT;have f0:C.map pG=G:=hT;have l6:C.length<=1000000:=by omega
   have b7:∀ y∈C,1<=y.mem.length:=fun y hy=>e3.o.some (pG y) (List.mem_map_of_mem hy)
   have e9:C.Pairwise fun x y=>x.mem.getD 0 0<y.mem.getD 0 0:=by
    have:=e3.o.asc;rw [List.pairwise_map] at this;exact this
   have d5:=zjy f0;have d7:=zjy b7;have i7:=zjy e9;clear hT f0 b7 e9 HT j9;go_wp2_with fail
   refine (gsort_any w _ C _ b3.o d7.o i7.o l6).mono ?_;rintro e w2 ⟨rfl,d9⟩;have a0:=zjy (b3.o.below d9);clear d9 g8 b3;obtain ⟨av,cv,ev⟩:=zar a0.o.own.1;obtain ⟨nC,d4⟩:=xex (C.length);rw [d4] at ev;subst ev;have d2:=zjy d4;clear d4;go_wp2_with fail
   go_loopw [7,57] (fun o t wr=>∃ k:Nat,t = .int .i64 k/\k<=nC/\OwnV 107 3 zf5 w2 o (C.take k) wr) (fun _ t _=>nC - (intOf t).toNat)
   case atStart=>exact ⟨0,by go_num,by omega,OwnV.nil (Below.refl _ _)⟩
   case round =>
    obtain ⟨k,rfl,hk,ho⟩:=hrel;obtain ⟨WR,l5⟩:∃ u,u=wr:=⟨_,rfl⟩;subst l5;have HO:=zjy ho;by_cases hlk:k<nC
    ·have hq:decide ((k:Int)<(nC:Int))=true:=by simp;omega
     have hkn:(k:Int)<(nC:Int):=by omega
     have j8:k<C.length:=by rw [d2.o];exact hlk
     have hv:=OwnV.vec (size:=3) (enc:=zf5) (fun _=>rfl) (a0.o.own.below ho.2)
     obtain ⟨b0,o0,rfl,lb0,hc⟩:=hv.get k j8;have c0:=hc 0 _ rfl;have c1:=hc 1 _ rfl;have c2:=hc 2 _ rfl;rw [Nat.add_zero] at c0;have h6:C.take (k+1)=C.take k++[C[k]]:=List.take_succ_eq_append_getElem j8;obtain ⟨y,hy⟩:=xex (C[k]);rw [hy] at c0 c1 c2 h6;have m4:=zjy h6;obtain ⟨yl,ya,yn,yc,ma,mn,mc,yw,ym⟩:=y;dsimp only at c0 c1 c2;have h5:(C.take k).length=k:=by rw [List.length_take];omega
     have a5:=ho.1;rw [h5] at a5;have m3:=zjy h5;obtain ⟨ov,oc,eo⟩:=zar a5;subst eo;obtain ⟨i0,d1,d0,c9,c8⟩:=info_parts infoAg;have g2:=zjy d1;have f4:=zjy d0;have f3:=zjy c9;have f2:=zjy c8;have bA:Below WR.heap.size WR ((WR.alloc (.cells #[.int .i64 yl,.slice ya yn yc,.slice ma mn mc] 160)).alloc (.cells #[.int .i64 yl,.slice ya yn yc,.slice ma mn mc] 107)):=((Below.refl _ _).alloc xnl _).alloc (by simp) _;have f1:((WR.alloc (.cells #[.int .i64 yl,.slice ya yn yc,.slice ma mn mc] 160)).alloc (.cells #[.int .i64 yl,.slice ya yn yc,.slice ma mn mc] 107)).heap[WR.heap.size+1]?=some (.cells #[.int .i64 yl,.slice ya yn yc,.slice ma mn mc] 107 (0,0)):=zac (by simp)
     have a7:=zjy (show ∀ i u,(zf5 (⟨yl,ya,yn,yc,ma,mn,mc,yw,ym⟩:GV))[i]?=some u->((WR.alloc (.cells #[.int .i64 yl,.slice ya yn yc,.slice ma mn mc] 160)).alloc (.cells #[.int .i64 yl,.slice ya yn yc,.slice ma mn mc] 107)).cell? ((⟨WR.heap.size+1,0,none⟩:Addr).add i)=some u from fun i u hu=>by
      rw [zbu,cell_of_row _ _ _ _ _ _ f1,Nat.zero_add];simpa using hu)
     have c5:=zjy (zcf a5 bA);have a9:=zjy bA;have e4:w2.heap.size<=WR.heap.size:=ho.2.size;clear f1 bA a5 ho hc hv h6 hy d1 d0 c9 c8 h5;go_wp2_with (at_builtin;refine wpList_append_lies _ rfl (.tmp 61) (.tmp 64) 64 rfl w2.heap.size 107 i0 (.agg #[.int .i64 0,.slice none 0 0,.slice none 0 0]) 3 56 underlying64 g2.o f4.o f3.o f2.o rfl (by decide) (.slice ov k oc) k ((C.take k).flatMap zf5) rfl c5.o ⟨WR.heap.size+1,0,none⟩ 1 1 (zf5 ⟨yl,ya,yn,yc,ma,mn,mc,yw,ym⟩) rfl rfl a7.o (one_encG _) (by omega) (by unfold maxLen;omega) (by omega) (by simp;omega) (WR.heap.size+2) (by simp) ?_;intro g5 c4 w5 a1 b5 a8 e7;have d6:=zjy a1;have c6:=zjy b5;clear a1 b5 a8)
     go_roundw
     case rel =>
      refine ⟨k+1,by go_num,by omega,?_,?_⟩
      ·rw [m4.o,List.length_append,m3.o,List.flatMap_append]
       simpa using d6.o
      ·exact (HO.o.2.trans (a9.o.mono e4)).grown c6.o (Nat.le_trans e4 a9.o.size) (fun q hq=>(c5.o.lt q hq).1)
     case measure=>simp [intOf];omega
    ·have hq:decide ((k:Int)<(nC:Int))=false:=by simp;omega
     have j7:C.take k=C:=List.take_of_length_le (by rw [d2.o];omega);rw [j7] at ho;have HO:=zjy ho;clear ho j7;go_wp2_with fail
     go_ret;have hz:=a0.o.own.2.size
     refine ⟨_,rfl,⟨C,(OwnV.vec (size:=3) (enc:=zf5) (fun _=>rfl) HO.o).move xnl (fun b _ hs=>⟨rfl,Nat.le_trans hz hs⟩),d5.o,fun y hy=>⟨?_,?_⟩⟩,a0.o.own.2.trans (HO.o.2.mono hz)⟩
     ·exact ((a0.o.wds y hy).below HO.o.2).move xnl fun b _ hs=>⟨rfl,hs.1⟩
     ·exact (Vec.owns (k:=1) (enc:=zif) (S:=fun b=>w.heap.size<=b) (fun _=>rfl) (by rw [show y.mem.flatMap zif=y.mem.map (Value.int .i64) from encIn_flat _];exact a0.o.ids y hy) (fun b hb _=>hb)).below HO.o.2
end
section
open Go.RowKit
abbrev RkM:=List (Int × List UInt8)
def mapM (D T:List zc2):RkM:=(T.filter fun d=>(zbt (zby D) d.2).2).map fun d=>((zbt (zby D) d.2).1,d.1)
theorem mapM_yes {D T:List zc2} {d:zc2} {r:Int} (h:zbt (zby D) d.2=(r,true)):mapM D (T++[d])=mapM D T++[(r,d.1)]:=by
 unfold mapM;rw [List.filter_append,List.map_append];simp [h]
theorem mapM_no {D T:List zc2} {d:zc2} {r:Int} (h:zbt (zby D) d.2=(r,false)):mapM D (T++[d])=mapM D T:=by
 unfold mapM;rw [List.filter_append];simp [h]
theorem cnts_get (D:List zc2) (i:Nat) (hi:i<D.length) (hi':i<(zby D).length):(zby D)[i]=D[i].2:=by simp [zby]
theorem map_new (D:List zc2) (k:Nat) (hk:k<D.length) {r:Int} (h:zbt (zby D) D[k].2=(r,true)):∀ p∈mapM D (D.take k),p.1≠r:=by
 intro p hp e;unfold mapM at hp;obtain ⟨d,hd,rfl⟩:=List.mem_map.1 hp;obtain ⟨a1,a0⟩:=List.mem_filter.1 hd;obtain ⟨i,hi,rfl⟩:=List.mem_iff_getElem.1 a1;rw [List.length_take] at hi;rw [List.getElem_take] at a0 e;have hl:(zby D).length=D.length:=by simp [zby]
 have h1:zbt (zby D) (zby D)[i]=(r,true):=by
  rw [cnts_get D i (by omega) (by omega)];exact Prod.ext e a0
 have h2:zbt (zby D) (zby D)[k]=(r,true):=by rw [cnts_get D k hk (by omega)];exact h
 have:=rank_one (by omega) (by omega) h1 h2;omega
theorem map_dist (D:List zc2):∀ k,k<=D.length->(mapM D (D.take k)).Pairwise fun p q=>p.1≠q.1
 | 0,_=>by simp [mapM]
 | k+1,hk=>by
  have hk':k<D.length:=by omega
  have ih:=map_dist D k (by omega);rw [List.take_succ_eq_append_getElem hk'];obtain ⟨⟨r,s⟩,hr⟩:∃ p,zbt (zby D) D[k].2=p:=⟨_,rfl⟩;cases s
  ·rw [mapM_no hr];exact ih
  ·rw [mapM_yes hr]
   refine List.pairwise_append.2 ⟨ih,by simp,fun p hp q hq=>?_⟩
   obtain rfl:q=(r,D[k].1):=by simpa using hq
   exact map_new D k hk' hr p hp
theorem look_hits (D:List zc2) (r:Int):(mapM D D).filter (fun p=>p.1 == r)=(D.filter (hitE D r)).map fun d=>(r,d.1):=by
 unfold mapM;rw [List.filter_map,List.filter_filter]
 have hp:(fun a:zc2=>((fun p:Int × List UInt8=>p.1 == r) ∘ fun d=>((zbt (zby D) d.2).1,d.1)) a && (zbt (zby D) a.2).2)=hitE D r:=by
  funext d
  show ((zbt (zby D) d.2).1 == r && (zbt (zby D) d.2).2)=decide (zbt (zby D) d.2=(r,true));obtain ⟨⟨a,s⟩,ha⟩:∃ p,zbt (zby D) d.2=p:=⟨_,rfl⟩;rw [ha];cases s <;> by_cases e:a=r <;> simp [e]
 rw [hp]
 refine List.map_congr_left fun d hd=>?_
 have:=(List.mem_filter.1 hd).2;unfold hitE at this;have h2:=of_decide_eq_true this;rw [h2]
theorem dist_one {M:RkM} (h:M.Pairwise fun p q=>p.1≠q.1) (r:Int):M.filter (fun p=>p.1 == r)=[]\/∃ p,M.filter (fun p=>p.1 == r)=[p]:=by
 have h1:(M.filter fun p=>p.1 == r).Pairwise fun p q=>p.1≠q.1:=h.sublist List.filter_sublist
 cases e:M.filter fun p=>p.1 == r with
 | nil=>exact .inl rfl
 | cons p t =>
  cases t with
  | nil=>exact .inr ⟨p,rfl⟩
  | cons q t =>
   rw [e] at h1;have h2:=(List.pairwise_cons.1 h1).1 q List.mem_cons_self;have hp:p∈M.filter fun p=>p.1 == r:=by rw [e];exact List.mem_cons_self
   have hq:q∈M.filter fun p=>p.1 == r:=by rw [e];exact List.mem_cons_of_mem _ List.mem_cons_self
   have h3:=(List.mem_filter.1 hp).2;have h4:=(List.mem_filter.1 hq).2;simp at h3 h4;exact absurd (h3.trans h4.symm) h2
theorem guess_yes (S:List Int) (D:List zc2) (i:Nat) {r:Int} {p:Int × List UInt8} (h:zbt S (S.getD i 0)=(r,true)) (hp:(mapM D D).filter (fun p=>p.1 == r)=[p]):zcr S D i=[((i:Int),p.2)]:=by
 unfold zcr;rw [h];simp only [if_true];rw [look_hits] at hp;cases hd:D.filter (hitE D r) with
 | nil=>rw [hd] at hp;simp at hp
 | cons d t =>
  rw [hd] at hp;simp at hp;rw [hp.2];simp [<- hp.1]
theorem zh4 (S:List Int) (D:List zc2) (i:Nat) {r:Int} {s:Bool} (h:zbt S (S.getD i 0)=(r,s)) (hp:s=false\/(mapM D D).filter (fun p=>p.1 == r)=[]):zcr S D i=[]:=by
 unfold zcr;rw [h]
 rcases hp with rfl | hp
 ·simp
 ·rw [look_hits] at hp
  have:D.filter (hitE D r)=[]:=by simpa using hp
  rw [this];simp
def entsL:Nat->RkM->List MapEntry
 | _,[]=>[]
 | i,p :: M=>{ key:=.int .i64 p.1,val:=zak p.2,born:=i } :: entsL (i+1) M
theorem entsL_snoc (p:Int × List UInt8):∀ (M:RkM) (i:Nat),entsL i (M++[p])=entsL i M++[{ key:=.int .i64 p.1,val:=zak p.2,born:=i+M.length }]
 | [],i=>by simp [entsL]
 | q :: M,i=>by
  simp only [List.cons_append,entsL,entsL_snoc p M (i+1),List.length_cons];rw [show i+1+M.length=i+(M.length+1) by omega]
theorem find_none (k:Int):∀ (M:RkM) (i n:Nat),(∀ p∈M,p.1≠k)->Instr.findNow (.int .i64) (.int .i64 k) (entsL i M) n=some none
 | [],_,_,_=>rfl
 | q :: M,i,n,h=>by
  have h1:(k == q.1)=false:=by have:=h q List.mem_cons_self;simp;omega
  simp only [entsL,Instr.findNow,Instr.sameNow,if_true,h1];exact find_none k M (i+1) (n+1) fun p hp=>h p (List.mem_cons_of_mem _ hp)
theorem find_some (k:Int) (p:Int × List UInt8):∀ (M:RkM) (i n:Nat),M.filter (fun p=>p.1 == k)=[p]->∃ t,Instr.findNow (.int .i64) (.int .i64 k) (entsL i M) n=some (some (t,zak p.2))
 | [],_,_,h=>by simp at h
 | q :: M,i,n,h=>by
  by_cases hq:q.1=k
  ·have h1:(k == q.1)=true:=by simp [hq]
   rw [List.filter_cons_of_pos (by simpa using hq)] at h;have:q=p:=(List.cons.inj h).1;subst this;exact ⟨n,by simp only [entsL,Instr.findNow,Instr.sameNow,if_true,h1]⟩
  ·have h1:(k == q.1)=false:=by simp;omega
   rw [List.filter_cons_of_neg (by simpa using hq)] at h;obtain ⟨t,ht⟩:=find_some k p M (i+1) (n+1) h;exact ⟨t,by simp only [entsL,Instr.findNow,Instr.sameNow,if_true,h1];exact ht⟩
def MapAt (w:World) (b:Nat) (M:RkM):Prop:=w.heap[b]?=some (.map (entsL 0 M).toArray M.length)
theorem map_ins {P:Program} {w:World} {mty kt et:TypeId} {b:Nat} {M:RkM} (k:Int) (t:List UInt8) (hm:P.underlying mty=some (.map kt et)) (hd:P.underlying kt=some (.int .i64)) (hb:MapAt w b M) (h:∀ p∈M,p.1≠k) :
  ∃ w',(Instr.mapUpdate mty (.map (some b)) (.int .i64 k) (zak t)).run P w = .ok () w'/\MapAt w' b (M++[(k,t)])/\w.grownBy w' (some b):=by
 obtain ⟨w',e1,e2,e3⟩:=ins_int (P:=P) k (zak t) hm hd hb (find_none k M 0 0 h);refine ⟨w',e1,?_,e3⟩;unfold MapAt;rw [e2,entsL_snoc,List.length_append,Nat.zero_add];simp
theorem map_look_yes {P:Program} {w:World} {mty kt et:TypeId} {b:Nat} {M:RkM} {k:Int} {p:Int × List UInt8} (hm:P.underlying mty=some (.map kt et)) (hd:P.underlying kt=some (.int .i64)) (hb:MapAt w b M) (h:M.filter (fun p=>p.1 == k)=[p]) :
  (Instr.lookup mty (.map (some b)) (.int .i64 k) true).run P w = .ok (.tuple #[zak p.2,.bool true]) w:=by
 obtain ⟨t,h1⟩:=find_some k p M 0 0 h;simp [Instr.lookup,run_underlying hm,MapKept.run_getObj_map hb,MapKept.run_checkKey hd (k:=.int .i64 k) (by simp [MapKept.IsKey]),MapKept.run_findKey hd h1,Result.andThen]
theorem map_look_no {P:Program} {w:World} {mty kt et:TypeId} {b:Nat} {M:RkM} {k:Int} {z:Value} (hm:P.underlying mty=some (.map kt et)) (hd:P.underlying kt=some (.int .i64)) (hz:(zeroValue et).run P w = .ok z w) (hb:MapAt w b M) (h:M.filter (fun p=>p.1 == k)=[]) :
  (Instr.lookup mty (.map (some b)) (.int .i64 k) true).run P w = .ok (.tuple #[z,.bool false]) w:=by
 have h1:=find_none k M 0 0 fun p hp e=>by
  have:p∈M.filter fun p=>p.1 == k:=List.mem_filter.2 ⟨hp,by simpa using e⟩
  rw [h] at this;cases this
 simp [Instr.lookup,run_underlying hm,MapKept.run_getObj_map hb,MapKept.run_checkKey hd (k:=.int .i64 k) (by simp [MapKept.IsKey]),MapKept.run_findKey hd h1,hz,Result.andThen]
end
section
open Go.RowKit
def hitB (V:List (List UInt8)) (t:List UInt8) (m:Int):Bool:=decide (V.getD m.toNat []=t)
theorem hits_more (G:List GrpL) (V:List (List UInt8)) (gs:List GsL) (k:Nat) (h:k<gs.length):zhj G V (gs.take (k+1))=zhj G V (gs.take k)+(((G.getD gs[k].1.toNat default).mem.countP (hitB V gs[k].2):Nat):Int):=by
 unfold zhj;rw [List.take_succ_eq_append_getElem h,List.map_append,List.sum_append];show _+(_+0)=_;rw [Int.add_zero];rfl
theorem hits_any (S T U:Nat->Prop) (gv v2 v3:Value) (G:List GrpL) (gs:List GsL) (V:List (List UInt8)) (w:World) (hg:GroupsAt w S gv G) (hs:Vec w T 2 zhn v2 gs) (hv:Vec w U 1 za8 v3 V)
  (ok:∀ g∈gs,0<=g.1/\g.1<(G.length:Int)) (okm:∀ g∈G,∀ m∈g.mem,0<=m/\m<(V.length:Int)) (hn1:gs.length<=1000) (hn2:∀ g∈G,g.mem.length<=1000) (hn3:V.length<=1000000) (hn4:G.length<=1000000) :
  Calls prog 70 #[gv,v2,v3] w fun e w'=>e = .returned (.tuple #[.int .i64 (zhj G V gs),.int .i64 0])/\Below w.heap.size w w':=by
 obtain ⟨ga,gc,rfl⟩:=hg.slice;obtain ⟨sa,sc,rfl⟩:=hs.slice;obtain ⟨va,vc,rfl⟩:=hv.slice;have HG:=zjy hg;have HS:=zjy hs;have HV:=zjy hv;have d7:=zjy ok;have d6:=zjy okm;have e9:=zjy hn2;obtain ⟨r,hr⟩:=xex (zhj G V gs);rw [hr];have HR:=zjy hr;obtain ⟨n,b6⟩:=xex (gs.length);obtain ⟨ng,b7⟩:=xex (G.length);obtain ⟨nv,b5⟩:=xex (V.length);have HN:=zjy b6;have f6:=zjy b7;have f5:=zjy b5;rw [b6] at HS hn1;rw [b7] at HG d7 hn4;rw [b5] at HV d6 hn3;rw [b6,b7,b5];clear hg hs hv ok okm hn2 hr b6 b7 b5;go_enter func70,ntmps70
 go_wp2_with fail
 go_loopw [8,15] (fun o i wr=>∃ k:Nat,i = .int .i64 k/\k<=n/\∃ q:Int,o = .int .i64 q/\0<=q/\q<=1000*k/\Hid (zhj G V (gs.take k)=q)/\Below w.heap.size w wr) (fun _ i _=>n - (intOf i).toNat)
 case atStart=>exact ⟨0,rfl,by omega,0,rfl,by omega,by omega,zjy (by simp [zhj]),Below.refl _ _⟩
 case round =>
  obtain ⟨k,rfl,hk,q,rfl,hq0,hq1,HQ,b0⟩:=hrel;obtain ⟨WR,e7⟩:∃ u,u=wr:=⟨_,rfl⟩;subst e7;have HB:=zjy b0;by_cases hlt:k<n
  ·have hq:decide ((k:Int)<n)=true:=by simp;omega
   have a3:k<gs.length:=by rw [HN.o];exact hlt
   obtain ⟨b,off,e,lb,hc⟩:=(HS.o.below b0).get k a3;cases e;have c0:=hc 0 _ rfl;have c1:=hc 1 _ rfl;have a1:=hits_more G V gs k a3;obtain ⟨o0,o1⟩:=d7.o _ (List.getElem_mem a3);obtain ⟨⟨gi,gt⟩,hgk⟩:∃ p,gs[k]=p:=⟨_,rfl⟩;rw [hgk] at c0 c1 a1 o0 o1;dsimp only at c0 c1 a1 o0 o1;obtain ⟨gN,rfl⟩:∃ m:Nat,gi=m:=⟨gi.toNat,by omega⟩;rw [Int.toNat_natCast] at a1;rw [Nat.add_zero] at c0;have a9:gN<G.length:=by rw [f6.o];omega
   obtain ⟨b2,e5,⟨len,wa,wn,wc,ma,mn,mc,ws,mem⟩,e2,lb2,⟨g0,g1,g2⟩,hw,hm,hp⟩:=(HG.o.below b0).at gN a9;cases e2;have c8:=hm.lenN;dsimp only at c8 g0 g1 g2 hm;subst c8;have a7:G[gN].mem=mem:=by rw [<- hp];rfl
   have c9:=e9.o _ (List.getElem_mem a9);have a5:=d6.o _ (List.getElem_mem a9);rw [show G.getD gN default=G[gN] by rw [List.getD,List.getElem?_eq_getElem a9];rfl] at a1;rw [a7] at a1 c9 a5;rw [HQ.o] at a1;have b1:=zjy a1;have a4:=zjy hm;have f0:=zjy a5;obtain ⟨mN,b9⟩:=xex (mem.length);have d8:=zjy b9;rw [b9] at a4 c9 g2;have d1:decide ((gN:Int)<0)=false:=by simp
   have d2:decide ((ng:Int)<=(gN:Int))=false:=by simp;omega
   have d3:(gN:Int)<(ng:Int):=o1;clear hc hgk hw hm hp a7 a5 a1 HQ b0 g0 g1 b9 o0 o1 a9;go_wp2_with fail
   refine zal (fun WB hWB=>?_)
   have bB:=xal hWB
   have gB:WB.heap[WR.heap.size]?=some (.cells #[.int .i64 gN,zak gt] 138 (0,0)):=by rw [hWB];exact zac rfl
   have c7:=xhh HB bB;have f4:=zjy (a4.o.below bB);obtain ⟨T,hT⟩:=xex (WR.heap.size);rw [hT] at gB ⊢;have f7:=zjy gB;have lT:=zaa gB;clear hWB bB gB hT a4 c0 c1 g2 lb lb2 HB;go_loopw [8,36] (fun o i wr=>∃ j:Nat,i = .int .i64 j/\j<=mN/\∃ t:Nat,o = .int .i64 (q+t)/\t<=j/\Hid ((mem.take j).countP (hitB V gt)=t)/\Below WB.heap.size WB wr) (fun _ i _=>mN - (intOf i).toNat)
   case atStart=>exact ⟨0,rfl,by omega,0,by simp,by omega,zjy (by simp),Below.refl _ _⟩
   case round =>
    obtain ⟨j,rfl,hj,t,rfl,ht,HT,a6⟩:=hrel;obtain ⟨WJ,e8⟩:∃ u,u=wr:=⟨_,rfl⟩;subst e8;have c6:=zjy a6;by_cases hlt2:j<mN
    ·have e6:decide ((j:Int)<mN)=true:=by simp;omega
     have c5:j<mem.length:=by rw [d8.o];exact hlt2
     obtain ⟨b3,e0,e3,lb3,d5⟩:=(f4.o.below a6).get j c5;cases e3;have c3:=d5 0 _ rfl;rw [Nat.mul_one,Nat.add_zero] at c3;have a5:=f0.o _ (List.getElem_mem c5);have a0:=zf1 (hitB V gt) mem j c5;obtain ⟨m,d0⟩:=xex (mem[j]);rw [d0] at c3 a5 a0;rw [HT.o] at a0;obtain ⟨m0,m1⟩:=a5;obtain ⟨mi,rfl⟩:∃ i:Nat,m=i:=⟨m.toNat,by omega⟩;have b8:mi<V.length:=by rw [f5.o];omega
     obtain ⟨b4,d9,e4,lb4,d4⟩:=((HV.o.below c7.o).below a6).get mi b8;cases e4;have c4:=d4 0 _ rfl;rw [Nat.mul_one,Nat.add_zero] at c4;obtain ⟨x,hx⟩:=xex (V[mi])
     have a8:hitB V gt (mi:Int)=decide (x=gt):=by
      unfold hitB;rw [Int.toNat_natCast,List.getD,List.getElem?_eq_getElem b8,hx];rfl
     rw [hx] at c4;rw [a8] at a0;have hX:=zab a6 lT f7.o;obtain ⟨t0,t1⟩:=zae hX;have f1:decide ((mi:Int)<0)=false:=by simp
     have f2:decide ((nv:Int)<=(mi:Int))=false:=by simp;omega
     have f3:(mi:Int)<(nv:Int):=m1;have lt3:T<WJ.heap.size:=zaa hX;have r0:=cell_regrown t1;have r1:=cell_regrown c4;clear d5 d4 d0 HT hx a8 hX a6 m0 m1 b8;by_cases hxg:x=gt
     ·have e1:(x == gt)=true:=by simp [hxg]
      rw [decide_eq_true hxg] at a0;have M:=zjy (show (mem.take (j+1)).countP (hitB V gt)=t+1 from a0);have hwr:IntKind.i64.wrap (q+(t:Int)+1)=q+((t+1:Nat):Int):=by rw [IntKind.wrap_i64];omega
      clear a0 hxg;go_wp2_with fail
      go_quiet (fail)
      go_wp2_with fail
      go_roundw
      case rel=>exact ⟨j+1,by go_num,by omega,t+1,by go_num,by omega,M,below_drewN c6.o _⟩
      case measure=>simp [intOf];omega
     ·have e1:(x == gt)=false:=by simp [hxg]
      rw [decide_eq_false hxg] at a0;have M:=zjy (show (mem.take (j+1)).countP (hitB V gt)=t from a0);clear a0 hxg;go_wp2_with fail
      go_quiet (fail)
      go_wp2_with fail
      go_roundw
      case rel=>exact ⟨j+1,by go_num,by omega,t,rfl,by omega,M,below_drewN c6.o _⟩
      case measure=>simp [intOf];omega
    ·have e6:decide ((j:Int)<mN)=false:=by simp;omega
     have a2:(mem.countP (hitB V gt):Nat)=t:=by rw [<- HT.o,List.take_of_length_le (by rw [d8.o];omega)]
     have c2:=b1.o;rw [a2] at c2;have M:=zjy c2;have B6:=zjy (c7.o.trans (c6.o.mono c7.o.size));clear HT a2 c2 a6;go_wp2_with fail
     go_roundw
     case rel=>exact ⟨k+1,by go_num,by omega,q+t,rfl,by omega,by omega,M,B6.o⟩
     case measure=>simp [intOf];omega
  ·have hq:decide ((k:Int)<n)=false:=by simp;omega
   have a2:q=r:=by rw [<- HQ.o,<- HR.o,List.take_of_length_le (by rw [HN.o];omega)]
   clear HQ b0;go_wp2_with fail
   go_ret2;subst a2;exact ⟨rfl,HB.o⟩
end
section
open Go.RowKit
theorem infoGu:(prog.info? 138).map (fun i=>(i.zero,i.size,i.bytes))=some (some (.agg #[.int .i64 0,.string ⟨#[]⟩]),2,24):=by kernel_rfl
def zgy (G:List GrpL) (D:List zc2) (w:World) (e:Ending) (w':World):Prop :=
 ∃ v,e = .returned (.tuple #[v,.int .i64 (zbh D)])/\Vec w' (fun b=>w.heap.size<=b) 2 zhn v (if zbh D=0 then zd7 (zao G) D else [])/\Below w.heap.size w w'
theorem align_any (S T:Nat->Prop) (gv dv:Value) (G:List GrpL) (D:List zc2) (w:World) (hg:GroupsAt w S gv G) (hd:Vec w T 2 zd1 dv D) (hn:G.length<=1000000) (hm:D.length<=1000000) :
  Calls prog 69 #[gv,dv] w (zgy G D w):=by
 obtain ⟨ag,cg,rfl⟩:=hg.slice;obtain ⟨ad,cd,rfl⟩:=hd.slice;obtain ⟨n,e2⟩:=xex (G.length);obtain ⟨m,e4⟩:=xex (D.length);have HG:=zjy hg;have HD:=zjy hd;have h9:=zjy e2;have c3:=zjy e4;have f9:=zjy (acheck_any T _ D w hd hm);have j0:=hd;rw [e2] at HG ⊢;rw [e4] at HD f9 ⊢;have g6:n<=1000000:=by omega
 have hm6:m<=1000000:=by omega
 obtain ⟨c,hc⟩:=xex (zbh D);unfold zgy;rw [hc] at f9 ⊢;have HC:=zjy hc;clear hg hd hc e2 e4 hn hm j0;go_enter func69,ntmps69
 go_wp2_with fail
 refine f9.o.mono ?_;rintro e w1 ⟨rfl,h6⟩;have b7:=zjy h6;clear h6;by_cases h0:c=0
 ·subst h0
  go_wp2_with fail
  go_loopw [7,29] (fun o t wr=>∃ k:Nat,t = .int .i64 k/\k<=m/\OwnV 3 1 zif w1 o (zby (D.take k)) wr) (fun _ t _=>m - (intOf t).toNat)
  case atStart=>exact ⟨0,by go_num,by omega,OwnV.nil (Below.refl _ _)⟩
  case round =>
   obtain ⟨k,rfl,hk,ho⟩:=hrel;obtain ⟨WR,j3⟩:∃ u,u=wr:=⟨_,rfl⟩;subst j3;have HO:=zjy ho;have d8:w1.heap.size<=WR.heap.size:=ho.2.size;by_cases hlk:k<m
   ·have hq:decide ((k:Int)<(m:Int))=true:=by simp;omega
    have hkn:(k:Int)<(m:Int):=by omega
    have b8:k<D.length:=by rw [c3.o];exact hlk
    obtain ⟨b0,o0,rfl,i5,hc⟩:=((HD.o.below b7.o).below (ho.2.mono xnl)).get k b8;have c0:=hc 0 _ rfl;have c1:=hc 1 _ rfl;rw [Nat.add_zero] at c0;have b1:zby (D.take (k+1))=zby (D.take k)++[D[k].2]:=by unfold zby;rw [List.take_succ_eq_append_getElem b8,List.map_append];rfl
    obtain ⟨y,hy⟩:=xex (D[k]);rw [hy] at c0 c1 b1;have d7:=zjy b1;obtain ⟨yv,yc⟩:=y;dsimp only at c0 c1;have d9:(zby (D.take k)).length=k:=by simp [zby];omega
    have a1:=ho.1;rw [d9] at a1;have j7:=zjy d9;obtain ⟨ov,oc,eo⟩:=zar a1;subst eo;obtain ⟨i0,c8,c5,a3,c4⟩:=info_parts infoZ;have f7:=zjy c8;have f1:=zjy c5;have f0:=zjy a3;have e9:=zjy c4;have bA:Below WR.heap.size WR ((WR.alloc (.cells #[zak yv,.int .i64 yc] 91)).alloc (.cells #[.int .i64 yc] 3)):=((Below.refl _ _).alloc xnl _).alloc (by simp) _;have d2:((WR.alloc (.cells #[zak yv,.int .i64 yc] 91)).alloc (.cells #[.int .i64 yc] 3)).heap[WR.heap.size+1]?=some (.cells #[.int .i64 yc] 3 (0,0)):=zac (by simp)
    have a6:=zjy (show ∀ i u,[Value.int .i64 yc][i]?=some u->((WR.alloc (.cells #[zak yv,.int .i64 yc] 91)).alloc (.cells #[.int .i64 yc] 3)).cell? ((⟨WR.heap.size+1,0,none⟩:Addr).add i)=some u from fun i u hu=>by
     rw [zbu,cell_of_row _ _ _ _ _ _ d2,Nat.zero_add];simpa using hu)
    have a5:=zjy (zcf a1 bA);have d3:=zjy bA;have f4:=zjy (show ∀ u∈[Value.int .i64 yc],u.oneCell'=true by intro u hu;simp at hu;subst hu;rfl);clear d2 bA a1 ho hc b1 hy c8 c5 a3 c4 d9;go_wp2_with (at_builtin;refine wpList_append_lies _ rfl (.tmp 33) (.tmp 36) 22 rfl w1.heap.size 3 i0 (.int .i64 0) 1 8 underlying22 f7.o f1.o f0.o e9.o rfl (by decide) (.slice ov k oc) k ((zby (D.take k)).flatMap zif) rfl a5.o ⟨WR.heap.size+1,0,none⟩ 1 1 [.int .i64 yc] rfl rfl a6.o f4.o (by omega) (by unfold maxLen;omega) (by omega) (by simp;omega) (WR.heap.size+2) (by simp) ?_;intro g5 j5 w5 a0 c9 b2 e5;have b3:=zjy a0;have f8:=zjy c9;clear a0 c9 b2)
    go_roundw
    case rel =>
     refine ⟨k+1,by go_num,by omega,?_,?_⟩
     ·rw [d7.o,List.length_append,j7.o,List.flatMap_append]
      simpa using b3.o
     ·exact (HO.o.2.trans (d3.o.mono d8)).grown f8.o (Nat.le_trans d8 d3.o.size) (fun q hq=>(a5.o.lt q hq).1)
    case measure=>simp [intOf];omega
   ·have hq:decide ((k:Int)<(m:Int))=false:=by simp;omega
    have c7:D.take k=D:=List.take_of_length_le (by rw [c3.o];omega);rw [c7] at ho;have HO:=zjy ho;have h2:(zby D).length=m:=by rw [<- c3.o];simp [zby]
    obtain ⟨oa,oc,eo⟩:=zar ho.1;rw [h2] at eo;subst eo;clear ho c7 h2;go_wp2_with fail
    rw [run_makeMap_plain];go_wp2_with fail
    have g0:MapAt (WR.alloc (.map #[] 0)) WR.heap.size (mapM D (D.take 0)):=zac rfl;have h4:Below WR.heap.size WR (WR.alloc (.map #[] 0)):=(Below.refl _ _).alloc xnl _;have k0:=zjy g0;have k1:=zjy h4;clear g0 h4;go_loopw [42] (fun t wr=>∃ k:Nat,t = .int .i64 k/\k<=m/\MapAt wr WR.heap.size (mapM D (D.take k))/\Below WR.heap.size WR wr) (fun t _=>m - (intOf t).toNat)
    case atStart=>exact ⟨0,by go_num,by omega,k0.o,k1.o⟩
    case round =>
     obtain ⟨k2,rfl,hk2,e3,b9⟩:=hrel;obtain ⟨B,hB⟩:=xex (WR.heap.size);have g1:=zjy hB;have b4:=zjy e3;have i3:=zjy b9;have d6:Vec wr (fun b=>w1.heap.size<=b) 1 zif (.slice oa m oc) (zby D):=(OwnV.vec (size:=1) (enc:=zif) (fun _=>rfl) HO.o).below b9
     have HVC:=zjy d6;have j1:(zby D).length=m:=by rw [<- c3.o];simp [zby]
     by_cases hlk2:k2<m
     ·have i8:decide ((k2:Int)<(m:Int))=true:=by simp;omega
      have i9:(k2:Int)<(m:Int):=by omega
      have b8:k2<D.length:=by rw [c3.o];exact hlk2
      obtain ⟨b0,o0,rfl,i5,hc⟩:=(((HD.o.below b7.o).below HO.o.2).below b9).get k2 b8;have c0:=hc 0 _ rfl;have c1:=hc 1 _ rfl;rw [Nat.add_zero] at c0;have b1:D.take (k2+1)=D.take k2++[D[k2]]:=List.take_succ_eq_append_getElem b8;have h3:(zby D)[k2]'(by omega)=D[k2].2:=by simp [zby]
      have a7:=fun (r:Int) (h:zbt (zby D) D[k2].2=(r,true))=>map_new D k2 b8 h
      have a2:=fun (W9:World) (hb9:Below wr.heap.size wr W9)=>rank_any _ _ (zby D) k2 W9 (d6.below hb9) (by omega) (by omega)
      rw [h3] at a2;obtain ⟨y,hy⟩:=xex (D[k2]);rw [hy] at c0 c1 b1 a2 a7;obtain ⟨yv,yc⟩:=y;dsimp only at c0 c1 a2 a7;have d7:=zjy b1;obtain ⟨⟨r,sg⟩,hr⟩:∃ p,zbt (zby D) yc=p:=⟨_,rfl⟩;rw [hr] at a2;dsimp only at a2;have HR:=zjy hr;have f3:=zjy a2;have f5:=zjy a7;clear hc b1 h3 a2 hr a7 hy e3 d6;rw [hB] at b4 ⊢;go_wp2_with fail
      refine zah (fun W5 hW5=>?_)
      have b5:=xal hW5
      have e8:W5.heap[wr.heap.size]?=some (.cells #[zak yv,.int .i64 yc] 91 (0,0)):=by rw [hW5];exact zac rfl
      clear hW5;have lB:B<wr.heap.size:=zaa b4.o;have i1:=zjy (show MapAt W5 B (mapM D (D.take k2)) from zab b5 lB b4.o);have h8:Below WR.heap.size WR W5:=i3.o.trans (b5.mono i3.o.size);have g3:=zjy h8;obtain ⟨x0,x1⟩:=zae e8;have lX:=zaa e8;refine (f3.o W5 b5).mono ?_;rintro e w6 ⟨rfl,rfl⟩;clear b5 e8 c0 c1 h8 b9;cases sg
      ·go_wp2_with fail
       go_roundw
       case rel=>exact ⟨k2+1,by go_num,by omega,by rw [d7.o,mapM_no HR.o];exact i1.o,by rw [<- g1.o];exact g3.o⟩
       case measure=>simp [intOf];omega
      ·go_wp2_with fail
       obtain ⟨w7,e7,g7,r7⟩:=map_ins (P:=prog) r yv underlying166 underlying3 i1.o (f5.o r HR.o);have j9:=zjy g7;have k3:=zjy (g3.o.grown r7 g3.o.size (by intro x hx;cases hx;rw [g1.o];exact Nat.le_refl _));clear g7 r7;rw [e7];clear e7;go_wp2_with fail
       go_roundw
       case rel=>exact ⟨k2+1,by go_num,by omega,by rw [d7.o,mapM_yes HR.o];exact j9.o,by rw [<- g1.o];exact k3.o⟩
       case measure=>simp [intOf];omega
     ·have i8:decide ((k2:Int)<(m:Int))=false:=by simp;omega
      have c7:D.take k2=D:=List.take_of_length_le (by rw [c3.o];omega);rw [c7] at b4;rw [hB] at b4;clear c7 e3 d6;rw [hB];have h5:Below w.heap.size w wr:=(b7.o.trans (HO.o.2.mono b7.o.size)).trans (b9.mono (Nat.le_trans b7.o.size d8));have g2:=zjy h5;have lB:B<wr.heap.size:=zaa b4.o;clear h5 b9;go_wp2_with fail
      refine (sizes_any S _ G _ (HG.o.below g2.o) (by rw [h9.o];exact g6)).mono ?_;rintro e w3 ⟨v3,rfl,c6⟩;have j8:=zjy c6;have e0:(zao G).length=n:=by rw [<- h9.o];simp [zao]
      obtain ⟨sa,sc,es⟩:=zar c6.1;rw [e0] at es;subst es;have f2:=zjy e0;have i2:=zjy (show MapAt w3 B (mapM D D) from zab c6.2 lB b4.o);have i6:B<w3.heap.size:=zaa i2.o;have b6:=zjy (g2.o.trans (c6.2.mono g2.o.size));clear c6 e0;go_wp2_with fail
      go_loopw [15,63] (fun o t wr=>∃ i:Nat,t = .int .i64 i/\i<=n/\∃ X:List GsL,OwnV 138 2 zhn w3 o X wr/\X.length<=i/\Hid (X=(List.range i).flatMap (zcr (zao G) D))) (fun _ t _=>n - (intOf t).toNat)
      case atStart=>exact ⟨0,by go_num,by omega,[],OwnV.nil (Below.refl _ _),by simp,zjy (by simp)⟩
      case round =>
       obtain ⟨i,rfl,hi,X,ho,j2,HX⟩:=hrel;obtain ⟨WQ,j4⟩:∃ u,u=wr:=⟨_,rfl⟩;subst j4;have c2:=zjy ho;have g4:w3.heap.size<=WQ.heap.size:=ho.2.size;obtain ⟨nx,e1⟩:=xex (X.length);obtain ⟨ov,i4,eo⟩:=zar ho.1;rw [e1] at eo j2;subst eo;have d4:=zjy e1;by_cases hli:i<n
       ·have i7:decide ((i:Int)<(n:Int))=true:=by simp;omega
        have e6:(i:Int)<(n:Int):=by omega
        have g9:i<(zao G).length:=by rw [f2.o];exact hli
        have a8:(List.range (i+1)).flatMap (zcr (zao G) D)=X++zcr (zao G) D i:=by rw [HX.o,List.range_succ,List.flatMap_append];simp
        have h1:(zao G)[i]=(zao G).getD i 0:=(zbb _ _ g9).symm;have a2:=rank_any _ _ (zao G) i WQ ((OwnV.vec (size:=1) (enc:=zif) (fun _=>rfl) j8.o).below ho.2) g9 (by rw [f2.o];exact g6)
        rw [h1] at a2;obtain ⟨⟨r,sg⟩,hr⟩:∃ p,zbt (zao G) ((zao G).getD i 0)=p:=⟨_,rfl⟩;rw [hr] at a2;dsimp only at a2;have g8:MapAt WQ B (mapM D D):=zab ho.2 i6 i2.o;have a9:(mapM D D).Pairwise fun p q=>p.1≠q.1:=by have:=map_dist D D.length xnl;rwa [List.take_length] at this
        have HR:=zjy hr;have f3:=zjy a2;have a4:=zjy a8;have f6:=zjy g8;obtain ⟨i0,c8,c5,a3,c4⟩:=info_parts infoGu;have f7:=zjy c8;have f1:=zjy c5;have f0:=zjy a3;have e9:=zjy c4;have d5:=zjy (dist_one a9 r);clear a8 h1 a2 hr g8 a9 c8 c5 a3 c4 ho e1;go_wp2_with fail
        refine f3.o.mono ?_;rintro e w6 ⟨rfl,rfl⟩
        rcases d5.o with hf | ⟨⟨pr,pv⟩,hf⟩
        ·have HF:=zjy hf
         clear hf;go_wp2_with fail
         rw [map_look_no (P:=prog) underlying166 underlying3 (Tryz.zeroValue9 _) f6.o HF.o];cases sg <;> go_wp2_with fail
         all_goals (
          go_roundw
          case rel=>exact ⟨i+1,by go_num,by omega,X,c2.o,by rw [d4.o];omega,zjy (by rw [a4.o,zh4 _ _ _ HR.o (.inr HF.o),List.append_nil])⟩
          case measure=>simp [intOf];omega)
        ·have HF:=zjy hf
         clear hf;cases sg
         ·go_wp2_with fail
          rw [map_look_yes (P:=prog) underlying166 underlying3 f6.o HF.o];go_wp2_with fail
          go_roundw
          case rel=>exact ⟨i+1,by go_num,by omega,X,c2.o,by rw [d4.o];omega,zjy (by rw [a4.o,zh4 _ _ _ HR.o (.inl rfl),List.append_nil])⟩
          case measure=>simp [intOf];omega
         ·have a1:=c2.o.1
          rw [d4.o] at a1;have bA:Below WQ.heap.size WQ (WQ.alloc (.cells #[.int .i64 i,zak pv] 138)):=(Below.refl _ _).alloc xnl _;have d2:(WQ.alloc (.cells #[.int .i64 i,zak pv] 138)).heap[WQ.heap.size]?=some (.cells #[.int .i64 i,zak pv] 138 (0,0)):=zac rfl
          have a6:=zjy (show ∀ t u,(zhn ((i:Int),pv))[t]?=some u->(WQ.alloc (.cells #[.int .i64 i,zak pv] 138)).cell? ((⟨WQ.heap.size,0,none⟩:Addr).add t)=some u from fun t u hu=>by
           rw [zbu,cell_of_row _ _ _ _ _ _ d2,Nat.zero_add];simpa using hu)
          have a5:=zjy (zcf a1 bA);have d3:=zjy bA;clear d2 bA a1;go_wp2_with fail
          rw [map_look_yes (P:=prog) underlying166 underlying3 f6.o HF.o];go_wp2_with (at_builtin;refine wpList_append_lies _ rfl (.tmp 82) (.tmp 86) 114 rfl w3.heap.size 138 i0 (.agg #[.int .i64 0,.string ⟨#[]⟩]) 2 24 underlying114 f7.o f1.o f0.o e9.o rfl (by decide) (.slice ov nx i4) nx (X.flatMap zhn) rfl a5.o ⟨WQ.heap.size,0,none⟩ 1 1 (zhn ((i:Int),pv)) rfl rfl a6.o (one_encGs _) (by omega) (by unfold maxLen;omega) (by omega) (by simp;omega) (WQ.heap.size+1) (by simp) ?_;intro g5 j5 w5 a0 c9 b2 e5;have b3:=zjy a0;have f8:=zjy c9;clear a0 c9 b2)
          go_roundw
          case rel =>
           refine ⟨i+1,by go_num,by omega,X++[((i:Int),pv)],⟨?_,?_⟩,by rw [List.length_append,d4.o];simp;omega,zjy (by rw [a4.o,guess_yes _ _ _ HR.o HF.o])⟩
           ·rw [List.length_append,d4.o,List.flatMap_append]
            simpa using b3.o
           ·exact (c2.o.2.trans (d3.o.mono g4)).grown f8.o (Nat.le_trans g4 d3.o.size) (fun q hq=>(a5.o.lt q hq).1)
          case measure=>simp [intOf];omega
       ·have i7:decide ((i:Int)<(n:Int))=false:=by simp;omega
        have e6:i=(zao G).length:=by rw [f2.o];omega
        have h7:X=zd7 (zao G) D:=by rw [HX.o,e6];rfl
        have j6:=zjy h7;clear e6 h7 ho HX;go_wp2_with fail
        go_ret2;refine ⟨_,rfl,?_,b6.o.trans (c2.o.2.mono b6.o.size)⟩;have hv:=OwnV.vec (size:=2) (enc:=zhn) (fun _=>rfl) c2.o
        rw [j6.o] at hv;exact hv.move xnl fun b _ hs=>⟨rfl,Nat.le_trans b6.o.size hs⟩
 ·have d0:(c == 0)=false:=by simpa using h0
  have d1:(c != 0)=true:=by simpa using h0
  go_wp2_with fail
  go_ret2;refine ⟨_,rfl,?_,b7.o⟩;show Vec w1 _ 2 zhn (.slice none 0 0) [];exact OwnV.vec (e:=138) (size:=2) (enc:=zhn) (fun _=>rfl) (OwnV.nil b7.o)
end
section
open Go.RowKit
def zjo (b:BitsL):Int:=(2000*zcn b+b.len).tdiv (2*b.len)
def zie (g:Int):List BitsL->Int
 | []=>g
 | b :: L=>zie (if zap b=true then max g (zjo b) else g) L
theorem fillB_bd {b:BitsL} (h:zap b=true):0<=zjo b/\zjo b<=2000000:=by
 have h1:=(zcw h).1;have h2:=zjs b;unfold zjo;have e:(2000*zcn b+b.len).tdiv (2*b.len)=(2000*zcn b+b.len) / (2*b.len):=Int.tdiv_eq_ediv_of_nonneg (by omega);rw [e];refine ⟨Int.ediv_nonneg (by omega) (by omega),?_⟩;have:=Int.ediv_le_self (b:=2*b.len) (show 0<=2000*zcn b+b.len by omega);omega
theorem wrap_id (x:Int) (h1:-9223372036854775808<=x) (h2:x<=9223372036854775807):IntKind.i64.wrap x=x:=by
 simp [IntKind.wrap,IntKind.bits,IntKind.signed];omega
theorem fill_any (S:Nat->Prop) (v:Value) (L:List BitsL) (w:World) (h:BitsVec w S v L) (hi:∀ b∈L,InI b.len) (hw:∀ b∈L,zap b=true->zgx b.words) (hn:L.length<=1000000) :
  Calls prog 73 #[v] w fun e w'=>e = .returned (.int .i64 (zie 0 L))/\Below w.heap.size w w':=by
 obtain ⟨a,cap,rfl⟩:=h.slice;have HV:=zjy h;have HI:=zjy hi;have d6:=zjy hw;obtain ⟨F,hF⟩:=xex (zie 0 L);rw [hF];have HF:=zjy hF;clear h hi hw hF;go_enter func73,ntmps73
 go_wp2_with fail
 go_loopw [3,8] (fun g t wr=>∃ (j:Nat) (gr:Int),t = .int .i64 j/\j<=L.length/\g = .int .i64 gr/\0<=gr/\gr<=2000000/\Hid (zie gr (L.drop j)=F)/\Below w.heap.size w wr) (fun _ t _=>L.length - (intOf t).toNat)
 case atStart=>exact ⟨0,0,rfl,by omega,rfl,by omega,by omega,HF,Below.refl _ _⟩
 case round =>
  obtain ⟨j,gr,rfl,hj,rfl,d2,d1,HT,b0⟩:=hrel;have c7:=zjy b0;by_cases hlt:j<L.length
  ·have hq:decide ((j:Int)<(L.length:Int))=true:=by simp;omega
   have hji:(j:Int)<(L.length:Int):=by omega
   obtain ⟨b,off,⟨xl,xa,xn,xc⟩,rfl,lb,c0,c1,hat⟩:=(HV.o.below b0).at j hlt;dsimp only at c0 c1;rw [zbb _ _ hlt] at hat;have a9:=HI.o _ (List.getElem_mem hlt);have a7:=d6.o _ (List.getElem_mem hlt);have hT:=HT.o;rw [List.drop_eq_getElem_cons hlt] at hT;obtain ⟨x,hx⟩:=xex (L[j]);rw [hx] at hat a9 hT a7;have c4:zie (if zap x=true then max gr (zjo x) else gr) (L.drop (j+1))=F:=hT
   have b9:xl=x.len:=by
    obtain ⟨sx,es,-⟩:=hat;have d5:xl=x.len/\sx = .slice xa xn xc:=by simpa [eq_comm] using es
    exact d5.1
   have a1:=zjy c4;have c8:=zjy hat;have a6:=zjy a9;have c5:=zjy b9;have d7:=zjy a7;clear hT c4 hat a9 hx HT b0 b9 a7;go_wp2_with fail
   refine zah (fun W1 hW1=>?_)
   have b1:=xal hW1
   have b5:W1.heap[wr.heap.size]?=some (.cells #[.int .i64 xl,.slice xa xn xc] 56 (0,0)):=by rw [hW1];exact zac rfl
   clear hW1;refine (zfq S _ x _ (c8.o.below b1) a6.o.1 a6.o.2).mono ?_;obtain ⟨vx,a8⟩:=xex (zap x);rw [a8] at a1 ⊢;have c6:=zjy a8;rintro e w2 ⟨rfl,b4⟩;have b2:=b1.trans (b4.mono b1.size);have a4:=zab b4 (zaa b5) b5;obtain ⟨X,hX⟩:=xex (wr.heap.size);rw [hX] at a4 ⊢;have b7:=xhh c7 b2;have d8:=zjy a4;have b8:=zjy (c8.o.below b2);have lX:=zaa a4;clear b1 b5 a8 b4 b2 a4 c0 c1 hX;cases vx
   ·have a5:=zjy (show zie gr (L.drop (j+1))=F by have:=a1.o;simpa using this)
    clear a1;go_wp2_with fail
    go_roundw
    case rel=>exact ⟨j+1,gr,by go_num,by omega,rfl,d2,d1,a5,b7.o⟩
    case measure=>simp [intOf];omega
   ·have a5:=zjy (show zie (max gr (zjo x)) (L.drop (j+1))=F by have:=a1.o;simpa using this)
    clear a1;have h8:64<=xl/\xl<=512:=by have:=(zcw c6.o).1;rw [<- c5.o] at this;exact this.2
    have d4:=zjs x;have d3:=fillB_bd c6.o;have c2:(2000*zcn x+xl).tdiv (2*xl)=zjo x:=by rw [c5.o];rfl
    obtain ⟨c,hc⟩:=xex (zcn x);obtain ⟨fb,a3⟩:=xex (zjo x);have a0:=bcount_any S _ x w2.drew (b8.o.below ((Below.refl _ _).drew)) a6.o.1 a6.o.2 d7.o;rw [hc] at a0 d4 c2;rw [a3] at d3 c2 a5;have b6:=zjy a0;have e1:=wrap_id (2000*c) (by omega) (by omega);have e2:=wrap_id (2000*c+xl) (by omega) (by omega);have e3:=wrap_id (2*xl) (by omega) (by omega);have e4:=wrap_id fb (by omega) (by omega);have d0:¬ 2*xl=0:=by omega
    have c9:¬ xl=0:=by omega
    obtain ⟨x0,x1⟩:=zae d8.o;clear a0 hc a3;go_wp2_with fail
    refine wp_region_noPanic ?_
    refine wp_region_held_drew (S:=(fun w'=>w'.cell? ⟨X,0,none⟩=some (.int .i64 xl)/\w'.cell? ⟨X,1,none⟩=some (.slice xa xn xc))) (by kernel_rfl) (⟨x0,x1⟩) (fun hHeld=>?_)
    refine tH 0 ?_;refine tH 1 ?_;refine tH 4 ?_;refine tH 5 ?_;refine tH 7 ?_;refine tH 8 ?_;refine tH 9 ?_
    refine xrH 2 rfl fun K hK=>?_
    go_simp;refine b6.o.mono ?_;rintro e w3 ⟨rfl,c3⟩;have b3:Below w2.heap.size w2 w3:=(Below.refl _ _).drew.trans c3;have a2:=zjy b3;clear c3 b3
    refine hK.out _ _ (⟨(a2.o.cell (p:=⟨X,0,none⟩) lX).trans x0,(a2.o.cell (p:=⟨X,1,none⟩) lX).trans x1⟩) (fun hHeld=>?_)
    clear hK K;refine tH 3 ?_;refine tH 6 ?_;refine tH 10 ?_
    refine xrH 11 rfl fun K hK=>?_
    go_simp;skip
    refine hK.out _ _ (⟨(a2.o.cell (p:=⟨X,0,none⟩) lX).trans x0,(a2.o.cell (p:=⟨X,1,none⟩) lX).trans x1⟩) (fun hHeld=>?_)
    clear hK K
    refine xrH 12 rfl fun K hK=>?_
    go_simp;skip
    refine hK.out _ _ (⟨(a2.o.cell (p:=⟨X,0,none⟩) lX).trans x0,(a2.o.cell (p:=⟨X,1,none⟩) lX).trans x1⟩) (fun hHeld=>?_)
    clear hK K;refine wpAnyH_done (by kernel_rfl) ?_ _;refine NoPanic.normal ?_;go_wp2_with fail
    go_roundw
    case rel=>exact ⟨j+1,max gr fb,by go_num,by omega,rfl,by omega,by omega,a5,b7.o.trans (a2.o.mono b7.o.size)⟩
    case measure=>simp [intOf];omega
  ·have hq:decide ((j:Int)<(L.length:Int))=false:=by simp;omega
   have hT:=HT.o;rw [List.drop_eq_nil_of_le (by omega)] at hT;have a1:=zjy (show Ending.returned (.int .i64 gr)=Ending.returned (.int .i64 F) by rw [show gr=F from hT]);clear HT hT;go_wp2_with fail
   go_ret;exact ⟨a1.o,c7.o⟩
end
section
open Go.RowKit
structure Ex where
 f:Int
 u:Int
 h:Int
 c:Int
 i:Int
def Ex.cells (x:Ex):List Value:=[.int .i64 x.f,.int .i64 x.u,.int .i64 x.h,.int .i64 x.c,.int .i64 x.i]
def Ex.val (x:Ex):Value:=.agg #[.int .i64 x.f,.int .i64 x.u,.int .i64 x.h,.int .i64 x.c,.int .i64 x.i]
def Ex.inB (x:Ex):Prop:=(0<=x.u/\x.u<=64)/\(0<=x.h/\x.h<=64)/\(0<=x.c/\x.c<=512)/\(0<=x.i/\x.i<=1000)
def Ex.ok (k:Int) (x:Ex):Prop:=x.f=k/\x.inB
instance (x:Ex):Decidable x.inB:=by unfold Ex.inB;infer_instance
instance (k:Int) (x:Ex):Decidable (x.ok k):=by unfold Ex.ok;infer_instance
def Ex.le (x y:Ex):Prop:=x.u<=y.u/\x.h<=y.h/\x.c<=y.c/\x.i<=y.i
instance (x y:Ex):Decidable (x.le y):=by unfold Ex.le;infer_instance
def okAll:Nat->List Ex->Prop
 | _,[]=>True
 | k,x :: l=>x.ok k/\okAll (k+1) l
instance okAllDec:(k:Nat)->(l:List Ex)->Decidable (okAll k l)
 | _,[]=>isTrue trivial
 | k,x :: l=>@instDecidableAnd _ _ _ (okAllDec (k+1) l)
theorem zhg (l:List Ex):∀ k,okAll k l ↔ ∀ j,(h:j<l.length)->(l[j]).ok ((k+j:Nat):Int):=by
 induction l with
 | nil=>intro k;simp [okAll]
 | cons x l ih =>
  intro k;simp only [okAll,ih,List.length_cons];constructor
  ·rintro ⟨h1,h2⟩ j hj
   cases j with
   | zero=>simpa using h1
   | succ j=>have:=h2 j (by omega);simpa [Nat.add_assoc,Nat.add_comm 1 j] using this
  ·intro h
   refine ⟨by simpa using h 0 (by omega),fun j hj=>?_⟩
   have:=h (j+1) (by omega);simpa [Nat.add_assoc,Nat.add_comm 1 j] using this
def ze4 (l:List Ex):Int:=if 1<=l.length/\l.length<=5 then (if okAll 0 l then 0 else 2) else 8
def zg8:List Ex->List Ex->Prop
 | x :: l,y :: r=>x.le y/\zg8 l r
 | _,_=>True
instance leAllDec:(l r:List Ex)->Decidable (zg8 l r)
 | x :: l,y :: r=>@instDecidableAnd _ _ _ (leAllDec l r)
 | [],[]=>isTrue trivial
 | [],_ :: _=>isTrue trivial
 | _ :: _,[]=>isTrue trivial
theorem zgq (l:List Ex):∀ r,zg8 l r ↔ ∀ j,(h:j<l.length)->(h':j<r.length)->(l[j]).le r[j]:=by
 induction l with
 | nil=>intro r;simp [zg8]
 | cons x l ih =>
  intro r;cases r with
  | nil=>simp [zg8]
  | cons y r =>
   simp only [zg8,ih,List.length_cons];constructor
   ·rintro ⟨h1,h2⟩ j hj hj'
    cases j with
    | zero=>simpa using h1
    | succ j=>have:=h2 j (by omega) (by omega);simpa using this
   ·intro h
    refine ⟨by simpa using h 0 (by omega) (by omega),fun j hj hj'=>?_⟩
    have:=h (j+1) (by omega) (by omega);simpa using this
def zcd (a b:List Ex):Int:=if ze4 a≠0 then ze4 a else if ze4 b≠0 then ze4 b else if a.length≠b.length then 8 else 0
def zcq (b l:List Ex):Int:=if zcd b l≠0 then zcd b l else if zg8 l b then 0 else 11
def Ex.max2 (k:Int) (x y:Ex):Ex:=⟨k,max x.u y.u,max x.h y.h,max x.c y.c,max x.i y.i⟩
def zcc:Nat->List Ex->List Ex->List Ex
 | k,x :: l,y :: r=>Ex.max2 k x y :: zcc (k+1) l r
 | _,_,_=>[]
theorem zdh (l:List Ex):∀ k r,l.length=r.length->(zcc k l r).length=l.length:=by
 induction l with
 | nil=>intro k r h;simp [zcc]
 | cons x l ih =>
  intro k r h;cases r with
  | nil=>simp at h
  | cons y r=>simp [zcc,ih (k+1) r (by simpa using h)]
theorem zfp (l:List Ex):∀ k r,(hl:l.length=r.length)->∀ j,(h:j<l.length)->(h':j<r.length)->(h2:j<(zcc k l r).length)->(zcc k l r)[j]=Ex.max2 ((k+j:Nat):Int) l[j] r[j]:=by
 induction l with
 | nil=>intro k r hl j h;simp at h
 | cons x l ih =>
  intro k r hl j h h' h2;cases r with
  | nil=>simp at hl
  | cons y r =>
   cases j with
   | zero=>simp [zcc]
   | succ j =>
    simp only [zcc,List.getElem_cons_succ];rw [ih (k+1) r (by simpa using hl) j (by simpa using h) (by simpa using h')];congr 1;omega
def regE (a l:List Ex):List Ex:=if a.length=0 then l else a
def zdm (a l:List Ex):Int:=zcd (regE a l) l
end
section
open Go.RowKit
theorem idx4 {k:Int} {cs:Array Value} {v:Value} (h0:0<=k) (h1:k<4) (hv:cs[k.toNat]?=some v) (w:World) :
  (Instr.index 99 (.agg cs) (.int .i64 k)).run prog w = .ok v w :=
 zi6 underlying99 (by kernel_rfl) sz3 h0 h1 hv w
theorem zee (x:Ex) (w:World) :
  Calls prog 45 #[.agg #[.int .i64 x.f,.int .i64 x.u,.int .i64 x.h,.int .i64 x.c,.int .i64 x.i]] w fun e w'=>e = .returned (.agg #[.int .i64 x.u,.int .i64 x.h,.int .i64 x.c,.int .i64 x.i])/\Below w.heap.size w w':=by
 obtain ⟨f,u,h,c,i⟩:=x;go_enter func45,ntmps45
 go_wp2
 exact za5 rfl rfl (zac (by simp)) underlying99 rfl rfl ⟨rfl,((Below.refl _ _).alloc xnl _).alloc (by simp) _⟩
theorem most_any (w:World) :
  Calls prog 47 #[] w fun e w'=>e = .returned (.agg #[.int .i64 64,.int .i64 64,.int .i64 512,.int .i64 1000])/\Below w.heap.size w w':=by
 go_enter func47,ntmps47
 go_wp2
 exact za5 rfl rfl (zac rfl) underlying99 rfl rfl ⟨rfl,(Below.refl _ _).alloc xnl _⟩
def le4 (b0 b1 b2 b3 n0 n1 n2 n3:Int):Bool:=decide (n0<=b0/\n1<=b1/\n2<=b2/\n3<=b3)
theorem zij (b0 b1 b2 b3 n0 n1 n2 n3 : Int) (w : World) :
    Calls prog 46 #[.agg #[.int .i64 b0, .int .i64 b1, .int .i64 b2, .int .i64 b3], .agg #[.int .i64 n0, .int .i64 n1, .int .i64 n2, .int .i64 n3]] w fun e w' => e = .returned (.bool (le4 b0 b1 b2 b3 n0 n1 n2 n3)) ∧ Below w.heap.size w w' := by
  have i0 := fun cs v hv w => @idx4 0 cs v (by decide) (by decide) hv w
  have i1 := fun cs v hv w => @idx4 1 cs v (by decide) (by decide) hv w
  have i2 := fun cs v hv w => @idx4 2 cs v (by decide) (by decide) hv w
  have i3 := fun cs v hv w => @idx4 3 cs v (by decide) (by decide) hv w
  go_enter func46, ntmps46
  go_wp2
  go_loop [8] (fun i => ∃ k : Nat, k ≤ 4 ∧ i = .int .i64 k ∧ (1 ≤ k → n0 ≤ b0) ∧ (2 ≤ k → n1 ≤ b1) ∧ (3 ≤ k → n2 ≤ b2) ∧ (4 ≤ k → n3 ≤ b3)) (fun i => 4 - (intOf i).toNat)
  case atStart => exact ⟨0, by omega, rfl, by omega, by omega, by omega, by omega⟩
  case round =>
    obtain ⟨k, hk, rfl, h1, h2, h3, h4⟩ := hrel
    have : k = 0 ∨ k = 1 ∨ k = 2 ∨ k = 3 ∨ k = 4 := by omega
    rcases this with rfl | rfl | rfl | rfl | rfl
    all_goals
      have H1 := zjy h1; clear h1
      have H2 := zjy h2; clear h2
      have H3 := zjy h3; clear h3
      have H4 := zjy h4; clear h4
      go_wp2
    all_goals have h1 := H1.o; have h2 := H2.o; have h3 := H3.o; have h4 := H4.o; clear H1 H2 H3 H4
    all_goals
      first
      | (go_ret
         exact ⟨zax (by simp [le4]; omega), ((Below.refl _ _).alloc xnl _).alloc (by simp) _⟩)
      | (go_round
         case rel => first | exact ⟨1, by omega, rfl, by omega, by omega, by omega, by omega⟩ | exact ⟨2, by omega, rfl, by omega, by omega, by omega, by omega⟩ | exact ⟨3, by omega, rfl, by omega, by omega, by omega, by omega⟩ | exact ⟨4, by omega, rfl, by omega, by omega, by omega, by omega⟩
         case measure => simp [intOf])
end
section
open Go.RowKit
def zdl (l:List Ex):List Value:=l.flatMap Ex.cells
theorem exFlat_get (l:List Ex):∀ k,(h:k<l.length)->((zdl l).drop (k*5)).take 5=(l[k]).cells:=by
 induction l with
 | nil=>intro k h;simp at h
 | cons x l ih =>
  intro k h;have e:zdl (x :: l)=x.cells++zdl l:=rfl;have hx:x.cells.length=5:=rfl;cases k with
  | zero=>rw [e];simp [Ex.cells]
  | succ k =>
   rw [e,show (k+1)*5=5+k*5 by omega,<- List.drop_drop,List.drop_append_of_le_length (by rw [hx];omega)];have:x.cells.drop 5=[]:=rfl;rw [this,List.nil_append];exact ih k (by simpa using h)
def ExRow (w:World) (S:Nat->Prop) (v:Value) (l:List Ex):Prop:=Row w S 5 v l.length (zdl l)
theorem ExRow.get {w:World} {S:Nat->Prop} {a:Option Addr} {n cap:Nat} {l:List Ex} (h:ExRow w S (.slice a n cap) l) (k:Nat) (hk:k<l.length) :
  ∃ b off,a=some ⟨b,off,none⟩/\b<w.heap.size/\w.cell? ⟨b,off+k*5,none⟩=some (.int .i64 (l[k]).f)/\w.cell? ⟨b,off+k*5+1,none⟩=some (.int .i64 (l[k]).u)/\w.cell? ⟨b,off+k*5+2,none⟩=some (.int .i64 (l[k]).h)/\w.cell? ⟨b,off+k*5+3,none⟩=some (.int .i64 (l[k]).c)/\w.cell? ⟨b,off+k*5+4,none⟩=some (.int .i64 (l[k]).i):=by
 obtain ⟨a',a0,h1,h2,h3⟩:=h;cases h1;exact Row.five (cap:=cap) ⟨a,cap,rfl,h2,h3⟩ k hk _ _ _ _ _ (exFlat_get l k hk)
theorem ExRow.len {w:World} {S:Nat->Prop} {a:Option Addr} {n cap:Nat} {l:List Ex} (h:ExRow w S (.slice a n cap) l):n=l.length:=by
 obtain ⟨a',a0,h1,h2,h3⟩:=h;cases h1;rfl
theorem ok_le4 (k:Int) (x:Ex):x.ok k ↔ (x.f=k/\le4 64 64 512 1000 x.u x.h x.c x.i=true/\le4 x.u x.h x.c x.i 0 0 0 0=true):=by
 unfold Ex.ok Ex.inB le4;simp;omega
theorem zh8 (a:Option Addr) (n cap:Nat) (l:List Ex) (w:World) (hl:ExRow w (All w) (.slice a n cap) l) (hn:n<=1000000) :
  Calls prog 17 #[.slice a n cap] w fun e w'=>e = .returned (.int .i64 (ze4 l))/\Below w.heap.size w w':=by
 have e:=hl.len;subst e;by_cases h1:1<=l.length/\l.length<=5
 ·obtain ⟨h1,h5⟩:=h1
  have HL:=zjy hl;clear hl;have g1:((l.length:Int)<1)=False:=by simp;omega
  have g2:(5<(l.length:Int))=False:=by simp;omega
  go_enter func17,ntmps17
  go_wp2_with fail
  clear g1 g2;go_loopw [16] (fun i wr=>∃ k:Nat,k<=l.length/\i = .int .i64 k/\Hid (∀ j,(h:j<l.length)->j<k->(l[j]).ok (j:Int))/\Below w.heap.size w wr) (fun i _=>l.length - (intOf i).toNat)
  case atStart=>exact ⟨0,by omega,rfl,fun j _ h=>by omega,Below.refl _ _⟩
  case round =>
   obtain ⟨k,hk,rfl,HO,hb⟩:=hrel;by_cases hlt:k<l.length
   ·obtain ⟨b,off,rfl,b2,c0,c1,c2,c3,c4⟩:=HL.o.get k hlt
    have d0:=(hb.cell (p:=⟨b,off+k*5,none⟩) b2).trans c0;have d1:=(hb.cell (p:=⟨b,off+k*5+1,none⟩) b2).trans c1;have d2:=(hb.cell (p:=⟨b,off+k*5+2,none⟩) b2).trans c2;have d3:=(hb.cell (p:=⟨b,off+k*5+3,none⟩) b2).trans c3;have d4:=(hb.cell (p:=⟨b,off+k*5+4,none⟩) b2).trans c4;clear c0 c1 c2 c3 c4;have HB:=zjy hb;clear hb;generalize hx:l[k]=x at *;have HX:=zjy hx;clear hx;go_wp2_with fail
    refine (zee x _).mono ?_;rintro e w1 ⟨rfl,c5⟩;have X1:=zjy (zab (b:=wr.heap.size) c5 (by simp) (zac rfl));have zX:=zaa X1.o;have c7:=zjy ((HB.o.alloc HB.o.size _).trans (c5.mono (by have:=HB.o.size;simp;omega)));clear c5 HB d0 d1 d2 d3 d4;go_wp2_with fail
    refine zal (fun wV hV=>?_)
    have f0:wV.cell? ⟨wr.heap.size,0,none⟩=some (.int .i64 x.f):=(cell_of_row _ _ _ _ _ _ (show wV.heap[wr.heap.size]?=some (.cells #[.int .i64 x.f,.int .i64 x.u,.int .i64 x.h,.int .i64 x.c,.int .i64 x.i] 61 (0,0)) by rw [hV];exact zaf X1.o)).trans rfl;have NV:=zjy (show wV.heap[w1.heap.size]?=some (.cells #[.int .i64 x.u,.int .i64 x.h,.int .i64 x.c,.int .i64 x.i] 99 (0,0)) by rw [hV];exact zac rfl);have n0:wV.cell? ⟨w1.heap.size,0,none⟩=some (.int .i64 x.u):=(cell_of_row _ _ _ _ _ _ NV.o).trans rfl;have n1:wV.cell? ⟨w1.heap.size,1,none⟩=some (.int .i64 x.h):=(cell_of_row _ _ _ _ _ _ NV.o).trans rfl;have n2:wV.cell? ⟨w1.heap.size,2,none⟩=some (.int .i64 x.c):=(cell_of_row _ _ _ _ _ _ NV.o).trans rfl;have n3:wV.cell? ⟨w1.heap.size,3,none⟩=some (.int .i64 x.i):=(cell_of_row _ _ _ _ _ _ NV.o).trans rfl;have HV:=zjy (show Below w.heap.size w wV by rw [hV];exact c7.o.alloc c7.o.size _);have zV:w1.heap.size<wV.heap.size:=zaa NV.o;have zW:wr.heap.size<wV.heap.size:=by omega
    clear hV c7 X1 NV;have K1:=fun w=>zjy (zij 64 64 512 1000 x.u x.h x.c x.i w)
    have K2:=fun w=>zjy (zij x.u x.h x.c x.i 0 0 0 0 w)
    have a3:=ok_le4 (k:Int) x
    have a5:¬ x.ok (k:Int)->ze4 l=2:=by
     intro b9;rw [ze4,if_pos ⟨h1,h5⟩,if_neg];rw [zhg];intro h;have:=h k hlt;rw [HX.o,Nat.zero_add] at this;exact b9 this
    by_cases q0:x.f=(k:Int)
    ·have t1:(x.f == (k:Int))=true:=by simpa using q0
     have t2:(x.f != (k:Int))=false:=by simpa using q0
     cases q1:le4 64 64 512 1000 x.u x.h x.c x.i
     ·have HC:=zjy (a5 (by rw [a3];simp [q1]))
      simp only [q1] at K1;clear a5 a3 q0 q1;refine wp_region_noPanic ?_
      refine wp_region_held_drew (S:=(fun w'=>w'.cell? ⟨wr.heap.size,0,none⟩=some (.int .i64 x.f)/\w'.cell? ⟨w1.heap.size,0,none⟩=some (.int .i64 x.u)/\w'.cell? ⟨w1.heap.size,1,none⟩=some (.int .i64 x.h)/\w'.cell? ⟨w1.heap.size,2,none⟩=some (.int .i64 x.c)/\w'.cell? ⟨w1.heap.size,3,none⟩=some (.int .i64 x.i))) (by kernel_rfl) (⟨f0,n0,n1,n2,n3⟩) (fun hHeld=>?_)
      refine tH 0 ?_;refine tH 1 ?_;refine tH 2 ?_;refine tH 3 ?_;refine tH 4 ?_;refine tH 6 ?_
      refine xrH 5 rfl fun K hK=>?_
      go_simp;refine (most_any _).mono ?_;rintro e w2 ⟨rfl,a1⟩;have b3:=(a1.cell (p:=⟨wr.heap.size,0,none⟩) zW).trans f0;have b1:=(a1.cell (p:=⟨w1.heap.size,0,none⟩) zV).trans n0;have b0:=(a1.cell (p:=⟨w1.heap.size,1,none⟩) zV).trans n1;have a9:=(a1.cell (p:=⟨w1.heap.size,2,none⟩) zV).trans n2;have a8:=(a1.cell (p:=⟨w1.heap.size,3,none⟩) zV).trans n3;have H2:=zjy (HV.o.drew.trans (a1.mono HV.o.size));have a2:w1.heap.size<w2.heap.size:=Nat.lt_of_lt_of_le zV a1.size;have a6:wr.heap.size<w2.heap.size:=Nat.lt_of_lt_of_le zW a1.size
      refine hK.out _ _ (⟨b3,b1,b0,a9,a8⟩) (fun hHeld=>?_)
      clear hK K
      refine xrH 7 rfl fun K hK=>?_
      go_simp;refine (K1 _).o.mono ?_;rintro e w3 ⟨rfl,a0⟩;have b8:=(a0.cell (p:=⟨wr.heap.size,0,none⟩) a6).trans b3;have b7:=(a0.cell (p:=⟨w1.heap.size,0,none⟩) a2).trans b1;have b6:=(a0.cell (p:=⟨w1.heap.size,1,none⟩) a2).trans b0;have b5:=(a0.cell (p:=⟨w1.heap.size,2,none⟩) a2).trans a9;have b4:=(a0.cell (p:=⟨w1.heap.size,3,none⟩) a2).trans a8;have H3:=xhh H2 a0;have a7:w1.heap.size<w3.heap.size:=Nat.lt_of_lt_of_le a2 a0.size;have c8:wr.heap.size<w3.heap.size:=Nat.lt_of_lt_of_le a6 a0.size
      refine hK.out _ _ (⟨b8,b7,b6,b5,b4⟩) (fun hHeld=>?_)
      clear hK K;refine tH 8 ?_;refine tH 9 ?_;refine tH 10 ?_;refine sH 11 ?_;refine sH 12 ?_;refine sH 13 ?_;refine sH 14 ?_;refine tH 15 ?_;refine wpAnyH_done (by kernel_rfl) ?_ _;refine NoPanic.normal ?_;go_wp2_with fail
      go_ret;exact ⟨by rw [HC.o];rfl,H3.o⟩
     ·cases q2:le4 x.u x.h x.c x.i 0 0 0 0
      all_goals
       have HC:=zjy (show (le4 x.u x.h x.c x.i 0 0 0 0=true->x.ok (k:Int))/\(le4 x.u x.h x.c x.i 0 0 0 0=false->ze4 l=2) from ⟨fun h=>a3.2 ⟨q0,q1,h⟩,fun h=>a5 (by rw [a3];simp [h])⟩)
       simp only [q2,true_implies,false_implies,reduceCtorEq] at HC;simp only [q1] at K1;simp only [q2] at K2;clear a5 a3 q0 q1 q2;refine wp_region_noPanic ?_
       refine wp_region_held_drew (S:=(fun w'=>w'.cell? ⟨wr.heap.size,0,none⟩=some (.int .i64 x.f)/\w'.cell? ⟨w1.heap.size,0,none⟩=some (.int .i64 x.u)/\w'.cell? ⟨w1.heap.size,1,none⟩=some (.int .i64 x.h)/\w'.cell? ⟨w1.heap.size,2,none⟩=some (.int .i64 x.c)/\w'.cell? ⟨w1.heap.size,3,none⟩=some (.int .i64 x.i))) (by kernel_rfl) (⟨f0,n0,n1,n2,n3⟩) (fun hHeld=>?_)
       refine tH 0 ?_;refine tH 1 ?_;refine tH 2 ?_;refine tH 3 ?_;refine tH 4 ?_;refine tH 6 ?_
       refine xrH 5 rfl fun K hK=>?_
       go_simp;refine (most_any _).mono ?_;rintro e w2 ⟨rfl,a1⟩;have b3:=(a1.cell (p:=⟨wr.heap.size,0,none⟩) zW).trans f0;have b1:=(a1.cell (p:=⟨w1.heap.size,0,none⟩) zV).trans n0;have b0:=(a1.cell (p:=⟨w1.heap.size,1,none⟩) zV).trans n1;have a9:=(a1.cell (p:=⟨w1.heap.size,2,none⟩) zV).trans n2;have a8:=(a1.cell (p:=⟨w1.heap.size,3,none⟩) zV).trans n3;have H2:=zjy (HV.o.drew.trans (a1.mono HV.o.size));have a2:w1.heap.size<w2.heap.size:=Nat.lt_of_lt_of_le zV a1.size;have a6:wr.heap.size<w2.heap.size:=Nat.lt_of_lt_of_le zW a1.size
       refine hK.out _ _ (⟨b3,b1,b0,a9,a8⟩) (fun hHeld=>?_)
       clear hK K
       refine xrH 7 rfl fun K hK=>?_
       go_simp;refine (K1 _).o.mono ?_;rintro e w3 ⟨rfl,a0⟩;have b8:=(a0.cell (p:=⟨wr.heap.size,0,none⟩) a6).trans b3;have b7:=(a0.cell (p:=⟨w1.heap.size,0,none⟩) a2).trans b1;have b6:=(a0.cell (p:=⟨w1.heap.size,1,none⟩) a2).trans b0;have b5:=(a0.cell (p:=⟨w1.heap.size,2,none⟩) a2).trans a9;have b4:=(a0.cell (p:=⟨w1.heap.size,3,none⟩) a2).trans a8;have H3:=xhh H2 a0;have a7:w1.heap.size<w3.heap.size:=Nat.lt_of_lt_of_le a2 a0.size;have c8:wr.heap.size<w3.heap.size:=Nat.lt_of_lt_of_le a6 a0.size
       refine hK.out _ _ (⟨b8,b7,b6,b5,b4⟩) (fun hHeld=>?_)
       clear hK K;refine tH 8 ?_;refine tH 9 ?_;refine tH 10 ?_;refine tH 11 ?_;refine tH 12 ?_
       refine xrH 13 rfl fun K hK=>?_
       go_simp;refine (K2 _).o.mono ?_;rintro e w4 ⟨rfl,a4⟩;have d8:=(a4.cell (p:=⟨wr.heap.size,0,none⟩) c8).trans b8;have d7:=(a4.cell (p:=⟨w1.heap.size,0,none⟩) a7).trans b7;have d6:=(a4.cell (p:=⟨w1.heap.size,1,none⟩) a7).trans b6;have d5:=(a4.cell (p:=⟨w1.heap.size,2,none⟩) a7).trans b5;have c9:=(a4.cell (p:=⟨w1.heap.size,3,none⟩) a7).trans b4;have H4:=xhh H3 a4
       refine hK.out _ _ (⟨d8,d7,d6,d5,c9⟩) (fun hHeld=>?_)
       clear hK K;refine tH 14 ?_;refine tH 15 ?_;refine wpAnyH_done (by kernel_rfl) ?_ _;refine NoPanic.normal ?_;go_wp2_with fail
      ·go_ret
       exact ⟨by rw [HC.o.2];rfl,H4.o⟩
      ·go_roundw
       case rel=>exact ⟨k+1,by omega,by go_num,fun j hj hj'=>by
        rcases Nat.lt_or_ge j k with hjk | hjk
        ·exact HO.o j hj hjk
        ·obtain rfl:j=k:=by omega
         rw [HX.o];exact HC.o.1,H4.o⟩
       case measure=>simp [intOf];omega
    ·have t1:(x.f == (k:Int))=false:=by simpa using q0
     have t2:(x.f != (k:Int))=true:=by simpa using q0
     have HC:=zjy (a5 (by rw [a3];simp [q0]));clear a5 a3 q0 K1 K2;refine wp_region_noPanic ?_
     refine wp_region_held_drew (S:=(fun w'=>w'.cell? ⟨wr.heap.size,0,none⟩=some (.int .i64 x.f)/\w'.cell? ⟨w1.heap.size,0,none⟩=some (.int .i64 x.u)/\w'.cell? ⟨w1.heap.size,1,none⟩=some (.int .i64 x.h)/\w'.cell? ⟨w1.heap.size,2,none⟩=some (.int .i64 x.c)/\w'.cell? ⟨w1.heap.size,3,none⟩=some (.int .i64 x.i))) (by kernel_rfl) (⟨f0,n0,n1,n2,n3⟩) (fun hHeld=>?_)
     refine tH 0 ?_;refine tH 1 ?_;refine tH 2 ?_;refine tH 3 ?_;refine tH 4 ?_;refine sH 5 ?_;refine sH 6 ?_;refine sH 7 ?_;refine sH 8 ?_;refine tH 9 ?_;refine tH 10 ?_;refine sH 11 ?_;refine sH 12 ?_;refine sH 13 ?_;refine sH 14 ?_;refine tH 15 ?_;refine wpAnyH_done (by kernel_rfl) ?_ _;refine NoPanic.normal ?_;go_wp2_with fail
     go_ret;exact ⟨by rw [HC.o];rfl,HV.o.drew⟩
   ·go_wp2
    go_ret
    have c6:okAll 0 l:=by
     rw [zhg];intro j hj;rw [Nat.zero_add];exact HO.o j hj (by omega)
    exact ⟨by rw [ze4,if_pos ⟨h1,h5⟩,if_pos c6];rfl,hb⟩
 ·have hc:ze4 l=8:=by rw [ze4,if_neg h1]
  rw [hc];clear hl hc;by_cases h0:l.length<1
  ·have g1:(l.length:Int)<1:=by omega
   go_enter func17,ntmps17
   go_wp2
   go_ret;exact ⟨rfl,Below.refl _ _⟩
  ·have g1:decide ((l.length:Int)<1)=false:=by simp;omega
   have g2:(5:Int)<(l.length:Int):=by omega
   go_enter func17,ntmps17
   go_wp2
   go_ret;exact ⟨rfl,Below.refl _ _⟩
end
section
open Go.RowKit
theorem ExRow.below {w w':World} {v:Value} {l:List Ex} (h:ExRow w (All w) v l) (hb:Below w.heap.size w w'):ExRow w' (All w') v l:=Row.below h hb
theorem ExRow.val {w:World} {S:Nat->Prop} {v:Value} {l:List Ex} (h:ExRow w S v l):∃ a cap,v = .slice a l.length cap:=Row.slice h
theorem zgu (u v:Value) (a b:List Ex) (w:World) (ha:ExRow w (All w) u a) (hb:ExRow w (All w) v b) (na:a.length<=1000000) (nb:b.length<=1000000) :
  Calls prog 58 #[u,v] w fun e w'=>e = .returned (.int .i64 (zcd a b))/\Below w.heap.size w w':=by
 obtain ⟨ua,uc,rfl⟩:=ha.val;obtain ⟨va,vc,rfl⟩:=hb.val;have K1:=fun w h=>zjy (zh8 ua _ uc a w h na)
 have K2:=fun w h=>zjy (zh8 va _ vc b w h nb)
 have HA:=zjy ha;clear ha;have a2:=zjy hb;clear hb;have HB:=zjy (Below.refl w.heap.size w);by_cases h1:ze4 a=0
 ·by_cases h2:ze4 b=0
  ·have hc:zcd a b=if a.length≠b.length then 8 else 0:=by simp [zcd,h1,h2]
   simp only [h1] at K1;simp only [h2] at K2;rw [hc];clear h1 h2 hc;by_cases h3:a.length=b.length
   ·rw [if_neg (by simpa using h3)]
    have a3:((a.length:Int) == (b.length:Int))=true:=by simp [h3]
    have a0:((a.length:Int) != (b.length:Int))=false:=by simp [h3]
    clear h3;go_enter func58,ntmps58
    go_wp2_with fail
    refine ((K1 _ HA.o).o).mono ?_;rintro e w1 ⟨rfl,hb⟩;have hx:=zjy (by first | exact HB.o.trans (hb.mono HB.o.size) | exact (HB.o.alloc HB.o.size _).trans (hb.mono (by have:=HB.o.size;first | omega | (simp;done) | (simp;omega))) | exact ((HB.o.alloc HB.o.size _).alloc (by have:=HB.o.size;first | omega | (simp;done) | (simp;omega)) _).trans (hb.mono (by have:=HB.o.size;first | omega | (simp;done) | (simp;omega))):Below w.heap.size w w1);clear HB hb;have HB:=hx;clear hx;go_wp2_with fail
    refine ((K2 _ (a2.o.below HB.o)).o).mono ?_;rintro e w2 ⟨rfl,hb⟩;have hx:=zjy (by first | exact HB.o.trans (hb.mono HB.o.size) | exact (HB.o.alloc HB.o.size _).trans (hb.mono (by have:=HB.o.size;first | omega | (simp;done) | (simp;omega))) | exact ((HB.o.alloc HB.o.size _).alloc (by have:=HB.o.size;first | omega | (simp;done) | (simp;omega)) _).trans (hb.mono (by have:=HB.o.size;first | omega | (simp;done) | (simp;omega))):Below w.heap.size w w2);clear HB hb;have HB:=hx;clear hx;go_wp2_with fail
    go_ret;exact ⟨rfl,HB.o⟩
   ·rw [if_pos (by simpa using h3)]
    have a3:((a.length:Int) == (b.length:Int))=false:=by simp;omega
    have a0:((a.length:Int) != (b.length:Int))=true:=by simp;omega
    clear h3;go_enter func58,ntmps58
    go_wp2_with fail
    refine ((K1 _ HA.o).o).mono ?_;rintro e w1 ⟨rfl,hb⟩;have hx:=zjy (by first | exact HB.o.trans (hb.mono HB.o.size) | exact (HB.o.alloc HB.o.size _).trans (hb.mono (by have:=HB.o.size;first | omega | (simp;done) | (simp;omega))) | exact ((HB.o.alloc HB.o.size _).alloc (by have:=HB.o.size;first | omega | (simp;done) | (simp;omega)) _).trans (hb.mono (by have:=HB.o.size;first | omega | (simp;done) | (simp;omega))):Below w.heap.size w w1);clear HB hb;have HB:=hx;clear hx;go_wp2_with fail
    refine ((K2 _ (a2.o.below HB.o)).o).mono ?_;rintro e w2 ⟨rfl,hb⟩;have hx:=zjy (by first | exact HB.o.trans (hb.mono HB.o.size) | exact (HB.o.alloc HB.o.size _).trans (hb.mono (by have:=HB.o.size;first | omega | (simp;done) | (simp;omega))) | exact ((HB.o.alloc HB.o.size _).alloc (by have:=HB.o.size;first | omega | (simp;done) | (simp;omega)) _).trans (hb.mono (by have:=HB.o.size;first | omega | (simp;done) | (simp;omega))):Below w.heap.size w w2);clear HB hb;have HB:=hx;clear hx;go_wp2_with fail
    go_ret;exact ⟨rfl,HB.o⟩
  ·have hc:zcd a b=ze4 b:=by simp [zcd,h1,h2]
   simp only [h1] at K1;rw [hc];clear hc h1;generalize ze4 b=c at *;have a4:((c:Int) == 0)=false:=by simpa using h2
   have a1:((c:Int) != 0)=true:=by simpa using h2
   clear h2;go_enter func58,ntmps58
   go_wp2_with fail
   refine ((K1 _ HA.o).o).mono ?_;rintro e w1 ⟨rfl,hb⟩;have hx:=zjy (by first | exact HB.o.trans (hb.mono HB.o.size) | exact (HB.o.alloc HB.o.size _).trans (hb.mono (by have:=HB.o.size;first | omega | (simp;done) | (simp;omega))) | exact ((HB.o.alloc HB.o.size _).alloc (by have:=HB.o.size;first | omega | (simp;done) | (simp;omega)) _).trans (hb.mono (by have:=HB.o.size;first | omega | (simp;done) | (simp;omega))):Below w.heap.size w w1);clear HB hb;have HB:=hx;clear hx;go_wp2_with fail
   refine ((K2 _ (a2.o.below HB.o)).o).mono ?_;rintro e w2 ⟨rfl,hb⟩;have hx:=zjy (by first | exact HB.o.trans (hb.mono HB.o.size) | exact (HB.o.alloc HB.o.size _).trans (hb.mono (by have:=HB.o.size;first | omega | (simp;done) | (simp;omega))) | exact ((HB.o.alloc HB.o.size _).alloc (by have:=HB.o.size;first | omega | (simp;done) | (simp;omega)) _).trans (hb.mono (by have:=HB.o.size;first | omega | (simp;done) | (simp;omega))):Below w.heap.size w w2);clear HB hb;have HB:=hx;clear hx;go_wp2_with fail
   go_ret;exact ⟨rfl,HB.o⟩
 ·have hc:zcd a b=ze4 a:=by simp [zcd,h1]
  rw [hc];clear hc;generalize ze4 a=c at *;have a4:((c:Int) == 0)=false:=by simpa using h1
  have a1:((c:Int) != 0)=true:=by simpa using h1
  clear h1;go_enter func58,ntmps58
  go_wp2_with fail
  refine ((K1 _ HA.o).o).mono ?_;rintro e w1 ⟨rfl,hb⟩;have hx:=zjy (by first | exact HB.o.trans (hb.mono HB.o.size) | exact (HB.o.alloc HB.o.size _).trans (hb.mono (by have:=HB.o.size;first | omega | (simp;done) | (simp;omega))) | exact ((HB.o.alloc HB.o.size _).alloc (by have:=HB.o.size;first | omega | (simp;done) | (simp;omega)) _).trans (hb.mono (by have:=HB.o.size;first | omega | (simp;done) | (simp;omega))):Below w.heap.size w w1);clear HB hb;have HB:=hx;clear hx;go_wp2_with fail
  go_ret;exact ⟨rfl,HB.o⟩
theorem zh9 {a b:List Ex} (h:zcd a b=0):a.length=b.length/\a.length<=5/\1<=a.length:=by
 unfold zcd ze4 at h;repeat' split at h
 all_goals first | omega | (simp_all;done) | (simp_all;omega)
theorem le_le4 (x y:Ex):le4 y.u y.h y.c y.i x.u x.h x.c x.i=decide (x.le y):=by unfold le4 Ex.le;rfl
theorem zjw (u v:Value) (b l:List Ex) (w:World) (hu:ExRow w (All w) u b) (hl:ExRow w (All w) v l) (nb:b.length<=1000000) (nl:l.length<=1000000) :
  Calls prog 30 #[u,v] w fun e w'=>e = .returned (.int .i64 (zcq b l))/\Below w.heap.size w w':=by
 have KC:=fun w h1 h2=>zjy (zgu u v b l w h1 h2 nb nl)
 obtain ⟨ua,uc,rfl⟩:=hu.val;obtain ⟨va,vc,rfl⟩:=hl.val;have HU:=zjy hu;clear hu;have HL:=zjy hl;clear hl;have HB:=zjy (Below.refl w.heap.size w);by_cases hc:zcd b l=0
 ·obtain ⟨e1,e2,e3⟩:=zh9 hc
  have e1a:b.length<=l.length:=by omega
  have e1b:l.length<=b.length:=by omega
  clear e1;have ha:zcq b l=if zg8 l b then 0 else 11:=by simp [zcq,hc]
  simp only [hc] at KC;have HA:=zjy ha;clear ha hc;go_enter func30,ntmps30
  go_wp2_with fail
  refine ((KC _ HU.o HL.o).o).mono ?_;rintro e w0 ⟨rfl,hb⟩;have hx:=zjy (by first | exact HB.o.trans (hb.mono HB.o.size) | exact (HB.o.alloc HB.o.size _).trans (hb.mono (by have:=HB.o.size;first | omega | (simp;done) | (simp;omega))) | exact ((HB.o.alloc HB.o.size _).alloc (by have:=HB.o.size;first | omega | (simp;done) | (simp;omega)) _).trans (hb.mono (by have:=HB.o.size;first | omega | (simp;done) | (simp;omega))):Below w.heap.size w w0);clear HB hb;have HB:=hx;clear hx;go_wp2_with fail
  go_loopw [16] (fun i wr=>∃ k:Nat,k<=l.length/\i = .int .i64 k/\Hid (∀ j,(h:j<l.length)->(h':j<b.length)->j<k->(l[j]).le b[j])/\Below w.heap.size w wr) (fun i _=>l.length - (intOf i).toNat)
  case atStart=>exact ⟨0,by omega,rfl,fun j _ _ h=>by omega,HB.o⟩
  case round =>
   obtain ⟨k,hk,rfl,HO,hb⟩:=hrel;clear HB;by_cases hlt:k<l.length
   ·have a9:k<b.length:=by omega
    have g8:(k:Int)<(b.length:Int):=by omega
    obtain ⟨bl,ol,rfl,b5,c0,c1,c2,c3,c4⟩:=HL.o.get k hlt;obtain ⟨bb,ob,rfl,a7,e0,e1,e2,e3,e4⟩:=HU.o.get k a9;generalize hx:l[k]=x at *;generalize hy:b[k]=y at *;have d0:=(hb.cell (p:=⟨bl,ol+k*5,none⟩) b5).trans c0;have g0:=(hb.cell (p:=⟨bb,ob+k*5,none⟩) a7).trans e0;have d1:=(hb.cell (p:=⟨bl,ol+k*5+1,none⟩) b5).trans c1;have g1:=(hb.cell (p:=⟨bb,ob+k*5+1,none⟩) a7).trans e1;have d2:=(hb.cell (p:=⟨bl,ol+k*5+2,none⟩) b5).trans c2;have g2:=(hb.cell (p:=⟨bb,ob+k*5+2,none⟩) a7).trans e2;have d3:=(hb.cell (p:=⟨bl,ol+k*5+3,none⟩) b5).trans c3;have g3:=(hb.cell (p:=⟨bb,ob+k*5+3,none⟩) a7).trans e3;have d4:=(hb.cell (p:=⟨bl,ol+k*5+4,none⟩) b5).trans c4;have g4:=(hb.cell (p:=⟨bb,ob+k*5+4,none⟩) a7).trans e4;clear c0 c1 c2 c3 c4 e0 e1 e2 e3 e4;have HX:=zjy hx;have HY:=zjy hy;clear hx hy;have hz:=hb.size;have HB:=zjy hb;clear hb;have b6:bb<wr.heap.size:=Nat.lt_of_lt_of_le a7 hz;go_wp2_with fail
    refine zal (fun wV hV=>?_)
    have HV:=zjy (show Below w.heap.size w wV by rw [hV];exact HB.o.alloc HB.o.size _);have XV:=zjy (show wV.heap[wr.heap.size]?=some (.cells #[.int .i64 x.f,.int .i64 x.u,.int .i64 x.h,.int .i64 x.c,.int .i64 x.i] 61 (0,0)) by rw [hV];exact zac rfl);have a8:=xal hV
    have b0:=(a8.cell (p:=⟨bb,ob+k*5,none⟩) b6).trans g0;have b1:=(a8.cell (p:=⟨bb,ob+k*5+1,none⟩) b6).trans g1;have b2:=(a8.cell (p:=⟨bb,ob+k*5+2,none⟩) b6).trans g2;have b3:=(a8.cell (p:=⟨bb,ob+k*5+3,none⟩) b6).trans g3;have b4:=(a8.cell (p:=⟨bb,ob+k*5+4,none⟩) b6).trans g4;have x0:wV.cell? ⟨wr.heap.size,0,none⟩=some (.int .i64 x.f):=(cell_of_row _ _ _ _ _ _ XV.o).trans rfl;have x1:wV.cell? ⟨wr.heap.size,1,none⟩=some (.int .i64 x.u):=(cell_of_row _ _ _ _ _ _ XV.o).trans rfl;have x2:wV.cell? ⟨wr.heap.size,2,none⟩=some (.int .i64 x.h):=(cell_of_row _ _ _ _ _ _ XV.o).trans rfl;have x3:wV.cell? ⟨wr.heap.size,3,none⟩=some (.int .i64 x.c):=(cell_of_row _ _ _ _ _ _ XV.o).trans rfl;have x4:wV.cell? ⟨wr.heap.size,4,none⟩=some (.int .i64 x.i):=(cell_of_row _ _ _ _ _ _ XV.o).trans rfl;have zx:wr.heap.size<wV.heap.size:=zaa XV.o;have zb:bb<wV.heap.size:=by omega
    clear hV a8 XV d0 d1 d2 d3 d4 g0 g1 g2 g3 g4 HB;have KW:=fun w=>zjy (zij y.u y.h y.c y.i x.u x.h x.c x.i w)
    cases hle:le4 y.u y.h y.c y.i x.u x.h x.c x.i
    all_goals
     simp only [hle] at KW;have f7:=zjy hle;clear hle;refine wp_region_noPanic ?_
     refine wp_region_held_drew (S:=(fun w'=>w'.cell? ⟨bb,ob+k*5,none⟩=some (.int .i64 y.f)/\w'.cell? ⟨bb,ob+k*5+1,none⟩=some (.int .i64 y.u)/\w'.cell? ⟨bb,ob+k*5+2,none⟩=some (.int .i64 y.h)/\w'.cell? ⟨bb,ob+k*5+3,none⟩=some (.int .i64 y.c)/\w'.cell? ⟨bb,ob+k*5+4,none⟩=some (.int .i64 y.i)/\w'.cell? ⟨wr.heap.size,0,none⟩=some (.int .i64 x.f)/\w'.cell? ⟨wr.heap.size,1,none⟩=some (.int .i64 x.u)/\w'.cell? ⟨wr.heap.size,2,none⟩=some (.int .i64 x.h)/\w'.cell? ⟨wr.heap.size,3,none⟩=some (.int .i64 x.c)/\w'.cell? ⟨wr.heap.size,4,none⟩=some (.int .i64 x.i))) (by kernel_rfl) (⟨b0,b1,b2,b3,b4,x0,x1,x2,x3,x4⟩) (fun hHeld=>?_)
     refine tH 0 ?_;refine tH 1 ?_;refine tH 2 ?_;refine tH 3 ?_;refine tH 5 ?_
     refine xrH 4 rfl fun K hK=>?_
     go_simp;refine (zee y _).mono ?_;rintro e w1 ⟨rfl,a2⟩;have f3:=(a2.cell (p:=⟨bb,ob+k*5,none⟩) zb).trans b0;have f1:=(a2.cell (p:=⟨bb,ob+k*5+1,none⟩) zb).trans b1;have e9:=(a2.cell (p:=⟨bb,ob+k*5+2,none⟩) zb).trans b2;have e7:=(a2.cell (p:=⟨bb,ob+k*5+3,none⟩) zb).trans b3;have e5:=(a2.cell (p:=⟨bb,ob+k*5+4,none⟩) zb).trans b4;have d8:=(a2.cell (p:=⟨wr.heap.size,0,none⟩) zx).trans x0;have d6:=(a2.cell (p:=⟨wr.heap.size,1,none⟩) zx).trans x1;have c9:=(a2.cell (p:=⟨wr.heap.size,2,none⟩) zx).trans x2;have c7:=(a2.cell (p:=⟨wr.heap.size,3,none⟩) zx).trans x3;have c5:=(a2.cell (p:=⟨wr.heap.size,4,none⟩) zx).trans x4;have f6:=zjy (HV.o.drew.trans (a2.mono (by have:=HV.o.drew.size;simpa using this)));have a6:=Nat.lt_of_lt_of_le zb a2.size;have a4:=Nat.lt_of_lt_of_le zx a2.size;clear a2
     refine hK.out _ _ (⟨f3,f1,e9,e7,e5,d8,d6,c9,c7,c5⟩) (fun hHeld=>?_)
     clear hK K
     refine xrH 6 rfl fun K hK=>?_
     go_simp;refine (zee x _).mono ?_;rintro e w2 ⟨rfl,a1⟩;have f2:=(a1.cell (p:=⟨bb,ob+k*5,none⟩) a6).trans f3;have f0:=(a1.cell (p:=⟨bb,ob+k*5+1,none⟩) a6).trans f1;have e8:=(a1.cell (p:=⟨bb,ob+k*5+2,none⟩) a6).trans e9;have e6:=(a1.cell (p:=⟨bb,ob+k*5+3,none⟩) a6).trans e7;have d9:=(a1.cell (p:=⟨bb,ob+k*5+4,none⟩) a6).trans e5;have d7:=(a1.cell (p:=⟨wr.heap.size,0,none⟩) a4).trans d8;have d5:=(a1.cell (p:=⟨wr.heap.size,1,none⟩) a4).trans d6;have c8:=(a1.cell (p:=⟨wr.heap.size,2,none⟩) a4).trans c9;have c6:=(a1.cell (p:=⟨wr.heap.size,3,none⟩) a4).trans c7;have b9:=(a1.cell (p:=⟨wr.heap.size,4,none⟩) a4).trans c5;have f5:=zjy (f6.o.trans (a1.mono (by have:=f6.o.size;simpa using this)));have a5:=Nat.lt_of_lt_of_le a6 a1.size;have a3:=Nat.lt_of_lt_of_le a4 a1.size;clear a1
     refine hK.out _ _ (⟨f2,f0,e8,e6,d9,d7,d5,c8,c6,b9⟩) (fun hHeld=>?_)
     clear hK K
     refine xrH 7 rfl fun K hK=>?_
     go_simp;refine ((KW _).o).mono ?_;rintro e w3 ⟨rfl,a0⟩;have h7:=(a0.cell (p:=⟨bb,ob+k*5,none⟩) a5).trans f2;have h6:=(a0.cell (p:=⟨bb,ob+k*5+1,none⟩) a5).trans f0;have h5:=(a0.cell (p:=⟨bb,ob+k*5+2,none⟩) a5).trans e8;have h4:=(a0.cell (p:=⟨bb,ob+k*5+3,none⟩) a5).trans e6;have h0:=(a0.cell (p:=⟨bb,ob+k*5+4,none⟩) a5).trans d9;have g7:=(a0.cell (p:=⟨wr.heap.size,0,none⟩) a3).trans d7;have g6:=(a0.cell (p:=⟨wr.heap.size,1,none⟩) a3).trans d5;have g5:=(a0.cell (p:=⟨wr.heap.size,2,none⟩) a3).trans c8;have f9:=(a0.cell (p:=⟨wr.heap.size,3,none⟩) a3).trans c6;have f8:=(a0.cell (p:=⟨wr.heap.size,4,none⟩) a3).trans b9;have f4:=zjy (f5.o.trans (a0.mono (by have:=f5.o.size;simpa using this)));have zb3:=Nat.lt_of_lt_of_le a5 a0.size;have zx3:=Nat.lt_of_lt_of_le a3 a0.size;clear a0
     refine hK.out _ _ (⟨h7,h6,h5,h4,h0,g7,g6,g5,f9,f8⟩) (fun hHeld=>?_)
     clear hK K;refine tH 8 ?_;refine wpAnyH_done (by kernel_rfl) ?_ _;refine NoPanic.normal ?_;go_wp2_with fail
    ·go_ret
     have hn:¬ zg8 l b:=by
      rw [zgq];intro h;have h2:=h k hlt a9;rw [HX.o,HY.o] at h2;have h3:=f7.o;rw [le_le4] at h3;simp [h2] at h3
     exact ⟨by rw [HA.o,if_neg hn];rfl,f4.o⟩
    ·go_roundw
     case rel=>exact ⟨k+1,by omega,by go_num,fun j hj b7 hjk=>by
      rcases Nat.lt_or_ge j k with h | h
      ·exact HO.o j hj b7 h
      ·obtain rfl:j=k:=by omega
       rw [HX.o,HY.o];have h3:=f7.o;rw [le_le4] at h3
       simpa using h3,f4.o⟩
     case measure=>simp [intOf];omega
   ·go_wp2
    go_ret
    have b8:zg8 l b:=by
     rw [zgq];intro j hj b7;exact HO.o j hj b7 (by omega)
    exact ⟨by rw [HA.o,if_pos b8];rfl,hb⟩
 ·have ha:zcq b l=zcd b l:=by simp [zcq,hc]
  rw [ha];clear ha;generalize zcd b l=c at *;have h2':((c:Int) == 0)=false:=by simpa using hc
  have g9:((c:Int) != 0)=true:=by simpa using hc
  clear hc;go_enter func30,ntmps30
  go_wp2_with fail
  refine ((KC _ HU.o HL.o).o).mono ?_;rintro e w1 ⟨rfl,hb⟩;have hx:=zjy (by first | exact HB.o.trans (hb.mono HB.o.size) | exact (HB.o.alloc HB.o.size _).trans (hb.mono (by have:=HB.o.size;first | omega | (simp;done) | (simp;omega))) | exact ((HB.o.alloc HB.o.size _).alloc (by have:=HB.o.size;first | omega | (simp;done) | (simp;omega)) _).trans (hb.mono (by have:=HB.o.size;first | omega | (simp;done) | (simp;omega))):Below w.heap.size w w1);clear HB hb;have HB:=hx;clear hx;go_wp2_with fail
  go_ret;exact ⟨rfl,HB.o⟩
theorem within_any (u v:Value) (b l:List Ex) (w:World) (hu:ExRow w (All w) u b) (hl:ExRow w (All w) v l) (nb:b.length<=1000000) (nl:l.length<=1000000) :
  Calls prog 28 #[u,v] w fun e w'=>e = .returned (.bool (decide (zcq b l=0)))/\Below w.heap.size w w':=by
 have K:=fun w h1 h2=>zjy (zjw u v b l w h1 h2 nb nl)
 have HB:=zjy (Below.refl w.heap.size w);have HU:=zjy hu;clear hu;have HL:=zjy hl;clear hl;generalize zcq b l=c at *;go_enter func28,ntmps28
 go_wp2_with fail
 refine ((K _ HU.o HL.o).o).mono ?_;rintro e w1 ⟨rfl,hb⟩;have hx:=zjy (by first | exact HB.o.trans (hb.mono HB.o.size) | exact (HB.o.alloc HB.o.size _).trans (hb.mono (by have:=HB.o.size;first | omega | (simp;done) | (simp;omega))) | exact ((HB.o.alloc HB.o.size _).alloc (by have:=HB.o.size;first | omega | (simp;done) | (simp;omega)) _).trans (hb.mono (by have:=HB.o.size;first | omega | (simp;done) | (simp;omega))):Below w.heap.size w w1);clear HB hb;have HB:=hx;clear hx;go_wp2_with fail
 go_ret;exact ⟨zax (by rw [Bool.eq_iff_iff];simp),HB.o⟩
end
end Go.Proofs.YtgkaafncfjlooaaGreatDoor
