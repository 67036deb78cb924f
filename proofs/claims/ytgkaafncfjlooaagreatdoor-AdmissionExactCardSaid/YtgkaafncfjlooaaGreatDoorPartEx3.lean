/- Parts of one proof: OwnV, SipB, MakeQ, SipC, BitsA, CmpPlain, SchJ, AtkCount, AtkPlain, Ref18Plain, BlkMap, Splice, AddPlain, BRow, CellOne, BloomA, BloomB, MakeS, MakeT, Dress, DeckPlain, MakeU, BloomC, MakeV, MakeX, MakeZ, PhonB, BitsB, Shelf2. -/
import Derived.Test.YtgkaafncfjlooaaGreatDoorPartEx2
import Derived.Lib.AppendStr
import Derived.Deep.OwnRows
import Derived.MapKept
import Derived.WideMake
import Derived.Laws.CopyRow
import Derived.Deep.DeepCutAuto
set_option maxHeartbeats 16000000
set_option maxRecDepth 100000
open Go.Proofs.Tryz
set_option linter.unusedSimpArgs false
set_option linter.unusedVariables false
namespace Go.Proofs.YtgkaafncfjlooaaGreatDoor
section
open Go.RowKit
variable {α:Type}
def OwnV (e:TypeId) (size:Nat) (enc:α->List Value) (w0:World) (v:Value) (L:List α) (w:World):Prop :=
 w.ownsRow w0.heap.size e size v L.length (L.flatMap enc)/\Below w0.heap.size w0 w
theorem zcf {w w':World} {B e size n:Nat} {v:Value} {xs:List Value} (h:w.ownsRow B e size v n xs) (hb:Below w.heap.size w w'):w'.ownsRow B e size v n xs:=by
 refine ⟨h.1,?_⟩
 rcases h.2 with h0 | ⟨g,cap,cur,hv,hg,hh,rest⟩
 ·exact .inl h0
 ·exact .inr ⟨g,cap,cur,hv,hg,(hb.block g (zaa hh)).trans hh,rest⟩
theorem OwnV.below {e size:Nat} {enc:α->List Value} {w0 w w':World} {v:Value} {L:List α} (h:OwnV e size enc w0 v L w) (hb:Below w.heap.size w w'):OwnV e size enc w0 v L w' :=
 ⟨zcf h.1 hb,h.2.trans (hb.mono h.2.size)⟩
theorem OwnV.start (e size:Nat) (enc:α->List Value) (w0:World):OwnV e size enc w0 (.slice none 0 0) [] w0:=⟨⟨by simp,.inl ⟨rfl,rfl⟩⟩,Below.refl _ _⟩
theorem OwnV.nil {e size:Nat} {enc:α->List Value} {w0 w:World} (hb:Below w0.heap.size w0 w):OwnV e size enc w0 (.slice none 0 0) [] w:=⟨⟨by simp,.inl ⟨rfl,rfl⟩⟩,hb⟩
theorem OwnV.vec {e size:Nat} {enc:α->List Value} (hk:∀ x,(enc x).length=size) {w0 w:World} {v:Value} {L:List α} (h:OwnV e size enc w0 v L w):Vec w (fun b=>w0.heap.size<=b) size enc v L :=
 Vec.owns hk h.1 fun b hb _=>hb
theorem OwnV.form {e size:Nat} {enc:α->List Value} {w0 w:World} {v:Value} {L:List α} (h:OwnV e size enc w0 v L w):(v = .slice none 0 0/\L=[])\/∃ g cap,v = .slice (some ⟨g,0,none⟩) L.length cap/\L.length<=cap/\cap<=maxLen/\g<w.heap.size:=by
 rcases h.1.2 with ⟨rfl,h0⟩ | ⟨g,cap,cur,rfl,_,hh,h1,h2,_⟩
 ·exact .inl ⟨rfl,List.length_eq_zero_iff.1 h0⟩
 ·exact .inr ⟨g,cap,rfl,h1,h2,zaa hh⟩
theorem OwnV.rebase {e size:Nat} {enc:α->List Value} {w0 w1 w:World} {v:Value} {L:List α} (h:OwnV e size enc w1 v L w) (hb:Below w0.heap.size w0 w1):OwnV e size enc w0 v L w:=by
 refine ⟨⟨h.1.1,?_⟩,hb.trans (h.2.mono hb.size)⟩
 rcases h.1.2 with h0 | ⟨g,cap,cur,hv,hg,rest⟩
 ·exact .inl h0
 ·exact .inr ⟨g,cap,cur,hv,Nat.le_trans hb.size hg,rest⟩
theorem za0 {w:World} {g:Nat} {t:TypeId} {fr:Nat × Nat} {size c:Nat} {xs:List Value} (h:w.heap[g]?=some (.cells xs.toArray t fr)) (hl:xs.length=size):zck w size (.slice (some ⟨g,0,none⟩) 1 c) 1 xs :=
 ⟨_,c,rfl,by omega,fun _=>⟨_,rfl,fun j u hj=>by rw [zbu,cell_of_row _ _ _ _ _ _ h,Nat.zero_add];simpa using hj⟩⟩
theorem Vec.reads {w:World} {S:Nat->Prop} {k:Nat} {enc:α->List Value} (hk:∀ x,(enc x).length=k) {v:Value} {L:List α} (h:Vec w S k enc v L):zck w k v L.length (L.flatMap enc):=by
 obtain ⟨a,a2,rfl,_,h3⟩:=h
 refine ⟨a,a2,rfl,zd8 hk L,fun h0=>?_⟩
 obtain ⟨b,off,rfl,_,hb,hc⟩:=h3 h0
 refine ⟨⟨b,off,none⟩,rfl,fun j u hj=>?_⟩
 rw [zbu];have a0:j<L.length*k:=by rw [<- zd8 hk L];exact (List.getElem?_eq_some_iff.1 hj).1
 have a1:0<k:=by
  rcases Nat.eq_zero_or_pos k with h' | h'
  ·rw [h',Nat.mul_zero] at a0;omega
  ·exact h'
 have hq:j / k<L.length:=Nat.div_lt_of_lt_mul (by rw [Nat.mul_comm];exact a0);have hr:j % k<k:=Nat.mod_lt _ a1;have e1:j / k*k+j % k=j:=Nat.div_add_mod' j k;have hg:=zgf hk L (j / k) _ (List.getElem?_eq_getElem hq) (j % k) hr;rw [e1,hj] at hg;have:=hc (j / k) _ (List.getElem?_eq_getElem hq) (j % k) u hg.symm;rwa [Nat.add_assoc,e1] at this
theorem Vec.reads_take {w:World} {S:Nat->Prop} {k:Nat} {enc:α->List Value} (hk:∀ x,(enc x).length=k) {a:Option Addr} {n cap:Nat} {L:List α} (h:Vec w S k enc (.slice a n cap) L) (m:Nat) (hm:m<=L.length):zck w k (.slice a m cap) m ((L.take m).flatMap enc):=by
 have h':Vec w S k enc (.slice a m cap) (L.take m):=by
  obtain ⟨a',a1,h1,h2,h3⟩:=h;cases h1
  refine ⟨a,cap,by rw [List.length_take,Nat.min_eq_left hm],by rw [List.length_take];omega,fun h0=>?_⟩
  rw [List.length_take] at h0;obtain ⟨b,off,h4,h5,a0,h6⟩:=h3 (by omega)
  refine ⟨b,off,h4,h5,a0,fun j x hj=>h6 j x ?_⟩
  rw [List.getElem?_take] at hj;split at hj
  ·exact hj
  ·cases hj
 have:=h'.reads hk;rwa [List.length_take,Nat.min_eq_left hm] at this
theorem Vec.reads_drop {w:World} {S:Nat->Prop} {enc:α->List Value} (hk:∀ x,(enc x).length=1) {b off n cap:Nat} {L:List α} (h:Vec w S 1 enc (.slice (some ⟨b,off,none⟩) n cap) L) (m:Nat) (hm:m<=L.length) (p:Prop) [Decidable p] (hp:p->m=L.length) (c:Nat) :
  zck w 1 (.slice (if p then some ⟨b,off,none⟩ else some ⟨b,off+m,none⟩) (L.length - m) c) (L.length - m) ((L.drop m).flatMap enc):=by
 have hr:=h.reads hk;obtain ⟨a,c',he,hl,hc⟩:=hr;cases he
 refine ⟨_,c,rfl,by rw [zd8 hk,List.length_drop],fun h0=>?_⟩
 have a1:¬ p:=fun hp'=>by have:=hp hp';omega
 rw [if_neg a1];obtain ⟨A,hA,a0⟩:=hc (by omega);cases hA
 refine ⟨_,rfl,fun j v hj=>?_⟩
 have e:(L.flatMap enc)[m+j]?=some v:=by
  have h2:L.flatMap enc=(L.take m).flatMap enc++(L.drop m).flatMap enc:=by rw [<- List.flatMap_append,List.take_append_drop]
  have h3:((L.take m).flatMap enc).length=m:=by rw [zd8 hk,List.length_take,Nat.min_eq_left hm];omega
  rw [h2,List.getElem?_append_right (by omega),h3,show m+j - m=j by omega];exact hj
 have:=a0 (m+j) v e;rw [zbu] at this ⊢;rwa [Nat.add_assoc]
section
variable {P:Program} {w:World} {o:Oper} {a:Act} {K:Act->World->Prop} {Q:Exit->Act->World->Prop}
theorem zbr (s x:Operand) (t:TypeId) (ho:o.op = .call { callee:=.builtin .append,args:=#[s,x],argTypes:=#[t,t] })
  (e:TypeId) (z:Value) (size bytes:Nat) (enc:α->List Value) (hk:∀ x,(enc x).length=size) (h1:∀ x,∀ u∈enc x,u.oneCell'=true) (ht:P.underlying t=some (.slice e)) (hinfo:(P.info? e).map (fun i=>(i.zero,i.size,i.bytes))=some (some z,size,bytes))
  (hzs:z.cells.size=size) (hsz:0<size) (hby:bytes<=128) {w0:World} {v u:Value} {A B:List α} (hs:a.eval s=v) (hown:OwnV e size enc w0 v A w) (hx:a.eval x=u) (hr:zck w size u B.length (B.flatMap enc)) (hn:A.length+B.length<=1000000000)
  (h:∀ v' w',OwnV e size enc w0 v' (A++B) w'->(∀ k o,some k≠v.ownBlock->w.heap[k]?=some o->w'.heap[k]?=some o)->w.heap.size<=w'.heap.size->K (a.put o.dst v') w'):Oper.wp P o a w K Q:=by
 refine zdn s x t ho w0.heap.size e z size bytes ht hinfo hzs hsz v A.length (A.flatMap enc) hs hown.1 u B.length (B.flatMap enc) hx hr (fun u hu=>?_) (by unfold maxLen;omega) ?_ hown.2.size ?_
 ·obtain ⟨y,_,hy⟩:=List.mem_flatMap.1 hu
  exact h1 y u hy
 ·exact Nat.le_trans (Nat.mul_le_mul hn hby) (by decide)
 ·intro v' w' a0 hg hat
  refine h v' w' ⟨by rw [List.length_append,List.flatMap_append];exact a0,hown.2.grown hg hown.2.size fun k hk=>?_⟩ (fun k o hk hko=>(hg.block k (zaa hko) hk).trans hko) hg.size
  rcases hown.1.2 with ⟨rfl,_⟩ | ⟨g,cap,cur,rfl,hg1,_⟩
  ·simp [Value.ownBlock] at hk
  ·have:g=k:=by simpa [Value.ownBlock] using hk
   omega
end
end
section
open Go.RowKit
theorem infoBy:(prog.info? 5).map (fun i=>(i.zero,i.size,i.bytes))=some (some (.int .u8 0),1,1):=by kernel_rfl
theorem Vec.dropped {α:Type} {w:World} {S:Nat->Prop} {enc:α->List Value} {b off n cap:Nat} {L:List α} (h:Vec w S 1 enc (.slice (some ⟨b,off,none⟩) n cap) L) (m:Nat) (hm:m<=L.length) (p:Prop) [Decidable p] (hp:p->m=L.length) (c:Nat) (hc:L.length - m<=c) :
  Vec w S 1 enc (.slice (if p then some ⟨b,off,none⟩ else some ⟨b,off+m,none⟩) (L.length - m) c) (L.drop m):=by
 obtain ⟨a',a3,h1,h2,h3⟩:=h;cases h1
 refine ⟨_,c,by rw [List.length_drop],by rw [List.length_drop];exact hc,fun h0=>?_⟩
 rw [List.length_drop] at h0;have a2:¬ p:=fun hp'=>by have:=hp hp';omega
 rw [if_neg a2];obtain ⟨b',a1,e,hS,hb,a0⟩:=h3 (by omega);cases e
 refine ⟨b,off+m,rfl,hS,hb,fun j x hj i u hu=>?_⟩
 have:=a0 (m+j) x (by rw [List.getElem?_drop] at hj;exact hj) i u hu;rw [Nat.mul_one] at this ⊢;rwa [<- Nat.add_assoc] at this
theorem Vec.taken {α:Type} {w:World} {S:Nat->Prop} {k:Nat} {enc:α->List Value} {a:Option Addr} {n cap:Nat} {L:List α} (h:Vec w S k enc (.slice a n cap) L) (m c:Nat) (hm:m<=L.length) (hc:m<=c):Vec w S k enc (.slice a m c) (L.take m):=by
 obtain ⟨a',a1,h1,h2,h3⟩:=h;cases h1
 refine ⟨a,c,by rw [List.length_take,Nat.min_eq_left hm],by rw [List.length_take];omega,fun h0=>?_⟩
 rw [List.length_take] at h0;obtain ⟨b,off,h4,h5,a0,h6⟩:=h3 (by omega)
 refine ⟨b,off,h4,h5,a0,fun j x hj=>h6 j x ?_⟩
 rw [List.getElem?_take] at hj;split at hj
 ·exact hj
 ·cases hj
theorem Vec.grown {α:Type} {w w':World} {S:Nat->Prop} {k:Nat} {enc:α->List Value} {v:Value} {L:List α} {b:Nat} (h:Vec w S k enc v L) (hS:∀ x,S x->x≠b) (g:w.grownBy w' (some b)):Vec w' S k enc v L :=
 h.move g.size fun x hx hs=>⟨g.block x hx (by have:=hS x hs;simp;omega),hs⟩
def lenOfV:Value->Nat
 | .slice _ n _=>n
 | _=>0
theorem SipAt.base {w W w':World} {b B:Nat} {s:Sip} (h:SipAt W b s w') (hb:Below B w W) (hB:B<=b) (hW:B<=W.heap.size):Below B w w' :=
 hb.trans ⟨h.2.os,h.2.tape,h.2.output,h.2.size,fun k hk=>h.2.block k (by omega) (by simp;omega)⟩
theorem eachP_step (s:Sip) (l:List UInt8) (n:Nat):zjp s l (n+1)=zjp (wordP s (numP 0 0 (l.take 8))) (l.drop 8) n:=rfl
theorem eachP_more (s:Sip) (l:List UInt8) (h:8<=l.length):zjp s l (l.length / 8)=zjp (wordP s (numP 0 0 (l.take 8))) (l.drop 8) ((l.drop 8).length / 8):=by
 rw [show l.length / 8=(l.drop 8).length / 8+1 by rw [List.length_drop];omega,eachP_step]
theorem eachP_end (s:Sip) (l:List UInt8) (h:l.length<8):zjp s l (l.length / 8)=(s,l):=by
 rw [show l.length / 8=0 by omega];rfl
theorem sumP_of (ka kb:Int) (l:List UInt8) (s:Sip) (r:List UInt8) (h:zjp ⟨xr ka 8317987319222330741,xr kb 7237128888997146477,xr ka 7816392313619706465,xr kb 8387220255154660723⟩ l (l.length / 8)=(s,r)) (u:Sip)
  (hu:wordP s (bits .or .u64 (numP 0 0 r) (IntKind.u64.wrap ((l.length:Int)*72057594037927936)))=u) (v:Sip) (hv:rndI 4 ⟨u.a,u.b,xr u.c 255,u.d⟩=v):xr (xr (xr v.a v.b) v.c) v.d=sumP ka kb l:=by
 unfold sumP;rw [h];dsimp only;rw [hu,<- hv];rfl
theorem ssum_any (S:Nat->Prop) (ka kb:Int) (v:Value) (l:List UInt8) (w:World) (h:Vec w S 1 encB v l) (hl:l.length<=1000000000) :
  Calls prog 243 #[.agg #[.int .u64 ka,.int .u64 kb],v] w fun e w'=>e = .returned (.int .u64 (sumP ka kb l))/\Below w.heap.size w w':=by
 obtain ⟨a,cap,rfl⟩:=h.slice;have HV:=zjy (h.any.move (S':=fun b=>b<w.heap.size) (w':=w) xnl fun b hb _=>⟨rfl,hb⟩);clear h
 go_enter func243,ntmps243
 go_wp2_with fail
 refine zal (fun W hW=>?_)
 have a4:=xam hW
 have a6:SipAt W (w.heap.size+1) ⟨xr ka 8317987319222330741,xr kb 7237128888997146477,xr ka 7816392313619706465,xr kb 8387220255154660723⟩ W:=by rw [hW];exact ⟨zac (by simp),zdu _ _⟩
 have a5:=HV.o.below a4;clear hW HV;have a8:=zjy a4;have b2:=zjy a6;have b1:=zjy a5;clear a4 a6 a5;go_loopw [1] (fun v wr=>∃ (r:List UInt8) (s:Sip),Vec wr (fun b=>b<w.heap.size) 1 encB v r/\SipAt W (w.heap.size+1) s wr/\Hid (zjp s r (r.length / 8)=zjp ⟨xr ka 8317987319222330741,xr kb 7237128888997146477,xr ka 7816392313619706465,xr kb 8387220255154660723⟩ l (l.length / 8))/\r.length<=l.length) (fun v _=>lenOfV v)
 case atStart=>exact ⟨l,_,b1.o,b2.o,zjy rfl,Nat.le_refl _⟩
 case round =>
  obtain ⟨r,s,hv,hs,HE,hrl⟩:=hrel;obtain ⟨ar,cr,rfl⟩:=hv.slice;have HV:=zjy hv;have HS:=zjy hs;have hcr:r.length<=cr:=hv.len.2;clear hv hs;by_cases hlt:8<=r.length
  ·have hq:decide ((8:Int)<=r.length)=true:=by simp;omega
   have hc8:(8:Int)<=(cr:Int):=by omega
   obtain ⟨ba,oa,rfl,_,_⟩:=HV.o.get 0 (by omega);go_wp2_with fail
   refine (snumber_any _ _ (r.take 8) _ (HV.o.taken 8 cr hlt (by omega)) (by simp;omega)).mono ?_;rintro e wq ⟨rfl,rfl⟩;go_wp2_with fail
   refine (sword_any _ s _ _ HS.o.1).mono ?_;rintro e w1 ⟨rfl,a0⟩;have b0:=zjy (HV.o.grown (b:=w.heap.size+1) (fun x hx=>by omega) a0.2)
   have a1:=zjy (show SipAt W (w.heap.size+1) (wordP s (numP 0 0 (r.take 8))) w1 from ⟨a0.1,zcs HS.o.2 a0.2⟩);clear a0 HS HV;go_wp2_with fail
   go_roundw
   case rel=>exact ⟨r.drop 8,_,b0.o.dropped 8 hlt (cr=8) (fun h=>by omega) (cr - 8) (by omega),a1.o,zjy (by rw [<- HE.o,eachP_more s r hlt]),by rw [List.length_drop];omega⟩
   case measure=>simp only [lenOfV];omega
  ·have hq:decide ((8:Int)<=r.length)=false:=by simp;omega
   have hE:=HE.o;rw [eachP_end s r (by omega)] at hE;have b3:=zjy hE.symm;clear hE HE;go_wp2_with fail
   refine (snumber_any _ _ r _ HV.o (by omega)).mono ?_;rintro e wq ⟨rfl,rfl⟩;go_wp2_with fail
   refine (sword_any _ s _ _ HS.o.1).mono ?_;rintro e w1 ⟨rfl,a0⟩;obtain ⟨u,hu⟩:=xex (wordP s (bits .or .u64 (numP 0 0 r) (IntKind.u64.wrap ((l.length:Int)*72057594037927936))));rw [hu] at a0;have HU:=zjy hu;have a1:=zjy (show SipAt W (w.heap.size+1) u w1 from ⟨a0.1,zcs HS.o.2 a0.2⟩);clear a0 HS HV hu;obtain ⟨⟨c0,c1,c2,c3⟩,f0,f1,f2,f3⟩:=a1.o.read;go_wp2_with fail
   have a3:SipAt W (w.heap.size+1) ⟨u.a,u.b,xr u.c 255,u.d⟩ (w1.setCell ⟨w.heap.size+1,2,none⟩ (.int .u64 (xr u.c 255))):=a1.o.set (n:=0) rfl;refine (rounds_any _ ⟨u.a,u.b,xr u.c 255,u.d⟩ 4 _ a3.1 (by omega)).mono ?_;rintro e w2 ⟨rfl,a2⟩;obtain ⟨v,hv⟩:=xex (rndI 4 ⟨u.a,u.b,xr u.c 255,u.d⟩);rw [hv] at a2;have a9:=zjy hv;have a7:=zjy (show SipAt W (w.heap.size+1) v w2 from ⟨a2.1,zcs a3.2 a2.2⟩);clear a3 a2 hv a1 c0 c1 c2 c3 f0 f1 f2 f3;obtain ⟨⟨c0,c1,c2,c3⟩,f0,f1,f2,f3⟩:=a7.o.read;go_wp2_with fail
   go_ret;refine ⟨?_,a7.o.base a8.o (by omega) a8.o.size⟩;rw [<- sumP_of ka kb l s r b3.o u HU.o v a9.o];rfl
end
section
open Go.RowKit
variable {α:Type}
def OwnM (D e size:Nat) (enc:α->List Value) (wA:World) (v:Value) (L:List α) (w:World):Prop :=
 w.ownsRow wA.heap.size e size v L.length (L.flatMap enc)/\Moved D wA w
theorem OwnM.moved {D e size:Nat} {enc:α->List Value} {wA w w':World} {v:Value} {L:List α} (h:OwnM D e size enc wA v L w) (m:Moved D w w'):OwnM D e size enc wA v L w':=by
 refine ⟨⟨h.1.1,?_⟩,h.2.trans m⟩
 rcases h.1.2 with h0 | ⟨g,cap,cur,hv,hg,hh,rest⟩
 ·exact .inl h0
 ·exact .inr ⟨g,cap,cur,hv,hg,m.blk (by have:=h.2.lt;omega) hh,rest⟩
theorem OwnM.nil {D e size:Nat} {enc:α->List Value} {wA w:World} (m:Moved D wA w):OwnM D e size enc wA (.slice none 0 0) [] w:=⟨⟨by simp,.inl ⟨rfl,rfl⟩⟩,m⟩
theorem OwnM.vec {D e size:Nat} {enc:α->List Value} (hk:∀ x,(enc x).length=size) {wA w:World} {v:Value} {L:List α} (h:OwnM D e size enc wA v L w):Vec w (fun b=>wA.heap.size<=b) size enc v L :=
 Vec.owns hk h.1 fun b hb _=>hb
theorem Moved.grown' {D:Nat} {wA w w':World} {row:Option Nat} (h:Moved D wA w) (hg:w.grownBy w' row) (hr:∀ k,row=some k->wA.heap.size<=k):Moved D wA w':=by
 have a0:=h.lt
 refine ⟨⟨hg.os.trans h.grown.os,hg.tape.trans h.grown.tape,hg.output.trans h.grown.output,Nat.le_trans h.size hg.size,fun k hk hne=>?_⟩,h.deck.same fun k hk=>hg.block k (by have:=h.size;omega) (fun e=>by have:=hr k e.symm;omega),a0⟩
 rw [hg.block k (by have:=h.size;omega) (fun e=>by have:=hr k e.symm;omega)]
 exact h.grown.block k hk hne
section
variable {P:Program} {w:World} {o:Oper} {a:Act} {K:Act->World->Prop} {Q:Exit->Act->World->Prop}
theorem wp_append_m (s x:Operand) (t:TypeId) (ho:o.op = .call { callee:=.builtin .append,args:=#[s,x],argTypes:=#[t,t] })
  (D e:Nat) (z:Value) (size bytes:Nat) (enc:α->List Value) (hk:∀ x,(enc x).length=size) (h1:∀ x,∀ u∈enc x,u.oneCell'=true) (ht:P.underlying t=some (.slice e)) (hinfo:(P.info? e).map (fun i=>(i.zero,i.size,i.bytes))=some (some z,size,bytes))
  (hzs:z.cells.size=size) (hsz:0<size) (hby:bytes<=128) {wA:World} {v u:Value} {A B:List α} (hs:a.eval s=v) (hown:OwnM D e size enc wA v A w) (hx:a.eval x=u) (hr:zck w size u B.length (B.flatMap enc)) (hn:A.length+B.length<=1000000000)
  (h:∀ v' w',OwnM D e size enc wA v' (A++B) w'->(∀ k o,some k≠v.ownBlock->w.heap[k]?=some o->w'.heap[k]?=some o)->K (a.put o.dst v') w'):Oper.wp P o a w K Q:=by
 refine zdn s x t ho wA.heap.size e z size bytes ht hinfo hzs hsz v A.length (A.flatMap enc) hs hown.1 u B.length (B.flatMap enc) hx hr (fun u hu=>?_) (by unfold maxLen;omega) ?_ hown.2.size ?_
 ·obtain ⟨y,_,hy⟩:=List.mem_flatMap.1 hu
  exact h1 y u hy
 ·exact Nat.le_trans (Nat.mul_le_mul hn hby) (by decide)
 ·intro v' w' a0 hg hat
  refine h v' w' ⟨by rw [List.length_append,List.flatMap_append];exact a0,hown.2.grown' hg fun k hk=>?_⟩ (fun k o hk hko=>(hg.block k (zaa hko) hk).trans hko)
  rcases hown.1.2 with ⟨rfl,_⟩ | ⟨g,cap,cur,rfl,hg1,_⟩
  ·simp [Value.ownBlock] at hk
  ·have:g=k:=by simpa [Value.ownBlock] using hk
   omega
theorem zel {ops:Array Oper} {rest:List Oper} (hgd:o.guard=none) (s x:Operand) (t:TypeId) (ho:o.op = .call { callee:=.builtin .append,args:=#[s,x],argTypes:=#[t,t] })
  (D e:Nat) (z:Value) (size bytes:Nat) (enc:α->List Value) (hk:∀ x,(enc x).length=size) (h1:∀ x,∀ u∈enc x,u.oneCell'=true) (ht:P.underlying t=some (.slice e)) (hinfo:(P.info? e).map (fun i=>(i.zero,i.size,i.bytes))=some (some z,size,bytes))
  (hzs:z.cells.size=size) (hsz:0<size) (hby:bytes<=128) {wA:World} {v u:Value} {A B:List α} (hs:a.eval s=v) (hown:OwnM D e size enc wA v A w) (hx:a.eval x=u) (hr:zck w size u B.length (B.flatMap enc)) (hn:A.length+B.length<=1000000000)
  (h:∀ v' w',OwnM D e size enc wA v' (A++B) w'->(∀ k o,some k≠v.ownBlock->w.heap[k]?=some o->w'.heap[k]?=some o)->wpList P ops Q rest (a.put o.dst v') w'):wpList P ops Q (o :: rest) a w :=
 wpList_plain hgd fun _ hK=>wp_append_m s x t ho D e z size bytes enc hk h1 ht hinfo hzs hsz hby hs hown hx hr hn fun v' w' h2 h3=>hK _ _ (h v' w' h2 h3)
theorem zcv {ops:Array Oper} {rest:List Oper} (hgd:o.guard=none) (s x:Operand) (t:TypeId) (ho:o.op = .call { callee:=.builtin .append,args:=#[s,x],argTypes:=#[t,t] })
  (e:TypeId) (z:Value) (size bytes:Nat) (enc:α->List Value) (hk:∀ x,(enc x).length=size) (h1:∀ x,∀ u∈enc x,u.oneCell'=true) (ht:P.underlying t=some (.slice e)) (hinfo:(P.info? e).map (fun i=>(i.zero,i.size,i.bytes))=some (some z,size,bytes))
  (hzs:z.cells.size=size) (hsz:0<size) (hby:bytes<=128) {w0:World} {v u:Value} {A B:List α} (hs:a.eval s=v) (hown:OwnV e size enc w0 v A w) (hx:a.eval x=u) (hr:zck w size u B.length (B.flatMap enc)) (hn:A.length+B.length<=1000000000)
  (h:∀ v' w',OwnV e size enc w0 v' (A++B) w'->(∀ k o,some k≠v.ownBlock->w.heap[k]?=some o->w'.heap[k]?=some o)->w.heap.size<=w'.heap.size->wpList P ops Q rest (a.put o.dst v') w'):wpList P ops Q (o :: rest) a w :=
 wpList_plain hgd fun _ hK=>zbr s x t ho e z size bytes enc hk h1 ht hinfo hzs hsz hby hs hown hx hr hn fun v' w' h2 h3 h4=>hK _ _ (h v' w' h2 h3 h4)
end
end
section
open Go.RowKit
theorem flatB (l:List UInt8):l.flatMap encB=l.map zga:=by
 induction l with
 | nil=>rfl
 | cons a l ih=>simp only [List.flatMap_cons,List.map_cons,ih];rfl
theorem strCells_mk (l:List UInt8):Lib.strCells ⟨l.toArray⟩=l.flatMap encB:=by rw [flatB];simp [Lib.strCells,zga]
theorem zio (t:List UInt8) (h:t.length<=60000):partP t=[UInt8.ofNat (t.length / 256),UInt8.ofNat t.length]++t:=by
 unfold partP;rw [Nat.min_eq_left (by omega),List.take_of_length_le (by omega)];rfl
theorem zhw (L:List (List UInt8)) (h:∀ t∈L,t.length<=60000):(L.flatMap partP).length<=60002*L.length:=by
 induction L with
 | nil=>simp
 | cons a L ih =>
  have h1:=h a (by simp);have h2:=ih fun t ht=>h t (by simp [ht])
  rw [List.flatMap_cons,List.length_append,zio a h1];simp only [List.length_append,List.length_cons,List.length_nil];omega
theorem reads_row {w:World} {g:Nat} {t:TypeId} {fr:Nat × Nat} {c n:Nat} {xs:List Value} (h:w.heap[g]?=some (.cells xs.toArray t fr)) (hn:n=xs.length):zck w 1 (.slice (some ⟨g,0,none⟩) n c) n xs:=by
 subst hn;exact ⟨_,c,rfl,by omega,fun _=>⟨_,rfl,fun j u hj=>by rw [zbu,cell_of_row _ _ _ _ _ _ h,Nat.zero_add];simpa using hj⟩⟩
theorem extract_all (t:List UInt8):(⟨t.toArray⟩:ByteArray).extract 0 t.length=⟨t.toArray⟩:=by
 apply ByteArray.ext;simp [ByteArray.data_extract]
theorem one_encB:∀ (x:UInt8),∀ u∈encB x,u.oneCell'=true:=by intro x u hu;simp [zga] at hu;subst hu;rfl
theorem zae {w:World} {b:Nat} {x y:Value} {t:TypeId} {fr:Nat × Nat} (h:w.heap[b]?=some (.cells #[x,y] t fr)):w.cell? ⟨b,0,none⟩=some x/\w.cell? ⟨b,1,none⟩=some y:=by
 refine ⟨?_,?_⟩ <;> (rw [cell_of_row _ _ _ _ _ _ h];rfl)
section
variable {P:Program} {w:World} {ops:Array Oper} {rest:List Oper} {o:Oper} {a:Act} {Q:Exit->Act->World->Prop}
theorem zha (hgd:o.guard=none) (sl x:Operand) (t u:TypeId) (ho:o.op = .call { callee:=.builtin .append,args:=#[sl,x],argTypes:=#[t,u] })
  (e:TypeId) (ht:P.underlying t=some (.slice e)) (hu:P.underlying u=some .string) (hinfo:(P.info? e).map (fun i=>(i.zero,i.size,i.bytes))=some (some (.int .u8 0),1,1)) {w0:World} {v:Value} {A:List UInt8} (l:List UInt8) (hs:a.eval sl=v)
  (hown:OwnV e 1 encB w0 v A w) (hx:a.eval x=zak l) (hn:A.length+l.length<=1000000000)
  (h:∀ v' w',OwnV e 1 encB w0 v' (A++l) w'->w.heap.size<=w'.heap.size->wpList P ops Q rest (a.put o.dst v') w'):wpList P ops Q (o :: rest) a w:=by
 obtain ⟨i,hi,hz,h2,h3⟩:=info_parts hinfo;have a1:(⟨l.toArray⟩:ByteArray).size=l.length:=by simp [ByteArray.size]
 refine Lib.wpList_append_own_string w hgd sl x t u ho w0.heap.size e i ht hu hi hz h2 h3 v A.length (A.flatMap encB) hs hown.1 ⟨l.toArray⟩ hx (by unfold maxLen;omega) (by omega) hown.2.size ?_;intro v' w' a0 hg _;rw [a1,strCells_mk] at a0
 refine h v' w' ⟨by rw [List.length_append,List.flatMap_append];exact a0,hown.2.grown hg hown.2.size fun k hk=>?_⟩ hg.size
 rcases hown.1.2 with ⟨rfl,_⟩ | ⟨g,cap,cur,rfl,hg1,_⟩
 ·simp [Value.ownBlock] at hk
 ·have:g=k:=by simpa [Value.ownBlock] using hk
  omega
end
theorem sparts_any (S:Nat->Prop) (ka kb:Int) (v:Value) (L:List (List UInt8)) (w:World) (h:Vec w S 1 za8 v L) (hl:∀ t∈L,t.length<=60000) (hn:L.length<=1000) :
  Calls prog 220 #[.agg #[.int .u64 ka,.int .u64 kb],v] w fun e w'=>e = .returned (.int .u64 (zdk ka kb L))/\Below w.heap.size w w':=by
 obtain ⟨a,cap,rfl⟩:=h.slice;have HV:=zjy h.any;clear h;have HL:=zjy hl;clear hl;go_enter func220,ntmps220
 go_wp2_with fail
 refine zal (fun W hW=>?_)
 have a3:=xal hW
 have hk:W.heap[w.heap.size]?=some (.cells #[.int .u64 ka,.int .u64 kb] 41 (0,0)):=by rw [hW];exact zac rfl
 have b2:=zjy (HV.o.below a3);have a4:=zjy a3;have HK:=zjy hk;clear hW a3 hk HV;go_loopw [5,7,10] (fun v _ i wr=>∃ k:Nat,i = .int .i64 k/\k<=L.length/\OwnV 5 1 encB W v ((L.take k).flatMap partP) wr) (fun _ _ i _=>L.length - (intOf i).toNat)
 case atStart=>exact ⟨0,rfl,by omega,OwnV.start _ _ _ _⟩
 case round =>
  obtain ⟨k,rfl,hk,ho⟩:=hrel;have HO:=zjy ho;clear ho;by_cases hlt:k<L.length
  ·have hq:decide ((k:Int)<L.length)=true:=by simp;omega
   obtain ⟨t,ht⟩:=xex (L[k]);have a8:t.length<=60000:=HL.o t (by rw [<- ht];exact List.getElem_mem _);obtain ⟨b,off,rfl,hb,hc⟩:=(b2.o.below HO.o.2).get k hlt;have c0:=hc 0 _ rfl;rw [Nat.mul_one,Nat.add_zero,ht] at c0;clear hc;have hm:min (t.length:Int) 65535=(t.length:Int):=by omega
   have hx:=extract_all t;obtain ⟨x,ex⟩:=xex (UInt8.ofNat (t.length / 256));obtain ⟨y,ey⟩:=xex (UInt8.ofNat t.length);have hxa:(t.length:Int) / 256=(x.toNat:Int):=by rw [<- ex,UInt8.toNat_ofNat'];omega
   have hya:(t.length:Int) % 256=(y.toNat:Int):=by rw [<- ey,UInt8.toNat_ofNat'];omega
   have hp:=zio t a8;rw [ex,ey] at hp;have a5:L.take (k+1)=L.take k++[t]:=by rw [List.take_succ_eq_append_getElem hlt,ht]
   have a1:=zhw (L.take k) fun u hu=>HL.o u (List.mem_of_mem_take hu)
   rw [List.length_take] at a1;have HP:=zjy hp;have b3:=zjy a5;clear hp a5 ex ey;obtain ⟨P,hP⟩:=xex ((L.take k).flatMap partP);rw [hP] at HO a1;have b5:=zjy hP;clear hP;have b6:=zjy (HO.o.below ((Below.refl _ _).alloc xnl (.cells #[.int .u8 (x.toNat:Int),.int .u8 (y.toNat:Int)] 5)));have b4:=zjy (reads_row (xs:=[x,y].flatMap encB) (n:=2) (c:=2) (heap_alloc_new wr (.cells #[.int .u8 (x.toNat:Int),.int .u8 (y.toNat:Int)] 5)) rfl);have a7:=HO.o.2.size;have a2:P.length+([x,y]:List UInt8).length<=1000000000:=by simp only [List.length_cons,List.length_nil];omega
   have a0:(P++[x,y]).length+t.length<=1000000000:=by rw [List.length_append];simp only [List.length_cons,List.length_nil];omega
   go_wp2_with (at_builtin;first | (refine zcv rfl (.tmp 19) (.tmp 27) 175 rfl 5 (.int .u8 0) 1 1 encB (fun _=>rfl) one_encB underlying175 infoBy rfl (by decide) (by decide) (w0:=W) (v:=u5) (A:=P) (B:=[x,y]) rfl b6.o rfl b4.o a2 ?_;intro v2 w2 b0 a6 hz2) | (refine zha rfl (.tmp 29) (.tmp 30) 175 9 rfl 5 underlying175 underlying9 infoBy (w0:=W) (v:=v2) (A:=P++[x,y]) t rfl b0 rfl a0 ?_;intro v3 w3 a9 hz3))
   go_roundw
   case rel=>exact ⟨k+1,by go_num,by omega,by rw [b3.o,List.flatMap_append,b5.o,List.flatMap_cons,List.flatMap_nil,List.append_nil,HP.o,<- List.append_assoc];exact a9⟩
   case measure=>simp [intOf];omega
  ·have hq:decide ((k:Int)<L.length)=false:=by simp;omega
   have a1:=zhw L fun u hu=>HL.o u hu
   rw [List.take_of_length_le (by omega)] at HO;have a7:=HO.o.2.size;have a6:wr.heap[w.heap.size]?=some (.cells #[.int .u64 ka,.int .u64 kb] 41 (0,0)):=zab HO.o.2 (zaa HK.o) HK.o;obtain ⟨k0,k1⟩:=zae a6;go_wp2_with fail
   refine (ssum_any _ ka kb _ (L.flatMap partP) _ (OwnV.vec (size:=1) (enc:=encB) (fun _=>rfl) HO.o) (by omega)).mono ?_
   rintro e w2 ⟨rfl,b1⟩;go_wp2_with fail
   go_ret;exact ⟨rfl,a4.o.trans ((HO.o.2.mono a4.o.size).trans (b1.mono (by have:=a4.o.size;omega)))⟩
theorem zbi {P:Program} {md:Region.Mode} {ops:Array Oper} {Q:Exit->Act->World->Prop} {S:World->Prop} {k fuel:Nat} {listed:Array Bool} {a:Act} {W:World} (h:∀ w',w'=W->zc9 P md ops Q S k fuel listed a w'):zc9 P md ops Q S k fuel listed a W:=h W rfl
theorem zdf (ka kb:Int) (x y:List UInt8) (hx:x.length<=60000) (hy:y.length<=60000) (w:World) (g:Nat) (h:w.heap[g]?=some (.cells #[zak x,zak y] 9 (0,0))) :
  Calls prog 220 #[.agg #[.int .u64 ka,.int .u64 kb],.slice (some ⟨g,0,none⟩) 2 2] w fun e w'=>e = .returned (.int .u64 (zdk ka kb [x,y]))/\Below w.heap.size w w':=by
 refine sparts_any zau ka kb _ [x,y] w ⟨_,2,rfl,by simp,fun _=>⟨g,0,rfl,trivial,zaa h,fun j z hj i u hu=>?_⟩⟩ (by intro t ht;simp at ht;rcases ht with rfl | rfl <;> omega) (by simp)
 rw [cell_of_row _ _ _ _ _ _ h]
 match j,i,hj,hu with
 | 0,0,hj,hu=>simp at hj;subst hj;simpa using hu
 | 1,0,hj,hu=>simp at hj;subst hj;simpa using hu
 | 0,i+1,hj,hu=>simp at hu
 | 1,i+1,hj,hu=>simp at hu
 | j+2,_,hj,_=>simp at hj
theorem sderive_any (ka kb:Int) (l:List UInt8) (w:World) (hl:l.length<=60000) :
  Calls prog 182 #[.agg #[.int .u64 ka,.int .u64 kb],zak l] w fun e w'=>e = .returned (.agg #[.int .u64 (zer ka kb l).1,.int .u64 (zer ka kb l).2])/\Below w.heap.size w w':=by
 obtain ⟨p,hp⟩:=xex (zdk ka kb [l,[97]]);obtain ⟨q,hq⟩:=xex (zdk ka kb [l,[98]]);have a3:zer ka kb l=(p,q):=by rw [<- hp,<- hq];rfl
 rw [a3];have HP:=zjy hp;have HQ:=zjy hq;clear hp hq a3;go_enter func182,ntmps182
 go_wp2_with fail
 refine zal (fun W hW=>?_)
 have a5:=xam hW
 have a4:W.heap[w.heap.size]?=some (.cells #[.int .u64 ka,.int .u64 kb] 41 (0,0)):=by rw [hW];exact zaf (zac rfl)
 have a2:W.heap[w.heap.size+1]?=some (.cells #[.int .u64 0,.int .u64 0] 41 (0,0)):=by rw [hW];exact zac (by simp)
 have a0:=zaa a4;obtain ⟨k0,k1⟩:=zae a4;clear hW;have bD:Below W.heap.size W W.drew:=(Below.refl _ _).drew;refine wp_region_noPanic ?_
 refine zaw (by kernel_rfl) (fun w'=>w'.cell? ⟨w.heap.size,0,none⟩=some (.int .u64 ka)/\w'.cell? ⟨w.heap.size,1,none⟩=some (.int .u64 kb)) 9 (⟨k0,k1⟩) (fun hHeld=>?_)
 refine tK 0 ?_;refine tK 1 ?_;refine tK 4 ?_;refine tK 5 ?_;refine zbf (rs:=[2,6]) (by kernel_rfl) (by simp) ?_
 refine AllReadyK.cons rfl (fun K hK=>?_) (AllReadyK.cons rfl (fun K hK=>?_) AllReadyK.nil)
 focus
  go_simp
  refine zbc hK (⟨((bD.alloc bD.size _).cell (p:=⟨w.heap.size,0,none⟩) a0).trans k0,((bD.alloc bD.size _).cell (p:=⟨w.heap.size,1,none⟩) a0).trans k1⟩) (fun hHeld=>?_)
  clear hK K
  refine zbi (fun W1 hW1=>?_)
  have b1:Below W.heap.size W W1:=by rw [hW1];exact bD.alloc bD.size (.cells #[zak l,zak [97]] 9)
  have g1:W1.heap[W.heap.size]?=some (.cells #[zak l,zak [97]] 9 (0,0)):=by rw [hW1];exact zac rfl
  clear hW1;refine zbf (rs:=[3,6]) (by kernel_rfl) (by simp) ?_
  refine AllReadyK.cons rfl (fun K hK=>?_) (AllReadyK.cons rfl (fun K hK=>?_) AllReadyK.nil)
  focus
   go_simp;refine (zdf ka kb l [97] hl (by decide) _ _ g1).mono ?_;rintro e w2 ⟨rfl,hb⟩;have b2:=b1.trans (hb.mono b1.size);clear hb
   refine zbc hK (⟨(b2.cell (p:=⟨w.heap.size,0,none⟩) a0).trans k0,(b2.cell (p:=⟨w.heap.size,1,none⟩) a0).trans k1⟩) (fun hHeld=>?_)
   clear hK K
   refine xrK 6 rfl fun K hK=>?_
   go_simp
   refine zbc hK (⟨((b2.alloc b2.size _).cell (p:=⟨w.heap.size,0,none⟩) a0).trans k0,((b2.alloc b2.size _).cell (p:=⟨w.heap.size,1,none⟩) a0).trans k1⟩) (fun hHeld=>?_)
   clear hK K
   refine zbi (fun W3 hW3=>?_)
   have b3:Below W.heap.size W W3:=by rw [hW3];exact b2.alloc b2.size (.cells #[zak l,zak [98]] 9)
   have g3:W3.heap[w2.heap.size]?=some (.cells #[zak l,zak [98]] 9 (0,0)):=by rw [hW3];exact zac rfl
   clear hW3
  rotate_left 1
  focus
   go_simp
   refine zbc hK (⟨((b1.alloc b1.size _).cell (p:=⟨w.heap.size,0,none⟩) a0).trans k0,((b1.alloc b1.size _).cell (p:=⟨w.heap.size,1,none⟩) a0).trans k1⟩) (fun hHeld=>?_)
   clear hK K
   refine zbi (fun W2 hW2=>?_)
   have b2:Below W.heap.size W W2:=by rw [hW2];exact b1.alloc b1.size (.cells #[zak l,zak [98]] 9)
   have g3:W2.heap[W1.heap.size]?=some (.cells #[zak l,zak [98]] 9 (0,0)):=by rw [hW2];exact zac rfl
   have a7:W2.heap[W.heap.size]?=some (.cells #[zak l,zak [97]] 9 (0,0)):=by rw [hW2];exact zaf g1
   clear hW2
   refine xrK 3 rfl fun K hK=>?_
   go_simp;refine (zdf ka kb l [97] hl (by decide) _ _ a7).mono ?_;rintro e W3 ⟨rfl,hb⟩;have b3:=b2.trans (hb.mono b2.size);have g3:=zab hb (zaa g3) g3;clear hb
   refine zbc hK (⟨(b3.cell (p:=⟨w.heap.size,0,none⟩) a0).trans k0,(b3.cell (p:=⟨w.heap.size,1,none⟩) a0).trans k1⟩) (fun hHeld=>?_)
   clear hK K
 rotate_left 2
 focus
  go_simp
  refine zbc hK (⟨((bD.alloc bD.size _).cell (p:=⟨w.heap.size,0,none⟩) a0).trans k0,((bD.alloc bD.size _).cell (p:=⟨w.heap.size,1,none⟩) a0).trans k1⟩) (fun hHeld=>?_)
  clear hK K
  refine zbi (fun W1 hW1=>?_)
  have b1:Below W.heap.size W W1:=by rw [hW1];exact bD.alloc bD.size (.cells #[zak l,zak [98]] 9)
  have g3:W1.heap[W.heap.size]?=some (.cells #[zak l,zak [98]] 9 (0,0)):=by rw [hW1];exact zac rfl
  clear hW1
  refine xrK 2 rfl fun K hK=>?_
  go_simp
  refine zbc hK (⟨((b1.alloc b1.size _).cell (p:=⟨w.heap.size,0,none⟩) a0).trans k0,((b1.alloc b1.size _).cell (p:=⟨w.heap.size,1,none⟩) a0).trans k1⟩) (fun hHeld=>?_)
  clear hK K
  refine zbi (fun W2 hW2=>?_)
  have b2:Below W.heap.size W W2:=by rw [hW2];exact b1.alloc b1.size (.cells #[zak l,zak [97]] 9)
  have g1:W2.heap[W1.heap.size]?=some (.cells #[zak l,zak [97]] 9 (0,0)):=by rw [hW2];exact zac rfl
  have a6:W2.heap[W.heap.size]?=some (.cells #[zak l,zak [98]] 9 (0,0)):=by rw [hW2];exact zaf g3
  clear hW2
  refine xrK 3 rfl fun K hK=>?_
  go_simp;refine (zdf ka kb l [97] hl (by decide) _ _ g1).mono ?_;rintro e W3 ⟨rfl,hb⟩;have b3:=b2.trans (hb.mono b2.size);have g3:=zab hb (zaa a6) a6;clear hb
  refine zbc hK (⟨(b3.cell (p:=⟨w.heap.size,0,none⟩) a0).trans k0,(b3.cell (p:=⟨w.heap.size,1,none⟩) a0).trans k1⟩) (fun hHeld=>?_)
  clear hK K
 all_goals
  refine xrK 7 rfl fun K hK=>?_
  go_simp;refine (zdf ka kb l [98] hl (by decide) _ _ g3).mono ?_;rintro e w4 ⟨rfl,hb⟩;have b4:=b3.trans (hb.mono b3.size);clear hb;rw [HP.o,HQ.o]
  refine zbc hK (⟨(b4.cell (p:=⟨w.heap.size,0,none⟩) a0).trans k0,(b4.cell (p:=⟨w.heap.size,1,none⟩) a0).trans k1⟩) (fun hHeld=>?_)
  clear hK K;refine tK 8 ?_;have a1:=zab b4 (zaa a2) a2;have hz5:=zaa a1;obtain ⟨z0,z1⟩:=zae a1;have y0:=frozen_of_row _ _ 0 _ _ a1;have y1:=frozen_of_row _ _ 1 _ _ a1
  refine xrK 9 rfl fun K hK=>?_
  go_simp;refine zav hK (by decide) ?_;clear hK K;refine zas (by kernel_rfl) ?_ _;refine NoPanic.normal ?_;go_wp2_with fail
  exact za5 rfl rfl (zad (i:=1) (v:=.int .u64 q) (zad (i:=0) (v:=.int .u64 p) a1)) underlying41 rfl (by kernel_rfl)
   ⟨rfl,((a5.trans (b4.mono a5.size)).setCell (p:=⟨w.heap.size+1,0,none⟩) (Nat.le_succ _) _).setCell (p:=⟨w.heap.size+1,1,none⟩) (Nat.le_succ _) _⟩
end
section
open Go.RowKit
theorem zja (n:Int) (w:World) (hn:-9223372036854775808<=n) (hn2:n<=9223372036854775807) :
  Calls prog 136 #[.int .i64 n] w fun e w'=>e = .returned (.bool (zda n))/\w=w':=by
 unfold zda;by_cases h1:64<=n
 ·by_cases h2:n<=512
  ·have e1:decide ((64:Int)<=n)=true:=by simpa using h1
   have e2:decide (n<=(512:Int))=true:=by simpa using h2
   rw [e1,e2];go_enter func136,ntmps136
   go_wp2_with fail
   go_ret;exact ⟨rfl,rfl⟩
  ·have e1:decide ((64:Int)<=n)=true:=by simpa using h1
   have e2:decide (n<=(512:Int))=false:=by simpa using h2
   rw [e1,e2];go_enter func136,ntmps136
   go_wp2_with fail
   go_ret;exact ⟨rfl,rfl⟩
 ·have e1:decide ((64:Int)<=n)=false:=by simpa using h1
  rw [e1];go_enter func136,ntmps136
  go_wp2_with fail
  go_ret;exact ⟨rfl,rfl⟩
abbrev zc7 (x:Int):List Value:=[.int .u64 x]
theorem made_words (m:Nat):madeCells #[.int .u64 0] m=((List.replicate m (0:Int)).flatMap zc7).toArray:=by
 apply Array.ext'
 have:∀ k,(List.replicate k (0:Int)).flatMap zc7=List.replicate k (.int .u64 0):=by
  intro k;induction k with
  | zero=>rfl
  | succ k ih=>rw [List.replicate_succ,List.flatMap_cons,ih];rfl
 rw [this];unfold madeCells;rw [Array.toList_map,Array.toList_range]
 refine List.ext_getElem (by simp) fun i h1 h2=>?_
 simp [Nat.mod_one]
def NewPost (n:Int) (w:World) (e:Ending) (w':World):Prop:=∃ (g m:Nat),e = .returned (.tuple #[.agg #[.int .i64 n,.slice (some ⟨g,0,none⟩) m m],.int .i64 0])/\n=64*m/\w.heap.size<=g/\w'.heap[g]?=some (.cells ((ze6 n).flatMap zc7).toArray 39 (0,0))/\Below w.heap.size w w'
theorem infoU:(prog.info? 39).map (fun i=>(i.zero,i.size,i.bytes))=some (some (.int .u64 0),1,8):=by kernel_rfl
theorem zg5 (n:Int) (w:World) (h:zda n=true):Calls prog 91 #[.int .i64 n] w (NewPost n w):=by
 have h0:=h;simp only [zda,Bool.and_eq_true,decide_eq_true_iff,beq_iff_eq] at h0;obtain ⟨⟨h1,h2⟩,h3⟩:=h0;obtain ⟨m,hm⟩:∃ m:Nat,n=64*m:=⟨(n / 64).toNat,by omega⟩;have a0:n / 64=(m:Int):=by omega
 have hz:ze6 n=List.replicate m 0:=by unfold ze6;rw [a0];rfl
 have a1:=run_make_row' (P:=prog) 54 39 (.int .u64 0) 8 underlying54 infoU rfl .i64 .i64 m (by omega) (by omega);rw [made_words] at a1;have HR:=zjy h;have HM:=zjy hm;have HZ:=zjy hz;clear h hm h3 hz;go_enter func91,ntmps91
 go_wp2_with fail
 refine (zja n _ (by omega) (by omega)).mono ?_;rw [HR.o];rintro e w1 ⟨rfl,rfl⟩;go_wp2_with fail
 exact zai rfl rfl (zaf (zac rfl)) underlying56 rfl (by kernel_rfl)
  ⟨w.heap.size+1,m,rfl,HM.o,Nat.le_succ _,by rw [HZ.o];exact zac (by simp),((Below.refl _ _).alloc xnl _).alloc (by simp) _⟩
def BitsAt (w:World) (S:Nat->Prop) (v:Value) (b:BitsL):Prop:=∃ s,v = .agg #[.int .i64 b.len,s]/\Vec w S 1 zc7 s b.words
def zap (b:BitsL):Bool:=zda b.len && ((b.words.length:Int) == b.len / 64)
theorem zfq (S:Nat->Prop) (v:Value) (b:BitsL) (w:World) (h:BitsAt w S v b) (hn:-9223372036854775808<=b.len) (hn2:b.len<=9223372036854775807) :
  Calls prog 97 #[v] w fun e w'=>e = .returned (.bool (zap b))/\Below w.heap.size w w':=by
 obtain ⟨s,rfl,hv⟩:=h;obtain ⟨a,cap,rfl⟩:=hv.slice;clear hv;unfold zap;cases hr:zda b.len
 ·have HR:=zjy hr;clear hr
  go_enter func97,ntmps97
  go_wp2_with fail
  refine (zja _ _ hn hn2).mono ?_;rw [HR.o];rintro e w1 ⟨rfl,rfl⟩;go_wp2_with fail
  go_ret;exact ⟨rfl,(Below.refl _ _).alloc xnl _⟩
 ·have h0:=hr
  simp only [zda,Bool.and_eq_true,decide_eq_true_iff,beq_iff_eq] at h0;obtain ⟨⟨h1,h2⟩,h3⟩:=h0;have HR:=zjy hr;clear hr h3;go_enter func97,ntmps97
  go_wp2_with fail
  refine (zja _ _ hn hn2).mono ?_;rw [HR.o];rintro e w1 ⟨rfl,rfl⟩;go_wp2_with fail
  go_ret;exact ⟨rfl,(Below.refl _ _).alloc xnl _⟩
theorem bcheck_yes (p:ParL) (w:World) (h:ParOk p) :
  Calls prog 63 #[.agg #[.int .i64 p.len,.int .i64 p.hashes,.int .i64 p.salt]] w fun e w'=>e = .returned (.int .i64 0)/\Below w.heap.size w w':=by
 have hr:=h.right;have e1:decide (p.hashes<(1:Int))=false:=by have:=h.h1;simp;omega
 have e2:decide ((16:Int)<p.hashes)=false:=by have:=h.h2;simp;omega
 have e3:decide (p.salt<(-1:Int))=false:=by have:=h.s1;simp;omega
 have e4:decide ((5:Int)<=p.salt)=false:=by have:=h.s2;simp;omega
 clear h;go_enter func63,ntmps63
 go_wp2_with fail
 refine (zg5 _ _ hr).mono ?_;rintro e w1 ⟨g,m,rfl,-,hg,-,hb⟩;have HB:=zjy (xbt hb);have HX:=zjy (xbn hb);clear hb hg;have z0:=zaa HX.o;obtain ⟨p0,p1,p2⟩:=zan HX.o;go_wp2_with fail
 go_ret;exact ⟨rfl,HB.o.alloc HB.o.size _⟩
end
section
open Go.RowKit
theorem zbb {α:Type} (l:List α) (d:α) {i:Nat} (h:i<l.length):l.getD i d=l[i]:=by rw [List.getD,List.getElem?_eq_getElem h];rfl
def zf9 (x y:Int):Int:=if x<y then -1 else if y<x then 1 else 0
theorem cmp3_self (x:Int):zf9 x x=0:=by unfold zf9;simp
theorem cmp3_eq {x y:Int} (h:zf9 x y=0):x=y:=by
 unfold zf9 at h;split at h
 ·simp at h
 ·split at h
  ·simp at h
  ·omega
def cmpW:List Int->List Int->Int
 | [],[]=>0
 | [],_ :: _=>-1
 | _ :: _,[]=>1
 | x :: a,y :: b=>if zf9 x y=0 then cmpW a b else zf9 x y
theorem cmpW_self:∀ a:List Int,cmpW a a=0
 | []=>rfl
 | x :: a=>by unfold cmpW;rw [if_pos (cmp3_self x)];exact cmpW_self a
theorem cmpW_eq:∀ a b:List Int,cmpW a b=0->a=b
 | [],[],_=>rfl
 | [],_ :: _,h=>by simp [cmpW] at h
 | _ :: _,[],h=>by simp [cmpW] at h
 | x :: a,y :: b,h=>by
  unfold cmpW at h;split at h
  next h1=>rw [cmp3_eq h1,cmpW_eq a b h]
  next h1=>exact absurd h h1
theorem cmpW_nilr:∀ a:List Int,cmpW a []=if a.length=0 then 0 else 1
 | []=>rfl
 | _ :: _=>rfl
theorem cmpW_nill:∀ b:List Int,cmpW [] b=if b.length=0 then 0 else -1
 | []=>rfl
 | _ :: _=>rfl
theorem cmpW_drop {a b:List Int} {k:Nat} (h1:k<a.length) (h2:k<b.length):cmpW (a.drop k) (b.drop k)=if zf9 (a.getD k 0) (b.getD k 0)=0 then cmpW (a.drop (k+1)) (b.drop (k+1)) else zf9 (a.getD k 0) (b.getD k 0):=by
 rw [List.drop_eq_getElem_cons h1,List.drop_eq_getElem_cons h2,zbb _ _ h1,zbb _ _ h2];rfl
def orN:List Int->Int
 | []=>0
 | x :: l=>if x=0 then orN l else x
def cmpB (a b:BitsL):Int:=orN [zf9 a.len b.len,zf9 a.words.length b.words.length,cmpW a.words b.words]
theorem cmpB_self (a:BitsL):cmpB a a=0:=by simp [cmpB,orN,cmp3_self,cmpW_self]
theorem orN_zero:∀ {l:List Int},orN l=0->∀ x∈l,x=0
 | [],_,x,h=>by simp at h
 | y :: l,h,x,hx=>by
  unfold orN at h;split at h
  next h1 =>
   rcases List.mem_cons.1 hx with rfl | hx
   ·exact h1
   ·exact orN_zero h x hx
  next h1=>exact absurd h h1
theorem cmpB_eq {a b:BitsL} (h:cmpB a b=0):a=b:=by
 obtain ⟨n,u⟩:=a;obtain ⟨m,v⟩:=b;have h1:=orN_zero h (zf9 n m) (by simp);have h2:=orN_zero h (cmpW u v) (by simp);rw [cmp3_eq h1,cmpW_eq _ _ h2]
end
section
open Go.RowKit Cal
attribute [local go_sem] zag zaj
theorem zah {P:Program} {f:FuncId} {args:Array Value} {W:World} {K:Ending->World->Prop} (h:∀ w',w'=W->Calls P f args w' K):Calls P f args W K:=h W rfl
end
section
open Go.RowKit
def popI (x:Int):Int:=((zf4 64 x.toNat:Nat):Int)
theorem popI_bd (x:Int):0<=popI x/\popI x<=64:=by have:=zft 64 x.toNat;unfold popI;omega
def zdo (l:List Int):Int:=(l.map popI).sum
theorem sumPop_bd (l:List Int):0<=zdo l/\zdo l<=64*l.length:=by
 induction l with
 | nil=>simp [zdo]
 | cons x l ih =>
  have:=popI_bd x;have e:zdo (x :: l)=popI x+zdo l:=rfl;rw [e,List.length_cons];omega
theorem sumPop_app (a b:List Int):zdo (a++b)=zdo a+zdo b:=by
 induction a with
 | nil=>simp [zdo]
 | cons x a ih =>
  have e:zdo ((x :: a)++b)=popI x+zdo (a++b):=rfl;have e2:zdo (x :: a)=popI x+zdo a:=rfl;rw [e,e2,ih];omega
theorem sumPop_more (l:List Int) (k:Nat) (h:k<l.length):zdo (l.take (k+1))=zdo (l.take k)+popI l[k]:=by
 rw [List.take_succ_eq_append_getElem h,sumPop_app];simp [zdo]
def zcn (b:BitsL):Int:=if zap b=true then zdo b.words else 0
def zgx (l:List Int):Prop:=∀ x∈l,0<=x/\x<18446744073709551616
theorem zcw {b:BitsL} (h:zap b=true):(b.len=64*b.words.length/\64<=b.len/\b.len<=512)/\b.words.length<=8:=by
 unfold zap zda at h;simp only [Bool.and_eq_true,beq_iff_eq,decide_eq_true_eq] at h;omega
theorem zjs (b:BitsL):0<=zcn b/\zcn b<=512:=by
 unfold zcn;split
 ·next h=>have:=sumPop_bd b.words;have:=(zcw h).2;omega
 ·omega
theorem bcount_any (S:Nat->Prop) (v:Value) (b:BitsL) (w:World) (h:BitsAt w S v b) (h1:-9223372036854775808<=b.len) (h2:b.len<=9223372036854775807) (hw:zap b=true->zgx b.words) :
  Calls prog 111 #[v] w fun e w'=>e = .returned (.int .i64 (zcn b))/\Below w.heap.size w w':=by
 obtain ⟨s,rfl,hv⟩:=h;obtain ⟨a,b7,rfl⟩:=hv.slice;have HV:=zjy hv;clear hv;obtain ⟨r,hr⟩:=xex (zcn b);rw [hr];obtain ⟨vb,a7⟩:=xex (zap b);have a5:=zjy a7;go_enter func111,ntmps111
 go_wp2_with fail
 refine zah (fun W hW=>?_)
 have a4:=xal hW
 have a6:W.heap[w.heap.size]?=some (.cells #[.int .i64 b.len,.slice a b.words.length b7] 56 (0,0)):=by rw [hW];exact zac rfl
 clear hW;refine (zfq S _ b W ⟨_,rfl,HV.o.below a4⟩ h1 h2).mono ?_;rw [a7];rintro e w1 ⟨rfl,hb⟩;have a9:=zjy (a4.trans (hb.mono a4.size));have a3:=zab hb (zaa a6) a6;have lx:=zaa a3;obtain ⟨x0,x1⟩:=zae a3;have HX:=zjy a3;clear hb a4 a6 a3 a7;cases vb
 ·have b5:(0:Int)=r:=by rw [<- hr];unfold zcn;rw [if_neg (by rw [a5.o];simp)]
  clear hr;go_wp2_with fail
  go_ret;subst b5;exact ⟨rfl,a9.o⟩
 ·have a2:zdo b.words=r:=by rw [<- hr];unfold zcn;rw [if_pos a5.o]
  have b6:=(zcw a5.o).2;have HW:=zjy (hw a5.o);have HS:=zjy a2;obtain ⟨n,hn⟩:=xex (b.words.length);clear hr hw a2;have b2:=zjy (HV.o.below a9.o);have b1:=zjy hn;rw [hn] at x1 HX b6 b2;clear hn;go_wp2_with fail
  go_loopw [3,12] (fun m i wr=>wr=w1/\∃ k:Nat,k<=n/\i = .int .i64 k/\∃ q:Int,m = .int .i64 q/\0<=q/\q<=64*k/\Hid (zdo (b.words.take k)=q)) (fun _ i _=>n - (intOf i).toNat)
  case atStart=>exact ⟨rfl,0,by omega,rfl,0,rfl,by omega,by omega,zjy (by simp [zdo])⟩
  case round =>
   obtain ⟨rfl,k,hk,rfl,q,rfl,hq0,hq1,HQ⟩:=hrel;by_cases hlt:k<n
   ·have hq:decide ((k:Int)<n)=true:=by simp;omega
    have a1:k<b.words.length:=by rw [b1.o];exact hlt
    obtain ⟨bb,off,e,lb,hc⟩:=b2.o.get k a1;cases e;have c0:=hc 0 _ rfl;rw [Nat.mul_one,Nat.add_zero] at c0;obtain ⟨x,hx⟩:=xex (b.words[k]);have b3:=HW.o _ (List.getElem_mem a1);have a0:=sumPop_more b.words k a1;rw [hx] at c0 b3 a0;rw [HQ.o] at a0;obtain ⟨t,rfl⟩:∃ t:Nat,x=t:=⟨x.toNat,by omega⟩;have b0:popI (t:Int)=((zf4 64 t:Nat):Int):=by unfold popI;rw [Int.toNat_natCast]
    rw [b0] at a0;obtain ⟨u,hu⟩:∃ u:Nat,zf4 64 t=u:=⟨_,rfl⟩;have b4:u<=64:=by rw [<- hu];exact zft 64 t
    rw [hu] at a0;have HM:=zjy a0;have hwr:IntKind.i64.wrap (q+(u:Int))=q+(u:Int):=by rw [IntKind.wrap_i64];omega
    clear hc hx a0 b0 HQ;go_wp2_with fail
    refine (pop64_any t _ (by omega)).mono ?_;rw [hu];rintro e w' ⟨rfl,rfl⟩;clear hu;go_wp2_with fail
    go_roundw
    case rel=>exact ⟨trivial,k+1,by omega,by go_num,q+u,rfl,by omega,by omega,HM⟩
    case measure=>simp [intOf];omega
   ·have hq:decide ((k:Int)<n)=false:=by simp;omega
    have a8:q=r:=by
     rw [<- HS.o,<- HQ.o,List.take_of_length_le (by rw [b1.o];omega)]
    clear HQ;go_wp2_with fail
    go_ret;subst a8;exact ⟨rfl,a9.o⟩
end
section
structure GrpL where
 arr:BitsL
 mem:List Int
instance:Inhabited GrpL:=⟨⟨zch,[]⟩⟩
def addG:List GrpL->Int->BitsL->List GrpL
 | [],i,b=>[⟨b,[i]⟩]
 | g :: L,i,b=>if cmpB g.arr b=0 then ⟨g.arr,g.mem++[i]⟩ :: L else g :: addG L i b
theorem addG_new {i:Int} {b:BitsL}:∀ {L:List GrpL},(∀ g∈L,cmpB g.arr b≠0)->addG L i b=L++[⟨b,[i]⟩]
 | [],_=>rfl
 | g :: L,h=>by
  unfold addG;rw [if_neg (h g List.mem_cons_self),addG_new fun x hx=>h x (List.mem_cons_of_mem _ hx)];rfl
theorem addG_at {i:Int} {b:BitsL}:∀ (L:List GrpL) (j:Nat) (hj:j<L.length),(∀ t,t<j->cmpB (L.getD t default).arr b≠0)->cmpB L[j].arr b=0->addG L i b=L.set j ⟨L[j].arr,L[j].mem++[i]⟩:=by
 intro L;induction L with
 | nil=>intro j hj;simp at hj
 | cons g L ih =>
  intro j hj hl he;cases j with
  | zero=>unfold addG;rw [if_pos (by simpa using he)];rfl
  | succ j =>
   unfold addG;rw [if_neg (by simpa using hl 0 (by omega)),ih j (by simpa using hj) (fun t ht=>by simpa using hl (t+1) (by omega)) (by simpa using he)]
   rfl
structure GOk (L:List GrpL) (n:Nat):Prop where
 dist:L.Pairwise fun a b=>a.arr≠b.arr
 asc:L.Pairwise fun a b=>a.mem.getD 0 0<b.mem.getD 0 0
 some:∀ g∈L,1<=g.mem.length
 low:∀ g∈L,∀ m∈g.mem,0<=m/\m<(n:Int)
 few:L.length<=n
 mems:∀ g∈L,g.mem.length<=n
 val:∀ g∈L,zap g.arr=true
theorem GOk.nil (n:Nat):GOk [] n:=⟨List.Pairwise.nil,List.Pairwise.nil,by simp,by simp,by simp,by simp,by simp⟩
theorem GOk.skip {L:List GrpL} {n:Nat} (h:GOk L n):GOk L (n+1) :=
 ⟨h.dist,h.asc,h.some,fun g hg m hm=>⟨(h.low g hg m hm).1,by have:=(h.low g hg m hm).2;omega⟩,by have:=h.few;omega,fun g hg=>by have:=h.mems g hg;omega,h.val⟩
theorem zh2 {L:List GrpL} {i:Int} {b:BitsL} {g:GrpL} (h:g∈addG L i b):g∈L\/(g=⟨b,[i]⟩/\∀ x∈L,cmpB x.arr b≠0)\/∃ x∈L,cmpB x.arr b=0/\g=⟨x.arr,x.mem++[i]⟩:=by
 induction L with
 | nil=>simp [addG] at h;exact .inr (.inl ⟨h,by simp⟩)
 | cons c L ih =>
  unfold addG at h;split at h
  ·next h1 =>
   rcases List.mem_cons.1 h with h2 | h2
   ·exact .inr (.inr ⟨c,List.mem_cons_self,h1,h2⟩)
   ·exact .inl (List.mem_cons_of_mem _ h2)
  ·next h1 =>
   rcases List.mem_cons.1 h with h2 | h2
   ·exact .inl (by rw [h2];exact List.mem_cons_self)
   ·rcases ih h2 with h3 | ⟨h3,h4⟩ | ⟨x,h3,h4⟩
    ·exact .inl (List.mem_cons_of_mem _ h3)
    ·refine .inr (.inl ⟨h3,fun x hx=>?_⟩)
     rcases List.mem_cons.1 hx with h5 | h5
     ·rw [h5];exact h1
     ·exact h4 x h5
    ·exact .inr (.inr ⟨x,List.mem_cons_of_mem _ h3,h4⟩)
theorem addG_len (L:List GrpL) (i:Int) (b:BitsL):(addG L i b).length<=L.length+1:=by
 induction L with
 | nil=>simp [addG]
 | cons c L ih =>
  unfold addG;split
  ·simp
  ·simp only [List.length_cons];omega
theorem getD_snoc0 (l:List Int) (x:Int) (h:1<=l.length):(l++[x]).getD 0 0=l.getD 0 0:=by
 cases l with
 | nil=>simp at h
 | cons y l=>rfl
theorem head_low {l:List Int} {n:Nat} (h1:1<=l.length) (h:∀ m∈l,0<=m/\m<(n:Int)):l.getD 0 0<(n:Int):=by
 cases l with
 | nil=>simp at h1
 | cons y l=>exact (h y List.mem_cons_self).2
theorem addG_dist {L:List GrpL} {n:Nat} {i:Int} {b:BitsL} (h:L.Pairwise fun a b=>a.arr≠b.arr):(addG L i b).Pairwise fun a b=>a.arr≠b.arr:=by
 induction L with
 | nil=>simp [addG]
 | cons c L ih =>
  have h1:=List.pairwise_cons.1 h;unfold addG;split
  ·exact List.pairwise_cons.2 ⟨h1.1,h1.2⟩
  ·next hc =>
   refine List.pairwise_cons.2 ⟨fun g hg=>?_,ih h1.2⟩
   rcases zh2 hg with h2 | ⟨h2,_⟩ | ⟨x,h2,_,h3⟩
   ·exact h1.1 g h2
   ·rw [h2];intro e;exact hc (by rw [e];exact cmpB_self b)
   ·rw [h3];exact h1.1 x h2
theorem addG_asc {L:List GrpL} {n:Nat} {b:BitsL} (h:L.Pairwise fun a b=>a.mem.getD 0 0<b.mem.getD 0 0) (hs:∀ g∈L,1<=g.mem.length) (hl:∀ g∈L,∀ m∈g.mem,0<=m/\m<(n:Int)):(addG L n b).Pairwise fun a b=>a.mem.getD 0 0<b.mem.getD 0 0:=by
 induction L with
 | nil=>simp [addG]
 | cons c L ih =>
  have h1:=List.pairwise_cons.1 h;unfold addG;split
  ·refine List.pairwise_cons.2 ⟨fun g hg=>?_,h1.2⟩
   show (c.mem++[(n:Int)]).getD 0 0<_;rw [getD_snoc0 _ _ (hs c List.mem_cons_self)];exact h1.1 g hg
  ·refine List.pairwise_cons.2 ⟨fun g hg=>?_,ih h1.2 (fun g hg=>hs g (List.mem_cons_of_mem _ hg)) (fun g hg=>hl g (List.mem_cons_of_mem _ hg))⟩
   rcases zh2 hg with h2 | ⟨h2,_⟩ | ⟨x,h2,_,h3⟩
   ·exact h1.1 g h2
   ·rw [h2];exact head_low (hs c List.mem_cons_self) (hl c List.mem_cons_self)
   ·rw [h3]
    show _<(x.mem++[(n:Int)]).getD 0 0;rw [getD_snoc0 _ _ (hs x (List.mem_cons_of_mem _ h2))];exact h1.1 x h2
theorem GOk.add {L:List GrpL} {n:Nat} {b:BitsL} (h:GOk L n) (hv:zap b=true):GOk (addG L n b) (n+1):=by
 refine ⟨addG_dist (n:=n) h.dist,addG_asc h.asc h.some h.low,fun g hg=>?_,fun g hg m hm=>?_,?_,fun g hg=>?_,fun g hg=>?_⟩
 ·rcases zh2 hg with h2 | ⟨h2,_⟩ | ⟨x,h2,_,h3⟩
  ·exact h.some g h2
  ·rw [h2];simp
  ·rw [h3];simp
 ·rcases zh2 hg with h2 | ⟨h2,_⟩ | ⟨x,h2,_,h3⟩
  ·have:=h.low g h2 m hm;omega
  ·rw [h2] at hm;simp at hm;omega
  ·rw [h3] at hm
   rcases List.mem_append.1 hm with h4 | h4
   ·have:=h.low x h2 m h4;omega
   ·simp at h4;omega
 ·have:=addG_len L n b;have:=h.few;omega
 ·rcases zh2 hg with h2 | ⟨h2,_⟩ | ⟨x,h2,_,h3⟩
  ·have:=h.mems g h2;omega
  ·rw [h2];simp
  ·rw [h3];have:=h.mems x h2;simp;omega
 ·rcases zh2 hg with h2 | ⟨h2,_⟩ | ⟨x,h2,_,h3⟩
  ·exact h.val g h2
  ·rw [h2];exact hv
  ·rw [h3];exact h.val x h2
def zfk (L:List GrpL):Nat->List BitsL->List GrpL
 | _,[]=>L
 | n,b :: C=>zfk (if zap b=true then addG L n b else L) (n+1) C
def zd0 (C:List BitsL):List GrpL:=zfk [] 0 C
theorem GOk.all:∀ (C:List BitsL) {L:List GrpL} {n:Nat},GOk L n->GOk (zfk L n C) (n+C.length)
 | [],_,_,h=>h
 | b :: C,L,n,h=>by
  unfold zfk;have:n+(b :: C).length=(n+1)+C.length:=by simp;omega
  rw [this];refine GOk.all C ?_;split
  ·next hv=>exact h.add hv
  ·exact h.skip
theorem groups_ok (C:List BitsL):GOk (zd0 C) C.length:=by have:=GOk.all C (GOk.nil 0);rwa [Nat.zero_add] at this
def zbt (l:List Int) (x:Int):Int × Bool:=(((l.countP fun y=>decide (x<y):Nat):Int),decide (l.countP (fun y=>decide (y=x))=1))
theorem count_split (l:List Int) (i:Nat) (hi:i<l.length) (p:Int->Bool):l.countP p=(l.take i).countP p+(if p l[i]=true then 1 else 0)+(l.drop (i+1)).countP p:=by
 have h1:l.countP p=(l.take i++l[i] :: l.drop (i+1)).countP p:=by rw [<- List.drop_eq_getElem_cons hi,List.take_append_drop]
 rw [h1,List.countP_append,List.countP_cons];omega
theorem count_one {l:List Int} {i:Nat} (hi:i<l.length):l.countP (fun y=>decide (y=l[i]))=1 ↔ ∀ k,(hk:k<l.length)->k≠i->l[k]≠l[i]:=by
 have h2:l.countP (fun y=>decide (y=l[i]))=(l.take i).countP (fun y=>decide (y=l[i]))+1+(l.drop (i+1)).countP (fun y=>decide (y=l[i])):=by
  rw [count_split l i hi];simp
 rw [h2];constructor
 ·intro h k hk hki e
  have h3:(l.take i).countP (fun y=>decide (y=l[i]))=0:=by omega
  have h4:(l.drop (i+1)).countP (fun y=>decide (y=l[i]))=0:=by omega
  rw [List.countP_eq_zero] at h3 h4
  rcases Nat.lt_or_ge k i with h5 | h5
  ·have hm:l[k]∈l.take i:=List.mem_iff_getElem.2 ⟨k,by rw [List.length_take];omega,by rw [List.getElem_take]⟩
   exact h3 _ hm (by simpa using e)
  ·have hm:l[k]∈l.drop (i+1):=List.mem_iff_getElem.2 ⟨k - (i+1),by rw [List.length_drop];omega,by rw [List.getElem_drop];congr 1;omega⟩
   exact h4 _ hm (by simpa using e)
 ·intro h
  have h3:(l.take i).countP (fun y=>decide (y=l[i]))=0:=by
   rw [List.countP_eq_zero];intro y hy;obtain ⟨k,hk,rfl⟩:=List.mem_iff_getElem.1 hy;rw [List.length_take] at hk;rw [List.getElem_take];simpa using h k (by omega) (by omega)
  have h4:(l.drop (i+1)).countP (fun y=>decide (y=l[i]))=0:=by
   rw [List.countP_eq_zero];intro y hy;obtain ⟨k,hk,rfl⟩:=List.mem_iff_getElem.1 hy;rw [List.length_drop] at hk;rw [List.getElem_drop];simpa using h (i+1+k) (by omega) (by omega)
  omega
def zao (G:List GrpL):List Int:=G.map fun g=>(g.mem.length:Int)
def zdp (G:List GrpL):Int:=((zao G).map fun x=>if (zbt (zao G) x).2=true then x else 0).sum
abbrev zc2:=List UInt8 × Int
def zby (D:List zc2):List Int:=D.map Prod.snd
def hitE (D:List zc2) (r:Int) (d:zc2):Bool:=decide (zbt (zby D) d.2=(r,true))
def zcr (S:List Int) (D:List zc2) (i:Nat):List (Int × List UInt8) :=
 if (zbt S (S.getD i 0)).2=true then (D.filter (hitE D (zbt S (S.getD i 0)).1)).map fun d=>((i:Int),d.1) else []
def zd7 (S:List Int) (D:List zc2):List (Int × List UInt8):=(List.range S.length).flatMap (zcr S D)
theorem rank_one {l:List Int} {i k:Nat} (hi:i<l.length) (hk:k<l.length) {r:Int} (h1:zbt l l[i]=(r,true)) (h2:zbt l l[k]=(r,true)):i=k:=by
 by_cases e:i=k
 ·exact e
 exfalso;have s1:l.countP (fun y=>decide (y=l[i]))=1:=by have:=congrArg Prod.snd h1;simpa [zbt] using this
 have a1:l[k]≠l[i]:=(count_one hi).1 s1 k hk (Ne.symm e);have r1:((l.countP fun y=>decide (l[i]<y):Nat):Int)=r:=by have:=congrArg Prod.fst h1;simpa [zbt] using this
 have r2:((l.countP fun y=>decide (l[k]<y):Nat):Int)=r:=by have:=congrArg Prod.fst h2;simpa [zbt] using this
 have a0:∀ (a b:Int),b∈l->a<b->(l.countP fun y=>decide (b<y))<(l.countP fun y=>decide (a<y)):=by
  intro a b hb a2
  have h3:(l.countP fun y=>decide (b<y))+(l.countP fun y=>decide (y=b))<=l.countP fun y=>decide (a<y):=by
   clear hb h1 h2 s1 r1 r2 a1 hi hk;induction l with
   | nil=>simp
   | cons c l ih =>
    rw [List.countP_cons,List.countP_cons,List.countP_cons];by_cases h4:b<c
    ·have h5:c≠b:=by omega
     have h6:a<c:=by omega
     simp [h4,h5,h6];omega
    ·by_cases h5:c=b
     ·have h6:a<c:=by omega
      simp [h4,h5,h6];have:a<b:=a2;simp [this];omega
     ·simp [h4,h5];split <;> omega
  have h4:0<l.countP fun y=>decide (y=b):=List.countP_pos_iff.2 ⟨b,hb,by simp⟩
  omega
 rcases (by omega:l[i]<l[k]\/l[k]<l[i]) with h | h
 ·have:=a0 _ _ (List.getElem_mem hk) h;omega
 ·have:=a0 _ _ (List.getElem_mem hi) h;omega
def zhj (G:List GrpL) (V:List (List UInt8)) (gs:List (Int × List UInt8)):Int:=(gs.map fun g=>(((G.getD g.1.toNat default).mem.countP fun m=>decide (V.getD m.toNat []=g.2):Nat):Int)).sum
end
section
open Go.RowKit
theorem popK_next (r x:Nat):zf4 (r+1) x=zf4 r x+(x / 2 ^ r) % 2:=by
 rw [zgb r 1 x];simp [zf4]
def bitN (ws:List Int) (i:Nat):Nat:=((ws.getD (i / 64) 0).toNat / 2 ^ (i % 64)) % 2
def bitsTo (ws:List Int) (i:Nat):Int:=zdo (ws.take (i / 64))+((zf4 (i % 64) (ws.getD (i / 64) 0).toNat:Nat):Int)
theorem bitN_le (ws:List Int) (i:Nat):bitN ws i<=1:=by unfold bitN;omega
theorem bitsTo_next {ws:List Int} {i:Nat} (h:i<64*ws.length):bitsTo ws (i+1)=bitsTo ws i+((bitN ws i:Nat):Int):=by
 unfold bitsTo bitN;have hq:i / 64<ws.length:=by omega
 rcases (by omega:(i+1) % 64=i % 64+1/\(i+1) / 64=i / 64\/(i+1) % 64=0/\(i+1) / 64=i / 64+1/\i % 64=63) with ⟨h1,h2⟩ | ⟨h1,h2,h3⟩
 ·rw [h1,h2,popK_next];omega
 ·rw [h1,h2,h3,sumPop_more ws (i / 64) hq]
  have e:popI ws[i / 64]=((zf4 64 (ws.getD (i / 64) 0).toNat:Nat):Int):=by unfold popI;rw [List.getD,List.getElem?_eq_getElem hq];rfl
  rw [e,popK_next 63];simp only [zf4];omega
theorem bitsTo_zero (ws:List Int):bitsTo ws 0=0:=by simp [bitsTo,zdo,zf4]
theorem bitsTo_all (ws:List Int):bitsTo ws (64*ws.length)=zdo ws:=by
 unfold bitsTo;rw [show 64*ws.length / 64=ws.length by omega,show 64*ws.length % 64=0 by omega,List.take_length];simp [zf4]
def lone (L:List Int) (i k:Nat):Bool:=(List.range k).all fun j=>decide (j=i) || decide (L.getD j 0≠L.getD i 0)
theorem lone_next (L:List Int) (i k:Nat):lone L i (k+1)=(lone L i k && (decide (k=i) || decide (L.getD k 0≠L.getD i 0))):=by
 unfold lone;rw [List.range_succ,List.all_append];simp
theorem lone_all {L:List Int} {i:Nat} (hi:i<L.length):lone L i L.length=(zbt L L[i]).2:=by
 show lone L i L.length=decide (L.countP (fun y=>decide (y=L[i]))=1)
 rw [Bool.eq_iff_iff,decide_eq_true_eq,count_one hi];unfold lone;simp only [List.all_eq_true,List.mem_range,Bool.or_eq_true,decide_eq_true_eq];constructor
 ·intro h k hk a0 e
  rcases h k hk with h1 | h1
  ·exact a0 h1
  ·rw [zbb _ _ hk,zbb _ _ hi] at h1;exact h1 e
 ·intro h k hk
  by_cases e:k=i
  ·exact .inl e
  ·right;rw [zbb _ _ hk,zbb _ _ hi];exact h k hk e
theorem guess_fold (S:List Int) (D:List zc2) (i:Nat) (h:(zbt S (S.getD i 0)).2=true):zcr S D i=(D.filter (hitE D (zbt S (S.getD i 0)).1)).map fun d=>((i:Int),d.1):=by
 unfold zcr;rw [if_pos h]
structure Alike (C C':List BitsL):Prop where
 len:C.length=C'.length
 val:∀ i,(h:i<C.length)->(h':i<C'.length)->zap C[i]=zap C'[i]
 eq:∀ i j,(h:i<C.length)->(h':i<C'.length)->(k:j<C.length)->(k':j<C'.length)->j<i->(cmpB C[j] C[i]=0 ↔ cmpB C'[j] C'[i]=0)
inductive Step (C C':List BitsL) (n:Nat):List GrpL->List GrpL->Prop where
 | nil:Step C C' n [] []
 | cons (j:Nat) (m:List Int) {L L':List GrpL} (hj:j<n) (h:j<C.length) (h':j<C'.length):Step C C' n L L'->Step C C' n (⟨C[j],m⟩ :: L) (⟨C'[j],m⟩ :: L')
end
section
open Go.RowKit
theorem ins_int {P:Program} {w:World} {mty kt et:TypeId} {r:Nat} {es:Array MapEntry} {clock:Nat} (k:Int) (v:Value) (hm:P.underlying mty=some (.map kt et)) (hd:P.underlying kt=some (.int .i64)) (hb:w.heap[r]?=some (.map es clock)) (h1:Instr.findNow (.int .i64) (.int .i64 k) es.toList 0=some none) :
  ∃ w',(Instr.mapUpdate mty (.map (some r)) (.int .i64 k) v).run P w = .ok () w'/\w'.heap[r]?=some (.map (es.push { key:=.int .i64 k,val:=v,born:=clock }) (clock+1))/\w.grownBy w' (some r):=by
 refine ⟨{ w with heap:=w.heap.setIfInBounds r (.map (es.push { key:=.int .i64 k,val:=v,born:=clock }) (clock+1)) },?_,(MapKept.heap_set hb).1,?_⟩
 ·simp [Instr.mapUpdate,run_underlying hm,MapKept.run_getObj_map hb,MapKept.run_checkKey hd (k:=.int .i64 k) (by simp [MapKept.IsKey]),MapKept.run_findKey hd h1,MapKept.run_setObj_map _ hb,Result.andThen]
 ·exact ⟨rfl,rfl,rfl,by simp,fun i _ hi=>(MapKept.heap_set hb).2 i (fun e=>hi (by rw [e]))⟩
end
section
open Go.RowKit
section
variable {P:Program}
end
theorem flat_takeK {α:Type} {k:Nat} {enc:α->List Value} (hk:∀ x,(enc x).length=k):∀ (L:List α) (i:Nat),(L.take i).flatMap enc=(L.flatMap enc).take (i*k)
 | [],i=>by simp
 | x :: L,0=>by simp
 | x :: L,i+1=>by
  rw [List.take_succ_cons,List.flatMap_cons,List.flatMap_cons,flat_takeK hk L i,List.take_append,hk,Nat.succ_mul,show i*k+k - k=i*k by omega,List.take_of_length_le (l:=enc x) (by rw [hk];omega)]
theorem flat_dropK {α:Type} {k:Nat} {enc:α->List Value} (hk:∀ x,(enc x).length=k):∀ (L:List α) (i:Nat),(L.drop i).flatMap enc=(L.flatMap enc).drop (i*k)
 | [],i=>by simp
 | x :: L,0=>by simp
 | x :: L,i+1=>by
  rw [List.drop_succ_cons,List.flatMap_cons,flat_dropK hk L i,List.drop_append,hk,Nat.succ_mul,show i*k+k - k=i*k by omega,List.drop_eq_nil_of_le (show (enc x).length<=i*k+k by rw [hk];omega)];rfl
def zg6 (B:Nat) (v:Value) (x:Nat):Prop:=B<=x/\some x≠v.ownBlock
section
variable {α:Type} {P:Program} {w:World} {ops:Array Oper} {rest:List Oper} {o:Oper} {a:Act} {Q:Exit->Act->World->Prop}
theorem zc8 (hgd:o.guard=none) (s x:Operand) (t:TypeId) (ho:o.op = .call { callee:=.builtin .append,args:=#[s,x],argTypes:=#[t,t] })
  (e:TypeId) (z:Value) (size bytes:Nat) (enc:α->List Value) (hk:∀ x,(enc x).length=size) (h1:∀ x,∀ u∈enc x,u.oneCell'=true) (ht:P.underlying t=some (.slice e)) (hinfo:(P.info? e).map (fun i=>(i.zero,i.size,i.bytes))=some (some z,size,bytes))
  (hzs:z.cells.size=size) (hsz:0<size) (hby:bytes<=128) {w0:World} {v u:Value} {A B:List α} (hs:a.eval s=v) (hown:OwnV e size enc w0 v A w) (hx:a.eval x=u) (hr:zck w size u B.length (B.flatMap enc)) (hn:A.length+B.length<=1000000000)
  (h:∀ v' w',OwnV e size enc w0 v' (A++B) w'->(∀ k o,some k≠v.ownBlock->w.heap[k]?=some o->w'.heap[k]?=some o)->w.heap.size<=w'.heap.size->(v'.ownBlock=none\/v.ownBlock=v'.ownBlock\/v'.ownBlock=some w.heap.size)->wpList P ops Q rest (a.put o.dst v') w'):wpList P ops Q (o :: rest) a w:=by
 refine wpList_plain hgd fun K hK=>?_
 refine zdn s x t ho w0.heap.size e z size bytes ht hinfo hzs hsz v A.length (A.flatMap enc) hs hown.1 u B.length (B.flatMap enc) hx hr (fun u hu=>?_) (by unfold maxLen;omega) ?_ hown.2.size ?_
 ·obtain ⟨y,_,hy⟩:=List.mem_flatMap.1 hu
  exact h1 y u hy
 ·exact Nat.le_trans (Nat.mul_le_mul hn hby) (by decide)
 ·intro v' w' a0 hg a1
  refine hK _ _ (h v' w' ⟨by rw [List.length_append,List.flatMap_append];exact a0,hown.2.grown hg hown.2.size fun k hk=>?_⟩ (fun k o hk hko=>(hg.block k (zaa hko) hk).trans hko) hg.size a1)
  rcases hown.1.2 with ⟨rfl,_⟩ | ⟨g,cap,cur,rfl,hg1,_⟩
  ·simp [Value.ownBlock] at hk
  ·have:g=k:=by simpa [Value.ownBlock] using hk
   omega
end
end
section
end
section
open Go.RowKit
structure BkV where
 h:Int
 a:Option Addr
 n:Nat
 c:Nat
 ids:List Int
instance:Inhabited BkV:=⟨⟨0,none,0,0,[]⟩⟩
theorem zdb {w w':World} {B e size n:Nat} {v:Value} {xs:List Value} {r:Option Nat} (h:w.ownsRow B e size v n xs) (hk:∀ k o,some k≠r->w.heap[k]?=some o->w'.heap[k]?=some o) (hr:v.ownBlock=none\/v.ownBlock≠r):w'.ownsRow B e size v n xs:=by
 refine ⟨h.1,?_⟩
 rcases h.2 with h0 | ⟨g,cap,cur,hv,hg,hh,rest⟩
 ·exact .inl h0
 ·refine .inr ⟨g,cap,cur,hv,hg,hk g _ ?_ hh,rest⟩
  rcases hr with h1 | h1
  ·rw [hv] at h1;cases h1
  ·rw [hv] at h1;exact h1
theorem flat_setK {α:Type} {k:Nat} {enc:α->List Value} (hk:∀ x,(enc x).length=k) (L:List α) (j:Nat) (x:α) (hj:j<L.length):(L.set j x).flatMap enc=(L.flatMap enc).take (j*k)++enc x++(L.flatMap enc).drop ((j+1)*k):=by
 rw [List.set_eq_take_append_cons_drop,if_pos hj,List.flatMap_append,List.flatMap_cons,flat_takeK hk,flat_dropK hk,List.append_assoc]
abbrev encIn (x:Int):List Value:=[.int .i64 x]
theorem encIn_flat (l:List Int):l.flatMap encIn=l.map (Value.int .i64):=by
 induction l with
 | nil=>rfl
 | cons x l ih=>rw [List.flatMap_cons,ih];rfl
end
section
open Go.RowKit
theorem cell1 {w:World} {b:Nat} {x:Value} {t:TypeId} {fr:Nat × Nat} (h:w.heap[b]?=some (.cells #[x] t fr)):w.cell? ⟨b,0,none⟩=some x:=by rw [cell_of_row _ _ _ _ _ _ h];rfl
end
section
open Go.RowKit
structure KeptBut (T:Nat->Prop) (w w':World):Prop where
 os:w'.os=w.os
 tape:w'.tape=w.tape
 output:w'.output=w.output
 size:w.heap.size<=w'.heap.size
 block:∀ k,k<w.heap.size->¬ T k->w'.heap[k]?=w.heap[k]?
theorem KeptBut.refl (T:Nat->Prop) (w:World):KeptBut T w w:=⟨rfl,rfl,rfl,Nat.le_refl _,fun _ _ _=>rfl⟩
theorem KeptBut.trans {T:Nat->Prop} {a b c:World} (h:KeptBut T a b) (k:KeptBut T b c):KeptBut T a c :=
 ⟨k.os.trans h.os,k.tape.trans h.tape,k.output.trans h.output,Nat.le_trans h.size k.size,fun i hi ht=>(k.block i (Nat.lt_of_lt_of_le hi h.size) ht).trans (h.block i hi ht)⟩
theorem KeptBut.below {T:Nat->Prop} {a b:World} {B:Nat} (h:KeptBut T a b) (hB:∀ k,k<B->¬ T k) (hs:B<=a.heap.size):Below B a b:=⟨h.os,h.tape,h.output,h.size,fun k hk=>h.block k (by omega) (hB k hk)⟩
theorem KeptBut.ofBelow {T:Nat->Prop} {a b:World} (h:Below a.heap.size a b):KeptBut T a b:=⟨h.os,h.tape,h.output,h.size,fun k hk _=>h.block k hk⟩
theorem KeptBut.set {T:Nat->Prop} {a b:World} (h:KeptBut T a b) {p:Addr} (hp:T p.block) (v:Value):KeptBut T a (b.setCell p v) :=
 ⟨h.os,h.tape,h.output,by simpa [World.setCell] using h.size,fun k hk hn=>(heap_setCell_other _ _ _ _ (fun e=>hn (by rw [e];exact hp))).trans (h.block k hk hn)⟩
theorem KeptBut.drew {T:Nat->Prop} {a b:World} (h:KeptBut T a b):KeptBut T a b.drew:=⟨h.os,h.tape,h.output,h.size,h.block⟩
theorem KeptBut.blk {T:Nat->Prop} {a b:World} (h:KeptBut T a b) {k:Nat} {o:Obj} (hk:¬ T k) (ho:a.heap[k]?=some o):b.heap[k]?=some o:=(h.block k (zaa ho) hk).trans ho
abbrev oneI (x:Int):Obj:=.cells #[.int .i64 x] 3 (0,0)
abbrev parC (p:ParL):Array Value:=#[.int .i64 p.len,.int .i64 p.hashes,.int .i64 p.salt]
structure ClosAt (w:World) (nb yb pb xb:Nat) (p:ParL) (x y:Int):Prop where
 n:w.heap[nb]?=some (oneI x)
 y:w.heap[yb]?=some (oneI y)
 p:w.heap[pb]?=some (.cells (parC p) 87 (0,0))
 x:∃ z,w.heap[xb]?=some (oneI z)
 ne1:nb≠yb
 ne2:nb≠pb
 ne3:nb≠xb
 ne4:xb≠yb
 ne5:xb≠pb
theorem bnext_any (nb yb pb xb:Nat) (p:ParL) (x y:Int) (w:World) (h:ClosAt w nb yb pb xb p x y) (hp:ParOk p) (hx:0<=x) (hx2:x<p.len) (hy:1<=y) (hy2:y<=1000) :
  Calls prog 242 #[.pointer (some ⟨nb,0,none⟩),.pointer (some ⟨yb,0,none⟩),.pointer (some ⟨pb,0,none⟩),.pointer (some ⟨xb,0,none⟩)] w fun e w' =>
   e = .returned (.int .i64 x)/\ClosAt w' nb yb pb xb p ((x+y) % p.len) y/\KeptBut (fun k=>k=nb\/k=xb) w w':=by
 obtain ⟨hn,a0,a1,⟨z,hz⟩,ne1,ne2,ne3,ne4,ne5⟩:=h;have hl1:=hp.len1;have hl2:=hp.len2;have hl0:p.len≠0:=by omega
 have a2:IntKind.i64.wrap (x+y)=x+y:=by rw [IntKind.wrap_i64];omega
 have hw:(IntKind.i64.wrap (x+y)).tmod p.len=(x+y) % p.len:=by rw [a2,Int.tmod_eq_emod_of_nonneg (by omega)]
 clear a2;have c0:=cell1 hn;have c1:=cell1 a0;have c2:=cell1 hz;obtain ⟨q0,q1,q2⟩:=zan a1;have f0:=frozen_of_row _ _ 0 _ _ hn;have f1:=frozen_of_row _ _ 0 _ _ hz;have z0:=zaa hn;have z1:=zaa hz;have H1:=zjy hn;have H2:=zjy a0;have H3:=zjy a1;have H4:=zjy hz;clear hn a0 a1 hz hp;go_enter func242,ntmps242
 go_wp2_with fail
 refine wp_region_noPanic ?_
 refine zaw (by kernel_rfl) (fun w'=>w'.cell? ⟨nb,0,none⟩=some (.int .i64 x)/\w'.cell? ⟨yb,0,none⟩=some (.int .i64 y)/\w'.cell? ⟨pb,0,none⟩=some (.int .i64 p.len)) 8 (⟨c0,c1,q0⟩) (fun hHeld=>?_)
 refine tK 0 ?_;refine tK 1 ?_;refine tK 2 ?_;refine tK 3 ?_;refine tK 4 ?_;refine tK 5 ?_;refine tK 6 ?_;have g0:∀ v,(w.setCell ⟨xb,0,none⟩ v).cell? ⟨nb,0,none⟩=some (.int .i64 x):=fun v=>by rw [cell1 (zam H1.o ne3)]
 have g1:∀ v,(w.setCell ⟨xb,0,none⟩ v).cell? ⟨yb,0,none⟩=some (.int .i64 y):=fun v=>by rw [cell1 (zam H2.o (Ne.symm ne4))]
 have g2:∀ v,(w.setCell ⟨xb,0,none⟩ v).cell? ⟨pb,0,none⟩=some (.int .i64 p.len):=fun v=>(zan (zam H3.o (Ne.symm ne5))).1
 refine xrK 7 rfl fun K hK=>?_
 go_simp
 refine zbc hK (⟨g0 _,g1 _,g2 _⟩) (fun hHeld=>?_)
 clear hK K;have g3:∀ v,(w.setCell ⟨xb,0,none⟩ v).frozen? ⟨nb,0,none⟩=false:=fun v=>frozen_of_row _ _ 0 _ _ (zam H1.o ne3)
 refine xrK 8 rfl fun K hK=>?_
 go_simp;refine zav hK (by decide) ?_;clear hK K;refine zas (by kernel_rfl) ?_ _;refine NoPanic.normal ?_;clear g0 g1 g2 g3;have e1:=zad (i:=0) (v:=.int .i64 x) H4.o;have e2:((w.setCell ⟨xb,0,none⟩ (.int .i64 x)).setCell ⟨nb,0,none⟩ (.int .i64 ((x+y) % p.len))).heap[xb]?=some (oneI x):=zam e1 (Ne.symm ne3);have g4:((w.setCell ⟨xb,0,none⟩ (.int .i64 x)).setCell ⟨nb,0,none⟩ (.int .i64 ((x+y) % p.len))).cell? ⟨xb,0,none⟩=some (.int .i64 x):=cell1 e2;go_wp2_with fail
 go_ret;refine ⟨rfl,⟨?_,?_,?_,⟨x,?_⟩,ne1,ne2,ne3,ne4,ne5⟩,?_⟩
 ·exact zad (i:=0) (v:=.int .i64 ((x+y) % p.len)) (zam H1.o ne3)
 ·exact zam (zam H2.o (Ne.symm ne4)) (Ne.symm ne1)
 ·exact zam (zam H3.o (Ne.symm ne5)) (Ne.symm ne2)
 ·exact e2
 ·exact (((KeptBut.refl _ w).set (p:=⟨xb,0,none⟩) (.inr rfl) _).set (p:=⟨nb,0,none⟩) (.inl rfl) _).drew
theorem zjd (ka kb:Int) (L:List (List UInt8)):0<=zdk ka kb L/\zdk ka kb L<18446744073709551616:=by
 unfold zdk sumP xr;exact ziw _ _ _
def DrawnPost (p:ParL) (k:Int × Int) (g:List UInt8) (w:World) (e:Ending) (w':World):Prop :=
 ∃ nb yb pb xb:Nat,e = .returned (.func (.func 242) #[] #[.pointer (some ⟨nb,0,none⟩),.pointer (some ⟨yb,0,none⟩),.pointer (some ⟨pb,0,none⟩),.pointer (some ⟨xb,0,none⟩)]) /\
  ClosAt w' nb yb pb xb p (zgs p k g) (zib p k g)/\(w.heap.size<=nb/\w.heap.size<=xb/\w.heap.size<=yb/\w.heap.size<=pb)/\Below w.heap.size w w'
theorem drawn_any (p:ParL) (k:Int × Int) (g:List UInt8) (w:World) (hp:ParOk p) (hg:g.length<=60000) :
  Calls prog 219 #[.agg (parC p),.agg #[.int .u64 k.1,.int .u64 k.2],zak g] w (DrawnPost p k g w):=by
 have hl1:=hp.len1;have hl2:=hp.len2;have c6:p.len≠0:=by omega
 have c5:p.len - 1≠0:=by omega
 obtain ⟨h0,h1⟩:=zjd k.1 k.2 [[49],g];obtain ⟨h2,h3⟩:=zjd k.1 k.2 [[50],g];have hw1:IntKind.u64.wrap p.len=p.len:=by rw [IntKind.wrap_u64];omega
 have hw2:IntKind.i64.wrap (p.len - 1)=p.len - 1:=by rw [IntKind.wrap_i64];omega
 have hw3:IntKind.u64.wrap (p.len - 1)=p.len - 1:=by rw [IntKind.wrap_u64];omega
 obtain ⟨X,hX⟩:=xex (zgs p k g);obtain ⟨Y,hY⟩:=xex ((zdk k.1 k.2 [[50],g]) % (p.len - 1));have hm1:(zdk k.1 k.2 [[49],g]).tmod p.len=X:=by rw [<- hX,Int.tmod_eq_emod_of_nonneg h0];rfl
 have hm2:(zdk k.1 k.2 [[50],g]).tmod (p.len - 1)=Y:=by rw [<- hY,Int.tmod_eq_emod_of_nonneg h2]
 have x0:0<=X:=by rw [<- hX];exact Int.emod_nonneg _ c6
 have x1:X<p.len:=by rw [<- hX];exact Int.emod_lt_of_pos _ (by omega)
 have y0:0<=Y:=by rw [<- hY];exact Int.emod_nonneg _ c5
 have y1:Y<p.len - 1:=by rw [<- hY];exact Int.emod_lt_of_pos _ (by omega)
 have hc1:IntKind.i64.wrap X=X:=by rw [IntKind.wrap_i64];omega
 have hc2:IntKind.i64.wrap Y=Y:=by rw [IntKind.wrap_i64];omega
 have hc3:IntKind.i64.wrap (1+Y)=1+Y:=by rw [IntKind.wrap_i64];omega
 have HX:=zjy hX;have HY:=zjy (show zib p k g=1+Y by rw [<- hY];rfl);clear hX hY h0 h1 h2 h3 x0 x1;go_enter func219,ntmps219
 go_wp2_with fail
 refine zal (fun W hW=>?_)
 have b9:=xam hW
 have a6:W.heap[w.heap.size]?=some (.cells (parC p) 87 (0,0)):=by rw [hW];exact zaf (zac rfl)
 have a7:W.heap[w.heap.size+1]?=some (.cells #[.int .u64 k.1,.int .u64 k.2] 41 (0,0)):=by rw [hW];exact zac (by simp)
 clear hW;have a8:=zjy b9;have c1:=zjy a6;have c2:=zjy a7;have a1:=zaa a6;have a0:=zaa a7;obtain ⟨q0,q1,q2⟩:=zan a6;obtain ⟨k0,k1⟩:=zae a7;clear b9 a6 a7;have bD:Below W.heap.size W W.drew:=(Below.refl _ _).drew;go_cut [7] (fun s7 wx=>∃ xb:Nat,s7 = .pointer (some ⟨xb,0,none⟩)/\W.heap.size<=xb/\wx.heap[xb]?=some (oneI X)/\Below W.heap.size W wx)
 case first =>
  refine wp_region_noPanic ?_
  refine zaw (by kernel_rfl) (fun w'=>w'.cell? ⟨w.heap.size+1,0,none⟩=some (.int .u64 k.1)/\w'.cell? ⟨w.heap.size+1,1,none⟩=some (.int .u64 k.2)/\w'.cell? ⟨w.heap.size,0,none⟩=some (.int .i64 p.len)) 10 (⟨k0,k1,q0⟩) (fun hHeld=>?_)
  refine tK 0 ?_;refine tK 1 ?_;refine tK 4 ?_;refine tK 5 ?_;refine tK 6 ?_;refine zbf (rs:=[2,9]) (by kernel_rfl) (by simp) ?_
  refine AllReadyK.cons rfl (fun K hK=>?_) (AllReadyK.cons rfl (fun K hK=>?_) AllReadyK.nil)
  focus
   go_simp
   refine zbc hK (⟨((bD.alloc bD.size _).cell (p:=⟨w.heap.size+1,0,none⟩) a0).trans k0,((bD.alloc bD.size _).cell (p:=⟨w.heap.size+1,1,none⟩) a0).trans k1,((bD.alloc bD.size _).cell (p:=⟨w.heap.size,0,none⟩) a1).trans q0⟩) (fun hHeld=>?_)
   clear hK K
   refine zbi (fun W1 hW1=>?_)
   have b1:Below W.heap.size W W1:=by rw [hW1];exact bD.alloc bD.size (.cells #[zak [49],zak g] 9)
   have gs:W1.heap[W.heap.size]?=some (.cells #[zak [49],zak g] 9 (0,0)):=by rw [hW1];exact zac rfl
   have a4:W.heap.size<=W.heap.size:=bD.size;clear hW1 hHeld;have hHeld:W1.cell? ⟨w.heap.size+1,0,none⟩=some (.int .u64 k.1)/\W1.cell? ⟨w.heap.size+1,1,none⟩=some (.int .u64 k.2)/\W1.cell? ⟨w.heap.size,0,none⟩=some (.int .i64 p.len):=⟨(b1.cell (p:=⟨w.heap.size+1,0,none⟩) a0).trans k0,(b1.cell (p:=⟨w.heap.size+1,1,none⟩) a0).trans k1,(b1.cell (p:=⟨w.heap.size,0,none⟩) a1).trans q0⟩;refine zbf (rs:=[3,9]) (by kernel_rfl) (by simp) ?_
   refine AllReadyK.cons rfl (fun K hK=>?_) (AllReadyK.cons rfl (fun K hK=>?_) AllReadyK.nil)
   focus
    go_simp;refine (zdf k.1 k.2 [49] g (by decide) hg _ _ gs).mono ?_;rintro e W2 ⟨rfl,hb⟩;have b2:=b1.trans (hb.mono b1.size);clear hb
    refine zbc hK (⟨(b2.cell (p:=⟨w.heap.size+1,0,none⟩) a0).trans k0,(b2.cell (p:=⟨w.heap.size+1,1,none⟩) a0).trans k1,(b2.cell (p:=⟨w.heap.size,0,none⟩) a1).trans q0⟩) (fun hHeld=>?_)
    clear hK K;refine tK 7 ?_;refine tK 8 ?_
    refine xrK 9 rfl fun K hK=>?_
    go_simp
    refine zbc hK (⟨((b2.alloc b2.size _).cell (p:=⟨w.heap.size+1,0,none⟩) a0).trans k0,((b2.alloc b2.size _).cell (p:=⟨w.heap.size+1,1,none⟩) a0).trans k1,((b2.alloc b2.size _).cell (p:=⟨w.heap.size,0,none⟩) a1).trans q0⟩) (fun hHeld=>?_)
    clear hK K
    refine zbi (fun W3 hW3=>?_)
    have b3:Below W.heap.size W W3:=by rw [hW3];exact b2.alloc b2.size (.cells #[.int .i64 0] 3)
    have ga:W3.heap[W2.heap.size]?=some (oneI 0):=by rw [hW3];exact zac rfl
    have a2:W.heap.size<=W2.heap.size:=b2.size;clear hW3 hHeld;have hHeld:W3.cell? ⟨w.heap.size+1,0,none⟩=some (.int .u64 k.1)/\W3.cell? ⟨w.heap.size+1,1,none⟩=some (.int .u64 k.2)/\W3.cell? ⟨w.heap.size,0,none⟩=some (.int .i64 p.len):=⟨(b3.cell (p:=⟨w.heap.size+1,0,none⟩) a0).trans k0,(b3.cell (p:=⟨w.heap.size+1,1,none⟩) a0).trans k1,(b3.cell (p:=⟨w.heap.size,0,none⟩) a1).trans q0⟩
   rotate_left 1
   focus
    go_simp
    refine zbc hK (⟨((b1.alloc b1.size _).cell (p:=⟨w.heap.size+1,0,none⟩) a0).trans k0,((b1.alloc b1.size _).cell (p:=⟨w.heap.size+1,1,none⟩) a0).trans k1,((b1.alloc b1.size _).cell (p:=⟨w.heap.size,0,none⟩) a1).trans q0⟩) (fun hHeld=>?_)
    clear hK K
    refine zbi (fun W2 hW2=>?_)
    have b2:Below W.heap.size W W2:=by rw [hW2];exact b1.alloc b1.size (.cells #[.int .i64 0] 3)
    have ga:W2.heap[W1.heap.size]?=some (oneI 0):=by rw [hW2];exact zac rfl
    have a2:W.heap.size<=W1.heap.size:=b1.size;have gs:=(show W2.heap[_]?=some _ by rw [hW2];exact zaf gs);clear hW2 hHeld;have hHeld:W2.cell? ⟨w.heap.size+1,0,none⟩=some (.int .u64 k.1)/\W2.cell? ⟨w.heap.size+1,1,none⟩=some (.int .u64 k.2)/\W2.cell? ⟨w.heap.size,0,none⟩=some (.int .i64 p.len):=⟨(b2.cell (p:=⟨w.heap.size+1,0,none⟩) a0).trans k0,(b2.cell (p:=⟨w.heap.size+1,1,none⟩) a0).trans k1,(b2.cell (p:=⟨w.heap.size,0,none⟩) a1).trans q0⟩
    refine xrK 3 rfl fun K hK=>?_
    go_simp;refine (zdf k.1 k.2 [49] g (by decide) hg _ _ gs).mono ?_;rintro e W3 ⟨rfl,hb⟩;have b3:=b2.trans (hb.mono b2.size);have ga:=zab hb (zaa ga) ga;clear hb
    refine zbc hK (⟨(b3.cell (p:=⟨w.heap.size+1,0,none⟩) a0).trans k0,(b3.cell (p:=⟨w.heap.size+1,1,none⟩) a0).trans k1,(b3.cell (p:=⟨w.heap.size,0,none⟩) a1).trans q0⟩) (fun hHeld=>?_)
    clear hK K;refine tK 7 ?_;refine tK 8 ?_
  rotate_left 2
  focus
   go_simp
   refine zbc hK (⟨((bD.alloc bD.size _).cell (p:=⟨w.heap.size+1,0,none⟩) a0).trans k0,((bD.alloc bD.size _).cell (p:=⟨w.heap.size+1,1,none⟩) a0).trans k1,((bD.alloc bD.size _).cell (p:=⟨w.heap.size,0,none⟩) a1).trans q0⟩) (fun hHeld=>?_)
   clear hK K
   refine zbi (fun W1 hW1=>?_)
   have b1:Below W.heap.size W W1:=by rw [hW1];exact bD.alloc bD.size (.cells #[.int .i64 0] 3)
   have ga:W1.heap[W.heap.size]?=some (oneI 0):=by rw [hW1];exact zac rfl
   have a2:W.heap.size<=W.heap.size:=bD.size;clear hW1 hHeld;have hHeld:W1.cell? ⟨w.heap.size+1,0,none⟩=some (.int .u64 k.1)/\W1.cell? ⟨w.heap.size+1,1,none⟩=some (.int .u64 k.2)/\W1.cell? ⟨w.heap.size,0,none⟩=some (.int .i64 p.len):=⟨(b1.cell (p:=⟨w.heap.size+1,0,none⟩) a0).trans k0,(b1.cell (p:=⟨w.heap.size+1,1,none⟩) a0).trans k1,(b1.cell (p:=⟨w.heap.size,0,none⟩) a1).trans q0⟩
   refine xrK 2 rfl fun K hK=>?_
   go_simp
   refine zbc hK (⟨((b1.alloc b1.size _).cell (p:=⟨w.heap.size+1,0,none⟩) a0).trans k0,((b1.alloc b1.size _).cell (p:=⟨w.heap.size+1,1,none⟩) a0).trans k1,((b1.alloc b1.size _).cell (p:=⟨w.heap.size,0,none⟩) a1).trans q0⟩) (fun hHeld=>?_)
   clear hK K
   refine zbi (fun W2 hW2=>?_)
   have b2:Below W.heap.size W W2:=by rw [hW2];exact b1.alloc b1.size (.cells #[zak [49],zak g] 9)
   have gs:W2.heap[W1.heap.size]?=some (.cells #[zak [49],zak g] 9 (0,0)):=by rw [hW2];exact zac rfl
   have a4:W.heap.size<=W1.heap.size:=b1.size;have ga:=(show W2.heap[_]?=some _ by rw [hW2];exact zaf ga);clear hW2 hHeld;have hHeld:W2.cell? ⟨w.heap.size+1,0,none⟩=some (.int .u64 k.1)/\W2.cell? ⟨w.heap.size+1,1,none⟩=some (.int .u64 k.2)/\W2.cell? ⟨w.heap.size,0,none⟩=some (.int .i64 p.len):=⟨(b2.cell (p:=⟨w.heap.size+1,0,none⟩) a0).trans k0,(b2.cell (p:=⟨w.heap.size+1,1,none⟩) a0).trans k1,(b2.cell (p:=⟨w.heap.size,0,none⟩) a1).trans q0⟩
   refine xrK 3 rfl fun K hK=>?_
   go_simp;refine (zdf k.1 k.2 [49] g (by decide) hg _ _ gs).mono ?_;rintro e W3 ⟨rfl,hb⟩;have b3:=b2.trans (hb.mono b2.size);have ga:=zab hb (zaa ga) ga;clear hb
   refine zbc hK (⟨(b3.cell (p:=⟨w.heap.size+1,0,none⟩) a0).trans k0,(b3.cell (p:=⟨w.heap.size+1,1,none⟩) a0).trans k1,(b3.cell (p:=⟨w.heap.size,0,none⟩) a1).trans q0⟩) (fun hHeld=>?_)
   clear hK K;refine tK 7 ?_;refine tK 8 ?_
  all_goals
   have ca:=cell1 ga;have fa:=frozen_of_row _ _ 0 _ _ ga;have za:=zaa ga
   refine xrK 10 rfl fun K hK=>?_
   go_simp;refine zav hK (by decide) ?_;clear hK K;refine zas (by kernel_rfl) ?_ _;refine NoPanic.normal ?_;go_wp2_with fail
   go_meet;exact ⟨_,rfl,a2,zad (i:=0) (v:=.int .i64 X) ga,b3.setCell (p:=⟨_,0,none⟩) a2 _⟩
 case rest =>
  obtain ⟨xb,rfl,c4,hx,a3⟩:=hcut;have HC:=zjy hx;have b7:=zjy a3;have k0:=(a3.cell (p:=⟨w.heap.size+1,0,none⟩) a0).trans k0;have k1:=(a3.cell (p:=⟨w.heap.size+1,1,none⟩) a0).trans k1;have q0:=(a3.cell (p:=⟨w.heap.size,0,none⟩) a1).trans q0;have b5:=zab a3 a1 c1.o;have b6:=zab a3 a0 c2.o;have b4:=a1;have a1:=zaa b5;have a0:=zaa b6;have d0:=zjy b5;have HK1:=zjy b6;have c3:=a3.size;have a9:=zaa hx;clear a3 hx b5 b6 bD;obtain ⟨W0,c0⟩:∃ W0,W0=W:=⟨_,rfl⟩;rw [<- c0] at a8 c1 c2 b7 c4 c3 b4;clear c0;obtain ⟨W,rfl⟩:∃ W,W=wc:=⟨_,rfl⟩;have bD:Below W.heap.size W W.drew:=(Below.refl _ _).drew;go_wp2_with fail
  go_cut [8] (fun s8 wx=>∃ yb:Nat,s8 = .pointer (some ⟨yb,0,none⟩)/\W.heap.size<=yb/\wx.heap[yb]?=some (oneI (1+Y))/\Below W.heap.size W wx)
  case first =>
   refine wp_region_noPanic ?_
   refine zaw (by kernel_rfl) (fun w'=>w'.cell? ⟨w.heap.size+1,0,none⟩=some (.int .u64 k.1)/\w'.cell? ⟨w.heap.size+1,1,none⟩=some (.int .u64 k.2)/\w'.cell? ⟨w.heap.size,0,none⟩=some (.int .i64 p.len)) 12 (⟨k0,k1,q0⟩) (fun hHeld=>?_)
   refine tK 0 ?_;refine tK 1 ?_;refine tK 4 ?_;refine tK 5 ?_;refine tK 6 ?_;refine tK 7 ?_;refine zbf (rs:=[2,11]) (by kernel_rfl) (by simp) ?_
   refine AllReadyK.cons rfl (fun K hK=>?_) (AllReadyK.cons rfl (fun K hK=>?_) AllReadyK.nil)
   focus
    go_simp
    refine zbc hK (⟨((bD.alloc bD.size _).cell (p:=⟨w.heap.size+1,0,none⟩) a0).trans k0,((bD.alloc bD.size _).cell (p:=⟨w.heap.size+1,1,none⟩) a0).trans k1,((bD.alloc bD.size _).cell (p:=⟨w.heap.size,0,none⟩) a1).trans q0⟩) (fun hHeld=>?_)
    clear hK K
    refine zbi (fun W1 hW1=>?_)
    have b1:Below W.heap.size W W1:=by rw [hW1];exact bD.alloc bD.size (.cells #[zak [50],zak g] 9)
    have gs:W1.heap[W.heap.size]?=some (.cells #[zak [50],zak g] 9 (0,0)):=by rw [hW1];exact zac rfl
    have a4:W.heap.size<=W.heap.size:=bD.size;clear hW1 hHeld;have hHeld:W1.cell? ⟨w.heap.size+1,0,none⟩=some (.int .u64 k.1)/\W1.cell? ⟨w.heap.size+1,1,none⟩=some (.int .u64 k.2)/\W1.cell? ⟨w.heap.size,0,none⟩=some (.int .i64 p.len):=⟨(b1.cell (p:=⟨w.heap.size+1,0,none⟩) a0).trans k0,(b1.cell (p:=⟨w.heap.size+1,1,none⟩) a0).trans k1,(b1.cell (p:=⟨w.heap.size,0,none⟩) a1).trans q0⟩;refine zbf (rs:=[3,11]) (by kernel_rfl) (by simp) ?_
    refine AllReadyK.cons rfl (fun K hK=>?_) (AllReadyK.cons rfl (fun K hK=>?_) AllReadyK.nil)
    focus
     go_simp;refine (zdf k.1 k.2 [50] g (by decide) hg _ _ gs).mono ?_;rintro e W2 ⟨rfl,hb⟩;have b2:=b1.trans (hb.mono b1.size);clear hb
     refine zbc hK (⟨(b2.cell (p:=⟨w.heap.size+1,0,none⟩) a0).trans k0,(b2.cell (p:=⟨w.heap.size+1,1,none⟩) a0).trans k1,(b2.cell (p:=⟨w.heap.size,0,none⟩) a1).trans q0⟩) (fun hHeld=>?_)
     clear hK K;refine tK 8 ?_;refine tK 9 ?_;refine tK 10 ?_
     refine xrK 11 rfl fun K hK=>?_
     go_simp
     refine zbc hK (⟨((b2.alloc b2.size _).cell (p:=⟨w.heap.size+1,0,none⟩) a0).trans k0,((b2.alloc b2.size _).cell (p:=⟨w.heap.size+1,1,none⟩) a0).trans k1,((b2.alloc b2.size _).cell (p:=⟨w.heap.size,0,none⟩) a1).trans q0⟩) (fun hHeld=>?_)
     clear hK K
     refine zbi (fun W3 hW3=>?_)
     have b3:Below W.heap.size W W3:=by rw [hW3];exact b2.alloc b2.size (.cells #[.int .i64 0] 3)
     have ga:W3.heap[W2.heap.size]?=some (oneI 0):=by rw [hW3];exact zac rfl
     have a2:W.heap.size<=W2.heap.size:=b2.size;clear hW3 hHeld;have hHeld:W3.cell? ⟨w.heap.size+1,0,none⟩=some (.int .u64 k.1)/\W3.cell? ⟨w.heap.size+1,1,none⟩=some (.int .u64 k.2)/\W3.cell? ⟨w.heap.size,0,none⟩=some (.int .i64 p.len):=⟨(b3.cell (p:=⟨w.heap.size+1,0,none⟩) a0).trans k0,(b3.cell (p:=⟨w.heap.size+1,1,none⟩) a0).trans k1,(b3.cell (p:=⟨w.heap.size,0,none⟩) a1).trans q0⟩
    rotate_left 1
    focus
     go_simp
     refine zbc hK (⟨((b1.alloc b1.size _).cell (p:=⟨w.heap.size+1,0,none⟩) a0).trans k0,((b1.alloc b1.size _).cell (p:=⟨w.heap.size+1,1,none⟩) a0).trans k1,((b1.alloc b1.size _).cell (p:=⟨w.heap.size,0,none⟩) a1).trans q0⟩) (fun hHeld=>?_)
     clear hK K
     refine zbi (fun W2 hW2=>?_)
     have b2:Below W.heap.size W W2:=by rw [hW2];exact b1.alloc b1.size (.cells #[.int .i64 0] 3)
     have ga:W2.heap[W1.heap.size]?=some (oneI 0):=by rw [hW2];exact zac rfl
     have a2:W.heap.size<=W1.heap.size:=b1.size;have gs:=(show W2.heap[_]?=some _ by rw [hW2];exact zaf gs);clear hW2 hHeld;have hHeld:W2.cell? ⟨w.heap.size+1,0,none⟩=some (.int .u64 k.1)/\W2.cell? ⟨w.heap.size+1,1,none⟩=some (.int .u64 k.2)/\W2.cell? ⟨w.heap.size,0,none⟩=some (.int .i64 p.len):=⟨(b2.cell (p:=⟨w.heap.size+1,0,none⟩) a0).trans k0,(b2.cell (p:=⟨w.heap.size+1,1,none⟩) a0).trans k1,(b2.cell (p:=⟨w.heap.size,0,none⟩) a1).trans q0⟩
     refine xrK 3 rfl fun K hK=>?_
     go_simp;refine (zdf k.1 k.2 [50] g (by decide) hg _ _ gs).mono ?_;rintro e W3 ⟨rfl,hb⟩;have b3:=b2.trans (hb.mono b2.size);have ga:=zab hb (zaa ga) ga;clear hb
     refine zbc hK (⟨(b3.cell (p:=⟨w.heap.size+1,0,none⟩) a0).trans k0,(b3.cell (p:=⟨w.heap.size+1,1,none⟩) a0).trans k1,(b3.cell (p:=⟨w.heap.size,0,none⟩) a1).trans q0⟩) (fun hHeld=>?_)
     clear hK K;refine tK 8 ?_;refine tK 9 ?_;refine tK 10 ?_
   rotate_left 2
   focus
    go_simp
    refine zbc hK (⟨((bD.alloc bD.size _).cell (p:=⟨w.heap.size+1,0,none⟩) a0).trans k0,((bD.alloc bD.size _).cell (p:=⟨w.heap.size+1,1,none⟩) a0).trans k1,((bD.alloc bD.size _).cell (p:=⟨w.heap.size,0,none⟩) a1).trans q0⟩) (fun hHeld=>?_)
    clear hK K
    refine zbi (fun W1 hW1=>?_)
    have b1:Below W.heap.size W W1:=by rw [hW1];exact bD.alloc bD.size (.cells #[.int .i64 0] 3)
    have ga:W1.heap[W.heap.size]?=some (oneI 0):=by rw [hW1];exact zac rfl
    have a2:W.heap.size<=W.heap.size:=bD.size;clear hW1 hHeld;have hHeld:W1.cell? ⟨w.heap.size+1,0,none⟩=some (.int .u64 k.1)/\W1.cell? ⟨w.heap.size+1,1,none⟩=some (.int .u64 k.2)/\W1.cell? ⟨w.heap.size,0,none⟩=some (.int .i64 p.len):=⟨(b1.cell (p:=⟨w.heap.size+1,0,none⟩) a0).trans k0,(b1.cell (p:=⟨w.heap.size+1,1,none⟩) a0).trans k1,(b1.cell (p:=⟨w.heap.size,0,none⟩) a1).trans q0⟩
    refine xrK 2 rfl fun K hK=>?_
    go_simp
    refine zbc hK (⟨((b1.alloc b1.size _).cell (p:=⟨w.heap.size+1,0,none⟩) a0).trans k0,((b1.alloc b1.size _).cell (p:=⟨w.heap.size+1,1,none⟩) a0).trans k1,((b1.alloc b1.size _).cell (p:=⟨w.heap.size,0,none⟩) a1).trans q0⟩) (fun hHeld=>?_)
    clear hK K
    refine zbi (fun W2 hW2=>?_)
    have b2:Below W.heap.size W W2:=by rw [hW2];exact b1.alloc b1.size (.cells #[zak [50],zak g] 9)
    have gs:W2.heap[W1.heap.size]?=some (.cells #[zak [50],zak g] 9 (0,0)):=by rw [hW2];exact zac rfl
    have a4:W.heap.size<=W1.heap.size:=b1.size;have ga:=(show W2.heap[_]?=some _ by rw [hW2];exact zaf ga);clear hW2 hHeld;have hHeld:W2.cell? ⟨w.heap.size+1,0,none⟩=some (.int .u64 k.1)/\W2.cell? ⟨w.heap.size+1,1,none⟩=some (.int .u64 k.2)/\W2.cell? ⟨w.heap.size,0,none⟩=some (.int .i64 p.len):=⟨(b2.cell (p:=⟨w.heap.size+1,0,none⟩) a0).trans k0,(b2.cell (p:=⟨w.heap.size+1,1,none⟩) a0).trans k1,(b2.cell (p:=⟨w.heap.size,0,none⟩) a1).trans q0⟩
    refine xrK 3 rfl fun K hK=>?_
    go_simp;refine (zdf k.1 k.2 [50] g (by decide) hg _ _ gs).mono ?_;rintro e W3 ⟨rfl,hb⟩;have b3:=b2.trans (hb.mono b2.size);have ga:=zab hb (zaa ga) ga;clear hb
    refine zbc hK (⟨(b3.cell (p:=⟨w.heap.size+1,0,none⟩) a0).trans k0,(b3.cell (p:=⟨w.heap.size+1,1,none⟩) a0).trans k1,(b3.cell (p:=⟨w.heap.size,0,none⟩) a1).trans q0⟩) (fun hHeld=>?_)
    clear hK K;refine tK 8 ?_;refine tK 9 ?_;refine tK 10 ?_
   all_goals
    have ca:=cell1 ga;have fa:=frozen_of_row _ _ 0 _ _ ga;have za:=zaa ga
    refine xrK 12 rfl fun K hK=>?_
    go_simp;refine zav hK (by decide) ?_;clear hK K;refine zas (by kernel_rfl) ?_ _;refine NoPanic.normal ?_;go_wp2_with fail
    go_meet;exact ⟨_,rfl,a2,zad (i:=0) (v:=.int .i64 (1+Y)) ga,b3.setCell (p:=⟨_,0,none⟩) a2 _⟩
  case rest =>
   obtain ⟨yb,rfl,hyb,hy,a5⟩:=hcut;have b0:=zab a5 a9 HC.o;have cx:=cell1 b0;have b8:=zab a5 a1 d0.o;have zc:=zaa hy;have hz3:=b7.o.size;have hz4:=a8.o.size;have hz5:=a5.size;have c7:=zjy hy;have c8:=zjy b0;have c9:=zjy b8;have d1:=zjy a5
   clear hy b0 b8 a5
   go_wp2_with fail
   go_ret;refine ⟨wc.heap.size,yb,w.heap.size,xb,rfl,⟨?_,?_,zaf c9.o,⟨X,zaf c8.o⟩,by omega,by omega,by omega,by omega,by omega⟩,⟨by omega,by omega,by omega,by omega⟩,?_⟩
   ·rw [HX.o];exact zac rfl
   ·rw [HY.o];exact zaf c7.o
   ·exact (a8.o.trans ((b7.o.mono a8.o.size).trans (d1.o.mono (by omega)))).alloc (by omega) _
end
section
open Go.RowKit
def itN (len y:Int):Nat->Int->Int
 | 0,x=>x
 | n+1,x=>itN len y n ((x+y) % len)
theorem itN_succ (len y:Int):∀ n x,itN len y (n+1) x=(itN len y n x+y) % len:=by
 intro n;induction n with
 | zero=>intro x;rfl
 | succ n ih=>intro x;rw [itN,ih];rfl
theorem posN_snoc (len y:Int):∀ n x,posN len y (n+1) x=posN len y n x++[itN len y n x]:=by
 intro n;induction n with
 | zero=>intro x;rfl
 | succ n ih=>intro x;rw [posN,ih];rfl
theorem zen (len y:Int):∀ n x,(posN len y n x).length=n:=by
 intro n;induction n with
 | zero=>intro x;rfl
 | succ n ih=>intro x;simp [posN,ih]
theorem itN_bd (len y:Int) (hl:0<len) (x:Int) (h0:0<=x) (h1:x<len):∀ n,0<=itN len y n x/\itN len y n x<len:=by
 intro n;cases n with
 | zero=>exact ⟨h0,h1⟩
 | succ n=>rw [itN_succ];exact ⟨Int.emod_nonneg _ (by omega),Int.emod_lt_of_pos _ hl⟩
theorem posN_bd (len y:Int) (hl:0<len):∀ n x,0<=x->x<len->∀ i∈posN len y n x,0<=i/\i<len:=by
 intro n;induction n with
 | zero=>intro x _ _ i hi;simp [posN] at hi
 | succ n ih =>
  intro x h0 h1 i hi;simp only [posN,List.mem_cons] at hi
  rcases hi with rfl | hi
  ·exact ⟨h0,h1⟩
  ·exact ih _ (Int.emod_nonneg _ (by omega)) (Int.emod_lt_of_pos _ hl) i hi
abbrev encI (x:Int):List Value:=[.int .i64 x]
theorem made_ints (m:Nat):madeCells #[.int .i64 0] m=((List.replicate m (0:Int)).flatMap encI).toArray:=by
 apply Array.ext'
 have:∀ k,(List.replicate k (0:Int)).flatMap encI=List.replicate k (.int .i64 0):=by
  intro k;induction k with
  | zero=>rfl
  | succ k ih=>rw [List.replicate_succ,List.flatMap_cons,ih];rfl
 rw [this];unfold madeCells;rw [Array.toList_map,Array.toList_range]
 refine List.ext_getElem (by simp) fun i h1 h2=>?_
 simp [Nat.mod_one]
theorem infoI:(prog.info? 3).map (fun i=>(i.zero,i.size,i.bytes))=some (some (.int .i64 0),1,8):=by kernel_rfl
theorem prow_step (len y:Int) (H j:Nat) (x:Int) (hj:j<H):(((posN len y j x++List.replicate (H - j) 0).flatMap encI).toArray).setIfInBounds j (.int .i64 (itN len y j x))=((posN len y (j+1) x++List.replicate (H - (j+1)) 0).flatMap encI).toArray:=by
 have fl:∀ l:List Int,l.flatMap encI=l.map (Value.int .i64):=by
  intro l;induction l with
  | nil=>rfl
  | cons a l ih=>simp only [List.flatMap_cons,List.map_cons,ih];rfl
 rw [fl,fl,List.setIfInBounds_toArray,show H - j=(H - (j+1))+1 by omega,List.replicate_succ,posN_snoc];congr 1;rw [List.map_append,List.set_append_right _ _ (by rw [List.length_map,zen];exact Nat.le_refl _),List.length_map,zen,Nat.sub_self];simp
theorem row_cell (len y:Int) (H j:Nat) (x:Int) (hj:j<H):(((posN len y j x++List.replicate (H - j) 0).flatMap encI).toArray)[j]?=some (.int .i64 0):=by
 have fl:∀ l:List Int,l.flatMap encI=l.map (Value.int .i64):=by
  intro l;induction l with
  | nil=>rfl
  | cons a l ih=>simp only [List.flatMap_cons,List.map_cons,ih];rfl
 rw [fl,List.getElem?_toArray,List.getElem?_map,List.getElem?_append_right (by rw [zen];exact Nat.le_refl _),zen,Nat.sub_self,show H - j=(H - (j+1))+1 by omega,List.replicate_succ];rfl
theorem fun_cell {w:World} {gb:Nat} {t:TypeId} {fr:Nat × Nat} {L:List Int} (hr:w.heap[gb]?=some (.cells (L.flatMap encI).toArray t fr)) {i:Nat} {x:Int} (hi:L[i]?=some x) {u:Nat} {v:Value} (hu:(encI x)[u]?=some v):w.cell? ⟨gb,0+i*1+u,none⟩=some v:=by
 rw [cell_of_row _ _ _ _ _ _ hr,Nat.zero_add,List.getElem?_toArray];have a0:u<1:=(List.getElem?_eq_some_iff.1 hu).1;rw [zgf (enc:=encI) (fun _=>rfl) L i x hi u a0];exact hu
theorem zcl {P:Program} {md:Region.Mode} {ops:Array Oper} {Q:Exit->Act->World->Prop} {S:World->Prop} {fuel:Nat} {listed:Array Bool} {a:Act} {W:World} (h:∀ w',w'=W->wpAnyH P md ops Q S fuel listed a w'):wpAnyH P md ops Q S fuel listed a W:=h W rfl
def PosPost (p:ParL) (k:Int × Int) (g:List UInt8) (w:World) (e:Ending) (w':World):Prop :=
 ∃ v,e = .returned (.tuple #[v,.int .i64 0])/\Vec w' (fun b=>w.heap.size<=b) 1 encI v (zbv p k g)/\Below w.heap.size w w'
theorem ClosAt.later {w:World} {nb yb pb xb:Nat} {p:ParL} {x y:Int} (h:ClosAt w nb yb pb xb p x y) {o:Obj}:ClosAt (w.alloc o) nb yb pb xb p x y :=
 ⟨zaf h.n,zaf h.y,zaf h.p,h.x.imp fun _ hz=>zaf hz,h.ne1,h.ne2,h.ne3,h.ne4,h.ne5⟩
theorem ClosAt.set {w:World} {nb yb pb xb gb i:Nat} {p:ParL} {x y:Int} {v:Value} (h:ClosAt w nb yb pb xb p x y) (h1:gb≠nb) (h2:gb≠yb) (h3:gb≠pb) (h4:gb≠xb):ClosAt (w.setCell ⟨gb,i,none⟩ v) nb yb pb xb p x y :=
 ⟨zam h.n (Ne.symm h1),zam h.y (Ne.symm h2),zam h.p (Ne.symm h3),h.x.imp fun _ hz=>zam hz (Ne.symm h4),h.ne1,h.ne2,h.ne3,h.ne4,h.ne5⟩
theorem positions_yes (p:ParL) (k:Int × Int) (g:List UInt8) (w:World) (hp:ParOk p) (hg:g.length<=60000) :
  Calls prog 181 #[.agg (parC p),.agg #[.int .u64 k.1,.int .u64 k.2],zak g] w (PosPost p k g w):=by
 have hl1:=hp.len1;have hl2:=hp.len2;have hh1:=hp.h1;have hh2:=hp.h2;obtain ⟨H,hH⟩:∃ H:Nat,p.hashes=H:=⟨p.hashes.toNat,by omega⟩;have c0:=run_make_row' (P:=prog) 22 3 (.int .i64 0) 8 underlying22 infoI rfl .i64 .i64 H (by omega) (by omega);rw [made_ints,<- hH] at c0;have F0:0<=zgs p k g:=Int.emod_nonneg _ (by omega);have F1:zgs p k g<p.len:=Int.emod_lt_of_pos _ (by omega);have Y0:1<=zib p k g:=by have:0<=(zdk k.1 k.2 [[50],g]) % (p.len - 1):=Int.emod_nonneg _ (by omega);unfold zib;omega
 have Y1:zib p k g<=1000:=by have:(zdk k.1 k.2 [[50],g]) % (p.len - 1)<p.len - 1:=Int.emod_lt_of_pos _ (by omega);unfold zib;omega
 have hHb:H<=16:=by omega
 have HP:=zjy hp;have HH:=zjy hH;clear hp hH;go_enter func181,ntmps181
 go_wp2_with fail
 refine zah (fun W hW=>?_)
 have b5:=xam hW
 have a9:W.heap[w.heap.size]?=some (.cells (parC p) 87 (0,0)):=by rw [hW];exact zaf (zac rfl)
 have b3:W.heap[w.heap.size+1]?=some (.cells #[.int .u64 k.1,.int .u64 k.2] 41 (0,0)):=by rw [hW];exact zac (by simp)
 clear hW;refine (bcheck_yes p W HP.o).mono ?_;rintro e w1 ⟨rfl,hb⟩;have a2:=zab hb (zaa a9) a9;have a7:=zab hb (zaa b3) b3;have c3:=b5.trans (hb.mono b5.size);have c6:=zjy c3;have HP1:=zjy a2;have HK1:=zjy a7;have a0:=zaa a2;have a1:=zaa a7;obtain ⟨q0,q1,q2⟩:=zan a2;obtain ⟨k0,k1⟩:=zae a7;clear b5 a9 b3 hb a2 a7 c3;go_wp2_with fail
 have bD:Below w1.heap.size w1 w1.drew:=(Below.refl _ _).drew
 go_cut [9,10] (fun s9 s10 wx=>∃ gb nb yb pb xb:Nat,s9 = .slice (some ⟨gb,0,none⟩) H H/\s10 = .func (.func 242) #[] #[.pointer (some ⟨nb,0,none⟩),.pointer (some ⟨yb,0,none⟩),.pointer (some ⟨pb,0,none⟩),.pointer (some ⟨xb,0,none⟩)] /\
  ClosAt wx nb yb pb xb p (zgs p k g) (zib p k g)/\wx.heap[gb]?=some (.cells ((List.replicate H (0:Int)).flatMap encI).toArray 3 (0,0))/\(gb≠nb/\gb≠yb/\gb≠pb/\gb≠xb)/\(w1.heap.size<=gb/\w1.heap.size<=nb/\w1.heap.size<=xb)/\Below w1.heap.size w1 wx)
 case first =>
  refine wp_region_noPanic ?_
  refine wp_region_held_drew (S:=(fun w'=>w'.cell? ⟨w.heap.size+1,0,none⟩=some (.int .u64 k.1)/\w'.cell? ⟨w.heap.size+1,1,none⟩=some (.int .u64 k.2)/\w'.cell? ⟨w.heap.size,0,none⟩=some (.int .i64 p.len)/\w'.cell? ⟨w.heap.size,1,none⟩=some (.int .i64 p.hashes)/\w'.cell? ⟨w.heap.size,2,none⟩=some (.int .i64 p.salt))) (by kernel_rfl) (⟨k0,k1,q0,q1,q2⟩) (fun hHeld=>?_)
  refine tH 0 ?_;refine tH 1 ?_;refine tH 3 ?_;refine tH 4 ?_;refine tH 5 ?_;refine wpAnyH_ready (rs:=[2,6]) (by kernel_rfl) (by simp) ?_
  refine AllReadyH.cons rfl (fun K hK=>?_) (AllReadyH.cons rfl (fun K hK=>?_) AllReadyH.nil)
  focus
   go_simp
   refine hK.out _ _ (⟨((bD.alloc bD.size _).cell (p:=⟨w.heap.size+1,0,none⟩) a1).trans k0,((bD.alloc bD.size _).cell (p:=⟨w.heap.size+1,1,none⟩) a1).trans k1,((bD.alloc bD.size _).cell (p:=⟨w.heap.size,0,none⟩) a0).trans q0,((bD.alloc bD.size _).cell (p:=⟨w.heap.size,1,none⟩) a0).trans q1,((bD.alloc bD.size _).cell (p:=⟨w.heap.size,2,none⟩) a0).trans q2⟩) (fun hHeld=>?_)
   clear hK K
   refine zcl (fun W1 hW1=>?_)
   have b1:Below w1.heap.size w1 W1:=by rw [hW1];exact bD.alloc bD.size (.cells ((List.replicate H (0:Int)).flatMap encI).toArray 3)
   have ga:W1.heap[w1.heap.size]?=some (.cells ((List.replicate H (0:Int)).flatMap encI).toArray 3 (0,0)):=by rw [hW1];exact zac rfl
   have zz:W1.heap.size=w1.heap.size+1:=by rw [hW1];simp
   clear hW1 hHeld;have hHeld:W1.cell? ⟨w.heap.size+1,0,none⟩=some (.int .u64 k.1)/\W1.cell? ⟨w.heap.size+1,1,none⟩=some (.int .u64 k.2)/\W1.cell? ⟨w.heap.size,0,none⟩=some (.int .i64 p.len)/\W1.cell? ⟨w.heap.size,1,none⟩=some (.int .i64 p.hashes)/\W1.cell? ⟨w.heap.size,2,none⟩=some (.int .i64 p.salt):=⟨(b1.cell (p:=⟨w.heap.size+1,0,none⟩) a1).trans k0,(b1.cell (p:=⟨w.heap.size+1,1,none⟩) a1).trans k1,(b1.cell (p:=⟨w.heap.size,0,none⟩) a0).trans q0,(b1.cell (p:=⟨w.heap.size,1,none⟩) a0).trans q1,(b1.cell (p:=⟨w.heap.size,2,none⟩) a0).trans q2⟩
   refine xrH 6 rfl fun K hK=>?_
   go_simp;refine (drawn_any p k g _ HP.o hg).mono ?_;rintro e w2 ⟨nb,yb,pb,xb,rfl,hc,⟨b9,b8,c8,a2⟩,hb2⟩;have b2:=b1.trans (hb2.mono b1.size);have d1:=zab hb2 (zaa ga) ga
   refine hK.out _ _ (⟨(b2.cell (p:=⟨w.heap.size+1,0,none⟩) a1).trans k0,(b2.cell (p:=⟨w.heap.size+1,1,none⟩) a1).trans k1,(b2.cell (p:=⟨w.heap.size,0,none⟩) a0).trans q0,(b2.cell (p:=⟨w.heap.size,1,none⟩) a0).trans q1,(b2.cell (p:=⟨w.heap.size,2,none⟩) a0).trans q2⟩) (fun hHeld=>?_)
   clear hK K;refine tH 7 ?_;refine tH 8 ?_;refine wpAnyH_done (by kernel_rfl) ?_ _;refine NoPanic.normal ?_;go_wp2_with fail
   go_meet;exact ⟨_,nb,yb,pb,xb,rfl,rfl,hc,d1,⟨by omega,by omega,by omega,by omega⟩,⟨by omega,by omega,by omega⟩,b2⟩
  rotate_left 1
  focus
   go_simp;refine (drawn_any p k g _ HP.o hg).mono ?_;rintro e w2 ⟨nb,yb,pb,xb,rfl,hc,⟨b9,b8,c8,a2⟩,hb2⟩;have b2:=bD.trans hb2
   refine hK.out _ _ (⟨(b2.cell (p:=⟨w.heap.size+1,0,none⟩) a1).trans k0,(b2.cell (p:=⟨w.heap.size+1,1,none⟩) a1).trans k1,(b2.cell (p:=⟨w.heap.size,0,none⟩) a0).trans q0,(b2.cell (p:=⟨w.heap.size,1,none⟩) a0).trans q1,(b2.cell (p:=⟨w.heap.size,2,none⟩) a0).trans q2⟩) (fun hHeld=>?_)
   clear hK K
   refine xrH 2 rfl fun K hK=>?_
   go_simp
   refine hK.out _ _ (⟨((b2.alloc b2.size _).cell (p:=⟨w.heap.size+1,0,none⟩) a1).trans k0,((b2.alloc b2.size _).cell (p:=⟨w.heap.size+1,1,none⟩) a1).trans k1,((b2.alloc b2.size _).cell (p:=⟨w.heap.size,0,none⟩) a0).trans q0,((b2.alloc b2.size _).cell (p:=⟨w.heap.size,1,none⟩) a0).trans q1,((b2.alloc b2.size _).cell (p:=⟨w.heap.size,2,none⟩) a0).trans q2⟩) (fun hHeld=>?_)
   clear hK K;refine tH 7 ?_;refine tH 8 ?_;refine wpAnyH_done (by kernel_rfl) ?_ _;refine NoPanic.normal ?_;have l1:=zaa hc.n;have l2:=zaa hc.y;have l3:=zaa hc.p;obtain ⟨zx,c7⟩:=hc.x;have l4:=zaa c7;have c9:=hc.later (o:=(.cells ((List.replicate H (0:Int)).flatMap encI).toArray 3));go_wp2_with fail
   go_meet;exact ⟨_,nb,yb,pb,xb,rfl,rfl,c9,zac rfl,⟨by omega,by omega,by omega,by omega⟩,⟨hb2.size,b9,b8⟩,b2.alloc b2.size _⟩
 case rest =>
  obtain ⟨gb,nb,yb,pb,xb,rfl,rfl,hc,a5,⟨n1,n2,n3,n4⟩,⟨m1,m2,m3⟩,hbc⟩:=hcut;have HC:=zjy hc;have HG:=zjy a5;have d4:=zjy hbc;have d0:=c6.o.size;clear hc a5 hbc bD c0 q0 q1 q2 k0 k1;go_wp2_with fail
  go_loopw [11,26] (fun _ i wr=>∃ j:Nat,i = .int .i64 j/\j<=H/\ClosAt wr nb yb pb xb p (itN p.len (zib p k g) j (zgs p k g)) (zib p k g)/\wr.heap[gb]?=some (.cells ((posN p.len (zib p k g) j (zgs p k g)++List.replicate (H - j) 0).flatMap encI).toArray 3 (0,0))/\KeptBut (fun b=>w1.heap.size<=b) w1 wr) (fun _ i _=>H - (intOf i).toNat)
  case atStart=>exact ⟨0,rfl,by omega,HC.o,HG.o,.ofBelow d4.o⟩
  case round =>
   obtain ⟨j,rfl,hj,hc,a5,c1⟩:=hrel;have b7:=zjy hc;have b6:=zjy a5;have c5:=zjy c1;clear hc a5 c1 HC HG;by_cases hlt:j<H
   ·have hq:decide ((j:Int)<H)=true:=by simp;omega
    have b4:=itN_bd p.len (zib p k g) (by omega) (zgs p k g) F0 F1 j;obtain ⟨xj,a8⟩:=xex (itN p.len (zib p k g) j (zgs p k g));rw [a8] at b7 b4;have c4:=zjy a8;clear a8;go_wp2_with fail
    refine (bnext_any nb yb pb xb p xj (zib p k g) _ b7.o HP.o b4.1 b4.2 Y0 Y1).mono ?_;rintro e wq ⟨rfl,c2,b0⟩;have a4:=b0.blk (by intro h;omega) b6.o;have cq:wq.cell? ⟨gb,j,none⟩=some (.int .i64 0):=by rw [cell_of_row _ _ _ _ _ _ a4,row_cell _ _ _ _ _ hlt]
    have fq:=frozen_of_row _ _ j _ _ a4;have zq:=zaa a4;have d3:=zjy c2;have a6:=zjy b0;have d2:=zjy a4;clear c2 b0 a4 b7 b6;go_wp2_with fail
    go_roundw
    case rel =>
     refine ⟨j+1,by go_num,by omega,?_,?_,?_⟩
     ·rw [itN_succ,c4.o];exact d3.o.set n1 n2 n3 n4
     ·rw [<- prow_step _ _ _ _ _ hlt,c4.o];exact zad d2.o
     ·exact (c5.o.trans ⟨a6.o.os,a6.o.tape,a6.o.output,a6.o.size,fun i hi hn=>a6.o.block i hi (by have hn':i<w1.heap.size:=Nat.lt_of_not_le hn;intro h;rcases h with rfl | rfl <;> omega)⟩).set (p:=⟨gb,j,none⟩) m1 _
    case measure=>simp [intOf];omega
   ·have hq:decide ((j:Int)<H)=false:=by simp;omega
    obtain rfl:j=H:=by omega
    go_wp2_with fail
    go_ret2
    refine ⟨_,rfl,?_,c6.o.trans (c5.o.below (B:=w.heap.size) (fun i hi h=>by have h':w1.heap.size<=i:=h;omega) d0)⟩
    have hr:wr.heap[gb]?=some (.cells ((zbv p k g).flatMap encI).toArray 3 (0,0)):=by
     have:=b6.o;rw [Nat.sub_self,List.replicate_zero,List.append_nil] at this;unfold zbv;rw [HH.o,Int.toNat_natCast];exact this
    have a3:j=(zbv p k g).length:=by unfold zbv;rw [zen,HH.o,Int.toNat_natCast]
    refine ⟨some ⟨gb,0,none⟩,j,by rw [<- a3];rfl,by rw [<- a3];exact Nat.le_refl _,fun h0=>⟨gb,0,rfl,by omega,zaa hr,fun i x hi u v hu=>fun_cell hr hi hu⟩⟩
end
section
open Go.RowKit
attribute [local go_sem] zag zaj
@[local go_sem] theorem za6 (a b:List UInt8):(⟨a.toArray⟩:ByteArray)++⟨b.toArray⟩=⟨(a++b).toArray⟩:=by
 apply ByteArray.ext;simp
def SomeBool (D:Nat) (w:World) (e:Ending) (w':World):Prop:=∃ b:Bool,e = .returned (.bool b)/\Moved D w w'
def SomeText (D N:Nat) (w:World) (e:Ending) (w':World):Prop:=∃ l:List UInt8,e = .returned (zak l)/\l.length<=N/\Moved D w w'
theorem zfj (D:Nat) (w:World) (k:Int) (h:DeckAt w D) (hk:1<=k) (hk2:k<=1000000000) :
  Calls prog 34 #[.pointer (some ⟨D,0,none⟩),.int .i64 k] w (SomeBool D w):=by
 go_enter func34,ntmps34
 go_wp2_with fail
 refine (zb5 D _ k h hk hk2).mono ?_;rintro e w1 ⟨r,rfl,h0,h1,h2⟩;have H2:=zjy h2;clear h2;go_wp2_with fail
 go_ret;exact ⟨_,rfl,H2.o⟩
theorem Vec.moved {α:Type} {D:Nat} {w w':World} {k:Nat} {enc:α->List Value} {v:Value} {L:List α} (h:Vec w (fun b=>b≠D) k enc v L) (m:Moved D w w'):Vec w' (fun b=>b≠D) k enc v L :=
 h.move m.size fun b hb hD=>⟨m.grown.block b hb (by simp;omega),hD⟩
def PickPost (D:Nat) (L:List (List UInt8)) (w:World) (e:Ending) (w':World):Prop:=∃ l:List UInt8,e = .returned (zak l)/\l∈L/\Moved D w w'
theorem pick_any (D:Nat) (w:World) (v:Value) (L:List (List UInt8)) (h:DeckAt w D) (hV:Vec w (fun b=>b≠D) 1 za8 v L) (h1:1<=L.length) (h2:L.length<=1000) :
  Calls prog 84 #[.pointer (some ⟨D,0,none⟩),v] w (PickPost D L w):=by
 obtain ⟨a,cap,rfl⟩:=hV.slice;have HV:=zjy hV;clear hV;go_enter func84,ntmps84
 go_wp2_with fail
 refine (zb5 D _ _ h (by omega) (by omega)).mono ?_;rintro e w1 ⟨r,rfl,r0,r1,mv⟩;have MV:=zjy mv;clear mv;obtain ⟨r,rfl⟩:=Int.eq_ofNat_of_zero_le r0;obtain ⟨b,off,rfl,_,hb,hc⟩:=zb7 (HV.o.moved MV.o) (by omega);have hr:r<L.length:=by omega
 have a2:=hc r hr;have a0:L.getD r []∈L:=by rw [List.getD,List.getElem?_eq_getElem hr];exact List.getElem_mem hr
 obtain ⟨x,hx⟩:=xex (L.getD r []);rw [hx] at a2 a0;have a1:=zjy a0;clear hc a0 hx;go_wp2_with fail
 go_ret;exact ⟨x,rfl,a1.o,MV.o⟩
end
section
open Go.RowKit
attribute [local go_sem] zag zaj za6
theorem one_byte (w:World) (a:UInt8):(convert 175 9 (.slice (some ⟨w.heap.size,0,none⟩) 1 1)).run prog (w.alloc (.cells #[.int .u8 a.toNat] 5)) = .ok (zak [a]) (w.alloc (.cells #[.int .u8 a.toNat] 5)):=by
 have ho:(w.alloc (.cells (([a]:List UInt8).map zga).toArray 5)).ownsRow 0 5 1 (.slice (some ⟨w.heap.size,0,none⟩) 1 1) 1 (([a]:List UInt8).map zga) :=
  ⟨by simp,.inr ⟨_,_,_,rfl,Nat.zero_le _,zac rfl,Nat.le_refl _,zdg (by omega),by simp,by simp⟩⟩
 exact zce [a] ho underlying175 underlying5 underlying9
end
section
open Go.RowKit
def EqL (a b:List UInt8):Prop:=∀ r,zbw [] (a++r)=zbw [] (b++r)
theorem EqL.refl (a:List UInt8):EqL a a:=fun _=>rfl
theorem EqL.app {a b:List UInt8} (h:EqL a b) (c:List UInt8):EqL (a++c) (b++c):=fun r=>by rw [List.append_assoc,List.append_assoc];exact h _
theorem EqL.trans {a b c:List UInt8} (h:EqL a b) (h':EqL b c):EqL a c:=fun r=>(h r).trans (h' r)
theorem EqL.lead:EqL [32] []:=fun r=>zbm r
theorem toksA_two (l:List UInt8):∀ p r,zbw p (l++32 :: 32 :: r)=zbw p (l++32 :: r):=by
 induction l with
 | nil =>
  intro p r;simp only [List.nil_append];by_cases hp:p=[]
  ·subst hp;rw [zbm]
  ·rw [zbz _ _ hp,zbz _ _ hp,zbm]
 | cons c l ih =>
  intro p r;simp only [List.cons_append];by_cases hc:c=32
  ·subst hc
   by_cases hp:p=[]
   ·subst hp;rw [zbm,zbm,ih]
   ·rw [zbz _ _ hp,zbz _ _ hp,ih]
  ·rw [zb0 _ _ _ hc,zb0 _ _ _ hc,ih]
theorem EqL.two (a:List UInt8):EqL (a++[32,32]) (a++[32]):=fun r=>by
 rw [List.append_assoc,List.append_assoc];exact toksA_two a [] r
theorem toksA_last (l:List UInt8):∀ p,zbw p (l++[32])=zbw p l:=by
 induction l with
 | nil =>
  intro p;simp only [List.nil_append];by_cases hp:p=[]
  ·subst hp;rw [zbm]
  ·rw [zbz _ _ hp,ze8 _ hp];rfl
 | cons c l ih =>
  intro p;simp only [List.cons_append];by_cases hc:c=32
  ·subst hc
   by_cases hp:p=[]
   ·subst hp;rw [zbm,zbm,ih]
   ·rw [zbz _ _ hp,zbz _ _ hp,ih]
  ·rw [zb0 _ _ _ hc,zb0 _ _ _ hc,ih]
def allOk (l:List UInt8):Prop:=∀ b∈l,zfl b=true
theorem allOk.app {a b:List UInt8} (h:allOk a) (h':allOk b):allOk (a++b):=fun c hc=>(List.mem_append.1 hc).elim (h c) (h' c)
def zgn (l:List UInt8):List UInt8:=l.flatMap zbn
theorem zcy (a b:List UInt8):zgn (a++b)=zgn a++zgn b:=List.flatMap_append
theorem byte_pair {a b:UInt8} (h:zfl a=true):zjl a b=false:=by
 rw [ok_iff,decide_eq_true_iff] at h;rw [zh0];simp;omega
theorem raw_flat (l:List UInt8) (h:allOk l):rawL l=zgn l/\zcx l=true:=by
 induction l using rawL.induct with
 | case1=>exact ⟨rfl,rfl⟩
 | case2 a=>exact ⟨by simp [rawL,zgn],by simp only [zcx];exact h a (by simp)⟩
 | case3 a b r hp ih=>exfalso;rw [byte_pair (h a (by simp))] at hp;cases hp
 | case4 a b r hp ih =>
  have a0:=byte_pair (a:=a) (b:=b) (h a (by simp));have:=ih fun x hx=>h x (List.mem_cons_of_mem _ hx)
  refine ⟨?_,?_⟩
  ·rw [rawL,a0];simp only [Bool.false_eq_true,if_false];rw [this.1];simp [zgn]
  ·rw [zcx,a0];simp only [Bool.false_eq_true,if_false];rw [this.2,h a (by simp)];rfl
structure DressTo (p o:List UInt8):Prop where
 ok:allOk o
 eq:EqL (zgn o) p
 len:o.length<=1+2*p.length
structure DressOf (l o:List UInt8):Prop where
 ok:allOk o
 eq:zcu (rawL o)=zcu l
 len:o.length<=2+2*l.length
def dressA:List (List UInt8):=[[],[],[32],[45]]
def dressB:List (List UInt8):=[[32],[45],[44,32],[46],[32,32],[47]]
def dressC:List (List UInt8):=[[],[],[32],[46]]
theorem zca {l:List UInt8} (h:l.all zfl=true):allOk l:=List.all_eq_true.1 h
theorem DressTo.start {o:List UInt8} (h:o∈dressA):DressTo [] o:=by
 simp [dressA] at h
 rcases h with rfl | rfl | rfl
 ·exact ⟨zca rfl,EqL.refl _,by simp⟩
 ·exact ⟨zca rfl,EqL.lead,by simp⟩
 ·exact ⟨zca rfl,EqL.lead,by simp⟩
theorem DressTo.space {p o x:List UInt8} (h:DressTo p o) (hx:x∈dressB):DressTo (p++[32]) (o++x):=by
 simp [dressB] at hx
 rcases hx with rfl | rfl | rfl | rfl | rfl | rfl
 ·exact ⟨h.ok.app (zca rfl),by rw [zcy];exact h.eq.app [32],by have:=h.len;simp;omega⟩
 ·exact ⟨h.ok.app (zca rfl),by rw [zcy];exact h.eq.app [32],by have:=h.len;simp;omega⟩
 ·exact ⟨h.ok.app (zca rfl),by rw [zcy];exact (EqL.two _).trans (h.eq.app [32]),by have:=h.len;simp;omega⟩
 ·exact ⟨h.ok.app (zca rfl),by rw [zcy];exact h.eq.app [32],by have:=h.len;simp;omega⟩
 ·exact ⟨h.ok.app (zca rfl),by rw [zcy];exact (EqL.two _).trans (h.eq.app [32]),by have:=h.len;simp;omega⟩
 ·exact ⟨h.ok.app (zca rfl),by rw [zcy];exact h.eq.app [32],by have:=h.len;simp;omega⟩
theorem DressTo.byte {p o:List UInt8} {c x:UInt8} (h:DressTo p o) (hx:zfl x=true) (hp:zbn x=[c]):DressTo (p++[c]) (o++[x]) :=
 ⟨h.ok.app (fun b hb=>by simp at hb;subst hb;exact hx),by rw [zcy,show zgn [x]=[c] by simp [zgn,hp]];exact h.eq.app [c],by have:=h.len;simp;omega⟩
theorem DressTo.mark {p o:List UInt8} {c x:UInt8} (h:DressTo p o) (hx:zfl x=true) (hp:zbn x=[c]):DressTo (p++[c]) (o++[x]++[39]) :=
 ⟨(h.ok.app (fun b hb=>by simp at hb;subst hb;exact hx)).app (zca rfl),by rw [zcy,zcy,show zgn [39]=[] from rfl,List.append_nil,show zgn [x]=[c] by simp [zgn,hp]];exact h.eq.app [c],by have:=h.len;simp;omega⟩
theorem DressTo.done {p o x:List UInt8} (h:DressTo p o) (hx:x∈dressC):DressOf p (o++x):=by
 have e:∀ q:List UInt8,zcu (zgn o++q)=zbw [] (p++q):=fun q=>h.eq q
 have e0:=h.eq [];simp only [List.append_nil] at e0;simp [dressC] at hx
 rcases hx with rfl | rfl | rfl
 ·exact ⟨h.ok.app (zca rfl),by rw [(raw_flat _ (h.ok.app (zca rfl))).1,List.append_nil];exact e0,by have:=h.len;simp;omega⟩
 ·exact ⟨h.ok.app (zca rfl),by rw [(raw_flat _ (h.ok.app (zca rfl))).1,zcy];exact (e [32]).trans (toksA_last p []),by have:=h.len;simp;omega⟩
 ·exact ⟨h.ok.app (zca rfl),by rw [(raw_flat _ (h.ok.app (zca rfl))).1,zcy];exact (e [32]).trans (toksA_last p []),by have:=h.len;simp;omega⟩
theorem zhy {c:UInt8} (h:okB c=true):zfl c=true/\zbn c=[c]:=⟨ok_byte h,ok_plain h⟩
theorem plain_up {c:UInt8} (h:zf8 c=true):zfl (c - 32)=true/\zbn (c - 32)=[c]:=by
 rw [zdz,decide_eq_true_iff] at h
 have e:(c - 32).toNat=c.toNat - 32:=by
  rw [UInt8.toNat_sub_of_le]
  ·rfl
  ·rw [UInt8.le_iff_toNat_le];show 32<=_;omega
 have hu:isUp (c - 32)=true:=by rw [up_iff,decide_eq_true_iff,e];omega
 refine ⟨?_,?_⟩
 ·rw [ok_iff,decide_eq_true_iff,e];omega
 ·unfold zbn;rw [if_pos hu,UInt8.sub_add_cancel]
end
section
open Go.RowKit
def t1L:List (List UInt8):=[[100,114],[118,97,110]]
def n1L:List P2:=[([97,110,110,97],[97,110,110]),([98,111,98],[114,111,98,101,114,116])]
def s1L:List P2:=[([114,100],[114,111,97,100]),([115,116],[115,116,114,101,101,116])]
structure RulesD (r:RulesL):Prop where
 t:r.titles=[]\/r.titles=t1L
 n:r.nicks=[]\/r.nicks=n1L
 s:r.streets=[]\/r.streets=s1L
theorem RulesD.check {r:RulesL} (h:RulesD r):zaz r=0:=by
 obtain ⟨t,n,s⟩:=r;obtain ⟨h1,h2,h3⟩:=h;dsimp only at h1 h2 h3
 rcases h1 with rfl | rfl <;> rcases h2 with rfl | rfl <;> rcases h3 with rfl | rfl <;> decide
def namesD:List (List UInt8):=[[102,97,109,105,108,121],[103,105,118,101,110],[98,105,114,116,104],[115,116,114,101,101,116],[99,111,100,101]]
structure FieldsD (F:List F2):Prop where
 len:F.length<=4
 names:F.map (·.1)=namesD.take F.length
 kinds:∀ x∈F,1<=x.2/\x.2<=4
theorem FieldsD.nil:FieldsD []:=⟨by simp,rfl,by simp⟩
theorem FieldsD.snoc {F:List F2} (h:FieldsD F) (hl:F.length<4) {k:Int} (h1:1<=k) (h2:k<=4):FieldsD (F++[(namesD.getD F.length [],k)]):=by
 refine ⟨by simp;omega,?_,fun x hx=>?_⟩
 ·have hn:F.length<namesD.length:=by show F.length<5;omega
  rw [List.map_append,h.names,List.length_append,List.length_singleton,List.take_succ_eq_append_getElem hn,List.getD,List.getElem?_eq_getElem hn];rfl
 ·rcases List.mem_append.1 hx with hx | hx
  ·exact h.kinds x hx
  ·simp at hx;subst hx;exact ⟨h1,h2⟩
theorem names_ok:∀ n:Fin 5,∀ j:Fin n,(wordB (namesD.getD j []) && !(((namesD.take n).take j).any fun x=>x == namesD.getD j []))=true:=by decide
theorem FieldsD.check {F:List F2} (h:FieldsD F) (h1:1<=F.length) {r:RulesL} (hr:zaz r=0):za1 ⟨F,r⟩=0:=by
 have hl:=h.len
 have hf:zfy F=true:=by
  refine List.all_eq_true.2 fun j hj=>?_
  have a0:j<F.length:=List.mem_range.1 hj;have hk:=names_ok ⟨F.length,by omega⟩ ⟨j,a0⟩
  have e1:(F.getD j default).1=namesD.getD j []:=by
   have hjn:j<(F.map (·.1)).length:=by simpa using a0
   have:(F.map (·.1)).getD j []=namesD.getD j []:=by
    rw [h.names,List.getD,List.getElem?_take,if_pos a0,List.getD]
   rw [<- this,List.getD,List.getElem?_eq_getElem a0,List.getD,List.getElem?_map,List.getElem?_eq_getElem a0];rfl
  have e2:((F.take j).any fun x=>x.1 == (F.getD j default).1)=((namesD.take F.length).take j).any fun x=>x == namesD.getD j []:=by
   rw [e1,<- h.names,<- List.map_take,List.any_map];rfl
  have hm:F.getD j default∈F:=by rw [List.getD,List.getElem?_eq_getElem a0];exact List.getElem_mem a0
  obtain ⟨k1,k2⟩:=h.kinds _ hm;unfold zcb;rw [e2,e1];dsimp only at hk;rw [hk,decide_eq_true k1,decide_eq_true k2];rfl
 unfold za1;rw [if_neg (by dsimp only;omega),if_pos hf];exact hr
end
section
open Go.RowKit
attribute [local go_sem] zag zaj za6
theorem ze5 {w:World} {A:Nat} {α:Type} {k:Nat} {enc:α->List Value} (hk:∀ x,(enc x).length=k) {t:TypeId} {L:List α} {S:Nat->Prop} (h:w.heap[A]?=some (.cells (L.flatMap enc).toArray t (0,0))) (hS:S A) (n:Nat) (hn:n=L.length):Vec w S k enc (.slice (some ⟨A,0,none⟩) n n) L:=by
 subst hn
 refine ⟨_,_,rfl,Nat.le_refl _,fun _=>⟨A,0,rfl,hS,zaa h,fun j x hj i u hu=>?_⟩⟩
 have hi:i<k:=by rw [<- hk x];exact (List.getElem?_eq_some_iff.1 hu).1
 rw [cell_of_row _ _ _ _ _ _ h,Nat.zero_add,List.getElem?_toArray,zgf hk L j x hj i hi];exact hu
theorem Vec.put {α:Type} {w:World} {S:Nat->Prop} {k:Nat} {enc:α->List Value} {v:Value} {L:List α} (h:Vec w S k enc v L) {a:Addr} (ha:∀ b,S b->b≠a.block) (x:Value) (o:Obj):Vec ((w.setCell a x).alloc o) S k enc v L :=
 h.move (by simp [World.setCell]) fun b hb hS=>⟨by rw [heap_alloc_old _ _ (by simpa [World.setCell] using hb),heap_setCell_other _ _ _ _ (ha b hS)],hS⟩
theorem Vec.weaken {α:Type} {w:World} {S S':Nat->Prop} {k:Nat} {enc:α->List Value} {v:Value} {L:List α} (h:Vec w S k enc v L) (hs:∀ b,S b->S' b):Vec w S' k enc v L:=h.move xnl fun b _ h=>⟨rfl,hs b h⟩
theorem set_new (v:World) (a:Addr) (x:Value) (o:Obj):((v.setCell a x).alloc o).heap[v.heap.size]?=some o:=zac (by simp [World.setCell])
theorem Vec.set1 {α:Type} {w:World} {S:Nat->Prop} {k:Nat} {enc:α->List Value} {v:Value} {L:List α} (h:Vec w S k enc v L) {a:Addr} (ha:∀ b,S b->b≠a.block) (x:Value):Vec (w.setCell a x) S k enc v L :=
 h.move (by simp [World.setCell]) fun b hb hS=>⟨by rw [heap_setCell_other _ _ _ _ (ha b hS)],hS⟩
theorem RulesAt.set3 {w:World} {S:Nat->Prop} {vt vn vs:Value} {r:RulesL} (h:RulesAt w S vt vn vs r) {a b c:Addr} (ha:∀ k,S k->k≠a.block) (hb:∀ k,S k->k≠b.block) (hc:∀ k,S k->k≠c.block) (x y z:Value):RulesAt (((w.setCell a x).setCell b y).setCell c z) S vt vn vs r :=
 ⟨((h.1.set1 ha x).set1 hb y).set1 hc z,((h.2.1.set1 ha x).set1 hb y).set1 hc z,((h.2.2.set1 ha x).set1 hb y).set1 hc z⟩
theorem RulesAt.weaken {w:World} {S S':Nat->Prop} {vt vn vs:Value} {r:RulesL} (h:RulesAt w S vt vn vs r) (hs:∀ b,S b->S' b):RulesAt w S' vt vn vs r:=⟨h.1.weaken hs,h.2.1.weaken hs,h.2.2.weaken hs⟩
def RMid (D:Nat) (w wc:World):Prop:=∃ vt vn vs r,wc.heap[w.heap.size]?=some (.cells #[.slice none 0 0,.slice none 0 0,.slice none 0 0] 31 (0,0))/\wc.heap[w.heap.size+1]?=some (.cells #[vt,vn,vs] 31 (0,0))/\RulesAt wc (fun b=>w.heap.size+1<b) vt vn vs r/\RulesD r/\Moved D w wc
theorem RMid.moved {D:Nat} {w wc wd:World} (h:RMid D w wc) (hD:D<w.heap.size) (m:Moved D wc wd):RMid D w wd:=by
 obtain ⟨vt,vn,vs,r,hz,hy,hr,hd,hm⟩:=h;refine ⟨vt,vn,vs,r,m.blk (by omega) hz,m.blk (by omega) hy,?_,hd,hm.trans m⟩;exact ⟨hr.1.move m.size fun b hb hS=>⟨m.grown.block b hb (by simp;omega),hS⟩,hr.2.1.move m.size fun b hb hS=>⟨m.grown.block b hb (by simp;omega),hS⟩,hr.2.2.move m.size fun b hb hS=>⟨m.grown.block b hb (by simp;omega),hS⟩⟩
theorem rmid_t {D:Nat} {w v:World} {vt vn vs:Value} {r:RulesL} (hD:D<w.heap.size) (hz:v.heap[w.heap.size]?=some (.cells #[.slice none 0 0,.slice none 0 0,.slice none 0 0] 31 (0,0))) (hy:v.heap[w.heap.size+1]?=some (.cells #[vt,vn,vs] 31 (0,0))) (hr:RulesAt v (fun b=>w.heap.size+1<b) vt vn vs r) (hd:RulesD r) (hm:Moved D w v) :
  RMid D w ((v.setCell ⟨w.heap.size+1,0,none⟩ (.slice (some ⟨v.heap.size,0,none⟩) 2 2)).alloc (.cells (t1L.flatMap za8).toArray 9)):=by
 have h1:=zaa hy;refine ⟨_,vn,vs,⟨t1L,r.nicks,r.streets⟩,zaf (zam hz (by simp)),zaf (zad hy),⟨ze5 (k:=1) (enc:=za8) (L:=t1L) (S:=fun b=>w.heap.size+1<b) (A:=v.heap.size) (fun _=>rfl) (set_new _ _ _ _) (by omega) 2 rfl,hr.2.1.put (fun b h=>by simp at h ⊢;omega) _ _,hr.2.2.put (fun b h=>by simp at h ⊢;omega) _ _⟩,⟨.inr rfl,hd.n,hd.s⟩,(hm.set (by simp) _).alloc _⟩
theorem rmid_n {D:Nat} {w v:World} {vt vn vs:Value} {r:RulesL} (hD:D<w.heap.size) (hz:v.heap[w.heap.size]?=some (.cells #[.slice none 0 0,.slice none 0 0,.slice none 0 0] 31 (0,0))) (hy:v.heap[w.heap.size+1]?=some (.cells #[vt,vn,vs] 31 (0,0))) (hr:RulesAt v (fun b=>w.heap.size+1<b) vt vn vs r) (hd:RulesD r) (hm:Moved D w v) :
  RMid D w ((v.setCell ⟨w.heap.size+1,1,none⟩ (.slice (some ⟨v.heap.size,0,none⟩) 2 2)).alloc (.cells (n1L.flatMap encP).toArray 122)):=by
 have h1:=zaa hy;refine ⟨vt,_,vs,⟨r.titles,n1L,r.streets⟩,zaf (zam hz (by simp)),zaf (zad hy),⟨hr.1.put (fun b h=>by simp at h ⊢;omega) _ _,ze5 (k:=2) (enc:=encP) (L:=n1L) (S:=fun b=>w.heap.size+1<b) (A:=v.heap.size) (fun _=>rfl) (set_new _ _ _ _) (by omega) 2 rfl,hr.2.2.put (fun b h=>by simp at h ⊢;omega) _ _⟩,⟨hd.t,.inr rfl,hd.s⟩,(hm.set (by simp) _).alloc _⟩
theorem rmid_s {D:Nat} {w v:World} {vt vn vs:Value} {r:RulesL} (hD:D<w.heap.size) (hz:v.heap[w.heap.size]?=some (.cells #[.slice none 0 0,.slice none 0 0,.slice none 0 0] 31 (0,0))) (hy:v.heap[w.heap.size+1]?=some (.cells #[vt,vn,vs] 31 (0,0))) (hr:RulesAt v (fun b=>w.heap.size+1<b) vt vn vs r) (hd:RulesD r) (hm:Moved D w v) :
  RMid D w ((v.setCell ⟨w.heap.size+1,2,none⟩ (.slice (some ⟨v.heap.size,0,none⟩) 2 2)).alloc (.cells (s1L.flatMap encP).toArray 122)):=by
 have h1:=zaa hy;refine ⟨vt,vn,_,⟨r.titles,r.nicks,s1L⟩,zaf (zam hz (by simp)),zaf (zad hy),⟨hr.1.put (fun b h=>by simp at h ⊢;omega) _ _,hr.2.1.put (fun b h=>by simp at h ⊢;omega) _ _,ze5 (k:=2) (enc:=encP) (L:=s1L) (S:=fun b=>w.heap.size+1<b) (A:=v.heap.size) (fun _=>rfl) (set_new _ _ _ _) (by omega) 2 rfl⟩,⟨hd.t,hd.n,.inr rfl⟩,(hm.set (by simp) _).alloc _⟩
def RulesPost (D:Nat) (w:World) (e:Ending) (w':World):Prop:=∃ vt vn vs r,e = .returned (.agg #[vt,vn,vs])/\RulesAt w' (fun b=>w.heap.size<=b) vt vn vs r/\RulesD r/\Moved D w w'
theorem rules_deal (D:Nat) (w:World) (h:DeckAt w D) :
  Calls prog 33 #[.pointer (some ⟨D,0,none⟩)] w (RulesPost D w):=by
 have zD:=h.lt;have HD:=zjy h;clear h;go_enter func33,ntmps33
 go_wp2_with fail
 have K:=zjy (show RMid D w ((w.alloc (.cells #[.slice none 0 0,.slice none 0 0,.slice none 0 0] 31)).alloc (.cells #[.slice none 0 0,.slice none 0 0,.slice none 0 0] 31)) from
  ⟨_,_,_,⟨[],[],[]⟩,zaf (zac rfl),zac (by simp),⟨Vec.nil _ _ _ _,Vec.nil _ _ _ _,Vec.nil _ _ _ _⟩,⟨.inl rfl,.inl rfl,.inl rfl⟩,((Moved.start HD.o).alloc _).alloc _⟩)
 refine (zfj D _ 2 (by obtain ⟨_,_,_,_,_,_,_,_,m⟩:=K.o;exact m.deck) (by omega) (by omega)).mono ?_;rintro e v0 ⟨u,rfl,mv⟩;have K0:=zjy (K.o.moved zD mv);clear K mv;go_upto_if 5 with fail
 go_cut [] (fun wc=>RMid D w wc)
 case first =>
  obtain ⟨vt,vn,vs,r,hz,hy,hr,hd,hm⟩:=K0.o;have HZ:=zjy hz;have HY:=zjy hy;have HR:=zjy hr;have a0:=zjy hd;have HM:=zjy hm;obtain ⟨c0,c1,c2⟩:=zan hy;obtain ⟨f0,f1,f2⟩:=free3 hy;have q:=zaa hy;clear hz hy hr hd hm;cases u
  ·go_wp2_with fail
   go_meet;exact K0.o
  ·go_wp2_with fail
   go_meet;exact rmid_t zD HZ.o HY.o HR.o a0.o HM.o
 case rest =>
  have K1:=zjy hcut;clear hcut K0;go_wp2_with fail
  refine (zfj D _ 2 (by obtain ⟨_,_,_,_,_,_,_,_,m⟩:=K1.o;exact m.deck) (by omega) (by omega)).mono ?_;rintro e v1 ⟨u,rfl,mv⟩;have K2:=zjy (K1.o.moved zD mv);clear K1 mv;go_upto_if 9 with fail
  go_cut [] (fun wc=>RMid D w wc)
  case first =>
   obtain ⟨vt,vn,vs,r,hz,hy,hr,hd,hm⟩:=K2.o;have HZ:=zjy hz;have HY:=zjy hy;have HR:=zjy hr;have a0:=zjy hd;have HM:=zjy hm;obtain ⟨c0,c1,c2⟩:=zan hy;obtain ⟨f0,f1,f2⟩:=free3 hy;have q:=zaa hy;clear hz hy hr hd hm;cases u
   ·go_wp2_with fail
    go_meet;exact K2.o
   ·go_wp2_with fail
    go_meet;exact rmid_n zD HZ.o HY.o HR.o a0.o HM.o
  case rest =>
   have K3:=zjy hcut;clear hcut K2;go_wp2_with fail
   refine (zfj D _ 2 (by obtain ⟨_,_,_,_,_,_,_,_,m⟩:=K3.o;exact m.deck) (by omega) (by omega)).mono ?_;rintro e v2 ⟨u,rfl,mv⟩;have K4:=zjy (K3.o.moved zD mv);clear K3 mv;go_upto_if 15 with fail
   go_cut [] (fun wc=>RMid D w wc)
   case first =>
    obtain ⟨vt,vn,vs,r,hz,hy,hr,hd,hm⟩:=K4.o;have HZ:=zjy hz;have HY:=zjy hy;have HR:=zjy hr;have a0:=zjy hd;have HM:=zjy hm;obtain ⟨c0,c1,c2⟩:=zan hy;obtain ⟨f0,f1,f2⟩:=free3 hy;have q:=zaa hy;clear hz hy hr hd hm;cases u
    ·go_wp2_with fail
     go_meet;exact K4.o
    ·go_wp2_with fail
     go_meet;exact rmid_s zD HZ.o HY.o HR.o a0.o HM.o
   case rest =>
    obtain ⟨vt,vn,vs,r,hz,hy,hr,hd,hm⟩:=hcut;obtain ⟨a1,ct,rfl⟩:=hr.1.slice;obtain ⟨an,cn,rfl⟩:=hr.2.1.slice;obtain ⟨a2,cs,rfl⟩:=hr.2.2.slice;have HZ:=zjy hz;have HY:=zjy hy;have HR:=zjy hr;have a0:=zjy hd;have HM:=zjy hm;obtain ⟨c0,c1,c2⟩:=zan hy;obtain ⟨f0,f1,f2⟩:=free3 hy;obtain ⟨d0,d1,d2⟩:=zan hz;obtain ⟨g0,g1,g2⟩:=free3 hz;have q:=zaa hy;have q':=zaa hz;clear hz hy hr hd hm K4;go_wp2_with fail
    have hz:=zad (i:=2) (v:=.slice a2 r.streets.length cs) (zad (i:=1) (v:=.slice an r.nicks.length cn) (zad (i:=0) (v:=.slice a1 r.titles.length ct) HZ.o));have hm:=((HM.o.set (a:=⟨w.heap.size,0,none⟩) xnl (.slice a1 r.titles.length ct)).set (a:=⟨w.heap.size,1,none⟩) xnl (.slice an r.nicks.length cn)).set (a:=⟨w.heap.size,2,none⟩) xnl (.slice a2 r.streets.length cs);have hr:=HR.o.set3 (a:=⟨w.heap.size,0,none⟩) (b:=⟨w.heap.size,1,none⟩) (c:=⟨w.heap.size,2,none⟩) (fun b h=>by simp at h ⊢;omega) (fun b h=>by simp at h ⊢;omega) (fun b h=>by simp at h ⊢;omega) (.slice a1 r.titles.length ct) (.slice an r.nicks.length cn) (.slice a2 r.streets.length cs)
    exact za5 rfl rfl hz underlying31 rfl (by kernel_rfl) ⟨_,_,_,r,rfl,hr.weaken fun b h=>by have h':w.heap.size+1<b:=h;show w.heap.size<=b;omega,a0.o,hm⟩
end
section
open Go.RowKit
theorem fl_u:∀ l:List Int,l.flatMap zc7=l.map (Value.int .u64):=by
 intro l;induction l with
 | nil=>rfl
 | cons a l ih=>simp only [List.flatMap_cons,List.map_cons,ih];rfl
theorem word_cell {w:World} {g:Nat} {t:TypeId} {fr:Nat × Nat} {W:List Int} (h:w.heap[g]?=some (.cells (W.flatMap zc7).toArray t fr)) (q:Nat) (hq:q<W.length):w.cell? ⟨g,q,none⟩=some (.int .u64 (W.getD q 0)):=by
 rw [cell_of_row _ _ _ _ _ _ h,fl_u,List.getElem?_toArray,List.getElem?_map,List.getElem?_eq_getElem hq,List.getD,List.getElem?_eq_getElem hq];rfl
theorem word_set (W:List Int) (q:Nat) (x:Int):((W.flatMap zc7).toArray).setIfInBounds q (.int .u64 x)=((W.set q x).flatMap zc7).toArray:=by
 rw [fl_u,fl_u,List.setIfInBounds_toArray,List.map_set]
theorem fun_cellU {w:World} {gb:Nat} {t:TypeId} {fr:Nat × Nat} {L:List Int} (hr:w.heap[gb]?=some (.cells (L.flatMap zc7).toArray t fr)) {i:Nat} {x:Int} (hi:L[i]?=some x) {u:Nat} {v:Value} (hu:(zc7 x)[u]?=some v):w.cell? ⟨gb,0+i*1+u,none⟩=some v:=by
 rw [cell_of_row _ _ _ _ _ _ hr,Nat.zero_add,List.getElem?_toArray];have a0:u<1:=(List.getElem?_eq_some_iff.1 hu).1;rw [zgf (enc:=zc7) (fun _=>rfl) L i x hi u a0];exact hu
structure EncAt (w:World) (p:ParL) (k:Int × Int) (gw c9 m:Nat) (W:List Int) (wr:World):Prop where
 hp:wr.heap[w.heap.size]?=some (.cells (parC p) 87 (0,0))
 hk:wr.heap[w.heap.size+1]?=some (.cells #[.int .u64 k.1,.int .u64 k.2] 41 (0,0))
 hr:wr.heap[w.heap.size+2]?=some (.cells #[.int .i64 0,.slice none 0 0] 56 (0,0))
 hc:wr.heap[c9]?=some (.cells #[.int .i64 p.len,.slice (some ⟨gw,0,none⟩) m m] 56 (0,0))
 hw:wr.heap[gw]?=some (.cells (W.flatMap zc7).toArray 39 (0,0))
 len:W.length=m
 ne:w.heap.size+2<gw/\w.heap.size+2<c9/\gw≠c9
 b:Below w.heap.size w wr
theorem EncAt.below {w:World} {p:ParL} {k:Int × Int} {gw c9 m:Nat} {W:List Int} {wr wx:World} (h:EncAt w p k gw c9 m W wr) (hb:Below wr.heap.size wr wx):EncAt w p k gw c9 m W wx :=
 ⟨zab hb (zaa h.hp) h.hp,zab hb (zaa h.hk) h.hk,zab hb (zaa h.hr) h.hr,zab hb (zaa h.hc) h.hc,zab hb (zaa h.hw) h.hw,h.len,h.ne,h.b.trans (hb.mono h.b.size)⟩
theorem EncAt.set {w:World} {p:ParL} {k:Int × Int} {gw c9 m:Nat} {W:List Int} {wr:World} (h:EncAt w p k gw c9 m W wr) (q:Nat) (x:Int):EncAt w p k gw c9 m (W.set q x) (wr.setCell ⟨gw,q,none⟩ (.int .u64 x)):=by
 obtain ⟨n1,n2,n3⟩:=h.ne;refine ⟨zam h.hp (by show w.heap.size≠gw;omega),zam h.hk (by show w.heap.size+1≠gw;omega),zam h.hr (by show w.heap.size+2≠gw;omega),zam h.hc (Ne.symm n3),?_,by rw [List.length_set];exact h.len,h.ne,h.b.setCell (p:=⟨gw,q,none⟩) (by show w.heap.size<=gw;omega) _⟩;rw [<- word_set];exact zad h.hw
theorem EncAt.drew {w:World} {p:ParL} {k:Int × Int} {gw c9 m:Nat} {W:List Int} {wr:World} (h:EncAt w p k gw c9 m W wr):EncAt w p k gw c9 m W wr.drew:=⟨h.hp,h.hk,h.hr,h.hc,h.hw,h.len,h.ne,h.b.drew⟩
def EncodePost (b:BitsL) (w:World) (e:Ending) (w':World):Prop:=∃ v,e = .returned (.tuple #[v,.int .i64 0])/\BitsAt w' (fun x=>w.heap.size<=x) v b/\Below w.heap.size w w'
theorem bencode_yes (S:Nat->Prop) (p:ParL) (k:Int × Int) (v:Value) (G:List (List UInt8)) (w:World) (hp:ParOk p) (hv:Vec w S 1 za8 v G) (hg:∀ g∈G,g.length<=60000) (hn:G.length<=80) :
  Calls prog 139 #[.agg (parC p),.agg #[.int .u64 k.1,.int .u64 k.2],v] w (EncodePost (zhq p k G).1 w):=by
 obtain ⟨a,cap,rfl⟩:=hv.slice;have hl1:=hp.len1;have hl2:=hp.len2;have d2:(zhq p k G).1=⟨p.len,G.foldl (zeo p k) (ze6 p.len)⟩:=by unfold zhq;rw [if_pos hp.bloom,if_pos hn]
 rw [d2];have HP:=zjy hp;have HV:=zjy hv.any;have f3:=zjy hg;have e4:decide ((80:Int)<G.length)=false:=by simp;omega
 clear hp d2 hv hg;go_enter func139,ntmps139
 go_wp2_with fail
 refine zah (fun W hW=>?_)
 have b9:Below w.heap.size w W:=by rw [hW];exact (((Below.refl _ _).alloc xnl _).alloc (by simp) _).alloc (by simp;omega) _
 have b5:W.heap[w.heap.size]?=some (.cells (parC p) 87 (0,0)):=by rw [hW];exact zaf (zaf (zac rfl))
 have b8:W.heap[w.heap.size+1]?=some (.cells #[.int .u64 k.1,.int .u64 k.2] 41 (0,0)):=by rw [hW];exact zaf (zac (by simp))
 have b2:W.heap[w.heap.size+2]?=some (.cells #[.int .i64 0,.slice none 0 0] 56 (0,0)):=by rw [hW];exact zac (by simp)
 clear hW;refine (bcheck_yes p W HP.o).mono ?_;rintro e w1 ⟨rfl,hb⟩;have b3:=zab hb (zaa b5) b5;have b7:=zab hb (zaa b8) b8;have c8:=zab hb (zaa b2) b2;have d5:=b9.trans (hb.mono b9.size);have a8:=zjy d5;have c3:=zjy b3;have c6:=zjy b7;have a7:=zjy c8;obtain ⟨q0,q1,q2⟩:=zan b3;obtain ⟨k0,k1⟩:=zae b7;clear b9 b5 b8 b2 hb b3 b7 c8 d5;go_wp2_with fail
 refine (zg5 p.len _ HP.o.right).mono ?_;rintro e w2 ⟨gw,m,rfl,hm,a5,b0,hb⟩;have e1:=zaa a7.o
 have hE:EncAt w p k gw w2.heap.size m (ze6 p.len) (w2.alloc (.cells #[.int .i64 p.len,.slice (some ⟨gw,0,none⟩) m m] 56)):=by
  have hz1:=zaa b0;exact ⟨zaf (zab hb (zaa c3.o) c3.o),zaf (zab hb (zaa c6.o) c6.o),zaf (zab hb (zaa a7.o) a7.o),zac rfl,zaf b0,by unfold ze6;rw [List.length_replicate];omega,⟨by omega,by omega,by omega⟩,((a8.o.trans (hb.mono a8.o.size)).alloc (by have:=a8.o.size;have:=hb.size;omega) _)⟩
 have hm8:m<=8:=by omega
 have HM:=zjy hm;have HE:=zjy hE;clear hE hm a5 b0 hb q0 q1 q2 k0 k1 a8 c3 c6 a7 e1;go_wp2_with fail
 refine zal (fun W0 hW0=>?_)
 rw [<- hW0] at HE;have HBW:=zjy HE.o.b;clear hW0;go_loopw [12,13,14,16,35] (fun _ _ _ _ i wr=>∃ j:Nat,i = .int .i64 j/\j<=G.length/\EncAt w p k gw w2.heap.size m ((G.take j).foldl (zeo p k) (ze6 p.len)) wr) (fun _ _ _ _ i _=>G.length - (intOf i).toNat)
 case atStart=>exact ⟨0,rfl,by omega,HE.o⟩
 case round =>
  obtain ⟨j,rfl,hj,he⟩:=hrel;have a0:=zjy he;clear he HE;by_cases hlt:j<G.length
  ·have hq:decide ((j:Int)<G.length)=true:=by simp;omega
   obtain ⟨g,hg⟩:=xex (G[j]);have e5:g.length<=60000:=f3.o g (by rw [<- hg];exact List.getElem_mem _);have c7:(G.take (j+1)).foldl (zeo p k) (ze6 p.len)=zeo p k ((G.take j).foldl (zeo p k) (ze6 p.len)) g:=by rw [List.take_succ_eq_append_getElem hlt,hg,List.foldl_append];rfl
   have d8:=zjy c7;clear c7;obtain ⟨b,off,rfl,hbb,hc⟩:=(HV.o.below a0.o.b).get j hlt;have c0:=hc 0 _ rfl;rw [Nat.mul_one,Nat.add_zero,hg] at c0;obtain ⟨q0,q1,q2⟩:=zan a0.o.hp;obtain ⟨k0,k1⟩:=zae a0.o.hk;obtain ⟨Wj,d7⟩:=xex ((G.take j).foldl (zeo p k) (ze6 p.len));rw [d7] at a0 d8;clear hc d7 hg;go_wp2_with fail
   refine (positions_yes p k g _ HP.o e5).mono ?_;rintro e w4 ⟨v4,rfl,b1,d4⟩;have hgz:=zaa a0.o.hw;have d9:=zjy (a0.o.below d4);have c2:=zjy (b1.move (w':=w4) (S':=fun b=>b≠gw) xnl fun b hb hs=>⟨rfl,by have hs':wr.heap.size<=b:=hs;omega⟩)
   obtain ⟨a4,c4,rfl⟩:=b1.slice;have d3:=posN_bd p.len (zib p k g) (by omega) p.hashes.toNat (zgs p k g) (Int.emod_nonneg _ (by omega)) (Int.emod_lt_of_pos _ (by omega));have a3:(zbv p k g).length<=16:=by unfold zbv;rw [zen];have:=HP.o.h2;omega
   have b6:zeo p k Wj g=(zbv p k g).foldl zf6 Wj:=rfl;obtain ⟨l,hl⟩:=xex (zbv p k g);have a6:∀ i∈l,0<=i/\i<p.len:=by rw [<- hl];exact d3
   rw [hl] at a3 b6 c2 ⊢;have f4:=zjy a6;have f2:=zjy b6;clear b1 d4 d3 hl a6 b6 a0 q0 q1 q2 k0 k1 c0;go_wp2_with fail
   go_loopw [16,48] (fun _ i wr=>∃ n:Nat,i = .int .i64 n/\n<=l.length/\EncAt w p k gw w2.heap.size m ((l.take n).foldl zf6 Wj) wr/\Vec wr (fun b=>b≠gw) 1 encI (.slice a4 l.length c4) l) (fun _ i _=>l.length - (intOf i).toNat)
   case atStart=>exact ⟨0,rfl,by omega,d9.o,c2.o⟩
   case round =>
    obtain ⟨n,rfl,hn,he,hv⟩:=hrel;have a1:=zjy he;have c1:=zjy hv;clear he hv d9 c2;by_cases hlt2:n<l.length
    ·have e3:decide ((n:Int)<l.length)=true:=by simp;omega
     obtain ⟨i,hi⟩:=xex (l[n]);obtain ⟨i0,i1⟩:=f4.o i (by rw [<- hi];exact List.getElem_mem _);have a2:(l.take (n+1)).foldl zf6 Wj=zf6 ((l.take n).foldl zf6 Wj) i:=by rw [List.take_succ_eq_append_getElem hlt2,hi,List.foldl_append];rfl
     obtain ⟨Wn,d6⟩:=xex ((l.take n).foldl zf6 Wj);rw [d6] at a1 a2;have e9:=zjy a2;obtain ⟨b4,e0,rfl,e6,c9⟩:=c1.o.get n hlt2;have c5:=c9 0 _ rfl;rw [Nat.mul_one,Nat.add_zero,hi] at c5;have e2:(i / 64).toNat<Wn.length:=by rw [a1.o.len];have:=HM.o;omega
     have cw:=word_cell a1.o.hw _ e2;have fw:=frozen_of_row _ _ (i / 64).toNat _ _ a1.o.hw;obtain ⟨d0,d1⟩:=zae a1.o.hc;clear c9 d6 hi a2;have ht1:i.tdiv 64=i / 64:=Int.tdiv_eq_ediv_of_nonneg i0;have ht2:i.tmod 64=i % 64:=Int.tmod_eq_emod_of_nonneg i0;have hw1:IntKind.i64.wrap (i / 64)=i / 64:=by rw [IntKind.wrap_i64];omega
     have j0:(0:Int)<=i / 64:=by omega
     have j1:i / 64<(m:Int):=by have:=HM.o;omega
     have j2:(0:Int)<=i % 64:=by omega
     have j3:¬ (i % 64<0):=by omega
     obtain ⟨wd,a9⟩:=xex (Wn.getD (i / 64).toNat 0);rw [a9] at cw;have e8:=zjy a9;clear a9;go_wp2_with fail
     refine wp_region_noPanic ?_
     refine zaw (by kernel_rfl) (fun w'=>w'.cell? ⟨w2.heap.size,1,none⟩=some (.slice (some ⟨gw,0,none⟩) m m)/\w'.cell? ⟨gw,(i / 64).toNat,none⟩=some (.int .u64 wd)) 11 (⟨d1,cw⟩) (fun hHeld=>?_)
     refine tK 0 ?_;refine tK 1 ?_;refine tK 2 ?_;refine tK 3 ?_;refine tK 4 ?_;refine tK 5 ?_;refine tK 6 ?_;refine tK 7 ?_;refine tK 8 ?_;refine tK 9 ?_;refine tK 10 ?_
     refine xrK 11 rfl fun K hK=>?_
     go_simp;refine zav hK (by decide) ?_;clear hK K;refine zas (by kernel_rfl) ?_ _;refine NoPanic.normal ?_;go_wp2_with fail
     go_roundw
     case rel =>
      refine ⟨n+1,by go_num,by omega,?_,?_⟩
      ·rw [e9.o]
       have e:zf6 Wn i=Wn.set (i / 64).toNat (bits .or .u64 wd (IntKind.u64.wrap (2 ^ (i % 64).toNat))):=by rw [<- e8.o];rfl
       rw [e];exact (a1.o.set _ _).drew
      ·exact (c1.o.set1 (a:=⟨gw,(i / 64).toNat,none⟩) (fun b hb=>hb) _).below ((Below.refl _ _).drew)
     case measure=>simp [intOf];omega
    ·have e3:decide ((n:Int)<l.length)=false:=by simp;omega
     obtain rfl:n=l.length:=by omega
     rw [List.take_of_length_le xnl,<- f2.o,<- d8.o] at a1;clear c1;go_wp2_with fail
     go_roundw
     case rel=>exact ⟨j+1,by go_num,by omega,a1.o⟩
     case measure=>simp [intOf];omega
  ·have hq:decide ((j:Int)<G.length)=false:=by simp;omega
   obtain rfl:j=G.length:=by omega
   rw [List.take_of_length_le xnl] at a0;obtain ⟨d0,d1⟩:=zae a0.o.hc;obtain ⟨r0,r1⟩:=zae a0.o.hr;have f0:=frozen_of_row _ _ 0 _ _ a0.o.hr;have f1:=frozen_of_row _ _ 1 _ _ a0.o.hr;have zr:=zaa a0.o.hr;go_wp2_with fail
   have hne:=a0.o.ne;refine zai rfl rfl (zad (i:=1) (v:=.slice (some ⟨gw,0,none⟩) m m) (zad (i:=0) (v:=.int .i64 p.len) a0.o.hr)) underlying56 rfl (by kernel_rfl) ⟨_,rfl,⟨_,rfl,?_⟩,(a0.o.b.setCell (p:=⟨w.heap.size+2,0,none⟩) (by show w.heap.size<=w.heap.size+2;omega) _).setCell (p:=⟨w.heap.size+2,1,none⟩) (by show w.heap.size<=w.heap.size+2;omega) _⟩;have a5:=zam (a:=⟨w.heap.size+2,1,none⟩) (v:=.slice (some ⟨gw,0,none⟩) m m) (zam (a:=⟨w.heap.size+2,0,none⟩) (v:=.int .i64 p.len) a0.o.hw (by show gw≠w.heap.size+2;omega)) (by show gw≠w.heap.size+2;omega);have hl:=a0.o.len;obtain ⟨WW,e7⟩:=xex (G.foldl (zeo p k) (ze6 p.len));rw [e7] at a5 hl ⊢;exact ⟨_,m,by rw [hl],by rw [hl];exact Nat.le_refl _,fun _=>⟨gw,0,rfl,by show w.heap.size<=gw;omega,zaa a5,fun i x hi u v hu=>fun_cellU a5 hi hu⟩⟩
end
section
open Go.RowKit
attribute [local go_sem] zag zaj za6
def DressPost (D:Nat) (l:List UInt8) (w:World) (e:Ending) (w':World):Prop:=∃ o:List UInt8,e = .returned (zak o)/\DressOf l o/\Moved D w w'
theorem zhz (D:Nat) (w w0:World) (L:List (List UInt8)) (n:Nat) (hn:n=L.length) (h1:1<=n) (h2:n<=1000) (m:Moved D w0 w) :
  Calls prog 84 #[.pointer (some ⟨D,0,none⟩),.slice (some ⟨w.heap.size,0,none⟩) n n] (w.alloc (.cells (L.flatMap za8).toArray 9)) (PickPost D L w0):=by
 have hD:=m.deck.lt;have m2:=m.alloc (.cells (L.flatMap za8).toArray 9);exact (pick_any D _ _ L m2.deck (ze5 (k:=1) (enc:=za8) (L:=L) (S:=fun b=>b≠D) (A:=w.heap.size) (fun _=>rfl) (zac rfl) (by omega) n hn) (by omega) (by omega)).mono fun _ _ ⟨l,he,hl,hm⟩=>⟨l,he,hl,m2.trans hm⟩
theorem dressB_len {x:List UInt8} (h:x∈dressB):x.length<=2:=by
 simp [dressB] at h
 rcases h with rfl | rfl | rfl | rfl | rfl | rfl <;> simp
theorem dressC_len {x:List UInt8} (h:x∈dressC):x.length<=2:=by
 simp [dressC] at h
 rcases h with rfl | rfl | rfl <;> simp
def zjx (D:Nat) (w:World) (l:List UInt8) (k:Nat) (ol:List UInt8) (wr:World):Prop:=DressTo (l.take k) ol/\Moved D w wr
theorem dress_any (D:Nat) (s:ByteArray) (w:World) (h:DeckAt w D) (hs:∀ b∈s.data.toList,okB b=true) (hn:s.size<=1000) :
  Calls prog 85 #[.pointer (some ⟨D,0,none⟩),.string s] w (DressPost D s.data.toList w):=by
 have hl:s.data.toList.length=s.size:=by simp
 have HL:=zjy hl;clear hl;have HS:=zjy hs;clear hs;have M0:=zjy (Moved.start h);clear h;go_enter func85,ntmps85
 go_wp2_with fail
 refine (zhz D _ w dressA 4 rfl (by omega) (by omega) M0.o).mono ?_;rintro e w1 ⟨o,rfl,ho,mv⟩;have K0:=zjy (show zjx D w s.data.toList 0 o w1 from ⟨DressTo.start ho,mv⟩);clear ho mv;go_wp2_with fail
 go_loopw [5,6] (fun v i wr=>∃ (k:Nat) (ol:List UInt8),v=zak ol/\i = .int .i64 k/\k<=s.size/\zjx D w s.data.toList k ol wr) (fun _ i _=>s.size - (intOf i).toNat)
 case atStart=>exact ⟨0,o,rfl,rfl,by omega,K0.o⟩
 case round =>
  obtain ⟨k,ol,rfl,rfl,hk,hm⟩:=hrel;have HT:=zjy hm.1;have M1:=zjy hm.2;have hol:ol.length<=2001:=by have:=hm.1.len;have:=List.length_take_le k s.data.toList;omega
  clear hm K0;by_cases hlt:k<s.size
  ·have hq:decide ((k:Int)<s.size)=true:=by simp;omega
   have ht:=zjy (zew s k hlt);have a0:=zjy (HS.o s[k] (by rw [show s[k]=s.data.toList[k]'(by rw [HL.o];exact hlt) from rfl];exact List.getElem_mem _));have hb:=s[k].toNat_lt;by_cases hsp:s[k]=32
   ·have e1:((s[k].toNat:Int) == 32)=true:=by rw [hsp];rfl
    have a9:=zjy hsp;clear hsp;go_wp2_with fail
    refine (zhz D _ w dressB 6 rfl (by omega) (by omega) M1.o).mono ?_;rintro e w2 ⟨x,rfl,hx,mv⟩;have a6:=dressB_len hx;have K1:=zjy (show zjx D w s.data.toList (k+1) (ol++x) w2 from ⟨by rw [ht.o,a9.o];exact HT.o.space hx,mv⟩);clear hx mv e1;go_wp2_with fail
    go_roundw
    case rel=>exact ⟨k+1,ol++x,rfl,by go_num,by omega,K1.o⟩
    case measure=>simp [intOf];omega
   ·have e1:((s[k].toNat:Int) == 32)=false:=by
     simp only [beq_eq_false_iff_ne,ne_eq];intro e;apply hsp;rw [<- UInt8.toNat_inj];simp;omega
    clear hsp;go_upto_block 2 with (fail)
    go_cut [5,7] (fun s5 s7 wx=>∃ x:UInt8,s5=zak ol/\s7 = .int .u8 x.toNat/\zfl x=true/\zbn x=[s[k]]/\Moved D w wx)
    case first =>
     cases hlo:zf8 s[k]
     ·have hc:=hlo
      rw [zdz,decide_eq_false_iff_not] at hc;have a8:(97<=(s[k].toNat:Int)/\122<(s[k].toNat:Int))\/(s[k].toNat:Int)<97:=by omega
      clear hc hlo
      rcases a8 with ⟨g1,g2⟩ | g1
      all_goals
       go_wp2_with fail
       go_meet;exact ⟨s[k],rfl,rfl,(zhy a0.o).1,(zhy a0.o).2,M1.o⟩
     ·have a3:=zjy (plain_up hlo)
      have hc:=hlo;rw [zdz,decide_eq_true_iff] at hc;obtain ⟨g1,g2⟩:=hc
      have e2:((s[k] - 32).toNat:Int)=(s[k].toNat:Int) - 32:=by
       rw [UInt8.toNat_sub_of_le _ _ (by rw [UInt8.le_iff_toNat_le];show 32<=_;omega)];show ((s[k].toNat - 32:Nat):Int)=_;omega
      have HE:=zjy e2;clear hlo e2;go_wp2_with fail
      refine (zfj D _ 3 M1.o.deck (by omega) (by omega)).mono ?_;rintro e w2 ⟨u,rfl,mv⟩;have M2:=zjy (M1.o.trans mv);clear mv;cases u
      ·go_wp2_with fail
       go_meet;exact ⟨s[k],rfl,rfl,(zhy a0.o).1,(zhy a0.o).2,M2.o⟩
      ·go_wp2_with fail
       go_meet;exact ⟨s[k] - 32,rfl,by rw [HE.o],a3.o.1,a3.o.2,M2.o⟩
    case rest =>
     obtain ⟨x,rfl,rfl,a2,a1,m3⟩:=hcut;have a5:=zjy a2;have a4:=zjy a1;have M3:=zjy m3;clear a2 a1 m3;have a7:=one_byte wc x;go_wp2_with fail
     refine (zfj D _ 20 (M3.o.alloc _).deck (by omega) (by omega)).mono ?_;rintro e w2 ⟨u,rfl,mv⟩;have M4:=zjy ((M3.o.alloc _).trans mv);have K1:=zjy (show zjx D w s.data.toList (k+1) (ol++[x]) w2 from ⟨by rw [ht.o];exact HT.o.byte a5.o a4.o,M4.o⟩);have K2:=zjy (show zjx D w s.data.toList (k+1) (ol++[x]++[39]) w2 from ⟨by rw [ht.o];exact HT.o.mark a5.o a4.o,M4.o⟩);clear mv a7;cases u
     ·go_wp2_with fail
      go_roundw
      case rel=>exact ⟨k+1,ol++[x],rfl,by go_num,by omega,K1.o⟩
      case measure=>simp [intOf];omega
     ·by_cases h2:k+1<s.size
      ·have e2:decide ((k:Int)+1<s.size)=true:=by simp;omega
       by_cases hs2:s[k+1]=32
       ·have e3:((s[k+1].toNat:Int) != 32)=false:=by rw [hs2];rfl
        clear hs2;go_wp2_with fail
        go_roundw
        case rel=>exact ⟨k+1,ol++[x],rfl,by go_num,by omega,K1.o⟩
        case measure=>simp [intOf];omega
       ·have e3:((s[k+1].toNat:Int) != 32)=true:=by
         simp only [bne_iff_ne,ne_eq];intro e;apply hs2;rw [<- UInt8.toNat_inj];simp;omega
        clear hs2;go_wp2_with fail
        go_roundw
        case rel=>exact ⟨k+1,ol++[x]++[39],by simp,by go_num,by omega,K2.o⟩
        case measure=>simp [intOf];omega
      ·have e2:decide ((k:Int)+1<s.size)=false:=by simp;omega
       go_wp2_with fail
       go_roundw
       case rel=>exact ⟨k+1,ol++[x],rfl,by go_num,by omega,K1.o⟩
       case measure=>simp [intOf];omega
  ·have hq:decide ((k:Int)<s.size)=false:=by simp;omega
   rw [List.take_of_length_le (by rw [HL.o];omega)] at HT;go_wp2_with fail
   refine (zhz D _ w dressC 4 rfl (by omega) (by omega) M1.o).mono ?_;rintro e w2 ⟨x,rfl,hx,mv⟩;have a6:=dressC_len hx;have M2:=zjy mv;have HO:=zjy (HT.o.done hx);clear mv hx;go_wp2_with fail
   go_ret;exact ⟨ol++x,rfl,HO.o,M2.o⟩
end
section
open Go.RowKit
attribute [local go_sem] zag zaj za6
def codesD:List (List UInt8):=[[83,87,49,32,49,65,65],[56,48,48,49],[56,48,32,48,50],[97,45,49]]
def addrsD:List (List UInt8):=[[49,50,32,77,97,105,110,32,83,116,46],[77,97,105,110,32,83,116,32,49,50],[80,97,114,107,32,82,100,32,51,98],[77,97,105,110,32,83,116,114,101,101,116],[48,48,55,32,80,97,114,107,32,114,100]]
def peopleD:List (List UInt8):=[[114,111,98,101,114,116,32,115,109,105,116,104],[98,111,98,32,115,109,105,116,104],[114,117,112,101,114,116],[97,110,110,97,32,109,105,108,108,101,114],[97,110,110],[111,110,101,105,108,108],[109,97,114,105,97,32,118,97,110,32,115,109,105,116,104],[112,101,116,101,114]]
theorem pick_le {D N:Nat} {L:List (List UInt8)} {w w':World} {e:Ending} (h:PickPost D L w e w') (hL:(L.all fun t=>decide (t.length<=N))=true):SomeText D N w e w':=by
 obtain ⟨l,he,hl,hm⟩:=h;exact ⟨l,he,by simpa using List.all_eq_true.1 hL l hl,hm⟩
theorem people_ok {x:List UInt8} (h:x∈peopleD):(∀ b∈x,okB b=true)/\x.length<=15:=by
 have:(peopleD.all fun t=>t.all okB && decide (t.length<=15))=true:=by decide
 have:=List.all_eq_true.1 this x h;rw [Bool.and_eq_true,List.all_eq_true,decide_eq_true_iff] at this;exact this
theorem written_len (y m d f:Int):(writtenL y m d f).length=10:=by
 unfold writtenL;split
 ·simp [zet]
 ·split <;> simp [zet]
theorem raw_deal (D:Nat) (k:Int) (w:World) (h:DeckAt w D) :
  Calls prog 60 #[.pointer (some ⟨D,0,none⟩),.int .i64 k] w (SomeText D 64 w):=by
 have M0:=zjy (Moved.start h);clear h;by_cases h2:k=2
 ·subst h2
  go_enter func60,ntmps60
  go_wp2_with fail
  refine (zfj D _ 8 M0.o.deck (by omega) (by omega)).mono ?_;rintro e w1 ⟨u,rfl,mv⟩;have M1:=zjy (M0.o.trans mv);clear mv;cases u
  ·go_wp2_with fail
   refine (zb5 D _ 2 M1.o.deck (by omega) (by omega)).mono ?_;rintro e w2 ⟨y,rfl,y0,y1,mv⟩;have M2:=zjy (M1.o.trans mv);clear mv;go_wp2_with fail
   refine (zb5 D _ 3 M2.o.deck (by omega) (by omega)).mono ?_;rintro e w3 ⟨m,rfl,m0,m1,mv⟩;have M3:=zjy (M2.o.trans mv);clear mv;go_wp2_with fail
   refine (zb5 D _ 3 M3.o.deck (by omega) (by omega)).mono ?_;rintro e w4 ⟨d,rfl,d0,d1,mv⟩;have M4:=zjy (M3.o.trans mv);clear mv;go_wp2_with fail
   refine (zb5 D _ 3 M4.o.deck (by omega) (by omega)).mono ?_;rintro e w5 ⟨f,rfl,f0,f1,mv⟩;have M5:=zjy (M4.o.trans mv);clear mv;go_wp2_with fail
   refine (written_any (1980+y) (1+m) (1+d) f _ (by omega) (by omega)).mono ?_;rintro e w6 ⟨rfl,hb⟩;have M6:=zjy (M5.o.below hb);clear hb;go_wp2_with fail
   go_ret;exact ⟨_,rfl,by rw [written_len];omega,M6.o⟩
  ·go_wp2_with fail
   go_ret;exact ⟨[],rfl,by simp,M1.o⟩
 ·have e2:(k == 2)=false:=by simpa using h2
  by_cases h3:k=3
  ·subst h3
   clear h2 e2;go_enter func60,ntmps60
   go_wp2_with fail
   refine (zfj D _ 8 M0.o.deck (by omega) (by omega)).mono ?_;rintro e w1 ⟨u,rfl,mv⟩;have M1:=zjy (M0.o.trans mv);clear mv;cases u
   ·go_wp2_with fail
    refine (zhz D _ w codesD 4 rfl (by omega) (by omega) M1.o).mono ?_;intro e w2 hp;obtain ⟨x,rfl,hx,mv⟩:=pick_le (N:=64) hp (by decide);have HX:=zjy hx;have M2:=zjy mv;clear hx mv hp;go_wp2_with fail
    go_ret;exact ⟨x,rfl,HX.o,M2.o⟩
   ·go_wp2_with fail
    go_ret;exact ⟨[],rfl,by simp,M1.o⟩
  ·have e3:(k == 3)=false:=by simpa using h3
   by_cases h4:k=4
   ·subst h4
    clear h2 e2 h3 e3;go_enter func60,ntmps60
    go_wp2_with fail
    refine (zfj D _ 8 M0.o.deck (by omega) (by omega)).mono ?_;rintro e w1 ⟨u,rfl,mv⟩;have M1:=zjy (M0.o.trans mv);clear mv;cases u
    ·go_wp2_with fail
     refine (zhz D _ w addrsD 5 rfl (by omega) (by omega) M1.o).mono ?_;intro e w2 hp;obtain ⟨x,rfl,hx,mv⟩:=pick_le (N:=64) hp (by decide);have HX:=zjy hx;have M2:=zjy mv;clear hx mv hp;go_wp2_with fail
     go_ret;exact ⟨x,rfl,HX.o,M2.o⟩
    ·go_wp2_with fail
     go_ret;exact ⟨[],rfl,by simp,M1.o⟩
   ·have e4:(k == 4)=false:=by simpa using h4
    clear h2 h3 h4;go_enter func60,ntmps60
    go_wp2_with fail
    refine (zfj D _ 8 M0.o.deck (by omega) (by omega)).mono ?_;rintro e w1 ⟨u,rfl,mv⟩;have M1:=zjy (M0.o.trans mv);clear mv;cases u
    ·go_wp2_with fail
     refine (zhz D _ w peopleD 8 rfl (by omega) (by omega) M1.o).mono ?_;rintro e w2 ⟨x,rfl,hx,mv⟩;obtain ⟨p1,p2⟩:=people_ok hx;have P1:=zjy p1;have M2:=zjy mv;clear hx mv p1;go_wp2_with fail
     refine (dress_any D ⟨x.toArray⟩ _ M2.o.deck (by simpa using P1.o) (by rw [zaj];omega)).mono ?_;rintro e w3 ⟨o,rfl,ho,mv⟩;have M3:=zjy (M2.o.trans mv);have HO:=zjy (show o.length<=64 by have:=ho.len;simp at this;omega);clear mv ho;go_wp2_with fail
     go_ret;exact ⟨o,rfl,HO.o,M3.o⟩
    ·go_wp2_with fail
     go_ret;exact ⟨[],rfl,by simp,M1.o⟩
end
section
open Go.RowKit
attribute [local go_sem] zag zaj za6
theorem infoF:(prog.info? 85).map (fun i=>(i.zero,i.size,i.bytes))=some (some (.agg #[.string ⟨#[]⟩,.int .i64 0]),2,24):=by kernel_rfl
structure SchemaD (s:SchemaL):Prop where
 fields:FieldsD s.fields
 some:1<=s.fields.length
 rules:RulesD s.rules
theorem SchemaD.check {s:SchemaL} (h:SchemaD s):za1 s=0:=h.fields.check h.some h.rules.check
def nil4:Array Value:=#[.slice none 0 0,.slice none 0 0,.slice none 0 0,.slice none 0 0]
structure SMid (D:Nat) (w:World) (y:Nat) (vt vn vs:Value) (r:RulesL) (vf:Value) (F:List F2) (wr:World):Prop where
 z:wr.heap[w.heap.size]?=some (.cells nil4 33 (0,0))
 s:wr.heap[y]?=some (.cells #[vf,vt,vn,vs] 33 (0,0))
 n:RowB wr (y+1) namesD
 own:wr.ownsRow (y+2) 85 2 vf F.length (F.flatMap encF)
 rules:RulesAt wr (fun b=>w.heap.size<b/\b<y) vt vn vs r
 fields:FieldsD F
 moved:Moved D w wr
 lt:w.heap.size<y
theorem own_same {w w':World} {B e size n:Nat} {v:Value} {xs:List Value} (h:w.ownsRow B e size v n xs) (hs:∀ g,B<=g->g<w.heap.size->w'.heap[g]?=w.heap[g]?):w'.ownsRow B e size v n xs:=by
 refine ⟨h.1,?_⟩
 rcases h.2 with h0 | ⟨g,cap,cur,hv,hg,hh,rest⟩
 ·exact .inl h0
 ·exact .inr ⟨g,cap,cur,hv,hg,(hs g hg (zaa hh)).trans hh,rest⟩
theorem zar {w:World} {B e size n:Nat} {v:Value} {xs:List Value} (h:w.ownsRow B e size v n xs):∃ a c,v = .slice a n c:=by
 rcases h.2 with ⟨rfl,rfl⟩ | ⟨g,cap,cur,hv,_⟩
 ·exact ⟨none,0,rfl⟩
 ·exact ⟨_,_,hv⟩
theorem own_far {w:World} {B e size n:Nat} {v:Value} {xs:List Value} (h:w.ownsRow B e size v n xs) {k:Nat} (hk:k<B):some k≠v.ownBlock:=by
 rcases h.2 with ⟨rfl,rfl⟩ | ⟨g,cap,cur,rfl,hg,_⟩
 ·simp [Value.ownBlock]
 ·simp [Value.ownBlock];omega
theorem SMid.gone {D:Nat} {w:World} {y:Nat} {vt vn vs:Value} {r:RulesL} {vf:Value} {F:List F2} {wr wd:World} (h:SMid D w y vt vn vs r vf F wr) (hD:D<w.heap.size) (m:Moved D wr wd):SMid D w y vt vn vs r vf F wd:=by
 have hy:=h.lt;have hb:∀ b,b<wr.heap.size->w.heap.size<=b->wd.heap[b]?=wr.heap[b]?:=fun b hb hS=>m.grown.block b hb (by simp;omega)
 refine ⟨m.blk (by omega) h.z,m.blk (by omega) h.s,m.blk (by omega) h.n,own_same h.own fun g h1 h2=>hb g h2 (by omega),?_,h.fields,h.moved.trans m,h.lt⟩
 exact ⟨h.rules.1.move m.size fun b hb' hS=>⟨hb b hb' (by have:=hS.1;omega),hS⟩,h.rules.2.1.move m.size fun b hb' hS=>⟨hb b hb' (by have:=hS.1;omega),hS⟩,h.rules.2.2.move m.size fun b hb' hS=>⟨hb b hb' (by have:=hS.1;omega),hS⟩⟩
theorem SMid.step {D:Nat} {w:World} {y:Nat} {vt vn vs:Value} {r:RulesL} {vf v:Value} {F:List F2} {x:F2} {wr wA w2:World} (h:SMid D w y vt vn vs r vf F wr) (hD:D<w.heap.size) (hb:Below wr.heap.size wr wA) (hg:wA.grownBy w2 vf.ownBlock)
  (hown:w2.ownsRow (y+2) 85 2 v (F.length+1) (F.flatMap encF++encF x)) (hx:FieldsD (F++[x])):SMid D w y vt vn vs r v (F++[x]) (w2.setCell ⟨y,0,none⟩ v):=by
 have hy:=h.lt;have zn:y+1<wr.heap.size:=zaa h.n;have hz:=hb.size;have hz2:=hg.size;have k1:∀ k,k<y+2->w2.heap[k]?=wr.heap[k]?:=fun k hk=>(hg.block k (by omega) (own_far h.own hk)).trans (hb.block k (by omega))
 have k2:∀ k,k<y+2->k≠y->(w2.setCell ⟨y,0,none⟩ v).heap[k]?=wr.heap[k]?:=fun k hk hne=>(heap_setCell_other _ _ _ _ hne).trans (k1 k hk)
 have hs:(w2.setCell ⟨y,0,none⟩ v).heap.size=w2.heap.size:=by simp [World.setCell]
 refine ⟨(k2 _ (by omega) (by omega)).trans h.z,zad (i:=0) (v:=v) ((k1 y (by omega)).trans h.s),(k2 _ (by omega) (by omega)).trans h.n,?_,?_,hx,?_,hy⟩
 ·rw [List.length_append,List.flatMap_append,show [x].flatMap encF=encF x by simp]
  exact own_same hown fun g h1 h2=>heap_setCell_other _ _ _ _ (by simp;omega)
 ·have mv:∀ b,b<wr.heap.size->(w.heap.size<b/\b<y)->(w2.setCell ⟨y,0,none⟩ v).heap[b]?=wr.heap[b]?/\(w.heap.size<b/\b<y):=fun b _ hS=>⟨k2 b (by omega) (by omega),hS⟩
  exact ⟨h.rules.1.move (by omega) mv,h.rules.2.1.move (by omega) mv,h.rules.2.2.move (by omega) mv⟩
 ·have m:=h.moved
  refine ⟨⟨hg.os.trans (hb.os.trans m.grown.os),hg.tape.trans (hb.tape.trans m.grown.tape),hg.output.trans (hb.output.trans m.grown.output),by have:=m.size;omega,fun k hk hr=>?_⟩,m.deck.same fun k hk=>k2 k (by omega) (by omega),m.lt⟩
  exact (k2 k (by omega) (by omega)).trans (m.grown.block k hk hr)
def SchemaPost (D:Nat) (w:World) (e:Ending) (w':World):Prop:=∃ vf vt vn vs s,e = .returned (.agg #[vf,vt,vn,vs])/\SchemaAt w' (fun b=>w.heap.size<=b) vf vt vn vs s/\SchemaD s/\Moved D w w'
end
section
open Go.RowKit
attribute [local go_sem] zag zaj
@[local go_sem] theorem get_zeroP (c:UInt8) (l:List UInt8) (h:0<(⟨(c :: l).toArray⟩:ByteArray).size):(⟨(c :: l).toArray⟩:ByteArray)[0]'h=c:=rfl
end
section
open Go.RowKit
theorem nanU_any (x:Int) (w:World):Calls prog 222 #[.int .u64 x] w fun e w'=>e = .returned (.bool false)/\w=w':=by
 have h1:(x != x)=false:=by simp
 go_enter func222,ntmps222
 go_wp2_with fail
 go_ret;exact ⟨by simp,rfl⟩
theorem nanI_any (x:Int) (w:World):Calls prog 184 #[.int .i64 x] w fun e w'=>e = .returned (.bool false)/\w=w':=by
 have h1:(x != x)=false:=by simp
 go_enter func184,ntmps184
 go_wp2_with fail
 go_ret;exact ⟨by simp,rfl⟩
theorem cmpU_any (x y:Int) (w:World):Calls prog 185 #[.int .u64 x,.int .u64 y] w fun e w'=>e = .returned (.int .i64 (zf9 x y))/\w=w':=by
 obtain ⟨c,hc⟩:=xex (zf9 x y);rw [hc];unfold zf9 at hc;go_enter func185,ntmps185
 go_wp2_with fail
 refine (nanU_any x _).mono ?_;rintro e w1 ⟨rfl,rfl⟩;go_wp2_with fail
 refine (nanU_any y _).mono ?_;rintro e w1 ⟨rfl,rfl⟩;by_cases h1:x<y
 ·have d1:decide (x<y)=true:=by simpa using h1
  rw [if_pos h1] at hc;subst hc;go_wp2_with fail
  go_ret;exact ⟨rfl,rfl⟩
 ·have d1:decide (x<y)=false:=by simpa using h1
  rw [if_neg h1] at hc;by_cases h2:y<x
  ·have d2:decide (y<x)=true:=by simpa using h2
   rw [if_pos h2] at hc;subst hc;go_wp2_with fail
   go_ret;exact ⟨rfl,rfl⟩
  ·have d2:decide (y<x)=false:=by simpa using h2
   rw [if_neg h2] at hc;subst hc;go_wp2_with fail
   go_ret;exact ⟨rfl,rfl⟩
theorem cmpI_any (x y:Int) (w:World):Calls prog 142 #[.int .i64 x,.int .i64 y] w fun e w'=>e = .returned (.int .i64 (zf9 x y))/\w=w':=by
 obtain ⟨c,hc⟩:=xex (zf9 x y);rw [hc];unfold zf9 at hc;go_enter func142,ntmps142
 go_wp2_with fail
 refine (nanI_any x _).mono ?_;rintro e w1 ⟨rfl,rfl⟩;go_wp2_with fail
 refine (nanI_any y _).mono ?_;rintro e w1 ⟨rfl,rfl⟩;by_cases h1:x<y
 ·have d1:decide (x<y)=true:=by simpa using h1
  rw [if_pos h1] at hc;subst hc;go_wp2_with fail
  go_ret;exact ⟨rfl,rfl⟩
 ·have d1:decide (x<y)=false:=by simpa using h1
  rw [if_neg h1] at hc;by_cases h2:y<x
  ·have d2:decide (y<x)=true:=by simpa using h2
   rw [if_pos h2] at hc;subst hc;go_wp2_with fail
   go_ret;exact ⟨rfl,rfl⟩
  ·have d2:decide (y<x)=false:=by simpa using h2
   rw [if_neg h2] at hc;subst hc;go_wp2_with fail
   go_ret;exact ⟨rfl,rfl⟩
abbrev zif (x:Int):List Value:=[.int .i64 x]
theorem orI_any (v:Value) (L:List Int) (w:World) (h:Vec w zau 1 zif v L) (hn:L.length<=1000000) :
  Calls prog 141 #[v] w fun e w'=>e = .returned (.int .i64 (orN L))/\w=w':=by
 obtain ⟨a,cap,rfl⟩:=h.slice;have HV:=zjy h;clear h;obtain ⟨r,hr⟩:=xex (orN L);rw [hr];have HR:=zjy hr;clear hr;go_enter func141,ntmps141
 go_wp2_with fail
 go_loopw [8] (fun i wr=>wr=w/\∃ k:Nat,i = .int .i64 k/\k<=L.length/\Hid (orN (L.drop k)=r)) (fun i _=>L.length - (intOf i).toNat)
 case atStart=>exact ⟨rfl,0,rfl,by omega,zjy HR.o⟩
 case round =>
  obtain ⟨rfl,k,rfl,hk,HT⟩:=hrel;by_cases hlt:k<L.length
  ·have hq:decide ((k:Int)<L.length)=true:=by simp;omega
   obtain ⟨b,off,rfl,hb,hc⟩:=HV.o.get k hlt;have c0:=hc 0 _ rfl;rw [Nat.mul_one,Nat.add_zero] at c0;have hd:=List.drop_eq_getElem_cons hlt;have ht:=HT.o;rw [hd] at ht;obtain ⟨x,hx⟩:=xex (L[k]);rw [hx] at c0 ht;clear HT hd hx hc;by_cases h0:x=0
   ·subst h0
    unfold orN at ht;rw [if_pos rfl] at ht;have HT:=zjy ht;clear ht;have d0:((0:Int) != 0)=false:=rfl;go_wp2_with fail
    go_roundw
    case rel=>exact ⟨trivial,k+1,by go_num,by omega,HT⟩
    case measure=>simp [intOf];omega
   ·have d0:(x != (0:Int))=true:=by simpa using h0
    unfold orN at ht;rw [if_neg h0] at ht;subst ht;go_wp2_with fail
    go_ret;exact ⟨rfl,rfl⟩
  ·have hq:decide ((k:Int)<L.length)=false:=by simp;omega
   have ht:=HT.o;rw [List.drop_eq_nil_of_le (by omega)] at ht;unfold orN at ht;subst ht;clear HT;go_wp2_with fail
   go_ret;exact ⟨rfl,rfl⟩
theorem cmpW_any (S T:Nat->Prop) (u v:Value) (A B:List Int) (w:World) (hu:Vec w S 1 zc7 u A) (hv:Vec w T 1 zc7 v B) (hn:A.length<=1000000) :
  Calls prog 143 #[u,v] w fun e w'=>e = .returned (.int .i64 (cmpW A B))/\w=w':=by
 obtain ⟨a,ca,rfl⟩:=hu.slice;obtain ⟨b,cb,rfl⟩:=hv.slice;have HU:=zjy hu;have HV:=zjy hv;clear hu hv;obtain ⟨r,hr⟩:=xex (cmpW A B);rw [hr];have HR:=zjy hr;clear hr;go_enter func143,ntmps143
 go_wp2_with fail
 go_loopw [11] (fun i wr=>wr=w/\∃ k:Nat,i = .int .i64 k/\k<=A.length/\k<=B.length/\Hid (cmpW (A.drop k) (B.drop k)=r)) (fun i _=>A.length - (intOf i).toNat)
 case atStart=>exact ⟨rfl,0,rfl,by omega,by omega,zjy HR.o⟩
 case round =>
  obtain ⟨rfl,k,rfl,hk,hk2,HT⟩:=hrel;by_cases hlt:k<A.length
  ·have hq:decide ((k:Int)<A.length)=true:=by simp;omega
   obtain ⟨ba,oa,rfl,hba,a0⟩:=HU.o.get k hlt;have c0:=a0 0 _ rfl;rw [Nat.mul_one,Nat.add_zero] at c0;by_cases hl2:k<B.length
   ·have a2:decide ((B.length:Int)<=k)=false:=by simp;omega
    obtain ⟨bb,ob,rfl,hbb,a1⟩:=HV.o.get k hl2;have e0:=a1 0 _ rfl;rw [Nat.mul_one,Nat.add_zero] at e0;have ht:=HT.o;rw [cmpW_drop hlt hl2,zbb _ _ hlt,zbb _ _ hl2] at ht;obtain ⟨x,hx⟩:=xex (A[k]);obtain ⟨y,hy⟩:=xex (B[k]);rw [hx] at c0 ht;rw [hy] at e0 ht;obtain ⟨c,hc⟩:=xex (zf9 x y);rw [hc] at ht;have HC:=zjy hc;have HT:=zjy ht;clear hx hy a0 a1 hc ht;go_wp2_with fail
    refine (cmpU_any x y _).mono ?_;rw [HC.o];rintro e w1 ⟨rfl,rfl⟩;have ht:=HT.o;clear HT;by_cases h0:c=0
    ·subst h0
     rw [if_pos rfl] at ht;have HT:=zjy ht;clear ht;have d0:((0:Int) != 0)=false:=rfl;go_wp2_with fail
     go_roundw
     case rel=>exact ⟨trivial,k+1,by go_num,by omega,by omega,HT⟩
     case measure=>simp [intOf];omega
    ·have d0:(c != (0:Int))=true:=by simpa using h0
     rw [if_neg h0] at ht;subst ht;go_wp2_with fail
     go_ret;exact ⟨rfl,rfl⟩
   ·have a2:decide ((B.length:Int)<=k)=true:=by simp;omega
    have ht:=HT.o;rw [show B.drop k=[] from List.drop_eq_nil_of_le (by omega),cmpW_nilr,if_neg (by rw [List.length_drop];omega)] at ht;subst ht;clear HT a0;go_wp2_with fail
    go_ret;exact ⟨rfl,rfl⟩
  ·have hq:decide ((k:Int)<A.length)=false:=by simp;omega
   have ht:=HT.o;rw [show A.drop k=[] from List.drop_eq_nil_of_le (by omega),cmpW_nill,List.length_drop] at ht;clear HT;by_cases h1:A.length<B.length
   ·have d1:decide ((A.length:Int)<B.length)=true:=by simp;omega
    rw [if_neg (by omega)] at ht;subst ht;go_wp2_with fail
    go_ret;exact ⟨rfl,rfl⟩
   ·have d1:decide ((A.length:Int)<B.length)=false:=by simp;omega
    rw [if_pos (by omega)] at ht;subst ht;go_wp2_with fail
    go_ret;exact ⟨rfl,rfl⟩
theorem cmpB_any (S T:Nat->Prop) (u v:Value) (a b:BitsL) (w:World) (hu:BitsAt w S u a) (hv:BitsAt w T v b) (hn:a.words.length<=1000000) :
  Calls prog 100 #[u,v] w fun e w'=>e = .returned (.int .i64 (cmpB a b))/\Below w.heap.size w w':=by
 obtain ⟨su,rfl,hu⟩:=hu;obtain ⟨sv,rfl,hv⟩:=hv;obtain ⟨aa,ca,rfl⟩:=hu.slice;obtain ⟨ab,cb,rfl⟩:=hv.slice;have HU:=zjy hu;have HV:=zjy hv;clear hu hv;obtain ⟨x,hx⟩:=xex (zf9 a.len b.len);obtain ⟨y,hy⟩:=xex (zf9 a.words.length b.words.length);obtain ⟨z,hz⟩:=xex (cmpW a.words b.words);obtain ⟨r,hr⟩:=xex (cmpB a b);have a7:orN [x,y,z]=r:=by rw [<- hr,<- hx,<- hy,<- hz];rfl
 rw [hr];have HX:=zjy hx;have HY:=zjy hy;have HZ:=zjy hz;have HR:=zjy a7;clear hx hy hz hr a7;go_enter func100,ntmps100
 go_wp2_with fail
 refine zal (fun W hW=>?_)
 have a9:=xam hW
 have b2:W.heap[w.heap.size]?=some (.cells #[.int .i64 a.len,.slice aa a.words.length ca] 56 (0,0)):=by rw [hW];exact zaf (zac rfl)
 have a4:W.heap[w.heap.size+1]?=some (.cells #[.int .i64 b.len,.slice ab b.words.length cb] 56 (0,0)):=by rw [hW];exact zac (by simp)
 clear hW;have a3:=zjy a9;obtain ⟨a0,a1⟩:=zae b2;obtain ⟨b0,b1⟩:=zae a4;have a5:=zaa a4;clear b2 a4 a9;refine wp_region_noPanic ?_
 refine wp_region_held_drew (S:=(fun w'=>w'.cell? ⟨w.heap.size,0,none⟩=some (.int .i64 a.len)/\w'.cell? ⟨w.heap.size,1,none⟩=some (.slice aa a.words.length ca)/\w'.cell? ⟨w.heap.size+1,0,none⟩=some (.int .i64 b.len)/\w'.cell? ⟨w.heap.size+1,1,none⟩=some (.slice ab b.words.length cb))) (by kernel_rfl) (⟨a0,a1,b0,b1⟩) (fun hHeld=>?_)
 refine tH 0 ?_;refine tH 1 ?_;refine tH 2 ?_;refine tH 3 ?_;refine tH 5 ?_;refine tH 6 ?_;refine tH 7 ?_;refine tH 8 ?_;refine tH 9 ?_;refine tH 10 ?_;refine tH 12 ?_;refine tH 13 ?_;refine tH 14 ?_;refine tH 15 ?_
 refine xrH 4 rfl fun K hK=>?_
 go_simp;refine (cmpI_any _ _ _).mono ?_;rw [HX.o];rintro e w1 ⟨rfl,rfl⟩
 refine hK.out _ _ (⟨a0,a1,b0,b1⟩) (fun hHeld=>?_)
 clear hK K
 refine xrH 11 rfl fun K hK=>?_
 go_simp;refine (cmpI_any _ _ _).mono ?_;rw [HY.o];rintro e w1 ⟨rfl,rfl⟩
 refine hK.out _ _ (⟨a0,a1,b0,b1⟩) (fun hHeld=>?_)
 clear hK K
 refine xrH 16 rfl fun K hK=>?_
 go_simp;refine (cmpW_any S T _ _ a.words b.words _ (HU.o.below a3.o.drew) (HV.o.below a3.o.drew) hn).mono ?_;rw [HZ.o];rintro e w1 ⟨rfl,rfl⟩
 refine hK.out _ _ (⟨a0,a1,b0,b1⟩) (fun hHeld=>?_)
 clear hK K
 refine xrH 17 rfl fun K hK=>?_
 go_simp
 refine hK.out _ _ (⟨((Below.refl W.heap.size W).drew.alloc xnl _).cell (p:=⟨w.heap.size,0,none⟩) (by show w.heap.size<_;omega) |>.trans a0,((Below.refl W.heap.size W).drew.alloc xnl _).cell (p:=⟨w.heap.size,1,none⟩) (by show w.heap.size<_;omega) |>.trans a1,((Below.refl W.heap.size W).drew.alloc xnl _).cell (p:=⟨w.heap.size+1,0,none⟩) a5 |>.trans b0,((Below.refl W.heap.size W).drew.alloc xnl _).cell (p:=⟨w.heap.size+1,1,none⟩) a5 |>.trans b1⟩) (fun hHeld=>?_)
 clear hK K
 refine zcl (fun W1 hW1=>?_)
 have a8:Below w.heap.size w W1:=by rw [hW1];exact a3.o.drew.alloc (by have:=a3.o.size;simpa using this) _
 have a6:Vec W1 zau 1 zif (.slice (some ⟨W.heap.size,0,none⟩) 3 3) [x,y,z]:=by rw [hW1];exact ze5 (k:=1) (enc:=zif) (L:=[x,y,z]) (S:=zau) (A:=W.heap.size) (fun _=>rfl) (zac rfl) trivial 3 rfl
 have a2:=hHeld;rw [<- hW1] at a2;clear hHeld hW1;have hHeld:=a2;clear a2;have b3:=zjy a6;have b4:=zjy a8;clear a6 a8
 refine xrH 18 rfl fun K hK=>?_
 go_simp;refine (orI_any _ [x,y,z] _ b3.o (by simp)).mono ?_;rw [HR.o];rintro e w1 ⟨rfl,rfl⟩
 refine hK.out _ _ (hHeld) (fun hHeld=>?_)
 clear hK K;refine tH 19 ?_;refine wpAnyH_done (by kernel_rfl) ?_ _;refine NoPanic.normal ?_;go_wp2_with fail
 go_ret;exact ⟨rfl,b4.o⟩
end
end Go.Proofs.YtgkaafncfjlooaaGreatDoor
section
namespace Go.Proofs
open Go.Shelf
def Tryz.lays171_ren:Go.Shelf.Ren:=⟨fun | 171=>183 | 243=>221 | 246=>244 | 283=>266 | 284=>267 | 285=>268 | 286=>269 | 129=>195 | 317=>282 | 318=>283 | 319=>284 | 320=>285 | 337=>294 | 338=>295 | n=>n,fun | 3=>3 | 9=>9 | 2=>2 | 4=>4 | 171=>280 | 0=>0 | 53=>39 | 37=>175 | 5=>5 | 173=>282 | 212=>298 | 51=>228 | 20=>20 | 213=>299 | 46=>119 | 232=>316 | 233=>317 | n=>n,fun | 17=>0 | 18=>2 | 19=>3 | n=>n⟩
theorem Tryz.lays171:Go.Proofs.Lays.n171 prog Tryz.lays171_ren:={
 mixed:=by kernel_rfl
 f129:=func195.trans (congrArg some (by kernel_rfl))
 f171:=func183.trans (congrArg some (by kernel_rfl))
 f243:=func221.trans (congrArg some (by kernel_rfl))
 f246:=func244.trans (congrArg some (by kernel_rfl))
 f283:=func266.trans (congrArg some (by kernel_rfl))
 f284:=func267.trans (congrArg some (by kernel_rfl))
 f285:=func268.trans (congrArg some (by kernel_rfl))
 f286:=func269.trans (congrArg some (by kernel_rfl))
 f317:=func282.trans (congrArg some (by kernel_rfl))
 f318:=func283.trans (congrArg some (by kernel_rfl))
 f319:=func284.trans (congrArg some (by kernel_rfl))
 f320:=func285.trans (congrArg some (by kernel_rfl))
 f337:=func294.trans (congrArg some (by kernel_rfl))
 f338:=func295.trans (congrArg some (by kernel_rfl))
 t0:=underlying0
 a0:=Tryz.isAgg0
 z0:=Tryz.sizeOf0
 v0:=Tryz.zeroValue0
 t2:=underlying2
 a2:=Tryz.isAgg2
 z2:=Tryz.sizeOf2
 v2:=Tryz.zeroValue2
 t3:=underlying3
 a3:=Tryz.isAgg3
 z3:=Tryz.sizeOf3
 v3:=Tryz.zeroValue3
 t4:=underlying4
 a4:=Tryz.isAgg4
 z4:=Tryz.sizeOf4
 v4:=Tryz.zeroValue4
 t5:=underlying5
 a5:=Tryz.isAgg5
 z5:=Tryz.sizeOf5
 v5:=Tryz.zeroValue5
 t9:=underlying9
 a9:=Tryz.isAgg9
 z9:=Tryz.sizeOf9
 v9:=Tryz.zeroValue9
 t20:=underlying20
 a20:=Tryz.isAgg20
 z20:=Tryz.sizeOf20
 v20:=Tryz.zeroValue20
 t37:=underlying175
 a37:=Tryz.isAgg175
 z37:=Tryz.sizeOf175
 v37:=Tryz.zeroValue175
 t46:=underlying119
 a46:=Tryz.isAgg119
 z46:=Tryz.sizeOf119
 v46:=Tryz.zeroValue119
 t51:=underlying228
 a51:=Tryz.isAgg228
 z51:=Tryz.sizeOf228
 v51:=Tryz.zeroValue228
 t53:=underlying39
 a53:=Tryz.isAgg39
 z53:=Tryz.sizeOf39
 v53:=Tryz.zeroValue39
 t171:=underlying280
 a171:=Tryz.isAgg280
 z171:=Tryz.sizeOf280
 v171:=Tryz.zeroValue280
 t173:=underlying282
 a173:=Tryz.isAgg282
 z173:=Tryz.sizeOf282
 v173:=Tryz.zeroValue282
 t212:=underlying298
 a212:=Tryz.isAgg298
 z212:=Tryz.sizeOf298
 v212:=Tryz.zeroValue298
 t213:=underlying299
 a213:=Tryz.isAgg299
 z213:=Tryz.sizeOf299
 t232:=underlying316
 a232:=Tryz.isAgg316
 z232:=Tryz.sizeOf316
 v232:=Tryz.zeroValue316
 t233:=underlying317
 a233:=Tryz.isAgg317
 z233:=Tryz.sizeOf317
 v233:=Tryz.zeroValue317
 g17:=by kernel_rfl
 g18:=by kernel_rfl
 g19:=by kernel_rfl }
open Go.RowKit Go.Sort Go.Lib in
theorem Tryz.strconv_Itoa_small (i:Nat) (hi:i<100) (w:World) :
  Calls prog 183 #[.int .i64 i] w fun e w'=>e = .returned (.string ⟨(Lib.decDigits i).toArray⟩)/\w'=w:=Any.strconv_Itoa_small Tryz.lays171 i hi w
end Go.Proofs
end
