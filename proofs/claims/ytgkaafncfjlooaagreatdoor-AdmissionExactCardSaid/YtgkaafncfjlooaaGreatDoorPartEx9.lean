/- Parts of one proof: Ref16D, Ref16I, RefGrow, Ref18F, Ref18A, Ref18C, Ref18D, Ref18E, RefBitsH, RefBitsI, Ref18B. -/
import Derived.Test.YtgkaafncfjlooaaGreatDoorPartEx8
set_option maxHeartbeats 16000000
set_option maxRecDepth 100000
open Go.Proofs.Tryz
set_option linter.unusedSimpArgs false
set_option linter.unusedVariables false
namespace Go.Proofs.YtgkaafncfjlooaaGreatDoor
section
open Go.RowKit Cal
attribute [local go_sem] zag zaj za6
structure ReAt (w:World) (vf vt vn vs:Value) (k:Int × Int) (r:RecL) (sv:Value) (xb:Nat) (v:Value) (C:List BV) (L:List BitsL) (wr:World):Prop where
 sb:wr.heap[w.heap.size]?=some (.cells #[vf,vt,vn,vs] 33 (0,0))
 kb:wr.heap[w.heap.size+1]?=some (.cells #[.int .u64 k.1,.int .u64 k.2] 41 (0,0))
 rb:wr.heap[w.heap.size+2]?=some (.cells #[.int .i64 r.id,.int .i64 r.ver,sv] 68 (0,0))
 z:wr.heap[w.heap.size+3]?=some (.cells #[.int .i64 0,.int .i64 0,.slice none 0 0] 59 (0,0))
 x:wr.heap[xb]?=some (.cells #[.int .i64 r.id,.int .i64 r.ver,v] 59 (0,0))
 own:OwnV 56 2 za4 w v C wr
 n:∀ g,v.ownBlock=some g->xb<g
 all:BitsAll wr (fun b=>some b≠v.ownBlock/\xb<b) C L
 xb4:w.heap.size+3<xb
theorem ReAt.below {w:World} {vf vt vn vs:Value} {k:Int × Int} {r:RecL} {sv:Value} {xb:Nat} {v:Value} {C:List BV} {L:List BitsL} {wr wy:World} (h:ReAt w vf vt vn vs k r sv xb v C L wr) (hb:Below wr.heap.size wr wy):ReAt w vf vt vn vs k r sv xb v C L wy :=
 ⟨zab hb (zaa h.1) h.1,zab hb (zaa h.2) h.2,zab hb (zaa h.3) h.3,zab hb (zaa h.4) h.4,zab hb (zaa h.5) h.5,h.own.below hb,h.n,h.all.below hb,h.xb4⟩
theorem own_keptB {w w':World} {B e size n:Nat} {v:Value} {xs:List Value} {r:Option Nat} (h:w.ownsRow B e size v n xs) (hk:∀ k o,some k≠r->w.heap[k]?=some o->w'.heap[k]?=some o) (hr:v.ownBlock=none\/v.ownBlock≠r):w'.ownsRow B e size v n xs:=zdb h hk hr
theorem ReAt.step {w:World} {vf vt vn vs:Value} {k:Int × Int} {r:RecL} {sv:Value} {xb:Nat} {v v':Value} {C:List BV} {L:List BitsL} {c:BV} {bt:BitsL} {wr wy w5:World} (h:ReAt w vf vt vn vs k r sv xb v C L wr) (hb:Below wr.heap.size wr wy) (hc:BitsAt wy (fun b=>wr.heap.size<=b) (.agg (za4 c).toArray) bt)
  (ho:OwnV 56 2 za4 w v' (C++[c]) w5) (hk:∀ q o,some q≠v.ownBlock->wy.heap[q]?=some o->w5.heap[q]?=some o) (hz:wy.heap.size<=w5.heap.size) (hat:v'.ownBlock=none\/v.ownBlock=v'.ownBlock\/∃ g,v'.ownBlock=some g/\wy.heap.size<=g) :
  ReAt w vf vt vn vs k r sv xb v' (C++[c]) (L++[bt]) (w5.setCell ⟨xb,2,none⟩ v'):=by
 have hy:=h.below hb;have l1:=zaa h.x;have l2:=zaa hy.x;have x4:=h.xb4;have a1:∀ q o,q<=xb->wy.heap[q]?=some o->w5.heap[q]?=some o:=fun q o hq ho'=>hk q o (fun e=>by have:=h.n q e.symm;omega) ho'
 have a0:∀ q o,q<xb->wy.heap[q]?=some o->(w5.setCell ⟨xb,2,none⟩ v').heap[q]?=some o:=fun q o hq ho'=>zam (a1 q o (by omega) ho') (by show q≠xb;omega)
 have a3:∀ g,v.ownBlock=some g->g<wr.heap.size:=fun g e=>(World.ownsRow.lt h.own.1 g e).2
 have a8:∀ g,v'.ownBlock=some g->xb<g:=by
  intro g e
  rcases hat with h1 | h1 | ⟨g',h1,h2⟩
  ·rw [h1] at e;cases e
  ·rw [<- h1] at e;exact h.n g e
  ·rw [h1] at e;cases e;omega
 have a4:∀ b,b<wy.heap.size->some b≠v.ownBlock->some b≠v'.ownBlock:=by
  intro b a2 a5 e
  rcases hat with h1 | h1 | ⟨g',h1,h2⟩
  ·rw [h1] at e;cases e
  ·rw [<- h1] at e;exact a5 e
  ·rw [h1] at e;cases e;omega
 have hS:∀ b,b<wy.heap.size->(some b≠v.ownBlock/\xb<b)->(w5.setCell ⟨xb,2,none⟩ v').heap[b]?=wy.heap[b]?/\(some b≠v'.ownBlock/\xb<b):=by
  intro b a2 hs;obtain ⟨ob,a7⟩:∃ ob,wy.heap[b]?=some ob:=⟨_,Array.getElem?_eq_getElem a2⟩;rw [a7];exact ⟨zam (hk b ob hs.1 a7) (by show b≠xb;omega),a4 b a2 hs.1,hs.2⟩
 have a6:wy.heap.size<=(w5.setCell ⟨xb,2,none⟩ v').heap.size:=by simpa [World.setCell] using hz
 have a9:w.heap.size<=xb:=by omega
 refine ⟨a0 _ _ (by omega) hy.sb,a0 _ _ (by omega) hy.kb,a0 _ _ (by omega) hy.rb,a0 _ _ (by omega) hy.z,zad (i:=2) (v:=v') (a1 xb _ xnl hy.x),⟨?_,ho.2.setCell (p:=⟨xb,2,none⟩) a9 _⟩,a8,?_,x4⟩
 ·refine own_keptB ho.1 (r:=some xb) (fun q o a5 ho'=>zam ho' (fun e=>a5 (by rw [e]))) ?_
  by_cases h0:v'.ownBlock=none
  ·exact .inl h0
  ·refine .inr fun e=>?_
   have:=a8 xb e;omega
 ·have h1:BitsAll (w5.setCell ⟨xb,2,none⟩ v') (fun b=>some b≠v'.ownBlock/\xb<b) C L:=hy.all.move a6 hS
  have h2:BitsAt (w5.setCell ⟨xb,2,none⟩ v') (fun b=>some b≠v'.ownBlock/\xb<b) (.agg (za4 c).toArray) bt:=by
   have h3:=hc.weaken (T:=fun b=>some b≠v.ownBlock/\xb<b) (fun b a2=>⟨fun e=>by have:=a3 b e.symm;omega,by omega⟩)
   have h4:=BitsAll.move (C:=[c]) (L:=[bt]) ⟨rfl,fun n h1 h2=>by simp at h1;subst h1;exact h3⟩ a6 hS
   exact h4.2 0 (by simp) (by simp)
  exact h1.snoc h2
theorem own_vecG {α:Type} {w:World} {B e k:Nat} {enc:α->List Value} (hk:∀ x,(enc x).length=k) {v:Value} {L:List α} (h:w.ownsRow B e k v L.length (L.flatMap enc)):Vec w (fun b=>B<=b/\v.ownBlock=some b) k enc v L:=by
 have hv:=Vec.owns (k:=k) (enc:=enc) hk h (S:=fun _=>True) fun _ _ _=>trivial
 rcases h.2 with ⟨rfl,h0⟩ | ⟨g,cap,cur,rfl,hg,hh,_⟩
 ·have:L=[]:=List.length_eq_zero_iff.1 h0
  subst this;exact Vec.nil _ _ _ _
 ·obtain ⟨a,a0,e1,k1,k2⟩:=hv
  refine ⟨a,a0,e1,k1,fun h0=>?_⟩
  obtain ⟨b,off,q1,_,q3,q4⟩:=k2 h0;cases e1;cases q1;exact ⟨_,_,rfl,⟨hg,rfl⟩,q3,q4⟩
theorem key_false (k:Int × Int) (num a b:List UInt8):keyN k num false a=keyN k num false b:=by unfold keyN;simp only [cond_false]
theorem zi7 (S:Nat->Prop) (vf vt vn vs:Value) (s:SchemaL) (P:List ParL) (pv:Value) (k:Int × Int) (r:RecL) (sv:Value) (w:World) (h:SchemaAt w S vf vt vn vs s) (hp:Vec w zau 3 zcm pv P) (hv:Vec w zau 1 za8 sv r.vals) (hc:zcj s P=0) (hcr:zdq s r=0) :
  Calls prog 43 #[.agg #[vf,vt,vn,vs],pv,.agg #[.int .u64 k.1,.int .u64 k.2],.agg #[.int .i64 r.id,.int .i64 r.ver,sv]] w (EncPair (zi2 s P k r,0) w):=by
 have g5:=recIn_of hc hcr;have he:=g5.enc;have h5:=he.five;have c6:=he.len;obtain ⟨a,cap,rfl⟩:=hp.slice;obtain ⟨av,cv,rfl⟩:=hv.slice;obtain ⟨c0,a3,vals⟩:=r;dsimp only at hv c6 he ⊢
 have j9:∀ p∈P,InI p.len:=by
  intro p n2;obtain ⟨i,hi,rfl⟩:=List.mem_iff_getElem.1 n2;have:=(he.fld i hi).par;rw [zbb _ _ hi] at this;exact ⟨by have:=this.len1;omega,by have:=this.len2;omega⟩
 have HS:=zjy h.any;have HP:=zjy hp;have HV:=zjy hv;have HC:=zjy hc;have o2:=zjy hcr;have HE:=zjy he;have o1:=zjy j9;have n7:=zjy (show ∀ x∈vals,x.length<=1000000 from fun x hx=>by have:=g5.short x hx;omega)
 have i2:=zjy c6;have hvl:vals.length<=5:=by omega
 clear h hp hv hc hcr he j9 g5 c6;go_enter func43,ntmps43
 go_wp2_with fail
 refine zah (fun W hW=>?_)
 have d8:Below w.heap.size w W:=by rw [hW];exact ((((Below.refl w.heap.size w).alloc xnl _).alloc (by simp) _).alloc (by simp;omega) _).alloc (by simp;omega) _
 have c8:W.heap[w.heap.size]?=some (.cells #[vf,vt,vn,vs] 33 (0,0)):=by rw [hW];exact zaf (zaf (zaf (zac rfl)))
 have f9:W.heap[w.heap.size+1]?=some (.cells #[.int .u64 k.1,.int .u64 k.2] 41 (0,0)):=by rw [hW];exact zaf (zaf (zac (by simp)))
 have f7:W.heap[w.heap.size+2]?=some (.cells #[.int .i64 c0,.int .i64 a3,.slice av vals.length cv] 68 (0,0)):=by rw [hW];exact zaf (zac (by simp))
 have f4:W.heap[w.heap.size+3]?=some (.cells #[.int .i64 0,.int .i64 0,.slice none 0 0] 59 (0,0)):=by rw [hW];exact zac (by simp)
 clear hW;refine (zhe zau _ _ _ _ s P _ _ (HS.o.below d8) (HP.o.below d8) o1.o (by omega)).mono ?_;rw [HC.o];rintro e w1 ⟨rfl,hb⟩;have e9:=zjy (d8.trans (hb.mono d8.size));have a6:=zjy (⟨zab hb (zaa c8) c8,zab hb (zaa f9) f9,zab hb (zaa f7) f7,zab hb (zaa f4) f4⟩:_/\_/\_/\_);obtain ⟨s0,s1,s2,s3⟩:=zaq a6.o.1;obtain ⟨r0,r1,r2⟩:=zan a6.o.2.2.1;have ls:=zaa a6.o.1;have lr:=zaa a6.o.2.2.1;have d0:((0:Int) != 0)=false:=rfl;clear hb d8 c8 f9 f7 f4;go_wp2_with fail
 refine (rrcheck_any zau zau _ _ _ _ s ⟨c0,a3,vals⟩ _ _ (HS.o.below e9.o) (HV.o.below e9.o) n7.o (by dsimp only;omega)).mono ?_;rw [o2.o];rintro e w2 ⟨rfl,hb⟩;have i7:=xhh e9 hb;have a7:=zjy (⟨zab hb (zaa a6.o.1) a6.o.1,zab hb (zaa a6.o.2.1) a6.o.2.1,zab hb (zaa a6.o.2.2.1) a6.o.2.2.1,zab hb (zaa a6.o.2.2.2) a6.o.2.2.2⟩:_/\_/\_/\_);clear hb s0 s1 s2 s3 r0 r1 r2 ls lr a6 e9;obtain ⟨r0,r1,r2⟩:=zan a7.o.2.2.1;have lr:=zaa a7.o.2.2.1;have lz:=zaa a7.o.2.2.2;go_wp2_with fail
 refine zal (fun W3 hW3=>?_)
 have b3:=xal hW3
 have j1:W3.heap[w2.heap.size]?=some (.cells #[.int .i64 c0,.int .i64 a3,.slice none 0 0] 59 (0,0)):=by rw [hW3];exact zac rfl
 have k6:=zjy (show ReAt w vf vt vn vs k ⟨c0,a3,vals⟩ (.slice av vals.length cv) w2.heap.size (.slice none 0 0) [] [] W3 from
  ⟨zab b3 (zaa a7.o.1) a7.o.1,zab b3 (zaa a7.o.2.1) a7.o.2.1,zab b3 (zaa a7.o.2.2.1) a7.o.2.2.1,zab b3 (zaa a7.o.2.2.2) a7.o.2.2.2,j1,OwnV.nil (i7.o.trans (b3.mono i7.o.size)),fun g e=>by simp [Value.ownBlock] at e,⟨rfl,fun n h1 _=>by simp at h1⟩,lz⟩)
 obtain ⟨xb,f5⟩:=xex (w2.heap.size);rw [f5] at k6 ⊢;clear hW3 b3 j1 f5 r0 r1 r2 lr lz i7 a7;go_loopw [13] (fun i wr=>∃ (j:Nat) (C:List BV) (va:Option Addr) (vc:Nat),i = .int .i64 j/\j<=P.length/\C.length=j/\ReAt w vf vt vn vs k ⟨c0,a3,vals⟩ (.slice av vals.length cv) xb (.slice va j vc) C (zc6 s P k vals j) wr) (fun i _=>P.length - (intOf i).toNat)
 case atStart=>exact ⟨0,[],none,0,rfl,by omega,rfl,k6.o⟩
 case round =>
  obtain ⟨j,C,va,vc,rfl,hj,k2,j3⟩:=hrel;have a1:=zjy j3;have c9:=zjy k2;clear j3 k2;obtain ⟨WR,n6⟩:∃ u,u=wr:=⟨_,rfl⟩;subst n6;have b5:=zjy a1.o.own.2;obtain ⟨r0,r1,r2⟩:=zan a1.o.rb;obtain ⟨x0,x1,x2⟩:=zan a1.o.x;have lr:=zaa a1.o.rb;have lx:=zaa a1.o.x;by_cases hlt:j<P.length
  ·have hq:decide ((j:Int)<(P.length:Int))=true:=by simp;omega
   have hjp:(j:Int)<(P.length:Int):=by omega
   have n4:j<vals.length:=by have:=i2.o;omega
   have n3:(j:Int)<(vals.length:Int):=by omega
   obtain ⟨p,e4⟩:=xex (P.getD j default);have e7:=HE.o.fld j hlt;have a8:=fieldsN_succ s P k vals j;rw [e4] at e7 a8;obtain ⟨b,off,rfl,lb,h6⟩:=vec_str (HV.o.below b5.o) j n4;obtain ⟨t,f6⟩:=xex (vals.getD j []);have a9:=e7.norm;rw [f6] at h6 a9;have d9:=zjy e7;have k5:=zjy a8;have k4:=zjy f6;have n8:=zjy a9;clear e7 a8 f6 a9;by_cases ht0:t=[]
   ·have d5:zff s p k vals j=zch:=by unfold zff;rw [k4.o,if_pos ht0]
    have i5:=zjy d5;subst ht0;clear d5 e4;have d7:Below WR.heap.size WR (WR.alloc (.cells (za4 ⟨0,none,0,0⟩).toArray 56)):=(Below.refl _ _).alloc xnl _;have i1:=zjy (a1.o.own.below d7);have i0:=zjy (show zck (WR.alloc (.cells (za4 ⟨0,none,0,0⟩).toArray 56)) 2 (.slice (some ⟨WR.heap.size,0,none⟩) 1 1) [(⟨0,none,0,0⟩:BV)].length ([(⟨0,none,0,0⟩:BV)].flatMap za4) from za0 (xs:=[(⟨0,none,0,0⟩:BV)].flatMap za4) (fr:=(0,0)) (t:=56) (zac rfl) rfl);have g8:C.length+[(⟨0,none,0,0⟩:BV)].length<=1000000000:=by rw [c9.o];simp only [List.length_cons,List.length_nil];omega
    clear d7;go_wp2_with (at_builtin;refine zc8 rfl (.tmp 51) (.tmp 53) 57 rfl 56 (.agg #[.int .i64 0,.slice none 0 0]) 2 32 za4 (fun _=>rfl) ze9 underlying57 zgd rfl (by decide) (by decide) (w0:=w) (v:=.slice va j vc) (A:=C) (B:=[⟨0,none,0,0⟩]) rfl i1.o rfl i0.o g8 ?_;intro v5 w5 d1 d4 f3 c7;obtain ⟨a5,c5,e5⟩:=zar d1.1;have d2:(C++[(⟨0,none,0,0⟩:BV)]).length=j+1:=(by rw [List.length_append,c9.o];rfl);rw [d2] at e5;subst e5;clear d2;have f8:=a1.o.n;have c4:=d4 _ _ (fun e=>absurd (f8 _ e.symm) (by omega)) (zaf a1.o.x);have l4:=zaa c4;have fo:=frozen_of_row _ _ 2 _ _ c4;obtain ⟨y0,y1,y2⟩:=zan c4)
    go_roundw
    case rel =>
     refine ⟨j+1,C++[⟨0,none,0,0⟩],a5,c5,by go_num,by omega,by rw [List.length_append,c9.o];rfl,?_⟩;rw [k5.o,i5.o]
     exact a1.o.step (Below.refl _ _) (BitsAt.none _ _) d1 (fun q o h1 h2=>d4 q o h1 (zaf h2)) (Nat.le_trans (by simp) f3) (by
      rcases c7 with h1 | h1 | h1
      ·exact .inl h1
      ·exact .inr (.inl h1)
      ·exact .inr (.inr ⟨_,h1,by simp⟩))
    case measure=>simp [intOf];omega
   ·have hex:t.isEmpty=false:=by simpa using ht0
    have n5:(t == [])=false:=by simpa using ht0
    obtain ⟨G,hG⟩:=xex (zfx s (j:Int) t);obtain ⟨g1,g2,g3,g4⟩:=grams_fit n8.o d9.o.kind;rw [hG] at g1 g2 g3;obtain ⟨KX,hK⟩:=xex (keyN k (Lib.decDigits j) (decide (0<=p.salt)) (saltOf p vals));obtain ⟨B,h4⟩:=xex ((zhq p KX G.1).1);have d5:zff s p k vals j=B:=by unfold zff;rw [k4.o,if_neg ht0,hK,hG,h4]
    have i5:=zjy d5;have HG:=zjy hG;have HK:=zjy hK;have l2:=zjy h4;have HG1:=zjy g1;have l1:=zjy g2;have l0:=zjy g3;obtain ⟨k0,k1⟩:=zae a1.o.kb;have lk:=zaa a1.o.kb;clear d5 hG hK h4 g1 g2 g3 ht0;go_wp2_with fail
    obtain ⟨K1,h3⟩:=xex (keyN k (Lib.itoa (j:Int)) false []);have o0:=zjy h3;refine (zjb k (j:Int) false [] _ ⟨by omega,by omega⟩ (by simp)).mono ?_;rw [h3];rintro e w4 ⟨rfl,hb⟩;have i6:=zjy hb;have h9:=zjy (a1.o.below hb);obtain ⟨b2,a0,rfl,e2,d6⟩:=(HP.o.below b5.o).get j hlt;rw [show P[j]=p by rw [<- zbb P default hlt];exact e4] at d6;have p0:=d6 0 _ rfl;have p1:=d6 1 _ rfl;have p2:=d6 2 _ rfl;rw [Nat.add_zero] at p0
    have a2:=zjy (show ∀ w',Below WR.heap.size WR w'->(w'.cell? ⟨b2,a0+j*3,none⟩=some (.int .i64 p.len)/\w'.cell? ⟨b2,a0+j*3+1,none⟩=some (.int .i64 p.hashes)/\w'.cell? ⟨b2,a0+j*3+2,none⟩=some (.int .i64 p.salt))/\w'.cell? ⟨b,off+j,none⟩=some (zak t) from fun w' hb =>
     ⟨⟨(hb.cell (p:=⟨b2,a0+j*3,none⟩) e2).trans p0,(hb.cell (p:=⟨b2,a0+j*3+1,none⟩) e2).trans p1,(hb.cell (p:=⟨b2,a0+j*3+2,none⟩) e2).trans p2⟩,(hb.cell (p:=⟨b,off+j,none⟩) lb).trans h6⟩)
    have c2:=(a2.o w4 hb).1.2.2;have m4:=Nat.lt_of_lt_of_le e2 hb.size;obtain ⟨sb,n0⟩:=xex (decide (0<=p.salt));have h7:=zjy n0;clear hb d6 e4 k0 k1 r0 r1 r2 x0 x1 x2 lk lr lx h3 h6 p0 p1 p2;go_upto_if 64 with (fail)
    refine zal (fun W5 hW5=>?_)
    have k3:=xal hW5
    have e6:W5.heap[w4.heap.size]?=some (.cells #[.int .u64 K1.1,.int .u64 K1.2] 41 (0,0)):=by rw [hW5];exact zac rfl
    obtain ⟨kb,d3⟩:=xex (w4.heap.size);rw [d3] at e6 ⊢;have i4:=zjy e6;have B5:=xhh i6 k3;have i8:WR.heap.size<=kb:=by have:=i6.o.size;omega
    have l7:=zaa e6;have b4:=zjy (a1.o.below B5.o);clear hW5 k3 e6 d3 i6 h9 c2;go_cut [] (fun wx=>wx.heap[kb]?=some (.cells #[.int .u64 KX.1,.int .u64 KX.2] 41 (0,0))/\Below WR.heap.size WR wx)
    case first =>
     cases sb
     ·have e8:KX=K1:=by rw [<- HK.o,h7.o,<- o0.o,Lib.itoa_nonneg];exact key_false _ _ _ _
      subst e8;go_wp2_with fail
      go_meet;exact ⟨i4.o,B5.o⟩
     ·have c8:0<=p.salt:=of_decide_eq_true h7.o
      obtain ⟨q,j5⟩:∃ q:Nat,p.salt=q:=⟨p.salt.toNat,by omega⟩;have j4:q<vals.length:=by have h1:=d9.o.salt;omega
      have n1:(q:Int)<(vals.length:Int):=by omega
      obtain ⟨bq,l3,eq,m3,g7⟩:=vec_str (HV.o.below (b5.o.trans (B5.o.mono b5.o.size))) q j4;cases eq;obtain ⟨st,e3⟩:=xex (vals.getD q []);have m9:st.length<=64:=by rw [<- e3];exact d9.o.short _ (by rw [List.getD,List.getElem?_eq_getElem j4];exact List.getElem_mem _)
      rw [e3] at g7;have e8:keyN k (Lib.itoa (j:Int)) true st=KX:=by rw [<- HK.o,h7.o,Lib.itoa_nonneg];unfold saltOf;rw [if_pos c8,j5,Int.toNat_natCast,e3]
      have n9:=zjy e8;have m2:=zaa b4.o.kb;have l5:=zaa b4.o.rb
      have HT:=zjy (show ∀ w',Below W5.heap.size W5 w'->(w'.cell? ⟨w.heap.size+1,0,none⟩=some (.int .u64 k.1)/\w'.cell? ⟨w.heap.size+1,1,none⟩=some (.int .u64 k.2))/\w'.cell? ⟨w.heap.size+1+1,2,none⟩=some (.slice (some ⟨b,off,none⟩) vals.length cv)/\w'.cell? ⟨b2,a0+j*3+2,none⟩=some (.int .i64 (q:Int))/\w'.cell? ⟨b,off+q,none⟩=some (zak st) from fun w' hb =>
       ⟨zae (zab hb m2 b4.o.kb),(zan (zab hb l5 b4.o.rb)).2.2,by rw [<- j5];exact (a2.o w' (B5.o.trans (hb.mono B5.o.size))).1.2.2,(hb.cell (p:=⟨b,off+q,none⟩) m3).trans g7⟩)
      have bD:Below W5.heap.size W5 W5.drew:=(Below.refl _ _).drew;clear e3 g7 e8 c8;go_wp2_with fail
      refine wp_region_noPanic ?_
      refine zaw (by kernel_rfl) (fun w'=>(w'.cell? ⟨w.heap.size+1,0,none⟩=some (.int .u64 k.1)/\w'.cell? ⟨w.heap.size+1,1,none⟩=some (.int .u64 k.2))/\w'.cell? ⟨w.heap.size+1+1,2,none⟩=some (.slice (some ⟨b,off,none⟩) vals.length cv)/\w'.cell? ⟨b2,a0+j*3+2,none⟩=some (.int .i64 (q:Int))/\w'.cell? ⟨b,off+q,none⟩=some (zak st)) 12 (HT.o _ bD) (fun hHeld=>?_)
      refine tK 0 ?_;refine tK 1 ?_;refine tK 2 ?_;refine tK 3 ?_;refine tK 4 ?_;refine tK 5 ?_;refine tK 6 ?_;refine tK 7 ?_;refine tK 8 ?_;refine tK 9 ?_;refine tK 10 ?_
      refine xrK 11 rfl fun K hK=>?_
      go_simp;refine (zjb k (j:Int) true st _ ⟨by omega,by omega⟩ (by omega)).mono ?_;rw [n9.o];rintro e w6 ⟨rfl,j8⟩;have b6:=bD.trans (j8.mono bD.size);clear j8;have b0:=zab b6 l7 i4.o;have g0:=frozen_of_row _ _ 0 _ _ b0;have g1:=frozen_of_row _ _ 1 _ _ b0;obtain ⟨e0,e1⟩:=zae b0;have l6:=zaa b0
      refine zbc hK (HT.o _ b6) (fun hHeld=>?_)
      clear hK K
      refine xrK 12 rfl fun K hK=>?_
      go_simp;refine zav hK (by decide) ?_;clear hK K;refine zas (by kernel_rfl) ?_ _;refine NoPanic.normal ?_;go_wp2_with fail
      go_meet;exact ⟨zad (i:=1) (v:=.int .u64 KX.2) (zad (i:=0) (v:=.int .u64 KX.1) b0),((B5.o.trans (b6.mono B5.o.size)).setCell (p:=⟨kb,0,none⟩) i8 _).setCell (p:=⟨kb,1,none⟩) i8 _⟩
    case rest =>
     obtain ⟨w6,m6⟩:∃ u,u=wc:=⟨_,rfl⟩;subst m6;obtain ⟨j6,g9⟩:=hcut;have i3:=zjy j6;have B6:=zjy g9;have a4:=zjy (a1.o.below g9);clear j6 g9 i4;have i9:=zaa a4.o.sb;have j0:=zaa a4.o.rb;have m1:=zaa i3.o
     have HT:=zjy (show ∀ w',Below w6.heap.size w6 w'->(w'.cell? ⟨w.heap.size,0,none⟩=some vf/\w'.cell? ⟨w.heap.size,1,none⟩=some vt/\w'.cell? ⟨w.heap.size,2,none⟩=some vn/\w'.cell? ⟨w.heap.size,3,none⟩=some vs)/\w'.cell? ⟨w.heap.size+1+1,2,none⟩=some (.slice (some ⟨b,off,none⟩) vals.length cv)/\w'.cell? ⟨b,off+j,none⟩=some (zak t) from fun w' hb =>
      ⟨zaq (zab hb i9 a4.o.sb),(zan (zab hb j0 a4.o.rb)).2.2,(a2.o w' (B6.o.trans (hb.mono B6.o.size))).2⟩)
     have bD:Below w6.heap.size w6 w6.drew:=(Below.refl _ _).drew;have m8:t.length<=1000000:=by omega
     go_wp2_with fail
     refine wp_region_noPanic ?_
     refine wp_region_held_drew (S:=(fun w'=>(w'.cell? ⟨w.heap.size,0,none⟩=some vf/\w'.cell? ⟨w.heap.size,1,none⟩=some vt/\w'.cell? ⟨w.heap.size,2,none⟩=some vn/\w'.cell? ⟨w.heap.size,3,none⟩=some vs)/\w'.cell? ⟨w.heap.size+1+1,2,none⟩=some (.slice (some ⟨b,off,none⟩) vals.length cv)/\w'.cell? ⟨b,off+j,none⟩=some (zak t))) (by kernel_rfl) (HT.o _ bD) (fun hHeld=>?_)
     refine tH 0 ?_;refine tH 1 ?_;refine tH 2 ?_;refine tH 3 ?_;refine tH 4 ?_;refine tH 5 ?_;refine tH 6 ?_
     refine xrH 7 rfl fun K hK=>?_
     go_simp;refine (rsgrams_any zau _ _ _ _ s (j:Int) t _ (HS.o.below ((b5.o.trans (B6.o.mono b5.o.size)).trans (bD.mono (b5.o.trans (B6.o.mono b5.o.size)).size))) m8 G HG.o.symm).mono ?_;rintro e w7 ⟨gv,rfl,g6,j7⟩;obtain ⟨ga,gc,rfl⟩:=g6.slice;have k8:=zjy g6;have b7:=bD.trans (j7.mono bD.size);clear g6 j7
     refine hK.out _ _ (HT.o _ b7) (fun hHeld=>?_)
     clear hK K;refine tH 8 ?_;refine tH 9 ?_;refine tH 10 ?_;refine tH 11 ?_;refine tH 12 ?_;refine wpAnyH_done (by kernel_rfl) ?_ _;refine NoPanic.normal ?_;have B7:=xhh B6 b7;have k7:=zjy (zab b7 m1 i3.o);have h8:=zjy (a4.o.below b7);clear HT bD b7 i3 a4 b4 i9 j0;have m0:=zaa k7.o
     have HT:=zjy (show ∀ w',Below w7.heap.size w7 w'->(w'.cell? ⟨b2,a0+j*3,none⟩=some (.int .i64 p.len)/\w'.cell? ⟨b2,a0+j*3+1,none⟩=some (.int .i64 p.hashes)/\w'.cell? ⟨b2,a0+j*3+2,none⟩=some (.int .i64 p.salt))/\w'.cell? ⟨kb,0,none⟩=some (.int .u64 KX.1)/\w'.cell? ⟨kb,1,none⟩=some (.int .u64 KX.2) from fun w' hb =>
      ⟨(a2.o w' (B7.o.trans (hb.mono B7.o.size))).1,zae (zab hb m0 k7.o)⟩)
     have bD:Below w7.heap.size w7 w7.drew:=(Below.refl _ _).drew;have hw7:Below w.heap.size w w7:=b5.o.trans (B7.o.mono b5.o.size);have zD:w7.drew.heap.size=w7.heap.size:=rfl;have hz7:=B7.o.size;go_wp2_with fail
     go_cut [17] (fun s17 wx=>∃ (bb:Nat) (c:BV),s17 = .pointer (some ⟨bb,0,none⟩)/\wx.heap[bb]?=some (.cells (za4 c).toArray 56 (0,0))/\BitsAt wx (fun x=>WR.heap.size<=x) (.agg (za4 c).toArray) B/\Below w7.heap.size w7 wx)
     case first =>
      refine wp_region_noPanic ?_
      refine zaw (by kernel_rfl) (fun w'=>(w'.cell? ⟨b2,a0+j*3,none⟩=some (.int .i64 p.len)/\w'.cell? ⟨b2,a0+j*3+1,none⟩=some (.int .i64 p.hashes)/\w'.cell? ⟨b2,a0+j*3+2,none⟩=some (.int .i64 p.salt))/\w'.cell? ⟨kb,0,none⟩=some (.int .u64 KX.1)/\w'.cell? ⟨kb,1,none⟩=some (.int .u64 KX.2)) 11 (HT.o _ bD) (fun hHeld=>?_)
      refine tK 0 ?_;refine tK 1 ?_;refine tK 2 ?_;refine tK 3 ?_;refine tK 4 ?_;refine tK 5 ?_;refine zbf (rs:=[6,10]) (by kernel_rfl) (by simp) ?_
      refine AllReadyK.cons rfl (fun K hK=>?_) (AllReadyK.cons rfl (fun K hK=>?_) AllReadyK.nil)
      focus
       go_simp
       refine (rbencode_yes zau p KX _ G.1 _ d9.o.par (k8.o.below bD) (fun g hg=>by have:=l0.o g hg;omega) l1.o).mono ?_
       rw [l2.o];rintro e w8 ⟨_,rfl,h0,c3⟩;obtain ⟨⟨bl,ba,bn,bc⟩,rfl,hbv'⟩:=h0.form;have b8:=bD.trans (c3.mono bD.size)
       refine zbc hK (HT.o _ b8) (fun hHeld=>?_)
       clear hK K;refine tK 7 ?_;refine tK 8 ?_;refine t0 9 ?_
       refine xrK 10 rfl fun K hK=>?_
       go_simp;skip
       refine zbc hK (HT.o _ (b8.alloc b8.size _)) (fun hHeld=>?_)
       clear hK K
       refine zbi (fun W9 hW9=>?_)
       have b9:Below w7.heap.size w7 W9:=by rw [hW9];exact b8.alloc b8.size _
       have z9:W9.heap[w8.heap.size]?=some (.cells #[.int .i64 0,.slice none 0 0] 56 (0,0)):=by rw [hW9];exact zac rfl
       have k9:∀ x,x<w8.heap.size->W9.heap[x]?=w8.heap[x]?:=fun x hx=>by rw [hW9];exact heap_alloc_old _ _ hx
       have s9:w8.heap.size<=W9.heap.size:=by rw [hW9];simp
       clear hW9 hHeld;have hHeld:=HT.o _ b9;obtain ⟨e0,e1⟩:=zae z9;have l9:=zaa z9;have g0:=frozen_of_row _ _ 0 _ _ z9;have g1:=frozen_of_row _ _ 1 _ _ z9
       refine xrK 11 rfl fun K hK=>?_
       go_simp;refine zav hK (by decide) ?_;clear hK K;refine t0 12 ?_;refine zas (by kernel_rfl) ?_ _;refine NoPanic.normal ?_;go_wp2_with fail
       go_meet;exact ⟨_,⟨bl,ba,bn,bc⟩,rfl,zad (i:=1) (v:=.slice ba bn bc) (zad (i:=0) (v:=.int .i64 bl) z9),(hbv'.move (by simpa [World.setCell] using s9) (fun x hx _=>by rw [heap_setCell_other _ _ _ _ (by show x≠w8.heap.size;omega),heap_setCell_other _ _ _ _ (by show x≠w8.heap.size;omega)];exact k9 x hx)).weaken (fun x hx=>by have j2:w7.drew.heap.size<=x:=hx;omega),(b9.setCell (p:=⟨w8.heap.size,0,none⟩) b8.size _).setCell (p:=⟨w8.heap.size,1,none⟩) b8.size _⟩
      focus
       go_simp
       refine zbc hK (HT.o _ (bD.alloc bD.size _)) (fun hHeld=>?_)
       clear hK K
       refine zbi (fun W9 hW9=>?_)
       have b9:Below w7.heap.size w7 W9:=by rw [hW9];exact bD.alloc bD.size _
       have z9:W9.heap[w7.heap.size]?=some (.cells #[.int .i64 0,.slice none 0 0] 56 (0,0)):=by rw [hW9];exact zac rfl
       clear hW9 hHeld;have hHeld:=HT.o _ b9;have l9:=zaa z9
       refine xrK 6 rfl fun K hK=>?_
       go_simp
       refine (rbencode_yes zau p KX _ G.1 _ d9.o.par (k8.o.below b9) (fun g hg=>by have:=l0.o g hg;omega) l1.o).mono ?_;rw [l2.o];rintro e w8 ⟨_,rfl,h0,c3⟩;obtain ⟨⟨bl,ba,bn,bc⟩,rfl,hbv'⟩:=h0.form;have b8:=b9.trans (c3.mono b9.size);have z8:=zab c3 l9 z9
       refine zbc hK (HT.o _ b8) (fun hHeld=>?_)
       clear hK K;refine tK 7 ?_;refine tK 8 ?_;refine t0 9 ?_;obtain ⟨e0,e1⟩:=zae z8;have l8:=zaa z8;have g0:=frozen_of_row _ _ 0 _ _ z8;have g1:=frozen_of_row _ _ 1 _ _ z8
       refine xrK 11 rfl fun K hK=>?_
       go_simp;refine zav hK (by decide) ?_;clear hK K;refine t0 12 ?_;refine zas (by kernel_rfl) ?_ _;refine NoPanic.normal ?_;go_wp2_with fail
       go_meet;exact ⟨_,⟨bl,ba,bn,bc⟩,rfl,zad (i:=1) (v:=.slice ba bn bc) (zad (i:=0) (v:=.int .i64 bl) z8),((hbv'.weaken (T:=fun x=>w7.heap.size<x) (fun x hx=>by have j2:W9.heap.size<=x:=hx;omega)).move (by simp [World.setCell]) (fun x hx hs=>by have hs':w7.heap.size<x:=hs;rw [heap_setCell_other _ _ _ _ (by show x≠w7.heap.size;omega),heap_setCell_other _ _ _ _ (by show x≠w7.heap.size;omega)])).weaken (fun x hx=>by have j2:w7.heap.size<x:=hx;omega),(b8.setCell (p:=⟨w7.heap.size,0,none⟩) xnl _).setCell (p:=⟨w7.heap.size,1,none⟩) xnl _⟩
     case rest =>
      obtain ⟨w8,m5⟩:∃ u,u=wc:=⟨_,rfl⟩;subst m5;obtain ⟨bb,⟨bl,ba,bn,bc⟩,rfl,hbb,hbt,c3⟩:=hcut;have B8:=xhh B7 c3;have b1:=zjy (h8.o.below c3);obtain ⟨y0,y1⟩:=zae hbb;have lbb:=zaa hbb;obtain ⟨x0,x1,x2⟩:=zan b1.o.x;have lx:=zaa b1.o.x;have o3:=zjy hbt;have d7:Below w8.heap.size w8 (w8.alloc (.cells (za4 ⟨bl,ba,bn,bc⟩).toArray 56)):=(Below.refl _ _).alloc xnl _;have i1:=zjy (b1.o.own.below d7);have i0:=zjy (show zck (w8.alloc (.cells (za4 ⟨bl,ba,bn,bc⟩).toArray 56)) 2 (.slice (some ⟨w8.heap.size,0,none⟩) 1 1) [(⟨bl,ba,bn,bc⟩:BV)].length ([(⟨bl,ba,bn,bc⟩:BV)].flatMap za4) from za0 (xs:=[(⟨bl,ba,bn,bc⟩:BV)].flatMap za4) (fr:=(0,0)) (t:=56) (zac rfl) rfl);have g8:C.length+[(⟨bl,ba,bn,bc⟩:BV)].length<=1000000000:=by rw [c9.o];simp only [List.length_cons,List.length_nil];omega
      clear hbb hbt c3 d7;go_wp2_with (at_builtin;refine zc8 rfl (.tmp 99) (.tmp 101) 57 rfl 56 (.agg #[.int .i64 0,.slice none 0 0]) 2 32 za4 (fun _=>rfl) ze9 underlying57 zgd rfl (by decide) (by decide) (w0:=w) (v:=.slice va j vc) (A:=C) (B:=[⟨bl,ba,bn,bc⟩]) rfl i1.o rfl i0.o g8 ?_;intro v5 w5 d1 d4 f3 c7;obtain ⟨a5,c5,e5⟩:=zar d1.1;have d2:(C++[(⟨bl,ba,bn,bc⟩:BV)]).length=j+1:=(by rw [List.length_append,c9.o];rfl);rw [d2] at e5;subst e5;clear d2;have f8:=b1.o.n;have c4:=d4 _ _ (fun e=>absurd (f8 _ e.symm) (by omega)) (zaf b1.o.x);have l4:=zaa c4;have fo:=frozen_of_row _ _ 2 _ _ c4;obtain ⟨yy0,yy1,yy2⟩:=zan c4)
      go_roundw
      case rel =>
       refine ⟨j+1,C++[⟨bl,ba,bn,bc⟩],a5,c5,by go_num,by omega,by rw [List.length_append,c9.o];rfl,?_⟩;rw [k5.o,i5.o]
       exact a1.o.step B8.o o3.o d1 (fun q o h1 h2=>d4 q o h1 (zaf h2)) (Nat.le_trans (by simp) f3) (by
        rcases c7 with h1 | h1 | h1
        ·exact .inl h1
        ·exact .inr (.inl h1)
        ·exact .inr (.inr ⟨_,h1,by simp⟩))
      case measure=>simp [intOf];omega
  ·have hq:decide ((j:Int)<(P.length:Int))=false:=by simp;omega
   obtain rfl:j=P.length:=by omega
   obtain ⟨z0,z1,z2⟩:=zan a1.o.z;have lz:=zaa a1.o.z;have f0:=frozen_of_row _ _ 0 _ _ a1.o.z;have f1:=frozen_of_row _ _ 1 _ _ a1.o.z;have f2:=frozen_of_row _ _ 2 _ _ a1.o.z;go_wp2_with fail
   refine zai rfl rfl (zad (i:=2) (v:=.slice va P.length vc) (zad (i:=1) (v:=.int .i64 a3) (zad (i:=0) (v:=.int .i64 c0) a1.o.z))) underlying59 rfl (by kernel_rfl) ?_;have m7:=own_vecG (k:=2) (enc:=za4) (fun _=>rfl) a1.o.own.1
   have f5:=a1.o.xb4;have hn:=a1.o.n
   have c1:∀ x,x<WR.heap.size->xb<x->((((WR.setCell ⟨w.heap.size+3,0,none⟩ (.int .i64 c0)).setCell ⟨w.heap.size+3,1,none⟩ (.int .i64 a3)).setCell ⟨w.heap.size+3,2,none⟩ (.slice va P.length vc)).heap[x]?=WR.heap[x]?)/\w.heap.size<=x:=fun x _ hx=>by
    rw [heap_setCell_other _ _ _ _ (by show x≠w.heap.size+3;omega),heap_setCell_other _ _ _ _ (by show x≠w.heap.size+3;omega),heap_setCell_other _ _ _ _ (by show x≠w.heap.size+3;omega)];exact ⟨rfl,by omega⟩
   have hz:WR.heap.size<=(((WR.setCell ⟨w.heap.size+3,0,none⟩ (.int .i64 c0)).setCell ⟨w.heap.size+3,1,none⟩ (.int .i64 a3)).setCell ⟨w.heap.size+3,2,none⟩ (.slice va P.length vc)).heap.size:=by simp [World.setCell]
   refine ⟨_,rfl,⟨_,rfl,C,?_,?_⟩,((a1.o.own.2.setCell (p:=⟨w.heap.size+3,0,none⟩) (by simp) _).setCell (p:=⟨w.heap.size+3,1,none⟩) (by simp) _).setCell (p:=⟨w.heap.size+3,2,none⟩) (by simp) _⟩
   ·exact m7.move hz fun x hx hs=>c1 x hx (hn x hs.2)
   ·exact a1.o.all.move hz fun x hx hs=>c1 x hx hs.2
end
section
open Go.RowKit Cal
attribute [local go_sem] zag zaj za6
structure CapR (sb kb:Nat) (vf vt vn vs:Value) (s:SchemaL) (pa:Option Addr) (pc:Nat) (P:List ParL) (k:Int × Int) (ra:Option Addr) (rc:Nat) (R:List RecL) (w:World):Prop where
 bs:w.heap[sb]?=some (.cells #[vf,vt,vn,vs] 33 (0,0))
 bk:w.heap[kb]?=some (.cells #[.int .u64 k.1,.int .u64 k.2] 41 (0,0))
 sch:SchemaAt w zau vf vt vn vs s
 par:Vec w zau 3 zcm (.slice pa P.length pc) P
 rcs:RecsVec w zau (.slice ra R.length rc) R
theorem CapR.below {sb kb:Nat} {vf vt vn vs:Value} {s:SchemaL} {pa:Option Addr} {pc:Nat} {P:List ParL} {k:Int × Int} {ra:Option Addr} {rc:Nat} {R:List RecL} {w w':World} (h:CapR sb kb vf vt vn vs s pa pc P k ra rc R w) (hb:Below w.heap.size w w'):CapR sb kb vf vt vn vs s pa pc P k ra rc R w' :=
 ⟨zab hb (zaa h.bs) h.bs,zab hb (zaa h.bk) h.bk,h.sch.below hb,h.par.below hb,h.rcs.below hb⟩
theorem rall16_any (S T:Nat->Prop) (vf vt vn vs rv:Value) (s:SchemaL) (P:List ParL) (pv:Value) (k:Int × Int) (R:List RecL) (w:World) (h:SchemaAt w S vf vt vn vs s) (hp:Vec w zau 3 zcm pv P) (hr:RecsVec w T rv R) (hi:∀ p∈P,InI p.len) (hn:P.length<=1000000)
  (hs:∀ r∈R,∀ x∈r.vals,x.length<=1000000) (hm:∀ r∈R,r.vals.length<=1000000) (hR:R.length<=1000000) :
  Calls prog 15 #[.agg #[vf,vt,vn,vs],pv,.agg #[.int .u64 k.1,.int .u64 k.2],rv] w (AllEPost (zjv s P k R) w):=by
 obtain ⟨a,e9,rfl⟩:=hp.slice;obtain ⟨ar,cr,rfl⟩:=hr.slice;have HS:=zjy h.any;have HP:=zjy hp;have HR:=zjy hr.any;have HI:=zjy hi;have f3:=zjy hs;have HM:=zjy hm;obtain ⟨ce,c8⟩:=xex (zcj s P);obtain ⟨ca,c9⟩:=xex (allN s R);obtain ⟨Z,hZ⟩:=xex (zjv s P k R);rw [hZ];have a2:=zjy c8;have a3:=zjy c9;have HZ:=zjy hZ;clear h hp hr hi hs hm c8 c9 hZ;go_enter func15,ntmps15
 go_wp2_with fail
 refine zah (fun W hW=>?_)
 have a0:=xam hW
 have b2:W.heap[w.heap.size]?=some (.cells #[vf,vt,vn,vs] 33 (0,0)):=by rw [hW];exact zaf (zac rfl)
 have b4:W.heap[w.heap.size+1]?=some (.cells #[.int .u64 k.1,.int .u64 k.2] 41 (0,0)):=by rw [hW];exact zac (by simp)
 clear hW;refine (zhe zau _ _ _ _ s P _ _ (HS.o.below a0) (HP.o.below a0) HI.o hn).mono ?_;rw [a2.o];rintro e w1 ⟨rfl,hb⟩;have a8:=zjy (a0.trans (hb.mono a0.size));have a7:=zjy (show CapR w.heap.size (w.heap.size+1) vf vt vn vs s a e9 P k ar cr R w1 from ⟨zab hb (zaa b2) b2,zab hb (zaa b4) b4,HS.o.below (a0.trans (hb.mono a0.size)),HP.o.below (a0.trans (hb.mono a0.size)),HR.o.below (a0.trans (hb.mono a0.size))⟩);clear hb a0 b2 b4;obtain ⟨s0,s1,s2,s3⟩:=zaq a7.o.bs;have ls:=zaa a7.o.bs;by_cases hc0:ce=0;rotate_left
 ·have dz:(ce != 0)=true:=by simpa using hc0
  have a6:Z=([],ce):=by rw [<- HZ.o];unfold zjv;rw [if_neg (by rw [a2.o];exact hc0),a2.o]
  subst a6;clear a2 a3 HZ hc0;go_wp2_with fail
  go_ret2;exact ⟨_,rfl,EncsVec.nil _ _,a8.o⟩
 have dz:(ce != 0)=false:=by simpa using hc0
 go_wp2_with fail
 refine (rrall_any zau zau _ _ _ _ _ s R _ (HS.o.below a8.o) (HR.o.below a8.o) f3.o HM.o hR).mono ?_;rw [a3.o];rintro e w2 ⟨rfl,hb⟩;have c6:=xhh a8 hb;have f1:=zjy (a7.o.below hb);clear hb s0 s1 s2 s3 ls;by_cases ha0:ca=0;rotate_left
 ·have da:(ca != 0)=true:=by simpa using ha0
  have a6:Z=([],ca):=by rw [<- HZ.o];unfold zjv;rw [if_pos (by rw [a2.o];exact hc0),if_neg (by rw [a3.o];exact ha0),a3.o]
  subst a6;clear a2 a3 HZ hc0 ha0;go_wp2_with fail
  go_ret2;exact ⟨_,rfl,EncsVec.nil _ _,c6.o⟩
 have da:(ca != 0)=false:=by simpa using ha0
 obtain ⟨L,hL⟩:=xex (R.map (zi2 s P k));have a6:Z=(L,0):=by rw [<- HZ.o,<- hL];unfold zjv;rw [if_pos (by rw [a2.o];exact hc0),if_pos (by rw [a3.o];exact ha0)]
 have c7:L.length=R.length:=by rw [<- hL,List.length_map]
 have d6:=zjy (a2.o.trans hc0);have c4:=zjy (zi0 (a3.o.trans ha0)).2.2;have f0:=zjy a6;have HL:=zjy hL;have HLl:=zjy c7;clear a2 a3 HZ hc0 ha0 a6 a7 hL c7;go_wp2_with fail
 go_loopw [12,13] (fun v i wr=>∃ (j:Nat) (C:List EV),i = .int .i64 j/\j<=R.length/\C.length=j/\OwnV 59 3 zez w2 v C wr/\EncsAll wr (zg6 w2.heap.size v) C ((R.take j).map (zi2 s P k))) (fun _ i _=>R.length - (intOf i).toNat)
 case atStart=>exact ⟨0,[],rfl,by omega,rfl,OwnV.start _ _ _ _,⟨rfl,fun n h1 _=>by simp at h1⟩⟩
 case round =>
  obtain ⟨j,C,rfl,hj,c3,ho,d0⟩:=hrel;have HO:=zjy ho;have c5:=zjy d0;have d5:=zjy c3;have HX:=zjy (f1.o.below ho.2);obtain ⟨va,vc,ev⟩:=zar ho.1;rw [c3] at ev;subst ev;clear ho d0 c3;obtain ⟨WR,e8⟩:∃ u,u=wr:=⟨_,rfl⟩;subst e8;by_cases hlt:j<R.length
  ·have hq:decide ((j:Int)<R.length)=true:=by simp;omega
   have hji:(j:Int)<(R.length:Int):=by omega
   obtain ⟨b,off,id,a4,aa,nn,cc,vals,rfl,lb,c0,c1,c2,b7,b0⟩:=HX.o.rcs.at j hlt;have e5:=b0.len.1;subst e5;have b3:=c4.o _ (List.getElem_mem hlt);rw [b7] at b3;have b1:(R.take (j+1)).map (zi2 s P k)=(R.take j).map (zi2 s P k)++[zi2 s P k ⟨id,a4,vals⟩]:=by rw [List.take_succ_eq_append_getElem hlt,b7];simp
   obtain ⟨X,b6⟩:=xex (zi2 s P k ⟨id,a4,vals⟩);rw [b6] at b1;have d4:=zjy b3;have f2:=zjy b1;have d3:=zjy b0;have d2:=zjy b6;have d7:=zaa HX.o.bs;have d8:=zaa HX.o.bk
   have HT:=zjy (show ∀ w',Below WR.heap.size WR w'->(w'.cell? ⟨w.heap.size,0,none⟩=some vf/\w'.cell? ⟨w.heap.size,1,none⟩=some vt/\w'.cell? ⟨w.heap.size,2,none⟩=some vn/\w'.cell? ⟨w.heap.size,3,none⟩=some vs)/\(w'.cell? ⟨w.heap.size+1,0,none⟩=some (.int .u64 k.1)/\w'.cell? ⟨w.heap.size+1,1,none⟩=some (.int .u64 k.2))/\w'.cell? ⟨b,off+j*3,none⟩=some (.int .i64 id)/\w'.cell? ⟨b,off+j*3+1,none⟩=some (.int .i64 a4)/\w'.cell? ⟨b,off+j*3+2,none⟩=some (.slice aa vals.length cc) from fun w' hb =>
    ⟨zaq (zab hb d7 HX.o.bs),zae (zab hb d8 HX.o.bk),(hb.cell (p:=⟨b,off+j*3,none⟩) lb).trans c0,(hb.cell (p:=⟨b,off+j*3+1,none⟩) lb).trans c1,(hb.cell (p:=⟨b,off+j*3+2,none⟩) lb).trans c2⟩)
   have bD:Below WR.heap.size WR WR.drew:=(Below.refl _ _).drew;have zD:WR.drew.heap.size=WR.heap.size:=rfl;clear b3 b1 b0 b7 b6 c0 c1 c2;go_wp2_with fail
   go_cut [14] (fun s14 wx=>∃ (bb:Nat) (c:EV),s14 = .pointer (some ⟨bb,0,none⟩)/\wx.heap[bb]?=some (.cells (zez c).toArray 59 (0,0))/\EncVal wx (fun x=>WR.heap.size<=x) (.agg (zez c).toArray) X/\Below WR.heap.size WR wx)
   case first =>
    refine wp_region_noPanic ?_
    refine zaw (by kernel_rfl) (fun w'=>(w'.cell? ⟨w.heap.size,0,none⟩=some vf/\w'.cell? ⟨w.heap.size,1,none⟩=some vt/\w'.cell? ⟨w.heap.size,2,none⟩=some vn/\w'.cell? ⟨w.heap.size,3,none⟩=some vs)/\(w'.cell? ⟨w.heap.size+1,0,none⟩=some (.int .u64 k.1)/\w'.cell? ⟨w.heap.size+1,1,none⟩=some (.int .u64 k.2))/\w'.cell? ⟨b,off+j*3,none⟩=some (.int .i64 id)/\w'.cell? ⟨b,off+j*3+1,none⟩=some (.int .i64 a4)/\w'.cell? ⟨b,off+j*3+2,none⟩=some (.slice aa vals.length cc)) 12 (HT.o _ bD) (fun hHeld=>?_)
    refine tK 0 ?_;refine tK 1 ?_;refine tK 2 ?_;refine tK 3 ?_;refine tK 4 ?_;refine tK 5 ?_;refine tK 6 ?_;refine zbf (rs:=[7,11]) (by kernel_rfl) (by simp) ?_
    refine AllReadyK.cons rfl (fun K hK=>?_) (AllReadyK.cons rfl (fun K hK=>?_) AllReadyK.nil)
    focus
     go_simp;refine (zi7 zau _ _ _ _ s P _ k ⟨id,a4,vals⟩ _ _ (HX.o.sch.below bD) (HX.o.par.below bD) (d3.o.below bD) d6.o d4.o).mono ?_;rw [d2.o];rintro e w8 ⟨_,rfl,a5,a1⟩;obtain ⟨⟨xi,xv,xa,xn,xc⟩,rfl,hev'⟩:=a5.form;have b8:=bD.trans (a1.mono bD.size)
     refine zbc hK (HT.o _ b8) (fun hHeld=>?_)
     clear hK K;refine tK 8 ?_;refine tK 9 ?_;refine t0 10 ?_
     refine xrK 11 rfl fun K hK=>?_
     go_simp;skip
     refine zbc hK (HT.o _ (b8.alloc b8.size _)) (fun hHeld=>?_)
     clear hK K
     refine zbi (fun W9 hW9=>?_)
     have b9:Below WR.heap.size WR W9:=by rw [hW9];exact b8.alloc b8.size _
     have z9:W9.heap[w8.heap.size]?=some (.cells #[.int .i64 0,.int .i64 0,.slice none 0 0] 59 (0,0)):=by rw [hW9];exact zac rfl
     have k9:∀ x,x<w8.heap.size->W9.heap[x]?=w8.heap[x]?:=fun x hx=>by rw [hW9];exact heap_alloc_old _ _ hx
     have s9:w8.heap.size<=W9.heap.size:=by rw [hW9];simp
     clear hW9 hHeld;have hHeld:=HT.o _ b9;obtain ⟨e0,e1,e2⟩:=zan z9;have l9:=zaa z9;have g0:=frozen_of_row _ _ 0 _ _ z9;have g1:=frozen_of_row _ _ 1 _ _ z9;have g2:=frozen_of_row _ _ 2 _ _ z9
     refine xrK 12 rfl fun K hK=>?_
     go_simp;refine zav hK (by decide) ?_;clear hK K;refine t0 13 ?_;refine zas (by kernel_rfl) ?_ _;refine NoPanic.normal ?_;go_wp2_with fail
     go_meet;exact ⟨_,⟨xi,xv,xa,xn,xc⟩,rfl,zad (i:=2) (v:=.slice xa xn xc) (zad (i:=1) (v:=.int .i64 xv) (zad (i:=0) (v:=.int .i64 xi) z9)),(hev'.move (T:=fun x=>WR.drew.heap.size<=x) (by simpa [World.setCell] using s9) (fun x hx hs=>by rw [heap_setCell_other _ _ _ _ (by show x≠w8.heap.size;omega),heap_setCell_other _ _ _ _ (by show x≠w8.heap.size;omega),heap_setCell_other _ _ _ _ (by show x≠w8.heap.size;omega)];exact ⟨k9 x hx,hs⟩)).weaken (fun x _ hx=>by have a9:WR.drew.heap.size<=x:=hx;omega),((b9.setCell (p:=⟨w8.heap.size,0,none⟩) b8.size _).setCell (p:=⟨w8.heap.size,1,none⟩) b8.size _).setCell (p:=⟨w8.heap.size,2,none⟩) b8.size _⟩
    focus
     go_simp
     refine zbc hK (HT.o _ (bD.alloc bD.size _)) (fun hHeld=>?_)
     clear hK K
     refine zbi (fun W9 hW9=>?_)
     have b9:Below WR.heap.size WR W9:=by rw [hW9];exact bD.alloc bD.size _
     have z9:W9.heap[WR.heap.size]?=some (.cells #[.int .i64 0,.int .i64 0,.slice none 0 0] 59 (0,0)):=by rw [hW9];exact zac rfl
     clear hW9 hHeld;have hHeld:=HT.o _ b9;have l9:=zaa z9
     refine xrK 7 rfl fun K hK=>?_
     go_simp;refine (zi7 zau _ _ _ _ s P _ k ⟨id,a4,vals⟩ _ _ (HX.o.sch.below b9) (HX.o.par.below b9) (d3.o.below b9) d6.o d4.o).mono ?_;rw [d2.o];rintro e w8 ⟨_,rfl,a5,a1⟩;obtain ⟨⟨xi,xv,xa,xn,xc⟩,rfl,hev'⟩:=a5.form;have b8:=b9.trans (a1.mono b9.size);have z8:=zab a1 l9 z9
     refine zbc hK (HT.o _ b8) (fun hHeld=>?_)
     clear hK K;refine tK 8 ?_;refine tK 9 ?_;refine t0 10 ?_;obtain ⟨e0,e1,e2⟩:=zan z8;have l8:=zaa z8;have g0:=frozen_of_row _ _ 0 _ _ z8;have g1:=frozen_of_row _ _ 1 _ _ z8;have g2:=frozen_of_row _ _ 2 _ _ z8
     refine xrK 12 rfl fun K hK=>?_
     go_simp;refine zav hK (by decide) ?_;clear hK K;refine t0 13 ?_;refine zas (by kernel_rfl) ?_ _;refine NoPanic.normal ?_;go_wp2_with fail
     go_meet;exact ⟨_,⟨xi,xv,xa,xn,xc⟩,rfl,zad (i:=2) (v:=.slice xa xn xc) (zad (i:=1) (v:=.int .i64 xv) (zad (i:=0) (v:=.int .i64 xi) z8)),((hev'.weaken (T:=fun x=>WR.heap.size<x) (fun x _ hx=>by have a9:W9.heap.size<=x:=hx;omega)).move (by simp [World.setCell]) (fun x hx hs=>by have hs':WR.heap.size<x:=hs;rw [heap_setCell_other _ _ _ _ (by show x≠WR.heap.size;omega),heap_setCell_other _ _ _ _ (by show x≠WR.heap.size;omega),heap_setCell_other _ _ _ _ (by show x≠WR.heap.size;omega)];exact ⟨rfl,hs⟩)).weaken (fun x _ hx=>by have a9:WR.heap.size<x:=hx;omega),((b8.setCell (p:=⟨WR.heap.size,0,none⟩) xnl _).setCell (p:=⟨WR.heap.size,1,none⟩) xnl _).setCell (p:=⟨WR.heap.size,2,none⟩) xnl _⟩
   case rest =>
    obtain ⟨w8,e3⟩:∃ u,u=wc:=⟨_,rfl⟩;subst e3;obtain ⟨bb,⟨xi,xv,xa,xn,xc⟩,rfl,hbb,a5,a1⟩:=hcut;have B8:=zjy a1;obtain ⟨y0,y1,y2⟩:=zan hbb;have lbb:=zaa hbb;have f6:=zjy a5;have d1:Below w8.heap.size w8 (w8.alloc (.cells (zez ⟨xi,xv,xa,xn,xc⟩).toArray 59)):=(Below.refl _ _).alloc xnl _;have f5:=zjy (HO.o.below (a1.trans (d1.mono a1.size)));have f4:=zjy (show zck (w8.alloc (.cells (zez ⟨xi,xv,xa,xn,xc⟩).toArray 59)) 3 (.slice (some ⟨w8.heap.size,0,none⟩) 1 1) [(⟨xi,xv,xa,xn,xc⟩:EV)].length ([(⟨xi,xv,xa,xn,xc⟩:EV)].flatMap zez) from za0 (xs:=[(⟨xi,xv,xa,xn,xc⟩:EV)].flatMap zez) (fr:=(0,0)) (t:=59) (zac rfl) rfl);have e7:C.length+[(⟨xi,xv,xa,xn,xc⟩:EV)].length<=1000000000:=by rw [d5.o];simp only [List.length_cons,List.length_nil];omega
    clear hbb a5 a1 d1 HT bD zD;go_wp2_with (at_builtin;refine zc8 rfl (.tmp 45) (.tmp 47) 50 rfl 59 (.agg #[.int .i64 0,.int .i64 0,.slice none 0 0]) 3 40 zez (fun _=>rfl) one_encEV underlying50 infoEV rfl (by decide) (by decide) (w0:=w2) (v:=.slice va j vc) (A:=C) (B:=[⟨xi,xv,xa,xn,xc⟩]) rfl f5.o rfl f4.o e7 ?_;intro v5 w5 e4 e6 d9 b5)
    go_roundw
    case rel =>
     refine ⟨j+1,C++[⟨xi,xv,xa,xn,xc⟩],by go_num,by omega,by rw [List.length_append,d5.o];rfl,e4,?_⟩;rw [f2.o]
     exact c5.o.grow (fun g e=>(World.ownsRow.lt HO.o.1 g e).2) HO.o.2.size B8.o f6.o (fun q o h1 h2=>e6 q o h1 (zaf h2)) (Nat.le_trans (by simp) d9) (by
      rcases b5 with h1 | h1 | h1
      ·exact .inl h1
      ·exact .inr (.inl h1)
      ·exact .inr (.inr ⟨_,h1,by simp⟩))
    case measure=>simp [intOf];omega
  ·have hq:decide ((j:Int)<(R.length:Int))=false:=by simp;omega
   obtain rfl:j=R.length:=by omega
   rw [List.take_of_length_le xnl] at c5;go_wp2_with fail
   go_ret2;rw [f0.o];have hz:=c6.o.size;have hv:EncsVec WR (fun x=>w2.heap.size<=x) (.slice va R.length vc) (R.map (zi2 s P k)):=⟨C,OwnV.vec (size:=3) (enc:=zez) (fun _=>rfl) HO.o,c5.o.move xnl fun x _ hx=>⟨rfl,hx.1⟩⟩
   rw [HL.o] at hv;exact ⟨_,rfl,hv.move xnl fun x _ hx=>⟨rfl,by have a9:w2.heap.size<=x:=hx;omega⟩,c6.o.trans (HO.o.2.mono hz)⟩
end
section
open Go.RowKit
structure RRow (w0:World) (v:Value) (C:List GV) (w:World):Prop where
 own:OwnV 107 3 zf5 w0 v C w
 ids:∀ x∈C,w.ownsRow w0.heap.size 3 1 (zfb x) x.mem.length (x.mem.map (Value.int .i64))
 off:∀ x∈C,(zfb x).ownBlock=none\/(zfb x).ownBlock≠v.ownBlock
 apart:C.Pairwise fun x y=>(zfb x).ownBlock=none\/(zfb x).ownBlock≠(zfb y).ownBlock
 wds:∀ x∈C,Vec w (WS w0 v C) 1 zc7 (wdV x) x.ws
theorem RRow.nil {w0 w:World} (hb:Below w0.heap.size w0 w):RRow w0 (.slice none 0 0) [] w:=⟨OwnV.nil hb,fun x h=>by simp at h,fun x h=>by simp at h,List.Pairwise.nil,fun x h=>by simp at h⟩
theorem RRow.below {w0 w w':World} {v:Value} {C:List GV} (h:RRow w0 v C w) (hb:Below w.heap.size w w'):RRow w0 v C w' :=
 ⟨h.own.below hb,fun x hx=>zcf (h.ids x hx) hb,h.off,h.apart,fun x hx=>(h.wds x hx).below hb⟩
theorem RRow.put {w0 w w':World} {v v':Value} {C:List GV} (h:RRow w0 v C w) (x:GV) (hx:zfb x = .slice none 0 0) (hm:x.mem=[]) (hw:Vec w (WS w0 v C) 1 zc7 (wdV x) x.ws) (ho:OwnV 107 3 zf5 w0 v' (C++[x]) w')
  (hk:∀ k o,some k≠v.ownBlock->w.heap[k]?=some o->w'.heap[k]?=some o) (hz:w.heap.size<=w'.heap.size) (hv:v'.ownBlock=none\/v.ownBlock=v'.ownBlock\/v'.ownBlock=some w.heap.size):RRow w0 v' (C++[x]) w':=by
 have a0:∀ y,y∈C++[x]->y=x\/y∈C:=by
  intro y hy
  rcases List.mem_append.1 hy with h1 | h1
  ·exact .inr h1
  ·exact .inl (by simpa using h1)
 have a2:∀ {z:GV},Vec w (WS w0 v C) 1 zc7 (wdV z) z.ws->Vec w' (WS w0 v' (C++[x])) 1 zc7 (wdV z) z.ws:=by
  intro z a1
  refine a1.move hz fun b hb hs=>⟨?_,hs.1,?_,fun y hy=>?_⟩
  ·have e1:w.heap[b]?=some w.heap[b]:=Array.getElem?_eq_getElem hb
   rw [e1];exact hk b _ hs.2.1 e1
  ·rcases hv with h3 | h3 | h3
   ·rw [h3];simp
   ·rw [<- h3];exact hs.2.1
   ·rw [h3];simp;omega
  ·rcases a0 y hy with rfl | h1
   ·rw [hx];simp [Value.ownBlock]
   ·exact hs.2.2 y h1
 refine ⟨ho,fun y hy=>?_,fun y hy=>?_,?_,fun y hy=>?_⟩
 ·rcases a0 y hy with rfl | h1
  ·rw [hx,hm];exact ⟨rfl,.inl ⟨rfl,rfl⟩⟩
  ·exact zdb (h.ids y h1) hk (h.off y h1)
 ·rcases a0 y hy with rfl | h1
  ·rw [hx];exact .inl rfl
  ·rcases h.off y h1 with h2 | h2
   ·exact .inl h2
   ·rcases hv with h3 | h3 | h3
    ·rw [h3]
     by_cases h4:(zfb y).ownBlock=none
     ·exact .inl h4
     ·exact .inr h4
    ·rw [<- h3];exact .inr h2
    ·right
     rw [h3];intro e;have:=((h.ids y h1).lt _ e).2;omega
 ·refine List.pairwise_append.2 ⟨h.apart,by simp,fun y hy z a1=>?_⟩
  obtain rfl:z=x:=by simpa using a1
  rw [hx];by_cases h2:(zfb y).ownBlock=none
  ·exact .inl h2
  ·exact .inr h2
 ·rcases a0 y hy with rfl | h1
  ·exact a2 hw
  ·exact a2 (h.wds y h1)
theorem RRow.add {w0 w w1:World} {v:Value} {C:List GV} (h:RRow w0 v C w) (j:Nat) (hj:j<C.length) (g:Nat) (hg:v.ownBlock=some g) (u:Value) (id:Int) (a:Option Addr) (n c:Nat) (hu:u = .slice a n c)
  (ho:w1.ownsRow w0.heap.size 3 1 u (C[j].mem.length+1) ((C[j].mem++[id]).map (Value.int .i64)))
  (hk:∀ k o,some k≠(zfb C[j]).ownBlock->w.heap[k]?=some o->w1.heap[k]?=some o) (hb:Below w0.heap.size w0 w1) (hv:(zfb C[j]).ownBlock=u.ownBlock\/u.ownBlock=some w.heap.size) (hz:w.heap.size<=w1.heap.size) :
  RRow w0 v (C.set j ⟨C[j].len,C[j].wa,C[j].wn,C[j].wc,a,n,c,C[j].ws,C[j].mem++[id]⟩) (w1.setCell ⟨g,j*3+2,none⟩ u):=by
 subst hu;obtain ⟨B,hB⟩:=xex (w0.heap.size);have b7:=h.own.1.lt g hg;have a4:=h.off C[j] (List.getElem_mem hj)
 have b2:∀ k,(Value.slice a n c).ownBlock=some k->k≠g:=by
  intro k a2 e;subst e
  rcases hv with h1 | h1
  ·rw [<- h1] at a2
   rcases a4 with h2 | h2
   ·rw [h2] at a2;cases a2
   ·rw [a2,hg] at h2;exact h2 rfl
  ·rw [h1] at a2
   have:w.heap.size=k:=by simpa using a2
   omega
 have a3:=zdb h.own.1 hk (by
  by_cases h0:v.ownBlock=none
  ·exact .inl h0
  ·right
   rcases a4 with h2 | h2
   ·rw [h2];exact h0
   ·exact Ne.symm h2)
 have a7:=own_setG (x:=⟨C[j].len,C[j].wa,C[j].wn,C[j].wc,a,n,c,C[j].ws,C[j].mem++[id]⟩) a3 hg j hj ⟨rfl,rfl⟩
 have a8:OwnV 107 3 zf5 w0 v (C.set j ⟨C[j].len,C[j].wa,C[j].wn,C[j].wc,a,n,c,C[j].ws,C[j].mem++[id]⟩) (w1.setCell ⟨g,j*3+2,none⟩ (.slice a n c)):=by
  refine ⟨?_,hb.setCell (p:=⟨g,j*3+2,none⟩) b7.1 _⟩;rw [List.length_set];exact a7
 have a6:∀ {e size m:Nat} {u:Value} {xs:List Value},w1.ownsRow w0.heap.size e size u m xs->(u.ownBlock=none\/u.ownBlock≠some g)->(w1.setCell ⟨g,j*3+2,none⟩ (.slice a n c)).ownsRow w0.heap.size e size u m xs:=by
  intro e size n' u xs h1 h2
  refine zdb (r:=some g) h1 (fun k o a2 hko=>?_) h2
  exact zam hko (fun e=>a2 (by rw [e]))
 have b0:∀ i k (hi:i<C.length) (a9:k<C.length),i≠k->(zfb C[i]).ownBlock=none\/(zfb C[i]).ownBlock≠(zfb C[k]).ownBlock:=by
  intro i k hi a9 hne
  rcases Nat.lt_or_ge i k with h1 | h1
  ·exact List.pairwise_iff_getElem.1 h.apart i k hi a9 h1
  ·rcases List.pairwise_iff_getElem.1 h.apart k i a9 hi (by omega) with h2 | h2
   ·by_cases h3:(zfb C[i]).ownBlock=none
    ·exact .inl h3
    ·exact .inr (by rw [h2];exact h3)
   ·exact .inr (Ne.symm h2)
 have b6:∀ i (hi:i<C.length) b,(zfb C[i]).ownBlock=some b->b<w.heap.size:=fun i hi b e=>((h.ids C[i] (List.getElem_mem hi)).lt b e).2
 have a5:∀ i (hi:i<C.length),i≠j->(Value.slice a n c).ownBlock=none\/(Value.slice a n c).ownBlock≠(zfb C[i]).ownBlock:=by
  intro i hi a0
  rcases hv with h1 | h1
  ·rw [<- h1];exact b0 j i hj hi (Ne.symm a0)
  ·right
   rw [h1];intro e;have:=b6 i hi _ e.symm;omega
 have a1:∀ {x:GV},x∈C.set j ⟨C[j].len,C[j].wa,C[j].wn,C[j].wc,a,n,c,C[j].ws,C[j].mem++[id]⟩->x=⟨C[j].len,C[j].wa,C[j].wn,C[j].wc,a,n,c,C[j].ws,C[j].mem++[id]⟩\/∃ i,∃ hi:i<C.length,i≠j/\x=C[i]:=by
  intro x hx;obtain ⟨i,hi,rfl⟩:=List.mem_iff_getElem.1 hx;by_cases a0:j=i
  ·subst a0;left;rw [List.getElem_set_self]
  ·right
   exact ⟨i,by simpa using hi,Ne.symm a0,by rw [List.getElem_set_ne a0]⟩
 refine ⟨a8,fun x hx=>?_,fun x hx=>?_,?_,?_⟩
 ·rcases a1 hx with rfl | ⟨i,hi,a0,rfl⟩
  ·refine a6 (show w1.ownsRow w0.heap.size 3 1 (.slice a n c) (C[j].mem++[id]).length ((C[j].mem++[id]).map (Value.int .i64)) by rw [List.length_append];exact ho) ?_
   by_cases h0:(Value.slice a n c).ownBlock=none
   ·exact .inl h0
   ·exact .inr fun e=>b2 g e rfl
  ·refine a6 (zdb (h.ids C[i] (List.getElem_mem hi)) hk (b0 i j hi hj a0)) ?_
   rw [<- hg];exact h.off C[i] (List.getElem_mem hi)
 ·rcases a1 hx with rfl | ⟨i,hi,a0,rfl⟩
  ·by_cases h0:(Value.slice a n c).ownBlock=none
   ·exact .inl h0
   ·exact .inr fun e=>b2 g (by rw [<- hg];exact e) rfl
  ·exact h.off C[i] (List.getElem_mem hi)
 ·refine List.pairwise_iff_getElem.2 fun p q hp hq hpq=>?_
  have b4:p<C.length:=by simpa using hp
  have b3:q<C.length:=by simpa using hq
  by_cases e1:j=p
  ·subst e1
   rw [List.getElem_set_self,List.getElem_set_ne (by omega)];exact a5 q b3 (by omega)
  ·by_cases e2:j=q
   ·subst e2
    rw [List.getElem_set_ne e1,List.getElem_set_self]
    rcases a5 p b4 (by omega) with h1 | h1
    ·by_cases h2:(zfb C[p]).ownBlock=none
     ·exact .inl h2
     ·exact .inr (by rw [show (zfb ⟨C[j].len,C[j].wa,C[j].wn,C[j].wc,a,n,c,C[j].ws,C[j].mem++[id]⟩).ownBlock=none from h1];exact h2)
    ·exact .inr (Ne.symm h1)
   ·rw [List.getElem_set_ne e1,List.getElem_set_ne e2]
    exact b0 p q b4 b3 (by omega)
 ·have b1:∀ {z:GV},Vec w (WS w0 v C) 1 zc7 (wdV z) z.ws->Vec (w1.setCell ⟨g,j*3+2,none⟩ (.slice a n c)) (WS w0 v (C.set j ⟨C[j].len,C[j].wa,C[j].wn,C[j].wc,a,n,c,C[j].ws,C[j].mem++[id]⟩)) 1 zc7 (wdV z) z.ws:=by
   intro z b5
   refine b5.move (by simpa [World.setCell] using hz) fun b hb hs=>⟨?_,hs.1,hs.2.1,fun y hy=>?_⟩
   ·have e1:w.heap[b]?=some w.heap[b]:=Array.getElem?_eq_getElem hb
    rw [e1];refine zam (hk b _ (hs.2.2 _ (List.getElem_mem hj)) e1) ?_;intro e;have e2:b=g:=e;exact hs.2.1 (by rw [hg,e2])
   ·rcases a1 hy with rfl | ⟨i,hi,a0,rfl⟩
    ·rcases hv with h1 | h1
     ·show some b≠(Value.slice a n c).ownBlock
      rw [<- h1];exact hs.2.2 _ (List.getElem_mem hj)
     ·show some b≠(Value.slice a n c).ownBlock
      rw [h1];simp;omega
    ·exact hs.2.2 _ (List.getElem_mem hi)
  intro x hx
  rcases a1 hx with rfl | ⟨i,hi,a0,rfl⟩
  ·exact b1 (h.wds C[j] (List.getElem_mem hj))
  ·exact b1 (h.wds _ (List.getElem_mem hi))
end
section
open Go.RowKit
theorem grp_only {C:List GV} {n:Nat} {x:BitsL} (h:GOk (C.map pG) n) {t:Nat} (ht:t<C.length) (he:zfd x (pG C[t])=true):∀ y∈C.take t,zfd x (pG y)=false:=by
 intro y hy;obtain ⟨u,hu,rfl⟩:=List.mem_iff_getElem.1 hy;rw [List.length_take] at hu;rw [List.getElem_take];cases hc:zfd x (pG C[u])
 ·rfl
 ·exfalso
  unfold zfd at he hc;have e1:=cmpB_eq (of_decide_eq_true he);have e2:=cmpB_eq (of_decide_eq_true hc);have hd:=List.pairwise_iff_getElem.1 h.dist u t (by rw [List.length_map];omega) (by rw [List.length_map];omega) (by omega);rw [List.getElem_map,List.getElem_map] at hd;exact hd (by rw [e1,e2])
theorem rgroups_any (S:Nat->Prop) (v:Value) (L:List BitsL) (w:World) (h:BitsVec w S v L) (hi:∀ b∈L,InI b.len) (hn:L.length<=100000) :
  Calls prog 19 #[v] w (GroupsPost (zd0 L) w):=by
 obtain ⟨a,cap,rfl⟩:=h.slice;have HV:=zjy h;have HI:=zjy hi;obtain ⟨G,hG⟩:=xex (zd0 L);rw [hG];have HG:=zjy hG;obtain ⟨n,h7⟩:=xex (L.length);have HN:=zjy h7;rw [h7] at HV hn ⊢;clear h hi hG h7;go_enter func19,ntmps19
 go_wp2_with fail
 go_loopw [3,4,5,6] (fun v t _ _ wr=>∃ (j:Nat) (C:List GV),t = .int .i64 j/\j<=n/\C.length<=j/\RRow w v C wr/\Hid (GOk (C.map pG) j)/\Hid (zfk (C.map pG) j (L.drop j)=G)) (fun _ t _ _ _=>n - (intOf t).toNat)
 case atStart=>exact ⟨0,[],rfl,by omega,by simp,RRow.nil (Below.refl _ _),zjy (GOk.nil 0),HG⟩
 case round =>
  obtain ⟨j,C,rfl,hj,n1,e7,f4,HT⟩:=hrel;obtain ⟨WR,m9⟩:∃ u,u=wr:=⟨_,rfl⟩;subst m9;have a5:=zjy e7;clear e7;have g2:=a5.o.own.2;obtain ⟨nC,g1⟩:=xex (C.length);obtain ⟨av,cv,ev⟩:=zar a5.o.own.1;rw [g1] at ev n1;subst ev;have b7:=zjy g1;by_cases hlt:j<n
  ·have hq:decide ((j:Int)<(n:Int))=true:=by simp;omega
   have hji:(j:Int)<(n:Int):=by omega
   have c7:j<L.length:=by rw [HN.o];exact hlt
   obtain ⟨b,off,⟨xl,xa,xn,xc⟩,e,lb,c0,c1,hat⟩:=(HV.o.below g2).at j c7;cases e;dsimp only at c0 c1;rw [zbb _ _ c7] at hat;have e9:=HI.o _ (List.getElem_mem c7);have hT:=HT.o;rw [List.drop_eq_getElem_cons c7] at hT;obtain ⟨x,hx⟩:=xex (L[j]);rw [hx] at hat e9 hT;have l6:zfk (if zap x=true then addG (C.map pG) j x else C.map pG) (j+1) (L.drop (j+1))=G:=hT;have d0:=zjy l6;have o7:=zjy hat;have HIn:=zjy e9;have m1:=zjy g2;obtain ⟨vx,e5⟩:=xex (zap x);have g7:=zed S _ x WR hat e9.1 e9.2;rw [e5] at d0 g7;have l8:=zjy e5;have n7:=zjy g7;clear hT l6 hat e9 hx HT g2 e5 g7 g1;go_wp2_with fail
   refine n7.o.mono ?_;rintro e w2 ⟨rfl,c9⟩;have m3:=zjy c9;have c3:=zjy (a5.o.below c9);have j4:=zjy (o7.o.below c9);have k0:=(c9.cell (p:=⟨b,off+j*2,none⟩) lb).trans c0;have k1:=(c9.cell (p:=⟨b,off+j*2+1,none⟩) lb).trans c1;have g3:b<w2.heap.size:=Nat.lt_of_lt_of_le lb c9.size;clear c9 c0 c1 lb;cases vx
   ·have i7:=zjy (show zfk (C.map pG) (j+1) (L.drop (j+1))=G by have:=d0.o;simpa using this)
    clear d0;go_wp2_with fail
    go_roundw
    case rel=>exact ⟨j+1,C,by go_num,by omega,by rw [b7.o];omega,c3.o,zjy f4.o.skip,i7⟩
    case measure=>simp [intOf];omega
   ·have i7:=zjy (show zfk (addG (C.map pG) j x) (j+1) (L.drop (j+1))=G by have:=d0.o;simpa using this)
    have hx8:x.words.length<=8:=(zcw l8.o).2;clear d0;go_wp2_with fail
    go_loopw [5,6] (fun s5 s6 wr=>∃ (k:Nat) (b6:Int),s6 = .int .i64 k/\k<=nC/\s5 = .int .i64 b6/\Below w2.heap.size w2 wr/\-1<=b6/\b6<k/\Hid ((b6 = -1/\∀ y∈C.take k,zfd x (pG y)=false)\/∃ t,∃ ht:t<C.length,b6=(t:Int)/\zfd x (pG C[t])=true)) (fun _ s6 _=>nC - (intOf s6).toNat)
    case atStart=>exact ⟨0,-1,rfl,by omega,rfl,Below.refl _ _,by omega,by omega,zjy (.inl ⟨rfl,by simp⟩)⟩
    case round =>
     obtain ⟨k,b6,rfl,hk,rfl,b9,hm1,hak,d3⟩:=hrel;obtain ⟨WK,n0⟩:∃ u,u=wr:=⟨_,rfl⟩;subst n0;have m2:=zjy b9;have j8:=(b9.cell (p:=⟨b,off+j*2,none⟩) g3).trans k0;have j7:=(b9.cell (p:=⟨b,off+j*2+1,none⟩) g3).trans k1;have lbk:b<WK.heap.size:=Nat.lt_of_lt_of_le g3 b9.size;have d2:=zjy (j4.o.below b9);have a1:=zjy (c3.o.below b9);by_cases hlk:k<nC
     ·have m6:decide ((k:Int)<(nC:Int))=true:=by simp;omega
      have hki:(k:Int)<(nC:Int):=by omega
      have d4:k<C.length:=by rw [b7.o];exact hlk
      have e6:=OwnV.vec (size:=3) (enc:=zf5) (fun _=>rfl) a1.o.own
      have g6:=(a1.o.wds _ (List.getElem_mem d4)).any;have c5:=f4.o.val (pG C[k]) (List.mem_map_of_mem (List.getElem_mem d4));have g8:C.take (k+1)=C.take k++[C[k]]:=List.take_succ_eq_append_getElem d4;obtain ⟨g0,o0,e,lg0,hc⟩:=e6.get k d4;have c0:=hc 0 _ rfl;have c1:=hc 1 _ rfl;rw [Nat.add_zero] at c0;obtain ⟨y,hy⟩:=xex (C[k]);have k9:∀ t,(ht:t<C.length)->t=k->zfd x (pG C[t])=zfd x (pG y):=fun t ht e=>by subst e;rw [hy]
      rw [hy] at c0 c1 g6 c5 g8;have o6:=zjy k9;have n9:=zjy g8;obtain ⟨yl,ya,yn,yc,ma,mn,mc,yw,ym⟩:=y;dsimp only at c0 c1;cases e;have hyw:yw.length<=8:=(zcw c5).2;have f1:BitsAt WK zau (.agg #[.int .i64 yl,.slice ya yn yc]) ⟨yl,yw⟩:=⟨_,rfl,g6⟩;have i2:=zjy f1;have c8:zfd x (pG ⟨yl,ya,yn,yc,ma,mn,mc,yw,ym⟩)=decide (cmpB (⟨yl,yw⟩:BitsL) x=0):=rfl;obtain ⟨cr,h8⟩:=xex (cmpB (⟨yl,yw⟩:BitsL) x);have cP:=zh3 WK (fun W' hb=>by have h:=rcmpB_any zau S _ _ ⟨yl,yw⟩ x W' (i2.o.below hb) (d2.o.below hb) (by dsimp only;omega);rw [h8] at h;exact h)
      rw [h8] at c8;have f7:=zjy c8;have s0:=cell_regrown c0;have s1:=cell_regrown c1;have s2:=cell_regrown j8;have s3:=cell_regrown j7;clear e6 hc hy k9 g8 g6 c5 f1 c8 h8 b9;go_wp2_with fail
      refine wp_region_quiet_below (by kernel_rfl) (by kernel_rfl) ?_;repeat (go_big_quiet_step (with_reducible exact cP _ _))
      refine wpQuiet_nil ?_;intro w4 j9
      have l2:Below WK.heap.size WK w4:=by
       obtain ⟨⟨dq,m4⟩,hw''⟩:=j9;rw [hw''];exact below_regrown WK dq m4
      have d6:=xhh m2 l2;clear j9 cP s0 s1 s2 s3 l2 c0 c1;by_cases hc0:cr=0
      ·have dc:(cr == 0)=true:=by simpa using hc0
       have e3:zfd x (pG ⟨yl,ya,yn,yc,ma,mn,mc,yw,ym⟩)=true:=by rw [f7.o];simpa using hc0
       have i6:=zjy e3;clear hc0 e3;go_wp2_with fail
       go_roundw
       case rel=>exact ⟨k+1,k,by go_num,by omega,rfl,d6.o,by omega,by omega,zjy (.inr ⟨k,d4,rfl,by rw [o6.o k d4 rfl];exact i6.o⟩)⟩
       case measure=>simp [intOf];omega
      ·have dc:(cr == 0)=false:=by simpa using hc0
       have k6:zfd x (pG ⟨yl,ya,yn,yc,ma,mn,mc,yw,ym⟩)=false:=by rw [f7.o];simpa using hc0
       have o5:=zjy k6;clear hc0 k6;go_wp2_with fail
       go_roundw
       case rel =>
        refine ⟨k+1,b6,by go_num,by omega,rfl,d6.o,by omega,by omega,?_⟩
        rcases d3.o with ⟨h1,h2⟩ | h1
        ·refine zjy (.inl ⟨h1,fun y hy=>?_⟩)
         rw [n9.o] at hy
         rcases List.mem_append.1 hy with h3 | h3
         ·exact h2 y h3
         ·rw [List.mem_singleton.1 h3];exact o5.o
        ·exact zjy (.inr h1)
       case measure=>simp [intOf];omega
     ·have m6:decide ((k:Int)<(nC:Int))=false:=by simp;omega
      have k3:(b6 = -1/\∀ y∈C,zfd x (pG y)=false)\/∃ t,∃ ht:t<C.length,b6=(t:Int)/\zfd x (pG C[t])=true:=by
       rcases d3.o with ⟨h1,h2⟩ | h1
       ·rw [List.take_of_length_le (by rw [b7.o];omega)] at h2
        exact .inl ⟨h1,h2⟩
       ·exact .inr h1
      have o1:=zjy k3;have HBW:=zjy (m1.o.trans ((m3.o.trans (m2.o.mono m3.o.size)).mono m1.o.size));clear k3 d3 b9;go_upto_if 38 with (fail)
      go_cut [3,5] (fun s3 s5 wx=>∃ (C':List GV) (t:Nat) (ht:t<C'.length),s5 = .int .i64 t/\RRow w s3 C' wx/\C'.length<=j+1/\Hid (∀ y∈C',y.mem.length<=j)/\Hid (∀ a n c,(C'.set t ⟨C'[t].len,C'[t].wa,C'[t].wn,C'[t].wc,a,n,c,C'[t].ws,C'[t].mem++[(j:Int)]⟩).map pG=addG (C.map pG) j x))
      case first =>
       have k7:∀ y∈C,y.mem.length<=j:=fun y hy=>f4.o.mems (pG y) (List.mem_map_of_mem hy)
       have m0:=zjy k7;clear k7
       rcases o1.o with ⟨rfl,hall⟩ | ⟨t,ht,rfl,h1⟩
       ·have j5:=zjy hall
        have a7:=rcopy9_any S (.agg #[.int .i64 xl,.slice xa xn xc]) x WK d2.o (by omega);obtain ⟨sx,es,e5⟩:=d2.o;have n2:xl=x.len/\sx = .slice xa xn xc:=by simpa [eq_comm] using es
        obtain ⟨g4,rfl⟩:=n2;have n5:=zjy g4;rw [<- g4] at a7;have f8:=zjy a7;obtain ⟨i0,f0,d9,d8,d7⟩:=info_parts infoAg;have j1:=zjy f0;have i5:=zjy d9;have i4:=zjy d8;have i3:=zjy d7;clear f0 d9 d8 d7 hall a7 g4 es e5;go_wp2_with fail
        refine f8.o.mono ?_;rintro e w4 ⟨v',rfl,f9⟩;obtain ⟨ua,uc,e4⟩:=zar f9.1;obtain ⟨un,k2⟩:=xex (x.words.length);have b8:=OwnV.vec (size:=1) (enc:=zc7) (fun _=>rfl) f9
        rw [k2] at e4;subst e4;have n8:=zjy b8;have d6:=zjy f9.2;have bA:=d6.o.trans ((Below.refl w4.heap.size w4).alloc xnl (.cells #[.int .i64 xl,.slice ua un uc,.slice none 0 0] 107) |>.mono d6.o.size);have d5:=zjy bA;have l7:(w4.alloc (.cells #[.int .i64 xl,.slice ua un uc,.slice none 0 0] 107)).heap[w4.heap.size]?=some (.cells #[.int .i64 xl,.slice ua un uc,.slice none 0 0] 107 (0,0)):=zac rfl
        have a3:∀ i u,(zf5 (⟨xl,ua,un,uc,none,0,0,x.words,[]⟩:GV))[i]?=some u->(w4.alloc (.cells #[.int .i64 xl,.slice ua un uc,.slice none 0 0] 107)).cell? ((⟨w4.heap.size,0,none⟩:Addr).add i)=some u:=fun i u hu=>by
         rw [zbu,cell_of_row _ _ _ _ _ _ l7,Nat.zero_add];simpa using hu
        have b2:=zjy a3;have a9:=zjy (a1.o.below d5.o);have a6:=a9.o.own.1;rw [b7.o] at a6;have f3:=zjy a6;have m5:w.heap.size<=WK.heap.size:=a1.o.own.2.size;have hz4:WK.heap.size<=w4.heap.size:=d6.o.size;have l3:=zjy (show ∀ k,(Value.slice av nC cv).ownBlock=some k->w.heap.size<=k/\k<WK.heap.size from fun k hk=>a1.o.own.1.lt k hk)
        have hnj:nC<=j:=by omega
        clear l7 a3 a6 bA f9 k2 b8;go_wp2_with (at_builtin;refine wpList_append_lies _ rfl (.tmp 39) (.tmp 46) 64 (by rfl) w.heap.size 107 i0 (.agg #[.int .i64 0,.slice none 0 0,.slice none 0 0]) 3 56 underlying64 j1.o i5.o i4.o i3.o rfl (by decide) (.slice av nC cv) nC (C.flatMap zf5) (by rfl) f3.o ⟨w4.heap.size,0,none⟩ 1 1 (zf5 ⟨xl,ua,un,uc,none,0,0,x.words,[]⟩) (by rfl) rfl b2.o (one_encG _) (by omega) (by unfold maxLen;omega) (by omega) (by simp;omega) (w4.heap.size+1) (by simp) ?_;intro g5 c2 w5 a2 b5 a8 h6;have i9:=zjy a2;have j2:=zjy b5;have j3:=zjy a8;have h5:IntKind.i64.wrap (((nC+1:Nat):Int) - 1)=(nC:Int):=(by rw [IntKind.wrap_i64];omega);clear a2 b5 a8)
        go_meet;obtain ⟨N,hN⟩:∃ N,N=(⟨xl,ua,un,uc,none,0,0,x.words,[]⟩:GV):=⟨_,rfl⟩;have k8:nC<(C++[N]).length:=by simp;have:=b7.o;omega
        have l5:Below w.heap.size w (w4.alloc (.cells #[.int .i64 xl,.slice ua un uc,.slice none 0 0] 107)):=a9.o.own.2
        have b3:OwnV 107 3 zf5 w (.slice (some ⟨g5,0,none⟩) (nC+1) c2) (C++[N]) w5:=by
         refine ⟨?_,l5.grown j2.o l5.size (fun q hq=>(l3.o q hq).1)⟩
         rw [List.length_append,b7.o,List.flatMap_append,hN];simpa using i9.o
        have g9:=a9.o.put (w':=w5) (v':=.slice (some ⟨g5,0,none⟩) (nC+1) c2) N (by rw [hN]) (by rw [hN]) (by
         rw [hN]
         refine (n8.o.below ((Below.refl w4.heap.size w4).alloc xnl _)).move xnl fun b hb hs=>⟨rfl,?_,?_,fun y hy=>?_⟩
         ·exact Nat.le_trans m5 hs
         ·intro e;have h1:=(l3.o b e.symm).2;have h2:WK.heap.size<=b:=hs;omega
         ·intro e;have h1:=((a1.o.ids y hy).lt b e.symm).2;have h2:WK.heap.size<=b:=hs;omega) b3 (fun k o hk hko=>(j2.o.block k (zaa hko) hk).trans hko) j2.o.size (by
         rcases j3.o with h1 | h1
         ·exact .inr (.inl h1)
         ·exact .inr (.inr (by rw [h1];simp [Value.ownBlock])))
        refine ⟨C++[N],nC,k8,by first | rfl | simp [h5],g9,by simp;have:=b7.o;omega,zjy fun y hy=>?_,zjy fun a n c=>?_⟩
        ·rcases List.mem_append.1 hy with h1 | h1
         ·exact m0.o y h1
         ·have:y=N:=by simpa using h1
          rw [this,hN];simp
        ·have e1:=b7.o
         have e2:=n5.o;subst e1;rw [e2] at hN;subst hN;exact gput_new C x j ua un uc j5.o a n c k8
       ·have H1:=zjy h1
        have H2:=zjy (grp_only f4.o ht h1);have dt:decide ((t:Int)<0)=false:=by simp
        clear h1;go_wp2_with fail
        go_meet;exact ⟨C,t,ht,rfl,a1.o,by rw [b7.o];omega,m0,zjy fun a n c=>gput_at C x j t ht H1.o H2.o a n c⟩
      case rest =>
       obtain ⟨C',a4,ht,rfl,a0,m7,f6,f2⟩:=hcut;have c4:=zjy a0
       rcases a0.own.1.2 with ⟨_,h0⟩ | ⟨g,cap5,cur,rfl,hg,hgc,h5,hn2,hn3,hn4⟩
       ·have:C'.length=0:=h0
        omega
       obtain ⟨y,hy⟩:=xex (C'[a4]);have b4:=a0.ids _ (List.getElem_mem ht)
       have h9:wc.cell? ⟨g,a4*3+2,none⟩=some (zfb C'[a4]):=by
        obtain ⟨b0,o0,e0,_,hc⟩:=(OwnV.vec (size:=3) (enc:=zf5) (fun _=>rfl) a0.own).get a4 ht
        cases e0;have:=hc 2 _ rfl;rwa [Nat.zero_add] at this
       rw [hy] at b4 h9;obtain ⟨yl,ya,yn,yc,ma,mn,mc,yw,ym⟩:=y;dsimp only [zfb] at b4 h9;have m8:=(frozen_of_row _ _ _ _ _ hgc:wc.frozen? ⟨g,a4*3+2,none⟩=false);have j6:=zaa hgc;have b1:=f2.o;rw [hy] at b1;have o3:=zjy b1;have d1:=zjy b4;have HY:=zjy hy;obtain ⟨nP,h4⟩:=xex (C'.length);have o4:=zjy h4;have htn:(a4:Int)<(nP:Int):=by omega
       obtain ⟨i0,f0,d9,d8,d7⟩:=info_parts infoZ;have j1:=zjy f0;have i5:=zjy d9;have i4:=zjy d8;have i3:=zjy d7;have c6:=a0.off _ (List.getElem_mem ht);rw [hy] at c6;have i1:=a0.own.2;have n6:=zjy i1;have l4:=i1.size
       have f5:=zjy (show some g≠(Value.slice ma mn mc).ownBlock from by
        rcases c6 with h1 | h1
        ·rw [show (Value.slice ma mn mc).ownBlock=none from h1];simp
        ·exact fun e=>h1 (by rw [show (zfb ⟨yl,ya,yn,yc,ma,mn,mc,yw,ym⟩).ownBlock=some g from e.symm];rfl))
       have hyl:ym.length<=j:=by have:=f6.o _ (List.getElem_mem ht);rw [HY.o] at this;exact this
       have bA:=(Below.refl wc.heap.size wc).alloc xnl (.cells #[.int .i64 j] 3);have b3:=zfu d1.o bA
       have a3:∀ i u,[Value.int .i64 j][i]?=some u->(wc.alloc (.cells #[.int .i64 j] 3)).cell? ((⟨wc.heap.size,0,none⟩:Addr).add i)=some u:=fun i u hu=>by
        have hX:(wc.alloc (.cells #[.int .i64 j] 3)).heap[wc.heap.size]?=some (.cells #[.int .i64 j] 3 (0,0)):=zac rfl;rw [zbu,cell_of_row _ _ _ _ _ _ hX,Nat.zero_add];simpa using hu
       have e8:∀ u∈[Value.int .i64 j],u.oneCell'=true:=by intro u hu;simp at hu;subst hu;rfl
       have l1:=(bA.cell (p:=⟨g,a4*3+2,none⟩) j6).trans h9;have l0:=(bA.frozen (p:=⟨g,a4*3+2,none⟩) j6).trans m8;have d5:=zjy bA;have i8:=zjy b3;have b2:=zjy a3;have j0:=zjy e8;have n4:=zjy l1;have n3:=zjy l0;clear hgc h5 hn2 hn3 hn4 a0 f2 b1 b4 hy f0 d9 d8 d7 c6 i1 bA b3 a3 e8 l1 l0 j8 j7 k0 k1;rw [h4] at m7 c4 ⊢;clear h4
       go_wp2_with (at_builtin;refine wpList_append_lies _ rfl (.tmp 57) (.tmp 59) 22 rfl w.heap.size 3 i0 (.int .i64 0) 1 8 underlying22 j1.o i5.o i4.o i3.o rfl (by decide) (.slice ma mn mc) ym.length (ym.map (Value.int .i64)) (by first | rfl | exact (zar d1.o).elim fun _ h=>h.elim fun _ h=>h) i8.o ⟨wc.heap.size,0,none⟩ 1 1 [.int .i64 j] rfl rfl b2.o j0.o (by omega) (by unfold maxLen;omega) (by omega) (by simp;omega) (wc.heap.size+1) (by simp) ?_;intro g5 c2 w5 a2 b5 a8 h6;have cY5:w5.cell? ⟨g,a4*3+2,none⟩=some (.slice ma mn mc):=(b5.cell_far ⟨g,a4*3+2,none⟩ (by simp;omega) f5.o).trans n4.o;have fY5:w5.frozen? ⟨g,a4*3+2,none⟩=false:=(b5.frozen_far ⟨g,a4*3+2,none⟩ (by simp;omega) f5.o).trans n3.o;have o2:=zjy (show RRow w (.slice (some ⟨g,0,none⟩) nP cap5) (C'.set a4 ⟨yl,ya,yn,yc,some ⟨g5,0,none⟩,ym.length+1,c2,yw,ym++[(j:Int)]⟩) (w5.setCell ⟨g,a4*3+2,none⟩ (.slice (some ⟨g5,0,none⟩) (ym.length+1) c2)) from by
        have k4:=(c4.o.below d5.o).add a4 ht g rfl (.slice (some ⟨g5,0,none⟩) (ym.length+1) c2) (j:Int) _ _ _ rfl (w1:=w5) (by rw [HY.o,List.map_append];exact a2) (by rw [HY.o];exact fun k o hk hko=>(b5.block k (zaa hko) hk).trans hko) ((n6.o.trans (d5.o.mono l4)).grown b5 (Nat.le_trans l4 d5.o.size) (fun q hq=>((zcf d1.o d5.o).lt q hq).1)) (by rw [HY.o];exact a8.elim Or.inl fun h1=>Or.inr (by rw [h1];simp [Value.ownBlock])) b5.size
        rw [HY.o] at k4
        exact k4);          clear a2 b5 a8)
       have k5:=o3.o (some ⟨g5,0,none⟩) (ym.length+1) c2;have l9:=zjy k5;clear k5;go_roundw
       case rel =>
        refine ⟨j+1,C'.set a4 ⟨yl,ya,yn,yc,some ⟨g5,0,none⟩,ym.length+1,c2,yw,ym++[(j:Int)]⟩,by go_num,by omega,by rw [List.length_set,o4.o];omega,o2.o,?_,?_⟩
        ·exact zjy (by rw [l9.o];exact f4.o.add l8.o)
        ·exact zjy (by rw [l9.o];exact i7.o)
       case measure=>simp [intOf];omega
  ·have hq:decide ((j:Int)<(n:Int))=false:=by simp;omega
   have c7:j=L.length:=by rw [HN.o];omega
   have hT:=HT.o;rw [c7,List.drop_length] at hT;have d0:=zjy (show C.map pG=G from hT);clear hT HT c7 g2 g1;go_wp2_with fail
   go_ret
   refine ⟨_,rfl,⟨C,?_,d0.o,fun y hy=>⟨?_,?_⟩⟩,a5.o.own.2⟩
   ·exact OwnV.vec (size:=3) (enc:=zf5) (fun _=>rfl) a5.o.own
   ·exact (a5.o.wds y hy).move xnl fun b _ hs=>⟨rfl,hs.1⟩
   ·exact Vec.owns (k:=1) (enc:=zif) (S:=fun b=>w.heap.size<=b) (fun _=>rfl) (by rw [show y.mem.flatMap zif=y.mem.map (Value.int .i64) from encIn_flat _];exact a5.o.ids y hy) (fun b hb _=>hb)
end
section
open Go.RowKit
theorem rrank_any (S:Nat->Prop) (v:Value) (L:List Int) (i:Nat) (w:World) (h:Vec w S 1 zif v L) (hi:i<L.length) (hn:L.length<=1000000) :
  Calls prog 48 #[v,.int .i64 i] w fun e w'=>e = .returned (.tuple #[.int .i64 (zbt L L[i]).1,.bool (zbt L L[i]).2])/\Below w.heap.size w w':=by
 obtain ⟨a,cap,rfl⟩:=h.slice;have HV:=zjy h;clear h;have a0:=lone_all hi;have a8:L.getD i 0=L[i]:=zbb _ _ hi;have a7:=zjy a8;obtain ⟨x,hx⟩:=xex (L[i]);rw [hx] at a0 a7 ⊢;obtain ⟨b,off,rfl,hb,hc⟩:=HV.o.get i hi;have ci:=hc 0 _ rfl;rw [Nat.mul_one,Nat.add_zero,hx] at ci;obtain ⟨⟨r,u⟩,hr⟩:∃ p,zbt L x=p:=⟨_,rfl⟩;rw [hr] at a0 ⊢;have HR:=zjy hr;have HL:=zjy a0;obtain ⟨n,a5⟩:=xex (L.length);have HN:=zjy a5;rw [a5] at hi hn HV HL ⊢;have hii:(i:Int)<(n:Int):=by omega
 clear hc hr hx a5 a0 a8;go_enter func48,ntmps48
 go_wp2_with fail
 go_loopw [6,7,8] (fun g q j wr=>Below w.heap.size w wr/\∃ k:Nat,j = .int .i64 k/\k<=n/\∃ g':Nat,g = .int .i64 g'/\g'<=k/\Hid ((L.take k).countP (fun y=>decide (x<y))=g')/\∃ bq:Bool,q = .bool bq/\Hid (lone L i k=bq)) (fun _ _ j _=>n - (intOf j).toNat)
 case atStart=>exact ⟨Below.refl _ _,0,rfl,by omega,0,rfl,by omega,zjy (by simp),true,rfl,zjy (by simp [lone])⟩
 case round =>
  obtain ⟨a4,k,rfl,hk,g,rfl,hg,HG,bq,rfl,HQ⟩:=hrel;have HB:=zjy a4;by_cases hlt:k<n
  ·have hq:decide ((k:Int)<n)=true:=by simp;omega
   have a1:k<L.length:=by rw [HN.o];exact hlt
   obtain ⟨b',a9,e,_,hc⟩:=(HV.o.below a4).get k a1;cases e;have c0:=hc 0 _ rfl;have ci2:=(a4.cell (p:=⟨b,off+i,none⟩) hb).trans ci;rw [Nat.mul_one,Nat.add_zero] at c0;have m3:=lone_next L i k;rw [a7.o,zbb _ _ a1,HQ.o] at m3;obtain ⟨y,hy⟩:=xex (L[k]);have m1:=zf1 (fun y=>decide (x<y)) L k a1
   rw [hy] at c0 m1 m3;rw [HG.o] at m1;have hki:(k:Int)<(n:Int):=by omega
   have a6:k=i->y=x:=fun e=>by subst e;rw [<- hy,<- a7.o,zbb _ _ a1]
   clear hc hy HG HQ a4;obtain ⟨g2,hg2,M1⟩:∃ g2:Nat,g2<=k+1/\Hid ((L.take (k+1)).countP (fun y=>decide (x<y))=g2):=⟨_,by rw [m1];split <;> omega,zjy rfl⟩
   obtain ⟨b2,M3⟩:∃ b2,Hid (lone L i (k+1)=b2):=⟨_,zjy rfl⟩;rw [M1.o] at m1;rw [M3.o] at m3;by_cases hxy:x<y
   ·have d1:decide (x<y)=true:=by simp;omega
    rw [d1] at m1;have a3:g2=g+1:=m1;by_cases hki2:k=i
    ·exfalso;have:=a6 hki2;omega
    ·have d2:((k:Int) != (i:Int))=true:=by simp;omega
     have d3:(y == x)=false:=by simp;omega
     have a2:b2=bq:=by rw [m3];simp [hki2];omega
     clear m1 m3 d1;subst a3;subst a2;go_wp2_with fail
     go_quiet (fail)
     go_wp2_with fail
     go_quiet (fail)
     go_wp2_with fail
     go_roundw
     case rel=>exact ⟨below_drewN HB.o _,k+1,by go_num,by omega,g+1,by go_num,by omega,M1,b2,rfl,M3⟩
     case measure=>simp [intOf];omega
   ·have d1:decide (x<y)=false:=by simp;omega
    rw [d1] at m1;have a3:g2=g:=m1;by_cases hki2:k=i
    ·have d2:((k:Int) != (i:Int))=false:=by simp;omega
     have a2:b2=bq:=by rw [m3];simp [hki2]
     clear m1 m3;subst a3;subst a2;go_wp2_with fail
     go_quiet (fail)
     go_wp2_with fail
     go_quiet (fail)
     go_wp2_with fail
     go_roundw
     case rel=>exact ⟨below_drewN HB.o _,k+1,by go_num,by omega,g2,rfl,by omega,M1,b2,rfl,M3⟩
     case measure=>simp [intOf];omega
    ·have d2:((k:Int) != (i:Int))=true:=by simp;omega
     by_cases hyx:y=x
     ·have d3:(y == x)=true:=by simp;omega
      have a2:b2=false:=by rw [m3];simp [hki2,hyx]
      clear m1 m3;subst a3;subst a2;subst hyx;go_wp2_with fail
      go_quiet (fail)
      go_wp2_with fail
      go_quiet (fail)
      go_wp2_with fail
      go_roundw
      case rel=>exact ⟨below_drewN HB.o _,k+1,by go_num,by omega,g2,rfl,by omega,M1,false,rfl,M3⟩
      case measure=>simp [intOf];omega
     ·have d3:(y == x)=false:=by simp;omega
      have a2:b2=bq:=by rw [m3];simp [hki2,hyx]
      clear m1 m3;subst a3;subst a2;go_wp2_with fail
      go_quiet (fail)
      go_wp2_with fail
      go_quiet (fail)
      go_wp2_with fail
      go_roundw
      case rel=>exact ⟨below_drewN HB.o _,k+1,by go_num,by omega,g2,rfl,by omega,M1,b2,rfl,M3⟩
      case measure=>simp [intOf];omega
  ·have hq:decide ((k:Int)<n)=false:=by simp;omega
   obtain rfl:k=n:=by omega
   have e1:=HG.o;rw [List.take_of_length_le (by rw [HN.o];omega)] at e1;have hr:=HR.o;unfold zbt at hr;rw [e1] at hr;have b1:(g:Int)=r:=congrArg Prod.fst hr;have b0:bq=u:=by rw [<- HQ.o,HL.o]
   clear e1 hr HG HQ a4;go_wp2_with fail
   go_ret2;subst b1;subst b0;exact ⟨rfl,HB.o⟩
end
section
open Go.RowKit
theorem rsizes_any (S:Nat->Prop) (v:Value) (G:List GrpL) (w:World) (h:GroupsAt w S v G) (hn:G.length<=1000000) :
  Calls prog 49 #[v] w fun e w'=>∃ v',e = .returned v'/\OwnV 3 1 zif w v' (zao G) w':=by
 obtain ⟨a,cap,rfl⟩:=h.slice;have HK:=zjy h;clear h;obtain ⟨n,a7⟩:=xex (G.length);have HN:=zjy a7;rw [a7] at hn HK ⊢;clear a7;go_enter func49,ntmps49
 go_wp2_with fail
 go_loopw [3,4] (fun o j wr=>∃ k:Nat,j = .int .i64 k/\k<=n/\OwnV 3 1 zif w o (zao (G.take k)) wr) (fun _ j _=>n - (intOf j).toNat)
 case atStart=>exact ⟨0,rfl,by omega,by simpa [zao] using OwnV.start _ _ _ _⟩
 case round =>
  obtain ⟨k,rfl,hk,ho⟩:=hrel;have HO:=zjy ho;clear ho;by_cases hlt:k<n
  ·have hq:decide ((k:Int)<n)=true:=by simp;omega
   have hki:(k:Int)<(n:Int):=by omega
   have a2:k<G.length:=by rw [HN.o];exact hlt
   obtain ⟨b,off,⟨len,wa,wn,wc,ma,mn,mc,ws,mem⟩,e,lb,⟨c0,c1,c2⟩,hw,hm,hp⟩:=(HK.o.below HO.o.2).at k a2;cases e;have a6:=hm.lenN;dsimp only at a6 c0 c1 c2;have a1:G[k].mem.length=mn:=by rw [<- hp,a6];rfl
   have a0:=sizesG_more G k a2;rw [a1] at a0;have HM:=zjy a0;have a8:(zao (G.take k)).length=k:=by simp [zao];omega
   have a9:=zjy a8;clear hw hm hp a6 a1 a0 a8;have hbz:=HO.o.2.size;have a5:=HO.o;have a4:=a5.1;rw [a9.o] at a4;have b3:=zjy a4;have b0:=zjy a5.2;clear a5 a4;go_wp2_with (at_builtin;refine zbs rfl _ _ 22 rfl w.heap.size 3 1 8 (.int .i64 0) underlying22 infoZ rfl (by decide) (by decide) _ _ _ rfl b3.o wr.heap.size (by simp) #[.int .i64 mn] 1 rfl rfl (by simp [Value.oneCell']) (by omega) b0.o.size ?_;intro v8 w8 b2 b1)
   go_roundw
   case rel =>
    refine ⟨k+1,by go_num,by omega,?_⟩;rw [HM.o];exact ⟨by rw [List.length_append,a9.o,List.flatMap_append];exact b2,b1 _ b0.o⟩
   case measure=>simp [intOf];omega
  ·have hq:decide ((k:Int)<n)=false:=by simp;omega
   have a3:zao (G.take k)=zao G:=by rw [List.take_of_length_le (by rw [HN.o];omega)]
   rw [a3] at HO;clear a3;go_wp2_with fail
   go_ret;exact ⟨_,rfl,HO.o⟩
theorem rsingular_any (S:Nat->Prop) (v:Value) (G:List GrpL) (w:World) (h:GroupsAt w S v G) (hn:G.length<=1000) (hm:∀ g∈G,g.mem.length<=1000) :
  Calls prog 18 #[v] w fun e w'=>e = .returned (.int .i64 (zdp G))/\Below w.heap.size w w':=by
 obtain ⟨a,cap,rfl⟩:=h.slice;have HK:=zjy h;have b8:=zjy hm;have hl:(zao G).length=G.length:=by simp [zao]
 obtain ⟨r,hr⟩:=xex (zdp G);rw [hr];have HR:=zjy hr;obtain ⟨n,a7⟩:=xex (G.length);have HN:=zjy a7;rw [a7] at hl hn HK ⊢;have b2:=zjy hl;clear h hr hm a7 hl;go_enter func18,ntmps18
 go_wp2_with fail
 go_loopw [3,4,5,6] (fun o j _ _ wr=>∃ k:Nat,j = .int .i64 k/\k<=n/\Below w.heap.size w wr/\∃ q:Int,o = .int .i64 q/\0<=q/\q<=1000*k/\Hid ((((zao G).take k).map fun x=>if (zbt (zao G) x).2=true then x else 0).sum=q)) (fun _ j _ _ _=>n - (intOf j).toNat)
 case atStart=>exact ⟨0,rfl,by omega,Below.refl _ _,0,rfl,by omega,by omega,zjy (by simp)⟩
 case round =>
  obtain ⟨k,rfl,hk,b1,q,rfl,hq0,hq1,HQ⟩:=hrel;obtain ⟨WR,b6⟩:∃ u,u=wr:=⟨_,rfl⟩;subst b6;have HB:=zjy b1;by_cases hlt:k<n
  ·have hq:decide ((k:Int)<n)=true:=by simp;omega
   have hki:(k:Int)<(n:Int):=by omega
   have a2:k<(zao G).length:=by rw [b2.o];exact hlt
   have a4:k<G.length:=by rw [HN.o];exact hlt
   have a0:=zi3 (zao G) k a2;have a8:(zao G)[k]=(G[k].mem.length:Int):=by simp [zao]
   have b4:=b8.o _ (List.getElem_mem a4);rw [HQ.o,a8] at a0;obtain ⟨s,hs⟩:=xex (zao G)
   have a5:∀ (u:Value) (W:World),OwnV 3 1 zif WR u s W->Calls prog 48 #[u,.int .i64 k] W fun e w'=>e = .returned (.tuple #[.int .i64 (zbt s (G[k].mem.length:Int)).1,.bool (zbt s (G[k].mem.length:Int)).2])/\Below W.heap.size W w':=by
    intro u W ho;have h:=rrank_any _ u s k W (OwnV.vec (size:=1) (enc:=zif) (fun _=>rfl) ho) (by rw [<- hs];exact a2) (by rw [<- hs,b2.o];omega)
    have e:s[k]'(by rw [<- hs];exact a2)=(G[k].mem.length:Int):=by subst hs;exact a8
    rwa [e] at h
   rw [hs] at a0;obtain ⟨g0,a9⟩:=xex (G[k]);rw [a9] at a0 a5 b4;obtain ⟨⟨ra,rb⟩,hra⟩:∃ p,zbt s (g0.mem.length:Int)=p:=⟨_,rfl⟩;rw [hra] at a0 a5;have b7:=zjy a5;have HS:=zjy hs;have b9:=zjy a9;have a1:=zjy a0;clear a8 a5 hra a0 HQ b1 hs a9;go_wp2_with fail
   refine (rsizes_any S _ G _ (by have:=HK.o.below HB.o;exact this) (by rw [HN.o];omega)).mono ?_;rw [HS.o];rintro e w1 ⟨v',rfl,ho⟩;have HO:=zjy ho;obtain ⟨oa,oc,eo⟩:=zar ho.1;subst eo;have c3:=zjy (HB.o.trans (ho.2.mono HB.o.size));clear ho;go_wp2_with fail
   refine (b7.o _ _ HO.o).mono ?_;rintro e w2 ⟨rfl,b5⟩;have b3:=xhh c3 b5;clear b5;cases rb
   ·have M:=zjy (show (((zao G).take (k+1)).map fun x=>if (zbt (zao G) x).2=true then x else 0).sum=q by rw [HS.o];simpa using a1.o)
    go_wp2_with fail
    go_roundw
    case rel=>exact ⟨k+1,by go_num,by omega,b3.o,q,rfl,by omega,by omega,M⟩
    case measure=>simp [intOf];omega
   ·have M:=zjy (show (((zao G).take (k+1)).map fun x=>if (zbt (zao G) x).2=true then x else 0).sum=q+(g0.mem.length:Int) by rw [HS.o];simpa using a1.o)
    obtain ⟨b,off,⟨len,wa,wn,wc,ma,mn,mc,ws,mem⟩,e,lb,⟨c0,c1,c2⟩,hw,hmv,hp⟩:=(HK.o.below b3.o).at k a4;cases e;have a6:=hmv.lenN;dsimp only at a6 c0 c1 c2;have a3:g0.mem.length=mn:=by rw [<- b9.o,<- hp,a6];rfl
    rw [a3] at M b4;have hwr:IntKind.i64.wrap (q+(mn:Int))=q+(mn:Int):=by rw [IntKind.wrap_i64];omega
    clear hw hmv hp a6 a3;go_wp2_with fail
    go_roundw
    case rel=>exact ⟨k+1,by go_num,by omega,b3.o,q+mn,rfl,by omega,by omega,M⟩
    case measure=>simp [intOf];omega
  ·have hq:decide ((k:Int)<n)=false:=by simp;omega
   have b0:q=r:=by
    rw [<- HQ.o,<- HR.o,List.take_of_length_le (by rw [b2.o];omega)];rfl
   clear HQ b1;go_wp2_with fail
   go_ret;subst b0;exact ⟨rfl,HB.o⟩
end
section
open Go.RowKit
theorem le_or (x y:List UInt8):(decide (x<y) || x == y) = !decide (y<x):=by
 rw [Bool.eq_iff_iff];simp only [Bool.or_eq_true,decide_eq_true_eq,beq_iff_eq,Bool.not_eq_true',decide_eq_false_iff_not];constructor
 ·rintro (h | rfl)
  ·exact List.lt_asymm h
  ·exact List.lt_irrefl _
 ·intro h
  rcases List.le_iff_lt_or_eq.1 (List.not_lt.1 h) with h | h
  ·exact .inl h
  ·exact .inr h
theorem any_bad {D:List zc2} {k:Nat} (hk:k<D.length) (h:zg9 D[k]=true):D.any zg9=true:=List.any_eq_true.2 ⟨_,List.getElem_mem hk,h⟩
theorem any_good {D:List zc2} (h:∀ k,(hk:k<D.length)->zg9 D[k]=false):D.any zg9=false:=by
 rw [List.any_eq_false];intro d hd;obtain ⟨k,hk,rfl⟩:=List.mem_iff_getElem.1 hd;simp [h k hk]
theorem rcheck18_any (S:Nat->Prop) (v:Value) (D:List zc2) (w:World) (h:Vec w S 2 zd1 v D) (hn:D.length<=1000000) :
  Calls prog 54 #[v] w fun e w'=>e = .returned (.int .i64 (zbh D))/\Below w.heap.size w w':=by
 obtain ⟨a,cap,rfl⟩:=h.slice;have HV:=zjy h;clear h;obtain ⟨n,a8⟩:=xex (D.length);have HN:=zjy a8;rw [a8] at hn HV ⊢;have HF:=zjy (show ∀ r:Int,zbh D=r->Ending.returned (.int .i64 r) = .returned (.int .i64 (zbh D)) from fun r h=>by rw [h])
 clear a8;by_cases h64:64<n
 ·have d0:decide ((64:Int)<n)=true:=by simp;omega
  go_enter func54,ntmps54
  go_wp2_with fail
  go_ret;exact ⟨HF.o _ (by unfold zbh;rw [if_pos (by rw [HN.o];exact h64)]),Below.refl _ _⟩
 have d0:decide ((64:Int)<n)=false:=by simp;omega
 go_enter func54,ntmps54
 go_wp2_with fail
 go_loopw [3] (fun i wr=>∃ k:Nat,i = .int .i64 ((k:Int)+1)/\(k<=n/\(n=0\/k+1<=n))/\Hid (∀ j,j<k->ascE D j=true)/\Below w.heap.size w wr) (fun i _=>n - (intOf i).toNat)
 case atStart=>exact ⟨0,rfl,by omega,zjy (fun j hj=>by omega),Below.refl _ _⟩
 case round =>
  obtain ⟨p,rfl,⟨hk,hk2⟩,HA,hbw⟩:=hrel;obtain ⟨WR,b8⟩:∃ u,u=wr:=⟨_,rfl⟩;subst b8;have HB:=zjy hbw;by_cases hlt:p+1<n
  ·have hq:decide ((p:Int)+1<n)=true:=by simp;omega
   have a5:p+1<D.length:=by rw [HN.o];exact hlt
   have b7:(p:Int)+1<(n:Int):=by omega
   obtain ⟨b,off,e,lb,hc⟩:=(HV.o.below hbw).get (p+1) a5;cases e;have c0:=hc 0 _ rfl;have b1:p<D.length:=by omega
   obtain ⟨b2,b5,e2,lb2,b3⟩:=(HV.o.below hbw).get p b1;cases e2;have q0:=b3 0 _ rfl
   have a0:ascE D p=decide (D[p].1<D[p+1].1):=by
    unfold ascE;rw [List.getD,List.getElem?_eq_getElem b1,List.getD,List.getElem?_eq_getElem a5];rfl
   obtain ⟨⟨xt,xc⟩,hx⟩:∃ x,D[p+1]=x:=⟨_,rfl⟩;obtain ⟨⟨yt,yc⟩,hy⟩:∃ x,D[p]=x:=⟨_,rfl⟩;rw [hx] at c0 a0;rw [hy] at q0 a0;rw [Nat.add_zero] at c0 q0;dsimp only at c0 q0 a0;have hwr:IntKind.i64.wrap ((p:Int)+1 - 1)=(p:Int):=by rw [IntKind.wrap_i64];omega
   have hpe:(p:Int)+1 - 1=(p:Int):=by omega
   have hpn:(p:Int)<(n:Int):=by omega
   have hpt:((p:Int)+1).toNat=p+1:=by omega
   have a4:Op.bytesLess xt yt=decide (xt<yt):=bytesLess_eq xt yt;have a1:(Op.bytesLess xt yt || xt == yt) = !decide (yt<xt):=by rw [a4];exact le_or xt yt
   have a3:=zjy a0;clear hc b3 hx hy a0 hbw;by_cases hyx:yt<xt
   ·have hd:(Op.bytesLess xt yt || xt == yt)=false:=by rw [a1];simpa using hyx
    have hd1:Op.bytesLess xt yt=false:=by have:=hd;simp at this;exact this.1
    have hd2:(xt == yt)=false:=by have:=hd;simp at this;simpa using this.2
    have HT:=zjy (show ∀ j,j<p+1->ascE D j=true from fun j hj=>by
     by_cases ej:j=p
     ·rw [ej,a3.o];simpa using hyx
     ·exact HA.o j (by omega))
    clear a4 a1 hyx a3;go_wp2_with fail
    go_quiet (fail)
    go_wp2_with fail
    go_roundw
    case rel=>exact ⟨p+1,by go_num,by omega,HT,below_drewN HB.o _⟩
    case measure=>simp [intOf];omega
   ·have hd:(Op.bytesLess xt yt || xt == yt)=true:=by rw [a1];simpa using hyx
    have HT:=zjy (show zbh D=12 by
     unfold zbh
     rw [if_neg (by rw [HN.o];exact h64),if_pos (ascD_no (j:=p) (by omega) (by rw [a3.o];simpa using hyx))])
    clear a4 a1 hyx a3;go_wp2_with fail
    go_quiet (fail)
    go_wp2_with fail
    go_ret;exact ⟨HF.o _ HT.o,below_drewN HB.o _⟩
  ·have hq:decide ((p:Int)+1<n)=false:=by simp;omega
   have HT:=zjy (show ascD D=true from ascD_all fun j hj=>HA.o j (by rw [HN.o] at hj;omega))
   clear hbw HA;go_wp2_with fail
   go_loopw [4] (fun i wr=>∃ k:Nat,i = .int .i64 k/\k<=n/\Hid (∀ j,(hj:j<D.length)->j<k->zg9 D[j]=false)/\Below w.heap.size w wr) (fun i _=>n - (intOf i).toNat)
   case atStart=>exact ⟨0,rfl,by omega,zjy (fun j _ hj=>by omega),HB.o⟩
   case round =>
    obtain ⟨k,rfl,hk3,HG,a2⟩:=hrel;obtain ⟨WQ,b9⟩:∃ u,u=wr:=⟨_,rfl⟩;subst b9;have a7:=zjy a2;by_cases hlt2:k<n
    ·have b6:decide ((k:Int)<n)=true:=by simp;omega
     have b7:(k:Int)<(n:Int):=by omega
     have a9:k<D.length:=by rw [HN.o];exact hlt2
     obtain ⟨b,off,e,lb,hc⟩:=(HV.o.below a2).get k a9;cases e;have c1:=hc 1 _ rfl;obtain ⟨⟨xt,xc⟩,hx⟩:∃ x,D[k]=x:=⟨_,rfl⟩;rw [hx] at c1;dsimp only at c1;have HX:=zjy hx;have b4:zg9 (xt,xc)=(decide (xc<1) || decide (1048576<xc)):=rfl;have b0:=zjy b4;clear hc hx a2 b4;by_cases x1:xc<1
     ·have e1:decide (xc<1)=true:=by simpa using x1
      have a6:=zjy (show zbh D=2 by
       unfold zbh
       rw [if_neg (by rw [HN.o];exact h64),if_neg (by rw [HT.o];simp),if_pos (any_bad a9 (by rw [HX.o,b0.o,e1];rfl))])
      go_wp2_with fail
      go_ret;exact ⟨HF.o _ a6.o,a7.o⟩
     ·have e1:decide (xc<1)=false:=by simpa using x1
      by_cases x2:1048576<xc
      ·have e2:decide (1048576<xc)=true:=by simpa using x2
       have a6:=zjy (show zbh D=2 by
        unfold zbh
        rw [if_neg (by rw [HN.o];exact h64),if_neg (by rw [HT.o];simp),if_pos (any_bad a9 (by rw [HX.o,b0.o,e2];simp))])
       go_wp2_with fail
       go_ret;exact ⟨HF.o _ a6.o,a7.o⟩
      ·have e2:decide (1048576<xc)=false:=by simpa using x2
       have c2:=zjy (show ∀ j,(hj:j<D.length)->j<k+1->zg9 D[j]=false from fun j hj hjk=>by
        by_cases ej:j=k
        ·subst ej;rw [HX.o,b0.o,e1,e2];rfl
        ·exact HG.o j hj (by omega))
       go_wp2_with fail
       go_roundw
       case rel=>exact ⟨k+1,by go_num,by omega,c2,a7.o⟩
       case measure=>simp [intOf];omega
    ·have b6:decide ((k:Int)<n)=false:=by simp;omega
     have a6:=zjy (show zbh D=0 by
      unfold zbh
      rw [if_neg (by rw [HN.o];exact h64),if_neg (by rw [HT.o];simp),if_neg (by rw [any_good fun j hj=>HG.o j hj (by rw [HN.o] at hj;omega)];simp)])
     clear a2 HG;go_wp2_with fail
     go_ret;exact ⟨HF.o _ a6.o,a7.o⟩
theorem rhits_any (S T U:Nat->Prop) (gv v2 v3:Value) (G:List GrpL) (gs:List GsL) (V:List (List UInt8)) (w:World) (hg:GroupsAt w S gv G) (hs:Vec w T 2 zhn v2 gs) (hv:Vec w U 1 za8 v3 V)
  (ok:∀ g∈gs,0<=g.1/\g.1<(G.length:Int)) (okm:∀ g∈G,∀ m∈g.mem,0<=m/\m<(V.length:Int)) (hn1:gs.length<=1000) (hn2:∀ g∈G,g.mem.length<=1000) (hn3:V.length<=1000000) (hn4:G.length<=1000000) :
  Calls prog 57 #[gv,v2,v3] w fun e w'=>e = .returned (.tuple #[.int .i64 (zhj G V gs),.int .i64 0])/\Below w.heap.size w w':=by
 obtain ⟨ga,gc,rfl⟩:=hg.slice;obtain ⟨sa,sc,rfl⟩:=hs.slice;obtain ⟨va,vc,rfl⟩:=hv.slice;have HG:=zjy hg;have HS:=zjy hs;have HV:=zjy hv;have d7:=zjy ok;have d6:=zjy okm;have e8:=zjy hn2;obtain ⟨r,hr⟩:=xex (zhj G V gs);rw [hr];have HR:=zjy hr;obtain ⟨n,b6⟩:=xex (gs.length);obtain ⟨ng,b7⟩:=xex (G.length);obtain ⟨nv,b5⟩:=xex (V.length);have HN:=zjy b6;have f4:=zjy b7;have f0:=zjy b5;rw [b6] at HS hn1;rw [b7] at HG d7 hn4;rw [b5] at HV d6 hn3;rw [b6,b7,b5];clear hg hs hv ok okm hn2 hr b6 b7 b5;go_enter func57,ntmps57
 go_wp2_with fail
 go_loopw [8,9,10,11,12] (fun o i _ _ _ wr=>∃ k:Nat,i = .int .i64 k/\k<=n/\∃ q:Int,o = .int .i64 q/\0<=q/\q<=1000*k/\Hid (zhj G V (gs.take k)=q)/\Below w.heap.size w wr) (fun _ i _ _ _ _=>n - (intOf i).toNat)
 case atStart=>exact ⟨0,rfl,by omega,0,rfl,by omega,by omega,zjy (by simp [zhj]),Below.refl _ _⟩
 case round =>
  obtain ⟨k,rfl,hk,q,rfl,hq0,hq1,HQ,a9⟩:=hrel;obtain ⟨WR,e6⟩:∃ u,u=wr:=⟨_,rfl⟩;subst e6;have HB:=zjy a9;by_cases hlt:k<n
  ·have hq:decide ((k:Int)<n)=true:=by simp;omega
   have hkn:(k:Int)<(n:Int):=by omega
   have a3:k<gs.length:=by rw [HN.o];exact hlt
   obtain ⟨b,off,e,lb,hc⟩:=(HS.o.below a9).get k a3;cases e;have c0:=hc 0 _ rfl;have c1:=hc 1 _ rfl;have a1:=hits_more G V gs k a3;obtain ⟨o0,o1⟩:=d7.o _ (List.getElem_mem a3);obtain ⟨⟨gi,gt⟩,hgk⟩:∃ p,gs[k]=p:=⟨_,rfl⟩;rw [hgk] at c0 c1 a1 o0 o1;dsimp only at c0 c1 a1 o0 o1;obtain ⟨gN,rfl⟩:∃ m:Nat,gi=m:=⟨gi.toNat,by omega⟩;rw [Int.toNat_natCast] at a1;rw [Nat.add_zero] at c0;have a8:gN<G.length:=by rw [f4.o];omega
   obtain ⟨b2,b8,⟨len,wa,wn,wc,ma,mn,mc,ws,mem⟩,e2,lb2,⟨g0,g1,g2⟩,hw,hm,hp⟩:=(HG.o.below a9).at gN a8;cases e2;have c8:=hm.lenN;dsimp only at c8 g0 g1 g2 hm;subst c8;have a6:G[gN].mem=mem:=by rw [<- hp];rfl
   have c9:=e8.o _ (List.getElem_mem a8);have a5:=d6.o _ (List.getElem_mem a8);rw [show G.getD gN default=G[gN] by rw [List.getD,List.getElem?_eq_getElem a8];rfl] at a1;rw [a6] at a1 c9 a5;rw [HQ.o] at a1;have b0:=zjy a1;have b1:=zjy hm;have e9:=zjy a5;obtain ⟨mN,c2⟩:=xex (mem.length);have d8:=zjy c2;rw [c2] at b1 c9 g2;have d1:decide ((gN:Int)<0)=false:=by simp
   have d2:decide ((ng:Int)<=(gN:Int))=false:=by simp;omega
   have d3:(gN:Int)<(ng:Int):=o1;clear hc hgk hw hm hp a6 a5 a1 HQ a9 g0 g1 c2 o0 o1 a8;go_wp2_with fail
   go_loopw [8,11,12] (fun o i _ wr=>∃ j:Nat,i = .int .i64 j/\j<=mN/\∃ t:Nat,o = .int .i64 (q+t)/\t<=j/\Hid ((mem.take j).countP (hitB V gt)=t)/\Below WR.heap.size WR wr) (fun _ i _ _=>mN - (intOf i).toNat)
   case atStart=>exact ⟨0,rfl,by omega,0,by simp,by omega,zjy (by simp),Below.refl _ _⟩
   case round =>
    obtain ⟨j,rfl,hj,t,rfl,ht,HT,a4⟩:=hrel;obtain ⟨WJ,e7⟩:∃ u,u=wr:=⟨_,rfl⟩;subst e7;have c7:=zjy a4;have g2j:=(a4.cell (p:=⟨b2,b8+gN*3+2,none⟩) lb2).trans g2;have c1j:=(a4.cell (p:=⟨b,off+k*2+1,none⟩) lb).trans c1;by_cases hlt2:j<mN
    ·have e5:decide ((j:Int)<mN)=true:=by simp;omega
     have hjm:(j:Int)<(mN:Int):=by omega
     have c6:j<mem.length:=by rw [d8.o];exact hlt2
     obtain ⟨b3,e0,e3,lb3,d5⟩:=(b1.o.below a4).get j c6;cases e3;have c3:=d5 0 _ rfl;rw [Nat.mul_one,Nat.add_zero] at c3;have a5:=e9.o _ (List.getElem_mem c6);have a0:=zf1 (hitB V gt) mem j c6;obtain ⟨m,d0⟩:=xex (mem[j]);rw [d0] at c3 a5 a0;rw [HT.o] at a0;obtain ⟨m0,m1⟩:=a5;obtain ⟨mi,rfl⟩:∃ i:Nat,m=i:=⟨m.toNat,by omega⟩;have b9:mi<V.length:=by rw [f0.o];omega
     obtain ⟨b4,d9,e4,lb4,d4⟩:=((HV.o.below HB.o).below a4).get mi b9;cases e4;have c4:=d4 0 _ rfl;rw [Nat.mul_one,Nat.add_zero] at c4;obtain ⟨x,hx⟩:=xex (V[mi])
     have a7:hitB V gt (mi:Int)=decide (x=gt):=by
      unfold hitB;rw [Int.toNat_natCast,List.getD,List.getElem?_eq_getElem b9,hx];rfl
     rw [hx] at c4;rw [a7] at a0;have f1:decide ((mi:Int)<0)=false:=by simp
     have f2:decide ((nv:Int)<=(mi:Int))=false:=by simp;omega
     have f3:(mi:Int)<(nv:Int):=m1;clear d5 d4 d0 HT hx a7 a4 m0 m1 b9;by_cases hxg:x=gt
     ·have e1:(x == gt)=true:=by simp [hxg]
      rw [decide_eq_true hxg] at a0;have M:=zjy (show (mem.take (j+1)).countP (hitB V gt)=t+1 from a0);have hwr:IntKind.i64.wrap (q+(t:Int)+1)=q+((t+1:Nat):Int):=by rw [IntKind.wrap_i64];omega
      clear a0 hxg;go_wp2_with fail
      go_quiet (fail)
      go_wp2_with fail
      go_roundw
      case rel=>exact ⟨j+1,by go_num,by omega,t+1,by go_num,by omega,M,below_drewN c7.o _⟩
      case measure=>simp [intOf];omega
     ·have e1:(x == gt)=false:=by simp [hxg]
      rw [decide_eq_false hxg] at a0;have M:=zjy (show (mem.take (j+1)).countP (hitB V gt)=t from a0);clear a0 hxg;go_wp2_with fail
      go_quiet (fail)
      go_wp2_with fail
      go_roundw
      case rel=>exact ⟨j+1,by go_num,by omega,t,rfl,by omega,M,below_drewN c7.o _⟩
      case measure=>simp [intOf];omega
    ·have e5:decide ((j:Int)<mN)=false:=by simp;omega
     have a2:(mem.countP (hitB V gt):Nat)=t:=by rw [<- HT.o,List.take_of_length_le (by rw [d8.o];omega)]
     have c5:=b0.o;rw [a2] at c5;have M:=zjy c5;have B6:=zjy (HB.o.trans (c7.o.mono HB.o.size));clear HT a2 c5 a4;go_wp2_with fail
     go_roundw
     case rel=>exact ⟨k+1,by go_num,by omega,q+t,rfl,by omega,by omega,M,B6.o⟩
     case measure=>simp [intOf];omega
  ·have hq:decide ((k:Int)<n)=false:=by simp;omega
   have a2:q=r:=by rw [<- HQ.o,<- HR.o,List.take_of_length_le (by rw [HN.o];omega)]
   clear HQ a9;go_wp2_with fail
   go_ret2;subst a2;exact ⟨rfl,HB.o⟩
end
section
open Go.RowKit
def gPart (D:List zc2) (r:Int) (i k:Nat):List GsL:=((D.take k).filter (hitE D r)).map fun d=>((i:Int),d.1)
theorem gPart_next (D:List zc2) (r:Int) (i k:Nat) (h:k<D.length):gPart D r i (k+1)=gPart D r i k++(if hitE D r D[k]=true then [((i:Int),D[k].1)] else []):=by
 unfold gPart;rw [List.take_succ_eq_append_getElem h,List.filter_append,List.map_append];cases hh:hitE D r D[k] <;> simp [hh]
theorem gPart_len (D:List zc2) (r:Int) (i k:Nat):(gPart D r i k).length<=k:=by
 unfold gPart;rw [List.length_map];refine Nat.le_trans (List.length_filter_le _ _) ?_;rw [List.length_take];omega
theorem ralign_any (S T:Nat->Prop) (gv dv:Value) (G:List GrpL) (D:List zc2) (w:World) (hg:GroupsAt w S gv G) (hd:Vec w T 2 zd1 dv D) (hn:G.length<=1000) (hm:D.length<=1000000) :
  Calls prog 56 #[gv,dv] w (zgy G D w):=by
 obtain ⟨ag,cg,rfl⟩:=hg.slice;obtain ⟨ad,cd,rfl⟩:=hd.slice;obtain ⟨n,d6⟩:=xex (G.length);obtain ⟨m,d7⟩:=xex (D.length);have HG:=zjy hg;have HD:=zjy hd;have f5:=zjy d6;have b4:=zjy d7;have e4:=zjy (rcheck18_any T _ D w hd hm);rw [d6] at HG ⊢;rw [d7] at HD e4 ⊢;have hn6:n<=1000:=by omega
 have hm6:m<=1000000:=by omega
 obtain ⟨c,hc⟩:=xex (zbh D)
 have f4:c=0->m<=64:=by
  intro h0;rw [h0] at hc;unfold zbh at hc;by_cases h:64<D.length
  ·rw [if_pos h] at hc;cases hc
  ·omega
 unfold zgy;rw [hc] at e4 ⊢;have HC:=zjy hc;have i3:=zjy f4;clear hg hd hc d6 d7 hn hm f4;go_enter func56,ntmps56
 go_wp2_with fail
 refine e4.o.mono ?_;rintro e w1 ⟨rfl,f0⟩;have a9:=zjy f0;clear f0;by_cases h0:c=0
 ·have g5:=i3.o h0
  subst h0;go_wp2_with fail
  go_loopw [7,8] (fun o t wr=>∃ k:Nat,t = .int .i64 k/\k<=m/\OwnV 3 1 zif w1 o (zby (D.take k)) wr) (fun _ t _=>m - (intOf t).toNat)
  case atStart=>exact ⟨0,by go_num,by omega,OwnV.nil (Below.refl _ _)⟩
  case round =>
   obtain ⟨k,rfl,hk,ho⟩:=hrel;obtain ⟨WR,h1⟩:∃ u,u=wr:=⟨_,rfl⟩;subst h1;have HO:=zjy ho;have f8:w1.heap.size<=WR.heap.size:=ho.2.size;by_cases hlk:k<m
   ·have hq:decide ((k:Int)<(m:Int))=true:=by simp;omega
    have hkn:(k:Int)<(m:Int):=by omega
    have b2:k<D.length:=by rw [b4.o];exact hlk
    obtain ⟨b0,o0,e,d2,hc⟩:=((HD.o.below a9.o).below (ho.2.mono xnl)).get k b2;cases e;have c1:=hc 1 _ rfl;have d4:zby (D.take (k+1))=zby (D.take k)++[D[k].2]:=by unfold zby;rw [List.take_succ_eq_append_getElem b2,List.map_append];rfl
    obtain ⟨y,hy⟩:=xex (D[k]);rw [hy] at c1 d4;have h8:=zjy d4;obtain ⟨yv,yc⟩:=y;dsimp only at c1;have d3:(zby (D.take k)).length=k:=by simp [zby];omega
    have a1:=ho.1;rw [d3] at a1;have h7:=zjy d3;have a7:=zjy a1;clear a1 ho hc d4 hy d3;go_wp2_with (at_builtin;refine zbs rfl _ _ 22 rfl w1.heap.size 3 1 8 (.int .i64 0) underlying22 infoZ rfl (by decide) (by decide) _ _ _ rfl a7.o WR.heap.size (by simp) #[.int .i64 yc] 1 rfl rfl (by simp [Value.oneCell']) (by omega) f8 ?_;intro v8 w8 g4 g0)
    go_roundw
    case rel =>
     refine ⟨k+1,by go_num,by omega,?_,g0 _ HO.o.2⟩;rw [h8.o,List.length_append,h7.o,List.flatMap_append];simpa using g4
    case measure=>simp [intOf];omega
   ·have hq:decide ((k:Int)<(m:Int))=false:=by simp;omega
    have e5:D.take k=D:=List.take_of_length_le (by rw [b4.o];omega);rw [e5] at ho;have HO:=zjy ho;have d9:(zby D).length=m:=by rw [<- b4.o];simp [zby]
    have f6:=zjy d9;obtain ⟨oa,oc,eo⟩:=zar ho.1;rw [d9] at eo;subst eo;clear ho e5 d9;have f3:Below w.heap.size w WR:=a9.o.trans (HO.o.2.mono a9.o.size);have c9:=zjy f3;clear f3;go_wp2_with fail
    go_loopw [9,10,11,12,13,14,15] (fun o t _ _ _ _ _ wr=>∃ i:Nat,t = .int .i64 i/\i<=n/\∃ X:List GsL,OwnV 138 2 zhn WR o X wr/\X.length<=64*i/\Hid (X=(List.range i).flatMap (zcr (zao G) D))) (fun _ t _ _ _ _ _ _=>n - (intOf t).toNat)
    case atStart=>exact ⟨0,by go_num,by omega,[],OwnV.nil (Below.refl _ _),by simp,zjy (by simp)⟩
    case round =>
     obtain ⟨i,rfl,hi,X,ho,g9,HX⟩:=hrel;obtain ⟨WQ,h3⟩:∃ u,u=wr:=⟨_,rfl⟩;subst h3;have c7:=zjy ho;have hz3:WR.heap.size<=WQ.heap.size:=ho.2.size;obtain ⟨nx,d5⟩:=xex (X.length);obtain ⟨ov,oc',eo⟩:=zar ho.1;rw [d5] at eo g9;subst eo;have e3:=zjy d5;have a8:(zao G).length=n:=by rw [<- f5.o];simp [zao]
     have HSl:=zjy a8;by_cases hli:i<n
     ·have g1:decide ((i:Int)<(n:Int))=true:=by simp;omega
      have d8:(i:Int)<(n:Int):=by omega
      have e6:i<(zao G).length:=by rw [a8];exact hli
      have a4:(List.range (i+1)).flatMap (zcr (zao G) D)=X++zcr (zao G) D i:=by rw [HX.o,List.range_succ,List.flatMap_append];simp
      have e7:(zao G)[i]=(zao G).getD i 0:=(zbb _ _ e6).symm
      have b6:∀ (u:Value) (W:World),OwnV 3 1 zif WQ u (zao G) W->Calls prog 48 #[u,.int .i64 i] W fun e w'=>e = .returned (.tuple #[.int .i64 (zbt (zao G) ((zao G).getD i 0)).1,.bool (zbt (zao G) ((zao G).getD i 0)).2])/\Below W.heap.size W w':=by
       intro u W ho;have h:=rrank_any _ u (zao G) i W (OwnV.vec (size:=1) (enc:=zif) (fun _=>rfl) ho) e6 (by rw [a8];omega)
       rwa [e7] at h
      have c2:=guess_fold (zao G) D i;have b9:(zbt (zao G) ((zao G).getD i 0)).2=false->zcr (zao G) D i=[]:=fun h=>by unfold zcr;rw [if_neg (by rw [h];simp)]
      obtain ⟨⟨r,sg⟩,hr⟩:∃ p,zbt (zao G) ((zao G).getD i 0)=p:=⟨_,rfl⟩;rw [hr] at b6 c2 b9;dsimp only at b6 c2 b9;have HR:=zjy hr;have h9:=zjy b6;have a5:=zjy a4;have i2:=zjy c2;have i1:=zjy b9;clear a4 e7 b6 hr ho d5 a8 c2 b9 HX;go_wp2_with fail
      refine (rsizes_any S _ G _ ((HG.o.below c9.o).below c7.o.2) (by rw [f5.o];omega)).mono ?_;rintro e w6 ⟨v6,rfl,b7⟩;have i0:=zjy b7;have HB6:=zjy (b7.2);have e1:=zjy (c7.o.below b7.2);clear b7;go_wp2_with fail
      refine (h9.o _ _ i0.o).mono ?_;rintro e w7 ⟨rfl,e9⟩;have b3:=zjy (e1.o.below e9);clear e9;cases sg
      ·have M:=zjy (show X=(List.range (i+1)).flatMap (zcr (zao G) D) by rw [a5.o,i1.o rfl,List.append_nil])
       go_wp2_with fail
       go_roundw
       case rel=>exact ⟨i+1,by go_num,by omega,X,b3.o,by rw [e3.o];omega,M⟩
       case measure=>simp [intOf];omega
      ·have M:=zjy (show X++gPart D r i m=(List.range (i+1)).flatMap (zcr (zao G) D) by rw [a5.o,i2.o rfl];unfold gPart;rw [List.take_of_length_le (by rw [b4.o];omega)])
       go_wp2_with fail
       go_loopw [9,13,14,15] (fun o t _ _ wr=>∃ k:Nat,t = .int .i64 k/\k<=m/\OwnV 138 2 zhn WR o (X++gPart D r i k) wr) (fun _ t _ _ _=>m - (intOf t).toNat)
       case atStart=>exact ⟨0,by go_num,by omega,by simpa [gPart] using b3.o⟩
       case round =>
        obtain ⟨k,rfl,hk2,ho⟩:=hrel;obtain ⟨WJ,h4⟩:∃ u,u=wr:=⟨_,rfl⟩;subst h4;have e2:=zjy ho;have hzj:WR.heap.size<=WJ.heap.size:=ho.2.size;obtain ⟨jv,jc,ej⟩:=zar ho.1
        have b1:(X++gPart D r i k).length<=64000+64:=by
         have:=gPart_len D r i k;rw [List.length_append,e3.o];omega
        obtain ⟨XK,c4⟩:=xex (X++gPart D r i k);have c5:=zjy c4;rw [c4] at ej b1 e2;obtain ⟨nk,b8⟩:=xex (XK.length);have c8:=zjy b8;rw [b8] at ej b1;subst ej;by_cases hlk2:k<m
        ·have g2:decide ((k:Int)<(m:Int))=true:=by simp;omega
         have g7:(k:Int)<(m:Int):=by omega
         have b2:k<D.length:=by rw [b4.o];exact hlk2
         have g8:k<(zby D).length:=by rw [f6.o];exact hlk2
         have a2:=gPart_next D r i k b2;have a3:hitE D r D[k]=decide (zbt (zby D) D[k].2=(r,true)):=rfl;have e8:(zby D)[k]=D[k].2:=by simp [zby]
         obtain ⟨b0,o0,e,d2,hc⟩:=((HD.o.below a9.o).below (HO.o.2.trans (ho.2.mono HO.o.2.size))).get k b2;cases e;have c0:=hc 0 _ rfl;rw [Nat.add_zero] at c0;have a0:=rrank_any _ _ (zby D) k WJ ((OwnV.vec (size:=1) (enc:=zif) (fun _=>rfl) HO.o).below ho.2) g8 (by rw [f6.o];omega)
         rw [e8] at a0;obtain ⟨⟨yv,yc⟩,hy⟩:∃ y,D[k]=y:=⟨_,rfl⟩;rw [hy] at c0 a0 a2 a3;dsimp only at c0 a0 a2 a3;obtain ⟨⟨rb,ok⟩,hr2⟩:∃ p,zbt (zby D) yc=p:=⟨_,rfl⟩;rw [hr2] at a0 a3;dsimp only at a0;have e0:=zjy a0;have a6:=zjy a2;have b5:=zjy a3;clear hc e8 hy hr2 a0 a2 a3 ho c4 b8;go_wp2_with fail
         refine e0.o.mono ?_;rintro e w8 ⟨rfl,c3⟩;have c6:=zjy (e2.o.below c3);have z8:=c3.size;have c08:=(c3.cell (p:=⟨b0,o0+k*2,none⟩) d2).trans c0;have lb8:b0<w8.heap.size:=Nat.lt_of_lt_of_le d2 z8;clear c3 c0;by_cases hyes:ok=true/\r=rb
         ·obtain ⟨rfl,rfl⟩:=hyes
          have M2:=zjy (show X++gPart D r i (k+1)=XK++[((i:Int),yv)] by rw [a6.o,b5.o,if_pos (by simp),<- List.append_assoc,c5.o]);have a1:=c6.o.1;rw [c8.o] at a1;have a7:=zjy a1;have f7:WR.heap.size<=w8.heap.size:=by omega
          have dr:(r == r)=true:=by simp
          clear a1;go_wp2_with (at_builtin;refine zbs rfl _ _ 114 rfl WR.heap.size 138 2 24 (.agg #[.int .i64 0,.string ⟨#[]⟩]) underlying114 infoGu rfl (by decide) (by decide) _ _ _ rfl a7.o w8.heap.size (by simp) #[.int .i64 i,zak yv] 1 rfl rfl (one_encGs ((i:Int),yv)) (by omega) f7 ?_;intro v9 w9 g3 f9)
          go_roundw
          case rel =>
           refine ⟨k+1,by go_num,by omega,?_,f9 _ c6.o.2⟩;rw [M2.o,List.length_append,c8.o,List.flatMap_append];simpa using g3
          case measure=>simp [intOf];omega
         ·have M2:=zjy (show X++gPart D r i (k+1)=XK by rw [a6.o,b5.o,if_neg (by intro h;have h2:=of_decide_eq_true h;cases h2;exact hyes ⟨rfl,rfl⟩),List.append_nil,c5.o])
          cases ok
          ·clear hyes
           go_wp2_with fail
           go_roundw
           case rel=>exact ⟨k+1,by go_num,by omega,by rw [M2.o];exact c6.o⟩
           case measure=>simp [intOf];omega
          ·have dr:(r == rb)=false:=by simp;intro h;exact hyes ⟨rfl,h⟩
           clear hyes;go_wp2_with fail
           go_roundw
           case rel=>exact ⟨k+1,by go_num,by omega,by rw [M2.o];exact c6.o⟩
           case measure=>simp [intOf];omega
        ·have g2:decide ((k:Int)<(m:Int))=false:=by simp;omega
         obtain rfl:k=m:=by omega
         have f1:XK=(List.range (i+1)).flatMap (zcr (zao G) D):=by rw [<- c5.o,M.o]
         have h5:=zjy f1
         have g6:nk<=64*(i+1):=by
          have:=gPart_len D r i k;have h2:=c8.o;rw [<- c5.o,List.length_append,e3.o] at h2;omega
         clear ho f1 c4 b8;go_wp2_with fail
         go_roundw
         case rel=>exact ⟨i+1,by go_num,by omega,XK,e2.o,by rw [c8.o];exact g6,h5⟩
         case measure=>simp [intOf];omega
     ·have g1:decide ((i:Int)<(n:Int))=false:=by simp;omega
      have d8:i=(zao G).length:=by rw [a8];omega
      have f2:X=zd7 (zao G) D:=by rw [HX.o,d8];rfl
      have h6:=zjy f2;clear d8 f2 ho HX a8;go_wp2_with fail
      go_ret2;refine ⟨_,rfl,?_,c9.o.trans (c7.o.2.mono c9.o.size)⟩;have hv:=OwnV.vec (size:=2) (enc:=zhn) (fun _=>rfl) c7.o
      rw [h6.o] at hv;exact hv.move xnl fun b _ hs=>⟨rfl,Nat.le_trans c9.o.size hs⟩
 ·have d0:(c == 0)=false:=by simpa using h0
  have d1:(c != 0)=true:=by simpa using h0
  go_wp2_with fail
  go_ret2;refine ⟨_,rfl,?_,a9.o⟩;show Vec w1 _ 2 zhn (.slice none 0 0) [];exact OwnV.vec (e:=138) (size:=2) (enc:=zhn) (fun _=>rfl) (OwnV.nil a9.o)
end
section
open Go.RowKit
theorem and_1 (m:Nat) (h:m<18446744073709551616):bits .and .u64 (m:Int) 1=((m % 2:Nat):Int):=by
 unfold bits;rw [IntKind.wrap_u64];have e1:(BitVec.ofInt 64 (m:Int)).toNat=m:=by rw [BitVec.toNat_ofInt];simp;omega
 have e2:(BitVec.ofInt 64 1).toNat=1:=by decide
 have e3:((BitVec.ofInt 64 (m:Int)) &&& (BitVec.ofInt 64 1)).toNat=m % 2:=by
  rw [BitVec.toNat_and,e1,e2];exact Nat.and_two_pow_sub_one_eq_mod m 1
 show ((((BitVec.ofInt 64 (m:Int)) &&& (BitVec.ofInt 64 1)).toNat:Nat):Int) % _=_;rw [e3];omega
theorem nat_beq1 (q:Nat):((q:Int) == 1)=(q == 1):=by rw [Bool.eq_iff_iff];simp;omega
theorem rhas9_yes (S:Nat->Prop) (v:Value) (b:BitsL) (i:Nat) (w:World) (h:BitsAt w S v b) (hv:zap b=true) (hi:(i:Int)<b.len) (hw:zgx b.words) :
  Calls prog 82 #[v,.int .i64 i] w fun e w'=>e = .returned (.bool (bitN b.words i == 1))/\Below w.heap.size w w':=by
 obtain ⟨s,rfl,a2⟩:=h;obtain ⟨a,c1,rfl⟩:=a2.slice;have a3:=zcw hv;obtain ⟨len,ws⟩:=b;dsimp only at a2 hi hw a3 ⊢;have HV:=zjy a2;have c3:=zjy hv;have hq:i / 64<ws.length:=by omega
 obtain ⟨x,hx⟩:=xex (ws[i / 64]);have a8:=hw _ (List.getElem_mem hq);rw [hx] at a8;obtain ⟨t,rfl⟩:∃ t:Nat,x=t:=⟨x.toNat,by omega⟩;have a1:bitN ws i=t / 2 ^ (i % 64) % 2:=by unfold bitN;rw [zbb _ _ hq,hx,Int.toNat_natCast]
 have a0:bits .and .u64 ((t:Int) / 2 ^ (i % 64)) 1=((bitN ws i:Nat):Int):=by
  have e:((t:Int) / 2 ^ (i % 64))=((t / 2 ^ (i % 64):Nat):Int):=by simp
  rw [e,and_1 _ (Nat.lt_of_le_of_lt (Nat.div_le_self _ _) (by omega)),a1]
 obtain ⟨q,a9⟩:=xex (bitN ws i);rw [a9] at a0 ⊢;obtain ⟨wn,a7⟩:=xex (ws.length);have c2:=zjy a7;have HX:=zjy hx;have b0:i / 64<wn:=by omega
 rw [a7] at HV ⊢;have l1:=a3.1.2.1;have l2:=a3.1.2.2;clear hv a2 a3 hw a8 a1 a9 a7 hx;go_enter func82,ntmps82
 go_wp2_with fail
 refine zah (fun W hW=>?_)
 have a4:=xal hW
 have a6:W.heap[w.heap.size]?=some (.cells #[.int .i64 len,.slice a wn c1] 56 (0,0)):=by rw [hW];exact zac rfl
 clear hW;refine (zed S _ ⟨len,ws⟩ W ⟨_,rfl,HV.o.below a4⟩ (by dsimp only;omega) (by dsimp only;omega)).mono ?_;rw [c3.o];rintro e w1 ⟨rfl,hb⟩;have b2:=zjy (a4.trans (hb.mono a4.size));have a5:=zab hb (zaa a6) a6;have lx:=zaa a5;obtain ⟨x0,x1⟩:=zae a5;have b1:i / 64<ws.length:=by rw [c2.o];exact b0
 obtain ⟨bb,off,e,lb,hc⟩:=(HV.o.below b2.o).get (i / 64) b1;cases e;have c0:=hc 0 _ rfl;rw [Nat.mul_one,Nat.add_zero,HX.o] at c0;have d1:decide ((0:Int)<=(i:Int))=true:=by simp
 have d2:decide ((i:Int)<len)=true:=by simpa using hi
 have b4:(i:Int).tdiv 64=((i / 64:Nat):Int):=by rw [Int.tdiv_eq_ediv_of_nonneg (by omega)];omega
 have b3:(i:Int).tmod 64=((i % 64:Nat):Int):=by rw [Int.tmod_eq_emod_of_nonneg (by omega)];omega
 have b9:(i:Int) / 64=((i / 64:Nat):Int):=by omega
 have b8:(i:Int) % 64=((i % 64:Nat):Int):=by omega
 have b6:((i / 64:Nat):Int)<(wn:Int):=by omega
 obtain ⟨qd,b7⟩:=xex (i / 64);obtain ⟨qm,b5⟩:=xex (i % 64);rw [b7] at c0 b4 b9 b6;rw [b5] at b3 b8 a0;have m64:qm<64:=by omega
 have hwd:IntKind.i64.wrap (qd:Int)=(qd:Int):=by rw [IntKind.wrap_i64];omega
 clear hb a4 a6 a5 hc b1 HX b0;go_wp2_with fail
 go_ret;exact ⟨by first | rfl | (rw [nat_beq1];done) | (simp [a0,nat_beq1];done) | (simp only [Ending.returned.injEq,Value.bool.injEq];exact nat_beq1 _),b2.o⟩
theorem rcount9_any (S:Nat->Prop) (v:Value) (b:BitsL) (w:World) (h:BitsAt w S v b) (h1:-9223372036854775808<=b.len) (h2:b.len<=9223372036854775807) (hw:zap b=true->zgx b.words) :
  Calls prog 53 #[v] w fun e w'=>e = .returned (.int .i64 (zcn b))/\Below w.heap.size w w':=by
 obtain ⟨s,rfl,b0⟩:=h;obtain ⟨a,c1,rfl⟩:=b0.slice;have HV:=zjy b0;clear b0;obtain ⟨r,hr⟩:=xex (zcn b);rw [hr];obtain ⟨vb,b1⟩:=xex (zap b);have a3:=zjy b1;have HW:=zjy hw;have HR:=zjy hr
 obtain ⟨m,hm⟩:∃ m:Nat,(vb=true->(m:Int)=b.len/\m=64*b.words.length/\m<=512)/\(vb=false->m=0):=by
  cases vb
  ·exact ⟨0,by simp,by simp⟩
  ·have:=zcw b1;exact ⟨64*b.words.length,fun _=>⟨by omega,rfl,by omega⟩,by simp⟩
 have HM:=zjy hm;clear hw hr hm;go_enter func53,ntmps53
 go_wp2_with fail
 refine zal (fun W hW=>?_)
 have b9:=xal hW
 have a9:W.heap[w.heap.size]?=some (.cells #[.int .i64 b.len,.slice a b.words.length c1] 56 (0,0)):=by rw [hW];exact zac rfl
 have a4:=zjy b9;have d1:=zjy a9;have c7:=zaa a9;clear hW b9 a9 b1;go_loopw [3,4] (fun c i wr=>Below W.heap.size W wr/\∃ k:Nat,i = .int .i64 k/\k<=m/\∃ q:Nat,c = .int .i64 q/\q<=k/\Hid ((q:Int)=bitsTo b.words k)) (fun _ i _=>m - (intOf i).toNat)
 case atStart=>exact ⟨Below.refl _ _,0,rfl,by omega,0,rfl,by omega,zjy (by rw [bitsTo_zero];rfl)⟩
 case round =>
  obtain ⟨a7,k,rfl,hk,q,rfl,hq,HQ⟩:=hrel;have HB:=zjy a7;have a5:=zab a7 c7 d1.o;have d0:=zjy a5;obtain ⟨x0,x1⟩:=zae a5;have c6:=zaa a5;have c0:BitsAt wr S (.agg #[.int .i64 b.len,.slice a b.words.length c1]) b:=⟨_,rfl,(HV.o.below a4.o).below a7⟩;have c4:=zjy c0;clear c0 a5 a7;go_wp2_with fail
  refine (zed S _ b wr c4.o h1 h2).mono ?_;rw [a3.o];rintro e w1 ⟨rfl,a8⟩;have b5:=xhh HB a8;have b6:=zjy (c4.o.below a8);have a0:=zab a8 c6 d0.o;obtain ⟨y0,y1⟩:=zae a0;have c5:=zaa a0;clear a8 a0 x0 x1;cases vb
  ·have hz:=HM.o.2 rfl
   have a2:((q:Nat):Int)=r:=by
    rw [<- HR.o];unfold zcn;rw [if_neg (by rw [a3.o];simp)];omega
   have b3:=zjy a2;clear a2;go_wp2_with fail
   go_ret;exact ⟨zim b3.o,a4.o.trans (b5.o.mono a4.o.size)⟩
  ·obtain ⟨m1,m2,m3⟩:=HM.o.1 rfl
   by_cases hlt:k<m
   ·have c9:decide ((k:Int)<b.len)=true:=by simp;omega
    have b2:(k:Int)<b.len:=by omega
    have a6:=bitsTo_next (ws:=b.words) (i:=k) (by omega);rw [<- HQ.o] at a6;obtain ⟨t,ht⟩:=xex (bitN b.words k);have c8:=bitN_le b.words k;have a1:=rhas9_yes S _ b k w1 b6.o a3.o b2 (HW.o a3.o);rw [ht] at a6 c8 a1;have b4:=zjy a1;have c2:=zjy a6;clear a6 ht a1 m1 m2 HQ;go_wp2_with fail
    refine b4.o.mono ?_;rintro e w2 ⟨rfl,b8⟩;have c3:=xhh b5 b8;clear b8
    rcases (by omega:t=0\/t=1) with rfl | rfl
    ·have dt:((0:Nat) == 1)=false:=rfl
     go_wp2_with fail
     go_roundw
     case rel=>exact ⟨c3.o,k+1,by go_num,by omega,q,rfl,by omega,zjy (by have:=c2.o;omega)⟩
     case measure=>simp [intOf];omega
    ·have dt:((1:Nat) == 1)=true:=rfl
     go_wp2_with fail
     go_roundw
     case rel=>exact ⟨c3.o,k+1,by go_num,by omega,q+1,by go_num,by omega,zjy (by have:=c2.o;omega)⟩
     case measure=>simp [intOf];omega
   ·have c9:decide ((k:Int)<b.len)=false:=by simp;omega
    have b7:k=64*b.words.length:=by omega
    have a2:((q:Nat):Int)=r:=by
     rw [<- HR.o];unfold zcn;rw [if_pos a3.o,HQ.o,b7];exact bitsTo_all _
    have b3:=zjy a2;clear a2 m1 m2 b7 HQ;go_wp2_with fail
    go_ret;exact ⟨zim b3.o,a4.o.trans (b5.o.mono a4.o.size)⟩
end
section
open Go.RowKit
def mixW (L A:List Int) (k:Nat):List Int:=L.take k++A.drop k
theorem mixW_len {L A:List Int} (h:L.length=A.length) (k:Nat) (hk:k<=A.length):(mixW L A k).length=A.length:=by unfold mixW;simp;omega
theorem mixW_set {L A:List Int} (h:L.length=A.length) (k:Nat) (hk:k<A.length) (hl:k<L.length):(mixW L A k).set k L[k]=mixW L A (k+1):=by
 unfold mixW;rw [List.set_append_right _ _ (by simp;omega)];have e2:k - (L.take k).length=0:=by simp;omega
 rw [e2,List.drop_eq_getElem_cons hk,List.set_cons_zero,List.take_succ_eq_append_getElem hl,List.append_assoc];rfl
theorem mixW_get {L A:List Int} (h:L.length=A.length) (k:Nat) (hk:k<A.length):(mixW L A k).getD k 0=A[k]:=by
 unfold mixW;rw [List.getD,List.getElem?_append_right (by simp;omega)];have e2:k - (L.take k).length=0:=by simp;omega
 rw [e2,List.getElem?_drop,Nat.add_zero,List.getElem?_eq_getElem hk];rfl
structure MixAt (w:World) (lb:Int) (sb:Value) (B:List Int) (gw cp c8 n:Nat) (W:List Int) (wr:World):Prop where
 hb:wr.heap[w.heap.size+1]?=some (.cells #[.int .i64 lb,sb] 56 (0,0))
 hr:wr.heap[w.heap.size+2]?=some (.cells #[.int .i64 0,.slice none 0 0] 56 (0,0))
 hc:wr.heap[c8]?=some (.cells #[.int .i64 lb,.slice (some ⟨gw,0,none⟩) n cp] 56 (0,0))
 hw:wr.ownsRow w.heap.size 39 1 (.slice (some ⟨gw,0,none⟩) n cp) n (W.flatMap zc7)
 ne:w.heap.size+2<gw/\w.heap.size+2<c8/\gw≠c8
 vb:Vec wr (fun x=>x≠gw) 1 zc7 sb B
 b:Below w.heap.size w wr
theorem MixAt.set {w:World} {lb:Int} {sb:Value} {B:List Int} {gw cp c8 n:Nat} {W:List Int} {wr:World} (h:MixAt w lb sb B gw cp c8 n W wr) (q:Nat) (x:Int):MixAt w lb sb B gw cp c8 n (W.set q x) (wr.setCell ⟨gw,q,none⟩ (.int .u64 x)):=by
 obtain ⟨n1,n2,n3⟩:=h.ne;exact ⟨zam h.hb (by show w.heap.size+1≠gw;omega),zam h.hr (by show w.heap.size+2≠gw;omega),zam h.hc (Ne.symm n3),own_setU h.hw rfl q x,h.ne,h.vb.far fun b hb=>hb,h.b.setCell (p:=⟨gw,q,none⟩) (by show w.heap.size<=gw;omega) _⟩
theorem MixAt.below {w:World} {lb:Int} {sb:Value} {B:List Int} {gw cp c8 n:Nat} {W:List Int} {wr wx:World} (h:MixAt w lb sb B gw cp c8 n W wr) (hb:Below wr.heap.size wr wx):MixAt w lb sb B gw cp c8 n W wx :=
 ⟨zab hb (zaa h.hb) h.hb,zab hb (zaa h.hr) h.hr,zab hb (zaa h.hc) h.hc,zcf h.hw hb,h.ne,h.vb.below hb,h.b.trans (hb.mono h.b.size)⟩
theorem rcombine_and (S T:Nat->Prop) (u v:Value) (a b:BitsL) (w:World) (hu:BitsAt w S u a) (hv:BitsAt w T v b) (a1:-9223372036854775808<=a.len) (a2:a.len<=9223372036854775807) (b1:-9223372036854775808<=b.len) (b2:b.len<=9223372036854775807) :
  Calls prog 81 #[u,v,.int .i64 0] w (zf3 a b w):=by
 obtain ⟨sa,rfl,b4⟩:=hu;obtain ⟨sb,rfl,b3⟩:=hv;obtain ⟨aa,ca,rfl⟩:=b4.slice;obtain ⟨ab,cb,rfl⟩:=b3.slice;have d5:=zjy b4.any;have d4:=zjy b3.any;obtain ⟨la,A⟩:=a;obtain ⟨lb,B⟩:=b;dsimp only at d5 d4 a1 a2 b1 b2;obtain ⟨PP,f7⟩:=xex (zf3 ⟨la,A⟩ ⟨lb,B⟩ w);rw [f7];have d8:=zjy f7;clear b4 b3 f7;obtain ⟨na,f3⟩:=xex (A.length);obtain ⟨nb,f2⟩:=xex (B.length);have a8:=zjy f3;have c3:=zjy f2;dsimp only;rw [f3] at d5 ⊢;rw [f2] at d4 ⊢;clear f3 f2;go_enter func81,ntmps81
 go_wp2_with fail
 refine zah (fun W hW=>?_)
 have d6:Below w.heap.size w W:=by rw [hW];exact (((Below.refl _ _).alloc xnl _).alloc (by simp) _).alloc (by simp;omega) _
 have f6:W.heap[w.heap.size]?=some (.cells #[.int .i64 la,.slice aa na ca] 56 (0,0)):=by rw [hW];exact zaf (zaf (zac rfl))
 have f8:W.heap[w.heap.size+1]?=some (.cells #[.int .i64 lb,.slice ab nb cb] 56 (0,0)):=by rw [hW];exact zaf (zac (by simp))
 have e7:W.heap[w.heap.size+2]?=some (.cells #[.int .i64 0,.slice none 0 0] 56 (0,0)):=by rw [hW];exact zac (by simp)
 clear hW;have c6:BitsAt W zau (.agg #[.int .i64 la,.slice aa na ca]) ⟨la,A⟩:=⟨_,rfl,d5.o.below d6⟩;refine (zed zau _ ⟨la,A⟩ W c6 a1 a2).mono ?_;obtain ⟨va,b4⟩:=xex (zap ⟨la,A⟩);rw [b4];rintro e w1 ⟨rfl,hb⟩;have g2:=zjy b4;have e5:=zjy (d6.trans (hb.mono d6.size));have e6:=zjy (zab hb (zaa f6) f6);have e4:=zjy (zab hb (zaa f8) f8);have b8:=zjy (zab hb (zaa e7) e7);have lA:=zaa e6.o;have lC:=zaa e4.o;have lR:=zaa b8.o;obtain ⟨x0,x1⟩:=zae e6.o;obtain ⟨y0,y1⟩:=zae e4.o;obtain ⟨r0,r1⟩:=zae b8.o;have f0:=frozen_of_row _ _ 0 _ _ b8.o;have f1:=frozen_of_row _ _ 1 _ _ b8.o;clear hb d6 f6 f8 e7 c6 b4;cases va
 ·have a7:=zjy (zgw (a:=⟨la,A⟩) (b:=⟨lb,B⟩) (by rw [g2.o];simp))
  go_wp2_with fail
  refine zai rfl rfl (zad (i:=1) (zad (i:=0) b8.o)) underlying56 rfl (by kernel_rfl) ?_;rw [<- d8.o];exact ⟨_,by rw [a7.o];rfl,by rw [a7.o];exact BitsAt.none _ _,(e5.o.setCell (p:=⟨w.heap.size+1+1,0,none⟩) (by simp;omega) _).setCell (p:=⟨w.heap.size+1+1,1,none⟩) (by simp;omega) _⟩
 ·go_wp2_with fail
  refine (zed zau _ ⟨lb,B⟩ w1 ⟨_,rfl,d4.o.below e5.o⟩ b1 b2).mono ?_;obtain ⟨vb,b3⟩:=xex (zap ⟨lb,B⟩);rw [b3];rintro e w2 ⟨rfl,hb⟩;have g1:=zjy b3;have a9:=xhh e5 hb;have g8:=zjy (zab hb lA e6.o);have e1:=zjy (zab hb lC e4.o);have a6:=zjy (zab hb lR b8.o);clear hb x0 x1 y0 y1 r0 r1 f0 f1 e5 e6 e4 b8 lA lC lR b3;have lA:=zaa g8.o;have lC:=zaa e1.o;have lR:=zaa a6.o;obtain ⟨x0,x1⟩:=zae g8.o;obtain ⟨y0,y1⟩:=zae e1.o;obtain ⟨r0,r1⟩:=zae a6.o;have f0:=frozen_of_row _ _ 0 _ _ a6.o;have f1:=frozen_of_row _ _ 1 _ _ a6.o;cases vb
  ·have a7:=zjy (zgw (a:=⟨la,A⟩) (b:=⟨lb,B⟩) (by rw [g1.o];simp))
   go_wp2_with fail
   refine zai rfl rfl (zad (i:=1) (zad (i:=0) a6.o)) underlying56 rfl (by kernel_rfl) ?_;rw [<- d8.o];exact ⟨_,by rw [a7.o];rfl,by rw [a7.o];exact BitsAt.none _ _,(a9.o.setCell (p:=⟨w.heap.size+1+1,0,none⟩) (by simp;omega) _).setCell (p:=⟨w.heap.size+1+1,1,none⟩) (by simp;omega) _⟩
  ·by_cases hl:la=lb
   rotate_left
   ·have d0:(la != lb)=true:=by simpa using hl
    have a7:=zjy (zgw (a:=⟨la,A⟩) (b:=⟨lb,B⟩) (fun h=>hl h.2.2))
    clear hl;go_wp2_with fail
    refine zai rfl rfl (zad (i:=1) (zad (i:=0) a6.o)) underlying56 rfl (by kernel_rfl) ?_;rw [<- d8.o];exact ⟨_,by rw [a7.o];rfl,by rw [a7.o];exact BitsAt.none _ _,(a9.o.setCell (p:=⟨w.heap.size+1+1,0,none⟩) (by simp;omega) _).setCell (p:=⟨w.heap.size+1+1,1,none⟩) (by simp;omega) _⟩
   ·subst hl
    have d0:(la != la)=false:=by simp
    have e8:=zcw g2.o;have h7:=zcw g1.o;dsimp only at e8 h7;have i4:nb=na:=by have:=a8.o;have:=c3.o;omega
    subst i4;have hn8:nb<=8:=by have:=c3.o;omega
    have hn1:1<=nb:=by have:=c3.o;omega
    have h9:=zjy (andB_some (a:=⟨la,A⟩) (b:=⟨la,B⟩) ⟨g2.o,g1.o,rfl⟩);have h5:(zih A B).length=nb:=by rw [andL_len (by rw [a8.o,c3.o])];exact a8.o
    have i1:=zjy h5;clear e8 h7 h5;go_wp2_with fail
    have c9:=rcopy9_any zau (.agg #[.int .i64 la,.slice aa nb ca]) ⟨la,A⟩ w2 ⟨_,rfl,d5.o.below a9.o⟩ (by dsimp only;have:=a8.o;omega);refine c9.mono ?_;clear c9;rintro e w3 ⟨v',rfl,ho⟩;dsimp only at ho ⊢
    rcases ho.form with ⟨_,h0⟩ | ⟨g,cp,hv',c9,hcm,lg⟩
    ·have:=a8.o;rw [h0] at this;simp at this;omega
    have f9:A.length=nb:=a8.o;rw [f9] at c9 hv';subst hv';have i5:w2.heap.size<=g:=(World.ownsRow.lt ho.1 g rfl).1;have e9:=ho.1;rw [f9] at e9;have i0:=zjy e9;have g7:=zjy (a9.o.trans (ho.2.mono a9.o.size));have g6:=zjy (zab ho.2 lC e1.o);have g4:=zjy (zab ho.2 lR a6.o);have d2:=(d4.o.below a9.o);have d1:Vec w3 (fun x=>x<w2.heap.size) 1 zc7 (.slice ab nb cb) B:=(d2.move (S':=fun x=>x<w2.heap.size) xnl fun b hb _=>⟨rfl,hb⟩).below ho.2
    have d3:=zjy d1;have i2:=ho.2.size;clear ho e9 f9 d2 d1 x0 x1 y0 y1 r0 r1 f0 f1 hcm c9;go_wp2_with fail
    refine zal (fun W0 hW0=>?_)
    obtain ⟨c8,g9⟩:=xex (w3.heap.size);rw [g9] at lg ⊢;have c2:=xal hW0
    have h6:W0.heap[c8]?=some (.cells #[.int .i64 la,.slice (some ⟨g,0,none⟩) nb cp] 56 (0,0)):=by rw [hW0];exact zac g9.symm
    have g5:=zjy (show MixAt w la (.slice ab nb cb) B g cp c8 nb (mixW (zih A B) A 0) W0 from
     ⟨zab c2 (zaa g6.o) g6.o,zab c2 (zaa g4.o) g4.o,h6,by
      refine zcf ?_ c2;have h:=i0.o;refine ⟨h.1,?_⟩
      rcases h.2 with h0 | ⟨g',cap',c1,hv,hB,rest⟩
      ·exact .inl h0
      ·exact .inr ⟨g',cap',c1,hv,by have:=a9.o.size;omega,rest⟩,⟨by omega,by omega,by omega⟩,(d3.o.below c2).move xnl (fun b _ hb=>⟨rfl,by have hb':b<w2.heap.size:=hb;show b≠g;omega⟩),g7.o.trans (c2.mono g7.o.size)⟩)
    have e0:=i1;have d9:=zjy (show A.length=nb from a8.o);have i9:=zjy (show B.length=nb from c3.o);clear hW0 c2 h6 g7 g6 g4 i0 d3 g8 a9 e1 a6 lA lC lR i1 a8 c3 d5 d4 lg i5 i2;go_loopw [9] (fun i wr=>∃ k:Nat,k<=nb/\i = .int .i64 k/\MixAt w la (.slice ab nb cb) B g cp c8 nb (mixW (zih A B) A k) wr) (fun i _=>nb - (intOf i).toNat)
    case atStart=>exact ⟨0,by omega,rfl,g5.o⟩
    case round =>
     obtain ⟨k,hk,rfl,a3⟩:=hrel;obtain ⟨WR,i6⟩:∃ u,u=wr:=⟨_,rfl⟩;subst i6;have a4:=zjy a3;obtain ⟨d0',i7⟩:=zae a3.hc;have lc8:=zaa a3.hc;by_cases hlt:k<nb
     ·have hq:decide ((k:Int)<nb)=true:=by simp;omega
      have b9:k<A.length:=by rw [d9.o];exact hlt
      have f5:k<B.length:=by rw [i9.o];exact hlt
      have f4:k<(zih A B).length:=by rw [e0.o];exact hlt
      have hki:(k:Int)<(nb:Int):=by omega
      have c0:(zih A B).length=A.length:=by rw [e0.o,d9.o]
      obtain ⟨h8,c4,e2,lb2,h4⟩:=a3.vb.get k f5;cases e2;have g0:=h4 0 _ rfl;rw [Nat.mul_one,Nat.add_zero] at g0;have b5:=mixW_set c0 k b9 f4;have a5:=mixW_get c0 k b9;have b6:=andL_get (A:=A) (B:=B) k b9 f5 f4
      have c5:Vec WR zau 1 zc7 (.slice (some ⟨g,0,none⟩) nb cp) (mixW (zih A B) A k):=by
       have h:=a3.hw;have hl:=mixW_len c0 k (by omega);rw [d9.o] at hl;rw [<- hl] at h;have h2:=Vec.owns (k:=1) (enc:=zc7) (S:=zau) (fun _=>rfl) h fun _ _ _=>trivial
       rw [hl] at h2;exact h2
      obtain ⟨b3',i3,e3,lb3,h1⟩:=c5.get k (by rw [mixW_len c0 k (by omega)];exact b9);cases e3;have d7:=h1 0 _ rfl;rw [Nat.mul_one,Nat.add_zero,Nat.zero_add] at d7;have a0:(mixW (zih A B) A k)[k]'(by rw [mixW_len c0 k (by omega)];exact b9)=A[k]:=by rw [<- a5];exact (zbb _ _ _).symm
      rw [a0] at d7;obtain ⟨x,hx⟩:=xex (A[k]);obtain ⟨y,hy⟩:=xex (B[k]);rw [hx,hy] at b6;rw [hx] at d7;rw [hy] at g0;rw [b6] at b5;have g3:=zjy b5;obtain ⟨b0,i8⟩:=zae a3.hb
      obtain ⟨c1,b7⟩:∃ c1,WR.heap[g]?=some (.cells c1 39 (0,0)):=by
       rcases a3.hw.2 with ⟨e,_⟩ | ⟨g',cap',c1,e,_,hh,_⟩
       ·cases e
       ·cases e;exact ⟨c1,hh⟩
      have fw:=frozen_of_row _ _ k _ _ b7;have lgw:=zaa b7;have lb8:=zaa a3.hb;have hS:=zjy (a3.set k (andW x y));have HS2:=zjy (show bits .and .u64 x y=andW x y from rfl);have dk:((0:Int) == 0)=true:=rfl;clear h4 h1 hx hy b6 b5 a3 b9 f5 f4 c0 a5 a0 c5 b7 g5;go_wp2_with fail
      refine wp_region_noPanic ?_
      refine zaw (by kernel_rfl) (fun w'=>w'.cell? ⟨c8,1,none⟩=some (.slice (some ⟨g,0,none⟩) nb cp)/\w'.cell? ⟨w.heap.size+1,1,none⟩=some (.slice (some ⟨h8,c4,none⟩) nb cb)/\w'.cell? ⟨h8,c4+k,none⟩=some (.int .u64 y)/\w'.cell? ⟨g,k,none⟩=some (.int .u64 x)) 12 (⟨i7,i8,g0,d7⟩) (fun hHeld=>?_)
      refine tK 0 ?_;refine tK 1 ?_;refine tK 2 ?_;refine tK 3 ?_;refine tK 4 ?_;refine tK 5 ?_;refine tK 6 ?_;refine tK 7 ?_;refine tK 8 ?_;refine tK 9 ?_;refine tK 10 ?_;refine tK 11 ?_
      refine xrK 12 rfl fun K hK=>?_
      go_simp;refine zav hK (by decide) ?_;clear hK K;refine zas (by kernel_rfl) ?_ _;refine NoPanic.normal ?_;go_wp2_with fail
      go_roundw
      case rel=>exact ⟨k+1,by omega,by go_num,by rw [<- g3.o];exact hS.o.below (Below.refl _ _).drew⟩
      case measure=>simp [intOf];omega
     ·have hq:decide ((k:Int)<nb)=false:=by simp;omega
      have c7:mixW (zih A B) A k=zih A B:=by
       unfold mixW;rw [List.take_of_length_le (by rw [e0.o];omega),List.drop_eq_nil_of_le (by rw [d9.o];omega),List.append_nil]
      rw [c7] at a4;obtain ⟨r0,r1⟩:=zae a4.o.hr;have f0:=frozen_of_row _ _ 0 _ _ a4.o.hr;have f1:=frozen_of_row _ _ 1 _ _ a4.o.hr;have lr8:=zaa a4.o.hr;clear a3 c7 g5;go_wp2_with fail
      refine zai rfl rfl (zad (i:=1) (zad (i:=0) a4.o.hr)) underlying56 rfl (by kernel_rfl) ?_;rw [<- d8.o];have hne:=a4.o.ne;refine ⟨_,by rw [h9.o];rfl,?_,(a4.o.b.setCell (p:=⟨w.heap.size+2,0,none⟩) (by simp) _).setCell (p:=⟨w.heap.size+2,1,none⟩) (by simp) _⟩;rw [h9.o];refine ⟨_,rfl,?_⟩
      have h3:(((WR.setCell ⟨w.heap.size+2,0,none⟩ (.int .i64 la)).setCell ⟨w.heap.size+2,1,none⟩ (.slice (some ⟨g,0,none⟩) nb cp))).ownsRow w.heap.size 39 1 (.slice (some ⟨g,0,none⟩) nb cp) nb ((zih A B).flatMap zc7) :=
       zdb (r:=some (w.heap.size+2)) a4.o.hw (fun k o hne2 hk'=>zam (zam hk' (fun e=>hne2 (by rw [e]))) (fun e=>hne2 (by rw [e]))) (.inr (by simp [Value.ownBlock];omega))
      have hl:=e0.o;rw [<- hl] at h3;have h2:=Vec.owns (k:=1) (enc:=zc7) (S:=fun x=>w.heap.size<=x) (fun _=>rfl) h3 fun b hb _=>hb
      rw [hl] at h2;exact h2
theorem rand9_any (S T:Nat->Prop) (u v:Value) (a b:BitsL) (w:World) (hu:BitsAt w S u a) (hv:BitsAt w T v b) (ha:InI a.len) (hbI:InI b.len) :
  Calls prog 52 #[u,v] w (zf3 a b w):=by
 obtain ⟨sa,rfl,a8⟩:=hu;obtain ⟨sb,rfl,a7⟩:=hv;have b0:=zjy a8;have a9:=zjy a7;clear a8 a7;obtain ⟨er,a5⟩:∃ er:Int,(if (andB a b).isSome=true then 0 else 8)=er:=⟨_,rfl⟩;obtain ⟨x,hx⟩:=xex ((andB a b).getD zch);unfold zf3;rw [a5,hx];have b2:=zjy a5;have HX:=zjy hx;clear a5 hx;go_enter func52,ntmps52
 go_wp2_with fail
 refine zah (fun W hW=>?_)
 have a2:Below w.heap.size w W:=by rw [hW];exact (((Below.refl _ _).alloc xnl _).alloc (by simp) _).alloc (by simp;omega) _
 have a4:W.heap[w.heap.size+1+1]?=some (.cells #[.int .i64 0,.slice none 0 0] 56 (0,0)):=by rw [hW];exact zac (by simp)
 clear hW;refine (rcombine_and S T _ _ a b W ⟨_,rfl,b0.o.below a2⟩ ⟨_,rfl,a9.o.below a2⟩ ha.1 ha.2 hbI.1 hbI.2).mono ?_;rintro e w1 ⟨_,rfl,⟨s1,rfl,a0⟩,hb⟩;rw [HX.o] at a0;rw [b2.o,HX.o];obtain ⟨a1,c1,rfl⟩:=a0.slice;have a6:=zaa a4;have a3:=zjy (zab hb a6 a4);have b3:=zjy (a2.trans (hb.mono a2.size));obtain ⟨n,hn⟩:=xex (x.words.length);rw [hn] at a0 ⊢;have b1:=zjy (a0.move (w':=w1) (S':=fun q=>w.heap.size<=q/\q≠w.heap.size+1+1) xnl fun q _ h=>⟨rfl,by have h':W.heap.size<=q:=h;omega⟩)
 obtain ⟨r0,r1⟩:=zae a3.o;have f0:=frozen_of_row _ _ 0 _ _ a3.o;have f1:=frozen_of_row _ _ 1 _ _ a3.o;have lR:=zaa a3.o;dsimp only;clear a0 hb a2 a4 a6 hn;go_wp2_with fail
 refine zai rfl rfl (zad (i:=1) (zad (i:=0) a3.o)) underlying56 rfl (by kernel_rfl) ?_;refine ⟨_,rfl,⟨_,rfl,?_⟩,(b3.o.setCell (p:=⟨w.heap.size+1+1,0,none⟩) (by show w.heap.size<=w.heap.size+1+1;omega) _).setCell (p:=⟨w.heap.size+1+1,1,none⟩) (by show w.heap.size<=w.heap.size+1+1;omega) _⟩;exact ((b1.o.far (fun q h=>h.2)).far (fun q h=>h.2)).move xnl fun q _ h=>⟨rfl,h.1⟩
end
section
open Go.RowKit
def ziz:List BitsL->Option (Option BitsL)
 | []=>none
 | b :: r=>some (zes b r)
theorem alwSt_no {L:List BitsL} {k:Nat} (h:k<L.length) (hv:zap L[k]=false):ziz ((L.take (k+1)).filter zap)=ziz ((L.take k).filter zap):=by
 rw [List.take_succ_eq_append_getElem h,List.filter_append];simp [hv]
theorem alwSt_yes {L:List BitsL} {k:Nat} (h:k<L.length) (hv:zap L[k]=true):ziz ((L.take (k+1)).filter zap)=match ziz ((L.take k).filter zap) with
  | none=>some (some L[k])
  | some r=>some (r.bind fun x=>andB x L[k]):=by
 rw [List.take_succ_eq_append_getElem h,List.filter_append];simp only [List.filter_cons,hv,if_true,List.filter_nil];cases hc:(L.take k).filter zap with
 | nil=>rfl
 | cons b r=>simp only [List.cons_append,ziz];rw [zix]
theorem always_st (L:List BitsL):zb6 L=match ziz (L.filter zap) with
  | none=>0
  | some none=>0
  | some (some x)=>zcn x:=by
 unfold zb6;cases L.filter zap with
 | nil=>rfl
 | cons b r=>simp only [ziz];cases zes b r <;> rfl
theorem always_dead {L:List BitsL} {k:Nat} (h:ziz ((L.take k).filter zap)=some none):zb6 L=0:=by
 rw [always_st];have e:L.filter zap=(L.take k).filter zap++(L.drop k).filter zap:=by rw [<- List.filter_append,List.take_append_drop]
 rw [e];cases hc:(L.take k).filter zap with
 | nil=>rw [hc] at h;cases h
 | cons b r =>
  rw [hc] at h;have h2:zes b r=none:=by simpa [ziz] using h
  simp only [List.cons_append,ziz,ziy _ _ _ h2]
theorem bits_far2 {W:World} {A Y:Nat} {u v x:Value} {b:BitsL} (h:BitsAt W (fun q=>q≠A/\q≠Y) x b):BitsAt ((W.setCell ⟨Y,0,none⟩ u).setCell ⟨Y,1,none⟩ v) (fun q=>q≠A/\q≠Y) x b:=by
 obtain ⟨s,e,hv⟩:=h;exact ⟨s,e,(hv.far fun q h=>h.2).far fun q h=>h.2⟩
theorem ralways_any (S:Nat->Prop) (v:Value) (L:List BitsL) (w:World) (h:BitsVec w S v L) (hi:∀ b∈L,InI b.len) (hw:∀ b∈L,zap b=true->zgx b.words) (hn:L.length<=1000000) :
  Calls prog 20 #[v] w fun e w'=>e = .returned (.int .i64 (zb6 L))/\Below w.heap.size w w':=by
 obtain ⟨a,f9,rfl⟩:=h.slice;have HI:=zjy hi;have g5:=zjy hw;have HV:=zjy (h.move (T:=zau) xnl fun _ _ _=>⟨rfl,trivial⟩)
 have HF:=zjy (show ∀ r:Int,zb6 L=r->Ending.returned (.int .i64 r) = .returned (.int .i64 (zb6 L)) from fun r h=>by rw [h])
 clear h hi hw;obtain ⟨n,d1⟩:=xex (L.length);have HN:=zjy d1;rw [d1] at HV hn ⊢;clear d1;go_enter func20,ntmps20
 go_wp2_with fail
 refine zal (fun W3 hW3=>?_)
 have b3:=xal hW3
 have g3:W3.heap[w.heap.size]?=some (.cells #[.int .i64 0,.slice none 0 0] 56 (0,0)):=by rw [hW3];exact zac rfl
 clear hW3;obtain ⟨A,hA⟩:=xex (w.heap.size);have g7:=zjy (show BitsVec w (fun q=>q≠A) (.slice a n f9) L from HV.o.move (T:=fun q=>q≠A) xnl fun q hq _=>⟨rfl,by show q≠A;omega⟩)
 have h3:=zjy (show W3.heap[A]?=some (.cells #[.int .i64 0,.slice none 0 0] 56 (0,0)) by rw [<- hA];exact g3);have h5:=zjy b3;have f3:=zjy hA;rw [hA];clear g3 b3 hA HV;go_loopw [4,5,6,7] (fun f i _ _ wr=>∃ k:Nat,k<=n/\i = .int .i64 k/\∃ (x:BV) (X:BitsL) (fb:Bool),f = .bool fb/\wr.heap[A]?=some (.cells (za4 x).toArray 56 (0,0))/\BitsAt wr (fun q=>q≠A) (.agg (za4 x).toArray) X/\Hid (ziz ((L.take k).filter zap)=(if fb=true then some (some X) else none)/\InI X.len/\(zap X=true->zgx X.words)/\(fb=false->X=zch))/\Below w.heap.size w wr) (fun _ i _ _ _=>n - (intOf i).toNat)
 case atStart=>exact ⟨0,by omega,rfl,⟨0,none,0,0⟩,zch,false,rfl,h3.o,BitsAt.none _ _,zjy ⟨by simp [ziz],⟨by decide,by decide⟩,fun h=>(by rw [zh1] at h;cases h),fun _=>rfl⟩,h5.o⟩
 case round =>
  obtain ⟨k,hk,rfl,⟨yl,ya,yn,yc⟩,X,fb,rfl,hgA,hX,HAnd,hbw⟩:=hrel;obtain ⟨WR,f5⟩:∃ u,u=wr:=⟨_,rfl⟩;subst f5;have h2:=zjy hgA;have HX:=zjy hX;have d9:=zjy hbw;have lA:=zaa hgA;by_cases hlt:k<n
  ·have hq:decide ((k:Int)<n)=true:=by simp;omega
   have hki:(k:Int)<(n:Int):=by omega
   have b7:k<L.length:=by rw [HN.o];exact hlt
   obtain ⟨b',a3,⟨zl,za,zn,zc⟩,e',lb',z0,z1,hz⟩:=(g7.o.below hbw).at k b7;cases e';dsimp only at z0 z1;rw [zbb _ _ b7] at hz;have d0:=alwSt_no b7;have a4:=alwSt_yes b7;have b0:=@always_dead L (k+1);have c3:=HI.o _ (List.getElem_mem b7);have d4:=g5.o _ (List.getElem_mem b7);obtain ⟨Z,hZ⟩:=xex (L[k]);rw [hZ] at hz d0 a4 c3 d4;have HZ:=zjy hz;have g9:=zjy d0;have g0:=zjy a4;have e8:=zjy c3;have g4:=zjy d4;have c4:=zjy b0;have c7:=zed (fun q=>q≠A) _ Z WR hz c3.1 c3.2
   obtain ⟨vb,c8⟩:=xex (zap Z);rw [c8] at c7;have g6:=zjy c7;have e7:=zjy c8;clear hz d0 a4 c3 d4 b0 hZ c7 c8 hgA hX hbw;go_wp2_with fail
   refine g6.o.mono ?_;rintro e w1 ⟨rfl,a6⟩;have HB1:=zjy a6;have b2:=xhh d9 a6;have a2:=zjy (zab a6 lA h2.o);have e6:=zjy (HX.o.below a6);have e5:=zjy (HZ.o.below a6);have c0:=(a6.cell (p:=⟨b',a3+k*2,none⟩) lb').trans z0;have c1:=(a6.cell (p:=⟨b',a3+k*2+1,none⟩) lb').trans z1;have e2:b'<w1.heap.size:=Nat.lt_of_lt_of_le lb' a6.size;have c6:=zaa a2.o;clear a6 z0 z1 lb' lA;cases vb
   ·go_wp2_with fail
    go_roundw
    case rel=>exact ⟨k+1,by omega,by go_num,⟨yl,ya,yn,yc⟩,X,fb,rfl,a2.o,e6.o,zjy ⟨by rw [g9.o e7.o];exact HAnd.o.1,HAnd.o.2⟩,b2.o⟩
    case measure=>simp [intOf];omega
   ·have a4:=g0.o e7.o
    rw [HAnd.o.1] at a4;cases fb
    ·have a8:=zjy (show ziz ((L.take (k+1)).filter zap)=some (some Z) from a4)
     have f0:=frozen_of_row _ _ 0 _ _ a2.o;have f1:=frozen_of_row _ _ 1 _ _ a2.o;obtain ⟨a0,a1⟩:=zae a2.o;clear a4;go_wp2_with fail
     have hW:∀ W6,W6=((w1.setCell ⟨A,0,none⟩ (.int .i64 zl)).setCell ⟨A,1,none⟩ (.slice za zn zc)) ->
       W6.heap[A]?=some (.cells (za4 ⟨zl,za,zn,zc⟩).toArray 56 (0,0))/\BitsAt W6 (fun q=>q≠A) (.agg (za4 ⟨zl,za,zn,zc⟩).toArray) Z/\Below w.heap.size w W6:=by
      intro W6 a7;have f6:=f3.o;refine ⟨by rw [a7];exact two_set a2.o (.int .i64 zl) (.slice za zn zc),?_,by rw [a7];exact (b2.o.setCell (p:=⟨A,0,none⟩) (by show w.heap.size<=A;omega) _).setCell (p:=⟨A,1,none⟩) (by show w.heap.size<=A;omega) _⟩;obtain ⟨s,e,hv⟩:=e5.o
      refine ⟨s,e,hv.move (S':=fun q=>q≠A) (by rw [a7];simp [World.setCell]) fun q hq hqA=>⟨?_,hqA⟩⟩
      rw [a7,Below.heap_setCell _ _ _ _ hqA,Below.heap_setCell _ _ _ _ hqA]
     have HW:=zjy (hW _ rfl);clear hW a0 a1 f0 f1;go_roundw
     case rel=>exact ⟨k+1,by omega,by go_num,⟨zl,za,zn,zc⟩,Z,true,rfl,HW.o.1,HW.o.2.1,zjy ⟨a8.o,e8.o,g4.o,fun h=>by cases h⟩,HW.o.2.2⟩
     case measure=>simp [intOf];omega
    ·have b1:ziz ((L.take (k+1)).filter zap)=some (andB X Z):=a4
     obtain ⟨P,hP⟩:=xex (andB X Z);have c5:=fun (W:World) (hb:Below w1.heap.size w1 W)=>rand9_any (fun q=>q≠A) (fun q=>q≠A) _ _ X Z W (e6.o.below hb) (e5.o.below hb) HAnd.o.2.1 e8.o
     unfold zf3 at c5;rw [hP] at c5 b1;have HP:=zjy hP;have d8:=zjy c5;have a8:=zjy b1;obtain ⟨er,d2⟩:∃ er:Int,(if P.isSome=true then 0 else 8)=er:=⟨_,rfl⟩;rw [d2] at d8;have e9:=zjy d2;obtain ⟨a0,a1⟩:=zae a2.o;clear a4 b1 hP c5 d2;go_wp2_with fail
     go_cut [6,7] (fun s6 s7 wx=>∃ (Y:Nat) (p:BV),s6 = .pointer (some ⟨Y,0,none⟩)/\s7 = .int .i64 er/\Y≠A/\wx.heap[Y]?=some (.cells (za4 p).toArray 56 (0,0))/\wx.heap[A]?=some (.cells #[.int .i64 yl,.slice ya yn yc] 56 (0,0))/\BitsAt wx (fun q=>q≠A/\q≠Y) (.agg (za4 p).toArray) (P.getD zch)/\Below w1.heap.size w1 wx)
     case first =>
      refine wp_region_noPanic ?_
      refine wp_region_held_drew (S:=(fun w'=>(w'.cell? ⟨A,0,none⟩=some (.int .i64 yl)/\w'.cell? ⟨A,1,none⟩=some (.slice ya yn yc))/\w'.cell? ⟨b',a3+k*2,none⟩=some (.int .i64 zl)/\w'.cell? ⟨b',a3+k*2+1,none⟩=some (.slice za zn zc))) (by kernel_rfl) (⟨⟨a0,a1⟩,c0,c1⟩) (fun hHeld=>?_)
      have HS:=zjy (show ∀ W,Below w1.heap.size w1 W->(W.cell? ⟨A,0,none⟩=some (.int .i64 yl)/\W.cell? ⟨A,1,none⟩=some (.slice ya yn yc))/\W.cell? ⟨b',a3+k*2,none⟩=some (.int .i64 zl)/\W.cell? ⟨b',a3+k*2+1,none⟩=some (.slice za zn zc) from fun W hb=>⟨zae (zab hb c6 a2.o),(hb.cell (p:=⟨b',a3+k*2,none⟩) e2).trans c0,(hb.cell (p:=⟨b',a3+k*2+1,none⟩) e2).trans c1⟩)
      refine tH 0 ?_;refine tH 1 ?_;refine tH 2 ?_;refine tH 3 ?_;refine tH 4 ?_;refine wpAnyH_ready (rs:=[5,9]) (by kernel_rfl) (by simp) ?_
      refine AllReadyH.cons rfl (fun K hK=>?_) (AllReadyH.cons rfl (fun K hK=>?_) AllReadyH.nil)
      focus
       go_simp;refine (d8.o _ (Below.refl _ _).drew).mono ?_;rintro e w4 ⟨v4,rfl,b9,a5⟩;have b4:Below w1.heap.size w1 w4:=(Below.refl _ _).drew.trans a5;obtain ⟨⟨pl,pa,pn,pc⟩,rfl,hv5⟩:=b9.form;have c9:=BitsAt.weaken (T:=fun q=>w1.heap.size<=q) hv5 (fun q hq=>hq)
       refine hK.out _ _ (HS.o _ b4) (fun hHeld=>?_)
       clear hK K;refine tH 6 ?_;refine tH 7 ?_;refine tH 8 ?_
       refine xrH 9 rfl fun K hK=>?_
       go_simp;have b5:Below w1.heap.size w1 (w4.alloc (.cells #[.int .i64 0,.slice none 0 0] 56)):=b4.alloc b4.size _
       refine hK.out _ _ (HS.o _ b5) (fun hHeld=>?_)
       clear hK K
       refine zcl (fun V2 hV2=>?_)
       have g2:V2.heap[w4.heap.size]?=some (.cells #[.int .i64 0,.slice none 0 0] 56 (0,0)):=by rw [hV2];exact zac rfl
       have d5:=xal hV2
       rw [<- hV2] at b5;have hv7:=zjy ((c9.move (w':=w4) xnl fun q _ _=>rfl).below d5)
       have z14:=b4.size;obtain ⟨Y,hY⟩:=xex (w4.heap.size)
       have d7:=zjy (show BitsAt V2 (fun q=>q≠A/\q≠Y) (.agg #[.int .i64 pl,.slice pa pn pc]) (P.getD zch) from by
        obtain ⟨s,e,hv⟩:=c9
        exact ⟨s,e,(hv.move (w':=w4) (S':=fun q=>q≠A/\q≠Y) xnl fun q hq hs=>⟨rfl,by have e4:w1.heap.size<=q:=hs;show q≠A;omega,by show q≠Y;omega⟩).below d5⟩)
       rw [hY] at g2 ⊢;clear hV2 hHeld d5 b9 hv5 c9 a5;have hHeld:=HS.o _ b5;have b8:Y≠A:=by omega
       obtain ⟨e0,e1⟩:=zae g2;have f8:=frozen_of_row _ _ 0 _ _ g2;have f7:=frozen_of_row _ _ 1 _ _ g2;have c2:=(b5.setCell (p:=⟨Y,0,none⟩) (by show w1.heap.size<=Y;omega) (.int .i64 pl)).setCell (p:=⟨Y,1,none⟩) (by show w1.heap.size<=Y;omega) (.slice pa pn pc);have b6:=zjy c2;have d6:=zjy b8;clear hY c2 b8
       refine xrH 10 rfl fun K hK=>?_
       go_simp;skip
       refine hK.out _ _ (HS.o _ b6.o) (fun hHeld=>?_)
       clear hK K;refine tH 11 ?_;refine wpAnyH_done (by kernel_rfl) ?_ _;refine NoPanic.normal ?_;go_wp2_with fail
       go_meet;exact ⟨Y,⟨pl,pa,pn,pc⟩,rfl,rfl,d6.o,two_set g2 _ _,zab b6.o c6 a2.o,bits_far2 d7.o,b6.o⟩
      focus
       go_simp;have b5:Below w1.heap.size w1 (w1.alloc (.cells #[.int .i64 0,.slice none 0 0] 56)).drew:=((Below.refl _ _).alloc xnl _).drew
       refine hK.out _ _ (HS.o _ b5) (fun hHeld=>?_)
       clear hK K
       refine zcl (fun V1 hV1=>?_)
       rw [<- hV1] at b5;have g1:V1.heap[w1.heap.size]?=some (.cells #[.int .i64 0,.slice none 0 0] 56 (0,0)):=by rw [hV1];exact zac rfl
       clear hV1 hHeld;have hHeld:=HS.o _ b5
       refine xrH 5 rfl fun K hK=>?_
       go_simp;refine (d8.o V1 b5).mono ?_;rintro e w4 ⟨v4,rfl,b9,a5⟩;have b4:Below w1.heap.size w1 w4:=b5.trans (a5.mono b5.size);obtain ⟨⟨pl,pa,pn,pc⟩,rfl,hv5⟩:=b9.form
       refine hK.out _ _ (HS.o _ b4) (fun hHeld=>?_)
       clear hK K;have f4:=zaa g1;have g2:=zab a5 f4 g1;obtain ⟨Y,hY⟩:=xex (w1.heap.size)
       have d7:=zjy (show BitsAt w4 (fun q=>q≠A/\q≠Y) (.agg #[.int .i64 pl,.slice pa pn pc]) (P.getD zch) from by
        obtain ⟨s,e,hv⟩:=hv5
        exact ⟨s,e,hv.move (S':=fun q=>q≠A/\q≠Y) xnl fun q hq hs=>⟨rfl,by have e4:V1.heap.size<=q:=hs;show q≠A;omega,by have e4:V1.heap.size<=q:=hs;show q≠Y;omega⟩⟩)
       rw [hY] at g2 ⊢;clear b9 hv5 a5 g1;have b8:Y≠A:=by omega
       obtain ⟨e0,e1⟩:=zae g2;have f8:=frozen_of_row _ _ 0 _ _ g2;have f7:=frozen_of_row _ _ 1 _ _ g2;have c2:=(b4.setCell (p:=⟨Y,0,none⟩) (by show w1.heap.size<=Y;omega) (.int .i64 pl)).setCell (p:=⟨Y,1,none⟩) (by show w1.heap.size<=Y;omega) (.slice pa pn pc);have b6:=zjy c2;have d6:=zjy b8;clear hY c2 b8;refine tH 6 ?_;refine tH 7 ?_;refine tH 8 ?_
       refine xrH 10 rfl fun K hK=>?_
       go_simp;skip
       refine hK.out _ _ (HS.o _ b6.o) (fun hHeld=>?_)
       clear hK K;refine tH 11 ?_;refine wpAnyH_done (by kernel_rfl) ?_ _;refine NoPanic.normal ?_;go_wp2_with fail
       go_meet;exact ⟨Y,⟨pl,pa,pn,pc⟩,rfl,rfl,d6.o,two_set g2 _ _,zab b6.o c6 a2.o,bits_far2 d7.o,b6.o⟩
     case rest =>
      obtain ⟨Y,⟨pl,pa,pn,pc⟩,rfl,rfl,b8,hgY,hgA2,hp2,hb2⟩:=hcut;have g8:=zjy hp2;have h0:=zjy hgY;have a9:=zjy hgA2;have f2:=xhh b2 hb2;have lA2:=zaa hgA2;have lY2:=zaa hgY;clear hp2 hgY hgA2 hb2 a0 a1 c0 c1;cases P with
      | none =>
       have HR:=zjy (show zb6 L=0 from c4.o a8.o);have d3:er=8:=by rw [<- e9.o];rfl
       subst d3;go_wp2_with fail
       go_ret;exact ⟨HF.o _ HR.o,f2.o⟩
      | some Q =>
       have hy:=andB_len HP.o;have HY:=zjy hy;have d3:er=0:=by rw [<- e9.o];rfl
       subst d3;obtain ⟨y0,y1⟩:=zae h0.o;have f0:=frozen_of_row _ _ 0 _ _ a9.o;have f1:=frozen_of_row _ _ 1 _ _ a9.o;obtain ⟨a0,a1⟩:=zae a9.o;clear hy;go_wp2_with fail
       have hW:∀ W6,W6=((wc.setCell ⟨A,0,none⟩ (.int .i64 pl)).setCell ⟨A,1,none⟩ (.slice pa pn pc)) ->
         W6.heap[A]?=some (.cells (za4 ⟨pl,pa,pn,pc⟩).toArray 56 (0,0))/\BitsAt W6 (fun q=>q≠A) (.agg (za4 ⟨pl,pa,pn,pc⟩).toArray) Q/\Below w.heap.size w W6:=by
        intro W6 a7;have f6:=f3.o;refine ⟨by rw [a7];exact two_set a9.o (.int .i64 pl) (.slice pa pn pc),?_,by rw [a7];exact (f2.o.setCell (p:=⟨A,0,none⟩) (by show w.heap.size<=A;omega) _).setCell (p:=⟨A,1,none⟩) (by show w.heap.size<=A;omega) _⟩;obtain ⟨s,e,hv⟩:=g8.o
        refine ⟨s,e,hv.move (S':=fun q=>q≠A) (by rw [a7];simp [World.setCell]) fun q hq hqA=>⟨?_,hqA.1⟩⟩
        rw [a7,Below.heap_setCell _ _ _ _ hqA.1,Below.heap_setCell _ _ _ _ hqA.1]
       have HW:=zjy (hW _ rfl);clear hW a0 a1 f0 f1 y0 y1;go_roundw
       case rel=>exact ⟨k+1,by omega,by go_num,⟨pl,pa,pn,pc⟩,Q,true,rfl,HW.o.1,HW.o.2.1,zjy ⟨by rw [a8.o];rfl,(HAnd.o.2.1).len HY.o.1,fun _=>HY.o.2.1,fun h=>by cases h⟩,HW.o.2.2⟩
       case measure=>simp [intOf];omega
  ·have hq:decide ((k:Int)<n)=false:=by simp;omega
   have e3:ziz (L.filter zap)=(if fb=true then some (some X) else none):=by
    have h1:=HAnd.o.1;rwa [List.take_of_length_le (by rw [HN.o];omega)] at h1
   have HR:=zjy (show zb6 L=zcn X by
    rw [always_st,e3];cases fb
    ·have:=HAnd.o.2.2.2 rfl
     rw [this];simp [zcn,zh1]
    ·rfl)
   obtain ⟨x0,x1⟩:=zae hgA;clear hgA hX hbw e3;go_wp2_with fail
   refine (rcount9_any (fun q=>q≠A) _ X _ HX.o HAnd.o.2.1.1 HAnd.o.2.1.2 HAnd.o.2.2.1).mono ?_
   rintro e w4 ⟨rfl,a5⟩;have h4:=zjy a5;clear x0 x1 a5;go_wp2_with fail
   go_ret;exact ⟨HF.o _ HR.o,d9.o.trans (h4.o.mono d9.o.size)⟩
end
end Go.Proofs.YtgkaafncfjlooaaGreatDoor
