/- Parts of one proof: EncA, EncB, EncC, EncD, EncF, HexA, HexB, RecA, EncE, DeckKey, RefTextA, RefTextB, FoldPlain, RefTextC, RefTextD, RefTextE, RefNameA, RefNameB, RefNameC, RefNameD, RefSchA, RefAddrA, RefAddrB, RefAddrC. -/
import Derived.Test.YtgkaafncfjlooaaGreatDoorPartEx3
import Derived.Deep.RegionWith
set_option maxHeartbeats 16000000
set_option maxRecDepth 100000
open Go.Proofs.Tryz
set_option linter.unusedSimpArgs false
set_option linter.unusedVariables false
namespace Go.Proofs.YtgkaafncfjlooaaGreatDoor
section
open Go.RowKit
attribute [local go_sem] zag zaj za6
theorem digs_len (i:Nat) (h:i<100):(Lib.decDigits i).length<=2:=by
 have:∀ j:Fin 100,(Lib.decDigits j).length<=2:=by decide +kernel
 exact this ⟨i,h⟩
theorem derive_any (k:Int × Int) (i:Nat) (b:Bool) (s:List UInt8) (w:World) (hi:i<100) (hs:s.length<=50000) :
  Calls prog 140 #[.agg #[.int .i64 i,.bool b,zak s],.agg #[.int .u64 k.1,.int .u64 k.2]] w fun e w'=>e = .returned (.agg #[.int .u64 (keyN k (Lib.decDigits i) b s).1,.int .u64 (keyN k (Lib.decDigits i) b s).2])/\Below w.heap.size w w':=by
 have hd:=digs_len i hi;have b4:=fun w=>Tryz.strconv_Itoa_small i hi w
 obtain ⟨t,ht⟩:=xex (Lib.decDigits i);rw [ht] at hd b4 ⊢;have c6:=zjy b4;obtain ⟨x,hx⟩:=xex (zer k.1 k.2 (zdv t));have hl1:¬ 9223372036854775807<5+t.length:=by omega
 have hl2:¬ 9223372036854775807<5+s.length:=by omega
 have b9:(zdv t).length<=60000:=by simp [zdv];omega
 have b7:(zem s).length<=60000:=by simp [zem];omega
 obtain ⟨ft,a9⟩:=xex (zdv t);obtain ⟨st,a7⟩:=xex (zem s);rw [a9] at hx b9;rw [a7] at b7;have hf5:102 :: 105 :: 101 :: 108 :: 100 :: t=ft:=a9;have hs5:115 :: 97 :: 108 :: 116 :: 61 :: s=st:=a7;have HX:=zjy hx;have c7:=zjy a9;have c4:=zjy a7;clear b4 ht hx a9 a7;obtain ⟨r,hr⟩:=xex (keyN k t b s);have a2:(bif b then zer x.1 x.2 (zem s) else x)=r:=by rw [<- hr,<- HX.o,<- c7.o];rfl
 rw [hr];have HR:=zjy a2;clear hr a2;go_enter func140,ntmps140
 go_wp2_with fail
 refine zal (fun W hW=>?_)
 have c1:Below w.heap.size w W:=by rw [hW];exact (((Below.refl _ _).alloc xnl _).alloc (by simp) _).alloc (by simp;omega) _
 have b2:W.heap[w.heap.size]?=some (.cells #[.int .i64 i,.bool b,zak s] 192 (0,0)):=by rw [hW];exact zaf (zaf (zac rfl))
 have b3:W.heap[w.heap.size+1]?=some (.cells #[.int .u64 k.1,.int .u64 k.2] 41 (0,0)):=by rw [hW];exact zaf (zac (by simp))
 have b8:W.heap[w.heap.size+2]?=some (.cells #[.int .u64 0,.int .u64 0] 41 (0,0)):=by rw [hW];exact zac (by simp)
 clear hW;have b6:=zjy c1;have b0:=zjy b2;have a6:=zjy b3;have b5:=zjy b8;obtain ⟨o0,o1,o2⟩:=zan b2;obtain ⟨k0,k1⟩:=zae b3;clear c1 b2 b3 b8;refine wp_region_noPanic ?_
 refine zaw (by kernel_rfl) (fun w'=>w'.cell? ⟨w.heap.size+1,0,none⟩=some (.int .u64 k.1)/\w'.cell? ⟨w.heap.size+1,1,none⟩=some (.int .u64 k.2)/\w'.cell? ⟨w.heap.size,0,none⟩=some (.int .i64 i)) 6 (⟨k0,k1,o0⟩) (fun hHeld=>?_)
 refine tK 0 ?_;refine tK 1 ?_;refine tK 2 ?_
 refine xrK 3 rfl fun K hK=>?_
 go_simp;refine (c6.o _).mono ?_;rintro e w1 ⟨rfl,rfl⟩
 refine zbc hK (⟨k0,k1,o0⟩) (fun hHeld=>?_)
 clear hK K;refine tK 4 ?_
 refine xrK 5 rfl fun K hK=>?_
 go_simp;refine (sderive_any k.1 k.2 ft _ b9).mono ?_;rw [HX.o];rintro e w1 ⟨rfl,hb⟩;have a0:=((Below.refl W.heap.size W).drew).trans hb;clear hb
 refine zbc hK (⟨(a0.cell (p:=⟨w.heap.size+1,0,none⟩) (zaa a6.o)).trans k0,(a0.cell (p:=⟨w.heap.size+1,1,none⟩) (zaa a6.o)).trans k1,(a0.cell (p:=⟨w.heap.size,0,none⟩) (zaa b0.o)).trans o0⟩) (fun hHeld=>?_)
 clear hK K;have a3:=zab a0 (zaa a6.o) a6.o;obtain ⟨k2,k3⟩:=zae a3;have f0:=frozen_of_row _ _ 0 _ _ a3;have f1:=frozen_of_row _ _ 1 _ _ a3;have zk:=zaa a3
 refine xrK 6 rfl fun K hK=>?_
 go_simp;refine zav hK (by decide) ?_;clear hK K;refine zas (by kernel_rfl) ?_ _;refine NoPanic.normal ?_;clear k2 k3 f0 f1 k0 k1 o0 o1 o2
 refine zci (fun W2 hW2=>?_)
 have a8:W2.heap[w.heap.size+1]?=some (.cells #[.int .u64 x.1,.int .u64 x.2] 41 (0,0)):=by rw [hW2];exact zad (i:=1) (v:=.int .u64 x.2) (zad (i:=0) (v:=.int .u64 x.1) a3)
 have b1:W2.heap[w.heap.size]?=some (.cells #[.int .i64 i,.bool b,zak s] 192 (0,0)):=by rw [hW2];exact zam (zam (zab a0 (zaa b0.o) b0.o) (by show w.heap.size≠w.heap.size+1;omega)) (by show w.heap.size≠w.heap.size+1;omega)
 have a2:W2.heap[w.heap.size+2]?=some (.cells #[.int .u64 0,.int .u64 0] 41 (0,0)):=by rw [hW2];exact zam (zam (zab a0 (zaa b5.o) b5.o) (by show w.heap.size+2≠w.heap.size+1;omega)) (by show w.heap.size+2≠w.heap.size+1;omega)
 have c0:Below w.heap.size w W2:=by rw [hW2];exact ((b6.o.trans (a0.mono b6.o.size)).setCell (p:=⟨w.heap.size+1,0,none⟩) (Nat.le_succ _) _).setCell (p:=⟨w.heap.size+1,1,none⟩) (Nat.le_succ _) _
 clear hW2 a0 a3 zk hHeld b6 b0 a6 b5;have c3:=zjy c0;have a4:=zjy a2;have c2:=zjy a8;obtain ⟨o0,o1,o2⟩:=zan b1;obtain ⟨k0,k1⟩:=zae a8;have zo:=zaa b1;have zk:=zaa a8;have zr:=zaa a2;clear c0 a2 a8 b1;cases b
 ·obtain ⟨r0,r1⟩:=zae a4.o
  have f0:=frozen_of_row _ _ 0 _ _ a4.o;have f1:=frozen_of_row _ _ 1 _ _ a4.o;go_wp2_with fail
  rw [<- show x=r from HR.o]
  exact za5 rfl rfl (zad (i:=1) (v:=.int .u64 x.2) (zad (i:=0) (v:=.int .u64 x.1) a4.o)) underlying41 rfl (by kernel_rfl)
   ⟨rfl,(c3.o.setCell (p:=⟨w.heap.size+2,0,none⟩) (by show w.heap.size<=w.heap.size+2;omega) _).setCell (p:=⟨w.heap.size+2,1,none⟩) (by show w.heap.size<=w.heap.size+2;omega) _⟩
 ·go_wp2_with fail
  refine (sderive_any x.1 x.2 st _ b7).mono ?_;rw [show zer x.1 x.2 st=r by rw [<- c4.o];exact HR.o];rintro e w3 ⟨rfl,hb⟩;have a5:=zab hb (zaa c2.o) c2.o;have a1:=zab hb (zaa a4.o) a4.o;have c8:=xhh c3 hb;have c5:=zjy a1;obtain ⟨k2,k3⟩:=zae a5;have f2:=frozen_of_row _ _ 0 _ _ a5;have f3:=frozen_of_row _ _ 1 _ _ a5;obtain ⟨r0,r1⟩:=zae a1;have f0:=frozen_of_row _ _ 0 _ _ a1;have f1:=frozen_of_row _ _ 1 _ _ a1;have zk3:=zaa a5;have zr3:=zaa a1;clear hb a5 a1 o0 o1 o2 k0 k1;go_wp2_with fail
  exact za5 rfl rfl (zad (i:=1) (v:=.int .u64 r.2) (zad (i:=0) (v:=.int .u64 r.1) (zam (zam c5.o (by show w.heap.size+2≠w.heap.size+1;omega)) (by show w.heap.size+2≠w.heap.size+1;omega)))) underlying41 rfl (by kernel_rfl)
   ⟨rfl,(((c8.o.setCell (p:=⟨w.heap.size+1,0,none⟩) (Nat.le_succ _) _).setCell (p:=⟨w.heap.size+1,1,none⟩) (Nat.le_succ _) _).setCell (p:=⟨w.heap.size+2,0,none⟩) (by show w.heap.size<=w.heap.size+2;omega) _).setCell (p:=⟨w.heap.size+2,1,none⟩) (by show w.heap.size<=w.heap.size+2;omega) _⟩
end
section
open Go.RowKit Cal
attribute [local go_sem] zag zaj za6
theorem vec_str {w:World} {S:Nat->Prop} {a:Option Addr} {n cap:Nat} {L:List (List UInt8)} (h:Vec w S 1 za8 (.slice a n cap) L) (j:Nat) (hj:j<L.length):∃ b off,a=some ⟨b,off,none⟩/\b<w.heap.size/\w.cell? ⟨b,off+j,none⟩=some (zak (L.getD j [])):=by
 obtain ⟨b,off,e,hb,hc⟩:=h.get j hj;refine ⟨b,off,e,hb,?_⟩;have:=hc 0 _ rfl;rw [Nat.mul_one,Nat.add_zero] at this;rw [List.getD,List.getElem?_eq_getElem hj];exact this
def FieldPost (b:BitsL) (w:World) (e:Ending) (w':World):Prop:=∃ v,e = .returned (.tuple #[v,.int .i64 0])/\BitsAt w' (fun x=>w.heap.size<=x) v b/\Below w.heap.size w w'
structure FieldIn (s:SchemaL) (p:ParL) (vals:List (List UInt8)) (i:Nat):Prop where
 par:ParOk p
 salt:p.salt<vals.length
 at_:i<vals.length
 five:vals.length<=5
 kind:(zbq s i).2=0
 norm:zat s i (vals.getD i [])=true
 short:∀ v∈vals,v.length<=64
structure FldAt (w:World) (vf vt vn vs:Value) (p:ParL) (k:Int × Int) (id ver:Int) (sv:Value) (W:World):Prop where
 s:W.heap[w.heap.size]?=some (.cells #[vf,vt,vn,vs] 33 (0,0))
 p:W.heap[w.heap.size+1]?=some (.cells (parC p) 87 (0,0))
 k:W.heap[w.heap.size+2]?=some (.cells #[.int .u64 k.1,.int .u64 k.2] 41 (0,0))
 r:W.heap[w.heap.size+3]?=some (.cells #[.int .i64 id,.int .i64 ver,sv] 68 (0,0))
 z:W.heap[w.heap.size+4]?=some (.cells #[.int .i64 0,.slice none 0 0] 56 (0,0))
 b:Below w.heap.size w W
theorem FldAt.below {w:World} {vf vt vn vs:Value} {p:ParL} {k:Int × Int} {id ver:Int} {sv:Value} {W W':World} (h:FldAt w vf vt vn vs p k id ver sv W) (hb:Below W.heap.size W W'):FldAt w vf vt vn vs p k id ver sv W' :=
 ⟨zab hb (zaa h.1) h.1,zab hb (zaa h.2) h.2,zab hb (zaa h.3) h.3,zab hb (zaa h.4) h.4,zab hb (zaa h.5) h.5,h.6.trans (hb.mono h.6.size)⟩
theorem FldAt.start (w:World) (vf vt vn vs:Value) (p:ParL) (k:Int × Int) (id ver:Int) (sv:Value):FldAt w vf vt vn vs p k id ver sv (((((w.alloc (.cells #[vf,vt,vn,vs] 33)).alloc (.cells (parC p) 87)).alloc (.cells #[.int .u64 k.1,.int .u64 k.2] 41)).alloc (.cells #[.int .i64 id,.int .i64 ver,sv] 68)).alloc (.cells #[.int .i64 0,.slice none 0 0] 56)) :=
 ⟨zaf (zaf (zaf (zaf (zac rfl)))),zaf (zaf (zaf (zac (by simp)))),zaf (zaf (zac (by simp))),zaf (zac (by simp)),zac (by simp),
  (((((Below.refl w.heap.size w).alloc xnl _).alloc (by simp) _).alloc (by simp;omega) _).alloc (by simp;omega) _).alloc (by simp;omega) _⟩
theorem field_yes (S T:Nat->Prop) (vf vt vn vs:Value) (s:SchemaL) (p:ParL) (k:Int × Int) (id ver:Int) (sv:Value) (vals:List (List UInt8)) (i:Nat) (w:World) (h:SchemaAt w S vf vt vn vs s) (hv:Vec w T 1 za8 sv vals) (hf:FieldIn s p vals i) :
  Calls prog 96 #[.agg #[vf,vt,vn,vs],.agg (parC p),.agg #[.int .u64 k.1,.int .u64 k.2],.agg #[.int .i64 id,.int .i64 ver,sv],.int .i64 i] w (FieldPost (zff s p k vals i) w):=by
 obtain ⟨a,c0,rfl⟩:=hv.slice;obtain ⟨b,off,rfl,hb,hc⟩:=vec_str hv i hf.at_;obtain ⟨x,hx⟩:=xex (vals.getD i []);have a2:=hf.norm;have hfi:=hf.at_;have h5:=hf.five;rw [hx] at hc a2;have HC:=zjy hc;have HB:=zjy hb;have d3:=hb;by_cases hx0:x=[]
 ·have a6:zff s p k vals i=zch:=by unfold zff;rw [hx,if_pos hx0]
  rw [a6];subst hx0;clear a6 hx a2 hf h hv hc;go_enter func96,ntmps96
  go_upto_region 1 with (fail)
  refine zal (fun W hW=>?_)
  have hF:FldAt w vf vt vn vs p k id ver (.slice (some ⟨b,off,none⟩) vals.length c0) W:=by rw [hW];exact FldAt.start _ _ _ _ _ _ _ _ _ _
  clear hW;have HF:=zjy hF;have b5:=(hF.b.cell (p:=⟨b,off+i,none⟩) hb).trans HC.o;obtain ⟨r0,r1,r2⟩:=zan hF.r;obtain ⟨z0,z1⟩:=zae hF.z;have f0:=frozen_of_row _ _ 0 _ _ hF.z;have f1:=frozen_of_row _ _ 1 _ _ hF.z;have y1:=zaa hF.z;clear hF;go_wp2_with fail
  exact zai rfl rfl (zad (i:=1) (v:=.slice none 0 0) (zad (i:=0) (v:=.int .i64 0) HF.o.z)) underlying56 rfl (by kernel_rfl)
   ⟨_,rfl,⟨_,rfl,Vec.nil _ _ _ _⟩,(HF.o.b.setCell (p:=⟨w.heap.size+4,0,none⟩) (by show w.heap.size<=w.heap.size+4;omega) _).setCell (p:=⟨w.heap.size+4,1,none⟩) (by show w.heap.size<=w.heap.size+4;omega) _⟩
 ·obtain ⟨G,hG⟩:=xex (zfx s i x)
  obtain ⟨g1,g2,g3,g4⟩:=grams_fit a2 hf.kind;rw [hG] at g1 g2 g3;have hex:x.isEmpty=false:=by simpa using hx0
  have d9:(x == [])=false:=by simpa using hx0
  have HS:=zjy h.any;by_cases hsal:0<=p.salt
  ·obtain ⟨q,hq⟩:∃ q:Nat,p.salt=q:=⟨p.salt.toNat,by omega⟩
   have d2:q<vals.length:=by have:=hf.salt;omega
   obtain ⟨bq,d4,eq,e1,c5⟩:=vec_str hv q d2;cases eq;obtain ⟨st,c3⟩:=xex (vals.getD q []);have d6:st.length<=64:=by rw [<- c3];exact hf.short _ (by rw [List.getD,List.getElem?_eq_getElem d2];exact List.getElem_mem _)
   rw [c3] at c5;have b6:saltOf p vals=st:=by unfold saltOf;rw [if_pos hsal,hq,Int.toNat_natCast,c3]
   have c4:decide (0<=p.salt)=true:=by simpa using hsal
   have hql:(q:Int)<(vals.length:Int):=by omega
   have e2:=zjy c5;have HQ:=zjy hq;clear c3 c5 e1;obtain ⟨KX,hK⟩:=xex (keyN k (Lib.decDigits i) true st);obtain ⟨B,b1⟩:=xex ((zhq p KX G.1).1);have a6:zff s p k vals i=B:=by unfold zff;rw [hx,if_neg hx0,b6,c4,hK,hG,b1]
   rw [a6];have d1:=zjy b1;clear b1;have d0:=zjy hf;have HG:=zjy hG;have c7:=zjy hK;have c8:=zjy g3;have c9:=zjy g1;clear a6 hx a2 hf h hv hc hG hK b6 hsal hx0 g1 g3 c4 hq;go_enter func96,ntmps96
   go_upto_region 1 with (fail)
   refine zal (fun W hW=>?_)
   have hF:FldAt w vf vt vn vs p k id ver (.slice (some ⟨b,off,none⟩) vals.length c0) W:=by rw [hW];exact FldAt.start _ _ _ _ _ _ _ _ _ _
   clear hW;have HF:=zjy hF;have b5:=(hF.b.cell (p:=⟨b,off+i,none⟩) hb).trans HC.o;obtain ⟨r0,r1,r2⟩:=zan hF.r;obtain ⟨p0,p1,p2⟩:=zan hF.p;rw [HQ.o] at p2;have e0:=(hF.b.cell (p:=⟨b,off+q,none⟩) d3).trans e2.o;have y3:=zaa hF.r;have y5:=zaa hF.p;have hbW:b<W.heap.size:=Nat.lt_of_lt_of_le d3 hF.b.size;obtain ⟨s0,s1,s2,s3⟩:=zaq hF.s;have y1:=zaa hF.z;clear hF;go_wp2_with fail
   refine zal (fun W1 hW1=>?_)
   have b7:W1.heap[W.heap.size]?=some (.cells #[.int .i64 i,.bool true,zak st] 192 (0,0)):=by rw [hW1];exact zac rfl
   have b0:=xal hW1
   have a9:=(b0.cell (p:=⟨b,off+i,none⟩) (by have:=HF.o.b.size;show b<_;omega)).trans b5;have a1:=zjy (HF.o.below b0);have a5:=zjy b7;have c2:=zjy (HS.o.below a1.o.b);clear hW1 b7 b0 b5 s0 s1 s2 s3 r0 r1 r2 p0 p1 p2 HF;obtain ⟨s0,s1,s2,s3⟩:=zaq a1.o.s;have r2:=(zan a1.o.r).2.2;have y2:=zaa a5.o;refine wp_region_noPanic ?_
   refine wp_region_held_drew (S:=(fun w'=>w'.cell? ⟨w.heap.size,0,none⟩=some vf/\w'.cell? ⟨w.heap.size,1,none⟩=some vt/\w'.cell? ⟨w.heap.size,2,none⟩=some vn/\w'.cell? ⟨w.heap.size,3,none⟩=some vs/\w'.cell? ⟨w.heap.size+3,2,none⟩=some (.slice (some ⟨b,off,none⟩) vals.length c0)/\w'.cell? ⟨b,off+i,none⟩=some (zak x))) (by kernel_rfl) (⟨s0,s1,s2,s3,r2,a9⟩) (fun hHeld=>?_)
   refine tH 0 ?_;refine tH 1 ?_;refine tH 2 ?_;refine tH 3 ?_;refine tH 4 ?_;refine tH 5 ?_;refine tH 6 ?_
   refine xrH 7 rfl fun K hK=>?_
   go_simp;refine (grams_s _ _ _ _ _ s i ⟨x.toArray⟩ _ (c2.o.below (Below.refl _ _).drew) (by rw [zaj];omega)).mono ?_;rw [show (⟨x.toArray⟩:ByteArray).data.toList=x by simp,HG.o];rintro e w2 ⟨vg,rfl,a7,b9⟩;rw [c9.o];have b2:=((Below.refl W1.heap.size W1).drew).trans b9;clear b9
   refine hK.out _ _ (⟨(b2.cell (p:=⟨w.heap.size,0,none⟩) (zaa a1.o.s)).trans s0,(b2.cell (p:=⟨w.heap.size,1,none⟩) (zaa a1.o.s)).trans s1,(b2.cell (p:=⟨w.heap.size,2,none⟩) (zaa a1.o.s)).trans s2,(b2.cell (p:=⟨w.heap.size,3,none⟩) (zaa a1.o.s)).trans s3,(b2.cell (p:=⟨w.heap.size+3,2,none⟩) (zaa a1.o.r)).trans r2,(b2.cell (p:=⟨b,off+i,none⟩) (by have:=a1.o.b.size;show b<_;omega)).trans a9⟩) (fun hHeld=>?_)
   clear hK K;refine tH 8 ?_;refine tH 9 ?_;refine tH 10 ?_;refine tH 11 ?_;refine tH 12 ?_;refine wpAnyH_done (by kernel_rfl) ?_ _;refine NoPanic.normal ?_;have a0:=zjy (a1.o.below b2);have a3:=zjy (zab b2 (zaa a5.o) a5.o);have c1:=zjy a7;obtain ⟨ag,cg,rfl⟩:=a7.slice;clear hHeld a9 s0 s1 s2 s3 r2 y2 y1 b2 a7 a1 a5 c2;go_wp2_with fail
   refine zal (fun W2 hW2=>?_)
   rw [<- hW2] at a0 a3 c1;clear hW2;obtain ⟨q0,q1,q2⟩:=zan a0.o.p;obtain ⟨k0,k1⟩:=zae a0.o.k;obtain ⟨o0,o1,o2⟩:=zan a3.o;refine wp_region_noPanic ?_
   refine zaw (by kernel_rfl) (fun w'=>w'.cell? ⟨w.heap.size+1,0,none⟩=some (.int .i64 p.len)/\w'.cell? ⟨w.heap.size+1,1,none⟩=some (.int .i64 p.hashes)/\w'.cell? ⟨w.heap.size+1,2,none⟩=some (.int .i64 p.salt)/\w'.cell? ⟨w.heap.size+2,0,none⟩=some (.int .u64 k.1)/\w'.cell? ⟨w.heap.size+2,1,none⟩=some (.int .u64 k.2)/\w'.cell? ⟨W.heap.size,0,none⟩=some (.int .i64 i)/\w'.cell? ⟨W.heap.size,1,none⟩=some (.bool true)/\w'.cell? ⟨W.heap.size,2,none⟩=some (zak st)) 8 (⟨q0,q1,q2,k0,k1,o0,o1,o2⟩) (fun hHeld=>?_)
   refine tK 0 ?_;refine tK 1 ?_;refine tK 2 ?_;refine tK 4 ?_
   refine xrK 3 rfl fun K hK=>?_
   go_simp;refine (derive_any k i true st _ (by omega) (by omega)).mono ?_;rw [c7.o];rintro e w3 ⟨rfl,b8⟩;have b3:=((Below.refl W2.heap.size W2).drew).trans b8;clear b8
   refine zbc hK (⟨(b3.cell (p:=⟨w.heap.size+1,0,none⟩) (zaa a0.o.p)).trans q0,(b3.cell (p:=⟨w.heap.size+1,1,none⟩) (zaa a0.o.p)).trans q1,(b3.cell (p:=⟨w.heap.size+1,2,none⟩) (zaa a0.o.p)).trans q2,(b3.cell (p:=⟨w.heap.size+2,0,none⟩) (zaa a0.o.k)).trans k0,(b3.cell (p:=⟨w.heap.size+2,1,none⟩) (zaa a0.o.k)).trans k1,(b3.cell (p:=⟨W.heap.size,0,none⟩) (zaa a3.o)).trans o0,(b3.cell (p:=⟨W.heap.size,1,none⟩) (zaa a3.o)).trans o1,(b3.cell (p:=⟨W.heap.size,2,none⟩) (zaa a3.o)).trans o2⟩) (fun hHeld=>?_)
   clear hK K
   refine xrK 5 rfl fun K hK=>?_
   go_simp
   refine (bencode_yes zau p KX _ G.1 _ d0.o.par (c1.o.below b3) (fun g hg=>Nat.le_trans (c8.o g hg) (by decide)) g2).mono ?_;rw [d1.o];rintro e w4 ⟨_,rfl,⟨sb,rfl,a8⟩,hb4⟩;have b4:=b3.trans (hb4.mono b3.size);have c6:=zjy a8;obtain ⟨ab,cb,rfl⟩:=a8.slice;clear hb4 a8
   refine zbc hK (⟨(b4.cell (p:=⟨w.heap.size+1,0,none⟩) (zaa a0.o.p)).trans q0,(b4.cell (p:=⟨w.heap.size+1,1,none⟩) (zaa a0.o.p)).trans q1,(b4.cell (p:=⟨w.heap.size+1,2,none⟩) (zaa a0.o.p)).trans q2,(b4.cell (p:=⟨w.heap.size+2,0,none⟩) (zaa a0.o.k)).trans k0,(b4.cell (p:=⟨w.heap.size+2,1,none⟩) (zaa a0.o.k)).trans k1,(b4.cell (p:=⟨W.heap.size,0,none⟩) (zaa a3.o)).trans o0,(b4.cell (p:=⟨W.heap.size,1,none⟩) (zaa a3.o)).trans o1,(b4.cell (p:=⟨W.heap.size,2,none⟩) (zaa a3.o)).trans o2⟩) (fun hHeld=>?_)
   clear hK K;refine tK 6 ?_;refine tK 7 ?_;have a4:=zab b4 (zaa a0.o.z) a0.o.z;obtain ⟨z0,z1⟩:=zae a4;have f0:=frozen_of_row _ _ 0 _ _ a4;have f1:=frozen_of_row _ _ 1 _ _ a4;have y4:=zaa a4
   refine xrK 8 rfl fun K hK=>?_
   go_simp;refine zav hK (by decide) ?_;clear hK K
   refine xrK 9 rfl fun K hK=>?_
   go_simp;refine zav hK (by decide) ?_;clear hK K;refine zas (by kernel_rfl) ?_ _;refine NoPanic.normal ?_;go_wp2_with fail
   refine zai rfl rfl (zad (i:=1) (v:=.slice ab B.words.length cb) (zad (i:=0) (v:=.int .i64 B.len) a4)) underlying56 rfl (by kernel_rfl)
    ⟨_,rfl,⟨_,rfl,?_⟩,((a0.o.b.trans (b4.mono a0.o.b.size)).setCell (p:=⟨w.heap.size+4,0,none⟩) (by show w.heap.size<=w.heap.size+4;omega) _).setCell (p:=⟨w.heap.size+4,1,none⟩) (by show w.heap.size<=w.heap.size+4;omega) _⟩
   have d8:=zaa a0.o.z
   refine Vec.move c6.o (by simp [World.setCell]) fun b hb hs=>?_
   have d7:w3.heap.size<=b:=hs;have d5:=b3.size;exact ⟨(heap_setCell_other _ _ _ _ (by show b≠w.heap.size+4;omega)).trans (heap_setCell_other _ _ _ _ (by show b≠w.heap.size+4;omega)),by show w.heap.size<=b;omega⟩
  ·have b6:saltOf p vals=[]:=by unfold saltOf;rw [if_neg hsal]
   have c4:decide (0<=p.salt)=false:=by simpa using hsal
   obtain ⟨KX,hK⟩:=xex (keyN k (Lib.decDigits i) false []);obtain ⟨B,b1⟩:=xex ((zhq p KX G.1).1);have a6:zff s p k vals i=B:=by unfold zff;rw [hx,if_neg hx0,b6,c4,hK,hG,b1]
   rw [a6];have d1:=zjy b1;clear b1;have hsl:¬ (0<=p.salt):=hsal;have d0:=zjy hf;have HG:=zjy hG;have c7:=zjy hK;have c8:=zjy g3;have c9:=zjy g1;clear a6 hx a2 hf h hv hc hG hK b6 hsal hx0 g1 g3;go_enter func96,ntmps96
   go_upto_region 1 with (fail)
   refine zal (fun W hW=>?_)
   have hF:FldAt w vf vt vn vs p k id ver (.slice (some ⟨b,off,none⟩) vals.length c0) W:=by rw [hW];exact FldAt.start _ _ _ _ _ _ _ _ _ _
   clear hW;have HF:=zjy hF;have b5:=(hF.b.cell (p:=⟨b,off+i,none⟩) hb).trans HC.o;obtain ⟨r0,r1,r2⟩:=zan hF.r;obtain ⟨p0,p1,p2⟩:=zan hF.p;obtain ⟨s0,s1,s2,s3⟩:=zaq hF.s;have y1:=zaa hF.z;clear hF;go_wp2_with fail
   refine zal (fun W1 hW1=>?_)
   have b7:W1.heap[W.heap.size]?=some (.cells #[.int .i64 i,.bool false,zak []] 192 (0,0)):=by rw [hW1];exact zac rfl
   have b0:=xal hW1
   have a9:=(b0.cell (p:=⟨b,off+i,none⟩) (by have:=HF.o.b.size;show b<_;omega)).trans b5;have a1:=zjy (HF.o.below b0);have a5:=zjy b7;have c2:=zjy (HS.o.below a1.o.b);clear hW1 b7 b0 b5 s0 s1 s2 s3 r0 r1 r2 p0 p1 p2 HF;obtain ⟨s0,s1,s2,s3⟩:=zaq a1.o.s;have r2:=(zan a1.o.r).2.2;have y2:=zaa a5.o;refine wp_region_noPanic ?_
   refine wp_region_held_drew (S:=(fun w'=>w'.cell? ⟨w.heap.size,0,none⟩=some vf/\w'.cell? ⟨w.heap.size,1,none⟩=some vt/\w'.cell? ⟨w.heap.size,2,none⟩=some vn/\w'.cell? ⟨w.heap.size,3,none⟩=some vs/\w'.cell? ⟨w.heap.size+3,2,none⟩=some (.slice (some ⟨b,off,none⟩) vals.length c0)/\w'.cell? ⟨b,off+i,none⟩=some (zak x))) (by kernel_rfl) (⟨s0,s1,s2,s3,r2,a9⟩) (fun hHeld=>?_)
   refine tH 0 ?_;refine tH 1 ?_;refine tH 2 ?_;refine tH 3 ?_;refine tH 4 ?_;refine tH 5 ?_;refine tH 6 ?_
   refine xrH 7 rfl fun K hK=>?_
   go_simp;refine (grams_s _ _ _ _ _ s i ⟨x.toArray⟩ _ (c2.o.below (Below.refl _ _).drew) (by rw [zaj];omega)).mono ?_;rw [show (⟨x.toArray⟩:ByteArray).data.toList=x by simp,HG.o];rintro e w2 ⟨vg,rfl,a7,b9⟩;rw [c9.o];have b2:=((Below.refl W1.heap.size W1).drew).trans b9;clear b9
   refine hK.out _ _ (⟨(b2.cell (p:=⟨w.heap.size,0,none⟩) (zaa a1.o.s)).trans s0,(b2.cell (p:=⟨w.heap.size,1,none⟩) (zaa a1.o.s)).trans s1,(b2.cell (p:=⟨w.heap.size,2,none⟩) (zaa a1.o.s)).trans s2,(b2.cell (p:=⟨w.heap.size,3,none⟩) (zaa a1.o.s)).trans s3,(b2.cell (p:=⟨w.heap.size+3,2,none⟩) (zaa a1.o.r)).trans r2,(b2.cell (p:=⟨b,off+i,none⟩) (by have:=a1.o.b.size;show b<_;omega)).trans a9⟩) (fun hHeld=>?_)
   clear hK K;refine tH 8 ?_;refine tH 9 ?_;refine tH 10 ?_;refine tH 11 ?_;refine tH 12 ?_;refine wpAnyH_done (by kernel_rfl) ?_ _;refine NoPanic.normal ?_;have a0:=zjy (a1.o.below b2);have a3:=zjy (zab b2 (zaa a5.o) a5.o);have c1:=zjy a7;obtain ⟨ag,cg,rfl⟩:=a7.slice;clear hHeld a9 s0 s1 s2 s3 r2 y2 y1 b2 a7 a1 a5 c2;go_wp2_with fail
   refine zal (fun W2 hW2=>?_)
   rw [<- hW2] at a0 a3 c1;clear hW2;obtain ⟨q0,q1,q2⟩:=zan a0.o.p;obtain ⟨k0,k1⟩:=zae a0.o.k;obtain ⟨o0,o1,o2⟩:=zan a3.o;refine wp_region_noPanic ?_
   refine zaw (by kernel_rfl) (fun w'=>w'.cell? ⟨w.heap.size+1,0,none⟩=some (.int .i64 p.len)/\w'.cell? ⟨w.heap.size+1,1,none⟩=some (.int .i64 p.hashes)/\w'.cell? ⟨w.heap.size+1,2,none⟩=some (.int .i64 p.salt)/\w'.cell? ⟨w.heap.size+2,0,none⟩=some (.int .u64 k.1)/\w'.cell? ⟨w.heap.size+2,1,none⟩=some (.int .u64 k.2)/\w'.cell? ⟨W.heap.size,0,none⟩=some (.int .i64 i)/\w'.cell? ⟨W.heap.size,1,none⟩=some (.bool false)/\w'.cell? ⟨W.heap.size,2,none⟩=some (zak [])) 8 (⟨q0,q1,q2,k0,k1,o0,o1,o2⟩) (fun hHeld=>?_)
   refine tK 0 ?_;refine tK 1 ?_;refine tK 2 ?_;refine tK 4 ?_
   refine xrK 3 rfl fun K hK=>?_
   go_simp;refine (derive_any k i false [] _ (by omega) (by simp)).mono ?_;rw [c7.o];rintro e w3 ⟨rfl,b8⟩;have b3:=((Below.refl W2.heap.size W2).drew).trans b8;clear b8
   refine zbc hK (⟨(b3.cell (p:=⟨w.heap.size+1,0,none⟩) (zaa a0.o.p)).trans q0,(b3.cell (p:=⟨w.heap.size+1,1,none⟩) (zaa a0.o.p)).trans q1,(b3.cell (p:=⟨w.heap.size+1,2,none⟩) (zaa a0.o.p)).trans q2,(b3.cell (p:=⟨w.heap.size+2,0,none⟩) (zaa a0.o.k)).trans k0,(b3.cell (p:=⟨w.heap.size+2,1,none⟩) (zaa a0.o.k)).trans k1,(b3.cell (p:=⟨W.heap.size,0,none⟩) (zaa a3.o)).trans o0,(b3.cell (p:=⟨W.heap.size,1,none⟩) (zaa a3.o)).trans o1,(b3.cell (p:=⟨W.heap.size,2,none⟩) (zaa a3.o)).trans o2⟩) (fun hHeld=>?_)
   clear hK K
   refine xrK 5 rfl fun K hK=>?_
   go_simp
   refine (bencode_yes zau p KX _ G.1 _ d0.o.par (c1.o.below b3) (fun g hg=>Nat.le_trans (c8.o g hg) (by decide)) g2).mono ?_;rw [d1.o];rintro e w4 ⟨_,rfl,⟨sb,rfl,a8⟩,hb4⟩;have b4:=b3.trans (hb4.mono b3.size);have c6:=zjy a8;obtain ⟨ab,cb,rfl⟩:=a8.slice;clear hb4 a8
   refine zbc hK (⟨(b4.cell (p:=⟨w.heap.size+1,0,none⟩) (zaa a0.o.p)).trans q0,(b4.cell (p:=⟨w.heap.size+1,1,none⟩) (zaa a0.o.p)).trans q1,(b4.cell (p:=⟨w.heap.size+1,2,none⟩) (zaa a0.o.p)).trans q2,(b4.cell (p:=⟨w.heap.size+2,0,none⟩) (zaa a0.o.k)).trans k0,(b4.cell (p:=⟨w.heap.size+2,1,none⟩) (zaa a0.o.k)).trans k1,(b4.cell (p:=⟨W.heap.size,0,none⟩) (zaa a3.o)).trans o0,(b4.cell (p:=⟨W.heap.size,1,none⟩) (zaa a3.o)).trans o1,(b4.cell (p:=⟨W.heap.size,2,none⟩) (zaa a3.o)).trans o2⟩) (fun hHeld=>?_)
   clear hK K;refine tK 6 ?_;refine tK 7 ?_;have a4:=zab b4 (zaa a0.o.z) a0.o.z;obtain ⟨z0,z1⟩:=zae a4;have f0:=frozen_of_row _ _ 0 _ _ a4;have f1:=frozen_of_row _ _ 1 _ _ a4;have y4:=zaa a4
   refine xrK 8 rfl fun K hK=>?_
   go_simp;refine zav hK (by decide) ?_;clear hK K
   refine xrK 9 rfl fun K hK=>?_
   go_simp;refine zav hK (by decide) ?_;clear hK K;refine zas (by kernel_rfl) ?_ _;refine NoPanic.normal ?_;go_wp2_with fail
   refine zai rfl rfl (zad (i:=1) (v:=.slice ab B.words.length cb) (zad (i:=0) (v:=.int .i64 B.len) a4)) underlying56 rfl (by kernel_rfl)
    ⟨_,rfl,⟨_,rfl,?_⟩,((a0.o.b.trans (b4.mono a0.o.b.size)).setCell (p:=⟨w.heap.size+4,0,none⟩) (by show w.heap.size<=w.heap.size+4;omega) _).setCell (p:=⟨w.heap.size+4,1,none⟩) (by show w.heap.size<=w.heap.size+4;omega) _⟩
   have d8:=zaa a0.o.z
   refine Vec.move c6.o (by simp [World.setCell]) fun b hb hs=>?_
   have d7:w3.heap.size<=b:=hs;have d5:=b3.size;exact ⟨(heap_setCell_other _ _ _ _ (by show b≠w.heap.size+4;omega)).trans (heap_setCell_other _ _ _ _ (by show b≠w.heap.size+4;omega)),by show w.heap.size<=b;omega⟩
end
section
open Go.RowKit Cal
attribute [local go_sem] zag zaj za6
structure CapAt (sb kb rb:Nat) (vf vt vn vs:Value) (s:SchemaL) (k:Int × Int) (id ver:Int) (sv:Value) (vals:List (List UInt8)) (w:World):Prop where
 bs:w.heap[sb]?=some (.cells #[vf,vt,vn,vs] 33 (0,0))
 bk:w.heap[kb]?=some (.cells #[.int .u64 k.1,.int .u64 k.2] 41 (0,0))
 br:w.heap[rb]?=some (.cells #[.int .i64 id,.int .i64 ver,sv] 68 (0,0))
 sch:SchemaAt w zau vf vt vn vs s
 val:Vec w zau 1 za8 sv vals
theorem CapAt.below {sb kb rb:Nat} {vf vt vn vs:Value} {s:SchemaL} {k:Int × Int} {id ver:Int} {sv:Value} {vals:List (List UInt8)} {w w':World} (h:CapAt sb kb rb vf vt vn vs s k id ver sv vals w) (hb:Below w.heap.size w w'):CapAt sb kb rb vf vt vn vs s k id ver sv vals w' :=
 ⟨zab hb (zaa h.bs) h.bs,zab hb (zaa h.bk) h.bk,zab hb (zaa h.br) h.br,h.sch.below hb,h.val.below hb⟩
theorem clos_yes (sb kb rb:Nat) (vf vt vn vs:Value) (s:SchemaL) (p:ParL) (k:Int × Int) (id ver:Int) (sv:Value) (vals:List (List UInt8)) (i:Nat) (w:World) (h:CapAt sb kb rb vf vt vn vs s k id ver sv vals w) (hf:FieldIn s p vals i) :
  Calls prog 95 #[.int .i64 i,.agg (parC p),.pointer (some ⟨sb,0,none⟩),.pointer (some ⟨kb,0,none⟩),.pointer (some ⟨rb,0,none⟩)] w (FieldPost (zff s p k vals i) w):=by
 obtain ⟨a,cap,rfl⟩:=h.val.slice;obtain ⟨B,hB⟩:=xex (zff s p k vals i);rw [hB];have b1:=zjy hB;have HC:=zjy h;have b0:=zjy hf;obtain ⟨s0,s1,s2,s3⟩:=zaq h.bs;obtain ⟨k0,k1⟩:=zae h.bk;obtain ⟨r0,r1,r2⟩:=zan h.br;have ls:=zaa h.bs;have lk:=zaa h.bk;have lr:=zaa h.br;clear h hf hB;go_enter func95,ntmps95
 go_wp2_with fail
 refine zah (fun W hW=>?_)
 have a5:=xam hW
 have a4:W.heap[w.heap.size+1]?=some (.cells #[.int .i64 0,.slice none 0 0] 56 (0,0)):=by rw [hW];exact zac (by simp)
 clear hW;have a1:=zjy a5;have a3:=zjy a4;clear a5 a4;refine (field_yes zau zau vf vt vn vs s p k id ver _ vals i W (HC.o.sch.below a1.o) (HC.o.val.below a1.o) b0.o).mono ?_;rw [b1.o];rintro e w1 ⟨_,rfl,⟨sw,rfl,a2⟩,hb1⟩;have a9:=zjy a2;obtain ⟨aw,cw,rfl⟩:=a2.slice;have a0:=zab hb1 (zaa a3.o) a3.o;have b2:=xhh a1 hb1;have a8:=zjy a0;have hWz:=a1.o.size;have a7:=hb1.size;have a6:=zaa a3.o;obtain ⟨z0,z1⟩:=zae a0;have f0:=frozen_of_row _ _ 0 _ _ a0;have f1:=frozen_of_row _ _ 1 _ _ a0;have y1:=zaa a0;clear a2 a0 hb1 s0 s1 s2 s3 k0 k1 r0 r1 r2;go_wp2_with fail
 refine zai rfl rfl (zad (i:=1) (v:=.slice aw B.words.length cw) (zad (i:=0) (v:=.int .i64 B.len) a8.o)) underlying56 rfl (by kernel_rfl)
  ⟨_,rfl,⟨_,rfl,?_⟩,(b2.o.setCell (p:=⟨w.heap.size+1,0,none⟩) (Nat.le_succ _) _).setCell (p:=⟨w.heap.size+1,1,none⟩) (Nat.le_succ _) _⟩
 refine Vec.move a9.o (by simp [World.setCell]) fun b hb hs=>?_
 have hs':W.heap.size<=b:=hs;exact ⟨(heap_setCell_other _ _ _ _ (by show b≠w.heap.size+1;omega)).trans (heap_setCell_other _ _ _ _ (by show b≠w.heap.size+1;omega)),by show w.heap.size<=b;omega⟩
abbrev zcm (p:ParL):List Value:=[.int .i64 p.len,.int .i64 p.hashes,.int .i64 p.salt]
structure BV where
 len:Int
 a:Option Addr
 n:Nat
 c:Nat
abbrev za4 (x:BV):List Value:=[.int .i64 x.len,.slice x.a x.n x.c]
def BitsAll (w:World) (S:Nat->Prop) (C:List BV) (L:List BitsL):Prop:=C.length=L.length/\∀ n (h1:n<C.length) (h2:n<L.length),BitsAt w S (.agg (za4 C[n]).toArray) L[n]
theorem BitsAt.below {w w':World} {S:Nat->Prop} {v:Value} {b:BitsL} (h:BitsAt w S v b) (hb:Below w.heap.size w w'):BitsAt w' S v b:=by
 obtain ⟨s,rfl,hv⟩:=h;exact ⟨s,rfl,hv.below hb⟩
theorem BitsAll.below {w w':World} {S:Nat->Prop} {C:List BV} {L:List BitsL} (h:BitsAll w S C L) (hb:Below w.heap.size w w'):BitsAll w' S C L:=⟨h.1,fun n h1 h2=>(h.2 n h1 h2).below hb⟩
theorem BitsAll.snoc {w:World} {S:Nat->Prop} {C:List BV} {L:List BitsL} {c:BV} {b:BitsL} (h:BitsAll w S C L) (hc:BitsAt w S (.agg (za4 c).toArray) b):BitsAll w S (C++[c]) (L++[b]):=by
 refine ⟨by simp [h.1],fun n h1 h2=>?_⟩
 by_cases hn:n<C.length
 ·rw [List.getElem_append_left hn,List.getElem_append_left (by rw [<- h.1];exact hn)];exact h.2 n _ _
 ·have:n=C.length:=by simp at h1;omega
  subst this;rw [List.getElem_append_right xnl,List.getElem_append_right (by rw [h.1];exact Nat.le_refl _)];simpa using hc
theorem zgd:(prog.info? 56).map (fun i=>(i.zero,i.size,i.bytes))=some (some (.agg #[.int .i64 0,.slice none 0 0]),2,32):=by kernel_rfl
theorem ze9:∀ (x:BV),∀ u∈za4 x,u.oneCell'=true:=by
 intro x u hu;simp at hu;rcases hu with rfl | rfl <;> rfl
theorem BitsAt.form {w:World} {S:Nat->Prop} {v:Value} {b:BitsL} (h:BitsAt w S v b):∃ c:BV,v = .agg (za4 c).toArray/\BitsAt w S (.agg (za4 c).toArray) b:=by
 obtain ⟨s,rfl,hv⟩:=h;obtain ⟨a,a0,rfl⟩:=hv.slice;exact ⟨⟨b.len,a,_,a0⟩,rfl,_,rfl,hv⟩
theorem BitsAt.weaken {w:World} {S T:Nat->Prop} {v:Value} {b:BitsL} (h:BitsAt w S v b) (hS:∀ x,S x->T x):BitsAt w T v b:=by
 obtain ⟨s,rfl,hv⟩:=h;exact ⟨s,rfl,hv.move xnl fun x _ hx=>⟨rfl,hS x hx⟩⟩
theorem BitsAt.move {w w':World} {S:Nat->Prop} {v:Value} {b:BitsL} (h:BitsAt w S v b) (hz:w.heap.size<=w'.heap.size) (hS:∀ x,x<w.heap.size->S x->w'.heap[x]?=w.heap[x]?):BitsAt w' S v b:=by
 obtain ⟨s,rfl,hv⟩:=h;exact ⟨s,rfl,hv.move hz fun x h1 h2=>⟨hS x h1 h2,h2⟩⟩
theorem BitsAll.weaken {w:World} {S T:Nat->Prop} {C:List BV} {L:List BitsL} (h:BitsAll w S C L) (hS:∀ x,S x->T x):BitsAll w T C L:=⟨h.1,fun n h1 h2=>(h.2 n h1 h2).weaken hS⟩
theorem BitsAll.move {w w':World} {S T:Nat->Prop} {C:List BV} {L:List BitsL} (h:BitsAll w S C L) (hz:w.heap.size<=w'.heap.size) (hS:∀ x,x<w.heap.size->S x->w'.heap[x]?=w.heap[x]?/\T x):BitsAll w' T C L :=
 ⟨h.1,fun n h1 h2=>by obtain ⟨s,e,hv⟩:=h.2 n h1 h2;exact ⟨s,e,hv.move hz hS⟩⟩
def zc6 (s:SchemaL) (P:List ParL) (k:Int × Int) (vals:List (List UInt8)) (n:Nat):List BitsL:=(List.range n).map fun i=>zff s (P.getD i default) k vals i
theorem fieldsN_succ (s:SchemaL) (P:List ParL) (k:Int × Int) (vals:List (List UInt8)) (n:Nat):zc6 s P k vals (n+1)=zc6 s P k vals n++[zff s (P.getD n default) k vals n]:=by
 unfold zc6;rw [List.range_succ,List.map_append];rfl
def BitsVec (w:World) (S:Nat->Prop) (v:Value) (L:List BitsL):Prop:=∃ C,Vec w S 2 za4 v C/\BitsAll w S C L
def EachPost (L:List BitsL) (w:World) (e:Ending) (w':World):Prop:=∃ v,e = .returned (.tuple #[v,.int .i64 0])/\BitsVec w' (fun x=>w.heap.size<=x) v L/\Below w.heap.size w w'
theorem each_yes (S:Nat->Prop) (sb kb rb:Nat) (vf vt vn vs:Value) (s:SchemaL) (P:List ParL) (pv:Value) (k:Int × Int) (id ver:Int) (sv:Value) (vals:List (List UInt8)) (w:World) (h:CapAt sb kb rb vf vt vn vs s k id ver sv vals w)
  (hp:Vec w S 3 zcm pv P) (hf:∀ i,i<P.length->FieldIn s (P.getD i default) vals i) (h5:P.length<=5) :
  Calls prog 94 #[pv,.func (.func 95) #[] #[.pointer (some ⟨sb,0,none⟩),.pointer (some ⟨kb,0,none⟩),.pointer (some ⟨rb,0,none⟩)]] w (EachPost (zc6 s P k vals P.length) w):=by
 obtain ⟨a,c7,rfl⟩:=hp.slice;have HC:=zjy h;have HP:=zjy hp.any;have HF:=zjy hf;clear h hp hf;go_enter func94,ntmps94
 go_wp2_with fail
 go_loopw [6,7,8,9,10,13] (fun v _ _ _ _ i wr=>∃ (j:Nat) (C:List BV),i = .int .i64 j/\j<=P.length/\C.length=j/\OwnV 56 2 za4 w v C wr/\BitsAll wr (zg6 w.heap.size v) C (zc6 s P k vals j)) (fun _ _ _ _ _ i _=>P.length - (intOf i).toNat)
 case atStart=>exact ⟨0,[],rfl,by omega,rfl,OwnV.start _ _ _ _,rfl,fun n h1 _=>by simp at h1⟩
 case round =>
  obtain ⟨j,C,rfl,hj,b5,ho,a3⟩:=hrel;have HO:=zjy ho;have b7:=zjy a3;have b6:=zjy b5;clear ho a3 b5;by_cases hlt:j<P.length
  ·have hq:decide ((j:Int)<P.length)=true:=by simp;omega
   have a6:=HF.o j hlt;obtain ⟨p,a4⟩:=xex (P[j]);have a5:P.getD j default=p:=by rw [List.getD,List.getElem?_eq_getElem hlt];exact a4
   rw [a5] at a6;have a0:=fieldsN_succ s P k vals j;rw [a5] at a0;obtain ⟨b,off,rfl,hb,hc⟩:=(HP.o.below HO.o.2).get j hlt;rw [a4] at hc;have c0:=hc 0 _ rfl;have c1:=hc 1 _ rfl;have c2:=hc 2 _ rfl;rw [Nat.add_zero] at c0;have d1:=zjy a6;have c8:=zjy a0;clear hc a6 a0 a5 a4;go_wp2_with fail
   have b3:Below w.heap.size w (wr.alloc (.cells (parC p) 87)):=HO.o.2.alloc HO.o.2.size _;refine (clos_yes sb kb rb vf vt vn vs s p k id ver sv vals j _ (HC.o.below b3) d1.o).mono ?_;rintro e w1 ⟨vb,rfl,b0,b4⟩;obtain ⟨c,rfl,b2⟩:=b0.form;have a2:Below wr.heap.size wr w1:=xbt b4;have hwz:=HO.o.2.size;have a7:Below wr.heap.size wr ((w1.alloc (.cells (za4 c).toArray 56)).alloc (.cells (za4 c).toArray 56)):=(a2.alloc a2.size _).alloc (by have:=a2.size;simp;omega) _;have d0:=zjy (HO.o.below a7);have c9:=zjy (show zck ((w1.alloc (.cells (za4 c).toArray 56)).alloc (.cells (za4 c).toArray 56)) 2 (.slice (some ⟨w1.heap.size+1,0,none⟩) 1 1) [c].length ([c].flatMap za4) from za0 (xs:=[c].flatMap za4) (fr:=(0,0)) (t:=56) (zac (by simp)) rfl)
   have a1:∀ x,wr.heap.size<=x->some x≠u6.ownBlock:=by
    intro x hx
    rcases HO.o.1.2 with ⟨h0,_⟩ | ⟨g,c7,cur,h0,hg,hh,_⟩
    ·rw [h0];simp [Value.ownBlock]
    ·rw [h0];have:=zaa hh;simp [Value.ownBlock];omega
   have d2:=zjy (BitsAt.weaken (T:=fun x=>some x≠u6.ownBlock/\w.heap.size<=x) b2 (fun x hx=>by have b9:(wr.alloc (.cells (parC p) 87)).heap.size<=x:=hx;simp at b9;exact ⟨a1 x (by omega),by omega⟩))
   have a9:=zjy (b7.o.below a2);have c6:C.length+[c].length<=1000000000:=by rw [b6.o];simp only [List.length_cons,List.length_nil];omega
   have HB3:=zjy a7;obtain ⟨cl,ca,cn,cc⟩:=c;clear b0 b4 a2 a7 b2 b3 c0 c1 c2;go_wp2_with (at_builtin;refine zc8 rfl (.tmp 28) (.tmp 30) 57 rfl 56 (.agg #[.int .i64 0,.slice none 0 0]) 2 32 za4 (fun _=>rfl) ze9 underlying57 zgd rfl (by decide) (by decide) (w0:=w) (v:=u6) (A:=C) (B:=[⟨cl,ca,cn,cc⟩]) rfl d0.o rfl c9.o c6 ?_;intro v2 w2 c3 c5 b8 a8)
   have a3:BitsAll w1 (fun x=>some x≠u6.ownBlock/\w.heap.size<=x) (C++[⟨cl,ca,cn,cc⟩]) (zc6 s P k vals (j+1)):=by
    rw [c8.o];exact (a9.o.weaken fun x hx=>⟨hx.2,hx.1⟩).snoc d2.o
   go_roundw
   case rel =>
    refine ⟨j+1,C++[⟨cl,ca,cn,cc⟩],by go_num,by omega,by rw [List.length_append,b6.o];rfl,c3,a3.move ?_ ?_⟩
    ·simp at b8;omega
    ·intro x hx hS
     obtain ⟨q1,q2⟩:=hS;have c4:=hx;refine ⟨?_,q2,?_⟩
     ·obtain ⟨ob,b1⟩:∃ ob,w1.heap[x]?=some ob:=⟨_,Array.getElem?_eq_getElem hx⟩
      rw [b1];exact c5 x ob q1 (zaf (zaf b1))
     ·rcases a8 with h1 | h1 | h1
      ·rw [h1];simp
      ·rw [<- h1];exact q1
      ·rw [h1];simp;omega
   case measure=>simp [intOf];omega
  ·have hq:decide ((j:Int)<P.length)=false:=by simp;omega
   obtain rfl:j=P.length:=by omega
   go_wp2_with fail
   go_ret2;exact ⟨_,rfl,⟨C,(OwnV.vec (size:=2) (enc:=za4) (fun _=>rfl) HO.o),b7.o.weaken fun x hx=>hx.1⟩,HO.o.2⟩
end
section
open Go.RowKit Cal
attribute [local go_sem] zag zaj za6
theorem BitsVec.slice {w:World} {S:Nat->Prop} {v:Value} {L:List BitsL} (h:BitsVec w S v L):∃ a cap,v = .slice a L.length cap:=by
 obtain ⟨C,hv,hc⟩:=h;obtain ⟨a,cap,rfl⟩:=hv.slice;exact ⟨a,cap,by rw [hc.1]⟩
theorem BitsVec.below {w w':World} {S:Nat->Prop} {v:Value} {L:List BitsL} (h:BitsVec w S v L) (hb:Below w.heap.size w w'):BitsVec w' S v L:=by
 obtain ⟨C,hv,hc⟩:=h;exact ⟨C,hv.below hb,hc.below hb⟩
theorem BitsVec.move {w w':World} {S T:Nat->Prop} {v:Value} {L:List BitsL} (h:BitsVec w S v L) (hz:w.heap.size<=w'.heap.size) (hS:∀ x,x<w.heap.size->S x->w'.heap[x]?=w.heap[x]?/\T x):BitsVec w' T v L:=by
 obtain ⟨C,hv,hc⟩:=h;exact ⟨C,hv.move hz hS,hc.move hz hS⟩
def EncVal (w:World) (S:Nat->Prop) (v:Value) (e:EncL):Prop:=∃ s,v = .agg #[.int .i64 e.id,.int .i64 e.ver,s]/\BitsVec w S s e.fields
def EncPost (x:EncL) (w:World) (e:Ending) (w':World):Prop:=∃ v,e = .returned (.tuple #[v,.int .i64 0])/\EncVal w' (fun b=>w.heap.size<=b) v x/\Below w.heap.size w w'
structure EncIn (s:SchemaL) (P:List ParL) (vals:List (List UInt8)):Prop where
 len:P.length=vals.length
 five:P.length<=5
 fld:∀ i,i<P.length->FieldIn s (P.getD i default) vals i
def zi2 (s:SchemaL) (P:List ParL) (k:Int × Int) (r:RecL):EncL:=⟨r.id,r.ver,zc6 s P k r.vals P.length⟩
theorem encoded_yes (S:Nat->Prop) (vf vt vn vs:Value) (s:SchemaL) (P:List ParL) (pv:Value) (k:Int × Int) (r:RecL) (sv:Value) (w:World) (h:SchemaAt w S vf vt vn vs s) (hp:Vec w zau 3 zcm pv P) (hv:Vec w zau 1 za8 sv r.vals) (hf:EncIn s P r.vals) :
  Calls prog 67 #[.agg #[vf,vt,vn,vs],pv,.agg #[.int .u64 k.1,.int .u64 k.2],.agg #[.int .i64 r.id,.int .i64 r.ver,sv]] w (EncPost (zi2 s P k r) w):=by
 obtain ⟨a,cap,rfl⟩:=hp.slice;obtain ⟨a3,a0,vals⟩:=r;dsimp only at hv hf ⊢;obtain ⟨L,hL⟩:=xex (zc6 s P k vals P.length);have he:zi2 s P k ⟨a3,a0,vals⟩=⟨a3,a0,L⟩:=by unfold zi2;rw [hL]
 rw [he];have b9:=zjy hL;have HP:=zjy hp;have HV:=zjy hv;have HF:=zjy hf;have HS:=zjy h.any;clear he hL hp hv hf h;go_enter func67,ntmps67
 go_wp2_with fail
 refine zah (fun W hW=>?_)
 have a5:Below w.heap.size w W:=by rw [hW];exact ((((Below.refl w.heap.size w).alloc xnl _).alloc (by simp) _).alloc (by simp;omega) _).alloc (by simp;omega) _
 have b2:W.heap[w.heap.size]?=some (.cells #[vf,vt,vn,vs] 33 (0,0)):=by rw [hW];exact zaf (zaf (zaf (zac rfl)))
 have b3:W.heap[w.heap.size+1]?=some (.cells #[.int .u64 k.1,.int .u64 k.2] 41 (0,0)):=by rw [hW];exact zaf (zaf (zac (by simp)))
 have a8:W.heap[w.heap.size+2]?=some (.cells #[.int .i64 a3,.int .i64 a0,sv] 68 (0,0)):=by rw [hW];exact zaf (zac (by simp))
 have b1:W.heap[w.heap.size+3]?=some (.cells #[.int .i64 0,.int .i64 0,.slice none 0 0] 59 (0,0)):=by rw [hW];exact zac (by simp)
 clear hW;have HC:=zjy (show CapAt w.heap.size (w.heap.size+1) (w.heap.size+2) vf vt vn vs s k a3 a0 sv vals W from ⟨b2,b3,a8,HS.o.below a5,HV.o.below a5⟩);have b0:=zjy a5;have a9:=zjy b1;have b4:=zjy a8;clear b2 b3 a8 b1 a5;refine (each_yes zau _ _ _ vf vt vn vs s P _ k a3 a0 sv vals W HC.o (HP.o.below b0.o) HF.o.fld HF.o.five).mono ?_;rw [b9.o];rintro e w1 ⟨v1,rfl,a6,a4⟩;have b8:=zjy a6;obtain ⟨a1,c1,rfl⟩:=a6.slice;have a2:=zab a4 (zaa a9.o) a9.o;have a7:=zab a4 (zaa b4.o) b4.o;have c0:=xhh b0 a4;have b7:=zjy a2;have hWz:=b0.o.size;have b6:=a4.size;have b5:=zaa a9.o;obtain ⟨z0,z1,z2⟩:=zan a2;obtain ⟨r0,r1,r2⟩:=zan a7;have f0:=frozen_of_row _ _ 0 _ _ a2;have f1:=frozen_of_row _ _ 1 _ _ a2;have f2:=frozen_of_row _ _ 2 _ _ a2;have y1:=zaa a2;have y2:=zaa a7;clear a6 a2 a7 a4;go_wp2_with fail
 refine zai rfl rfl (zad (i:=2) (v:=.slice a1 L.length c1) (zad (i:=1) (v:=.int .i64 a0) (zad (i:=0) (v:=.int .i64 a3) b7.o))) underlying59 rfl (by kernel_rfl)
  ⟨_,rfl,⟨_,rfl,?_⟩,((c0.o.setCell (p:=⟨w.heap.size+3,0,none⟩) (by show w.heap.size<=w.heap.size+3;omega) _).setCell (p:=⟨w.heap.size+3,1,none⟩) (by show w.heap.size<=w.heap.size+3;omega) _).setCell (p:=⟨w.heap.size+3,2,none⟩) (by show w.heap.size<=w.heap.size+3;omega) _⟩
 refine b8.o.move (by simp [World.setCell]) fun b hb hs=>?_
 have hs':W.heap.size<=b:=hs;exact ⟨((heap_setCell_other _ _ _ _ (by show b≠w.heap.size+3;omega)).trans (heap_setCell_other _ _ _ _ (by show b≠w.heap.size+3;omega))).trans (heap_setCell_other _ _ _ _ (by show b≠w.heap.size+3;omega)),by show w.heap.size<=b;omega⟩
end
section
open Go.RowKit
def InI (n:Int):Prop:=-9223372036854775808<=n/\n<=9223372036854775807
theorem BitsVec.at {w:World} {S:Nat->Prop} {a:Option Addr} {n cap:Nat} {L:List BitsL} (h:BitsVec w S (.slice a n cap) L) (j:Nat) (hj:j<L.length) :
  ∃ (b off:Nat) (c:BV),a=some ⟨b,off,none⟩/\b<w.heap.size/\w.cell? ⟨b,off+j*2,none⟩=some (.int .i64 c.len)/\w.cell? ⟨b,off+j*2+1,none⟩=some (.slice c.a c.n c.c)/\BitsAt w S (.agg (za4 c).toArray) (L.getD j zch):=by
 obtain ⟨C,hC,hA⟩:=h;have a0:j<C.length:=by rw [hA.1];exact hj
 obtain ⟨b,off,e,hb,hc⟩:=hC.get j a0;refine ⟨b,off,C[j],e,hb,by have:=hc 0 _ rfl;simpa using this,by have:=hc 1 _ rfl;simpa using this,?_⟩;rw [zbb _ _ hj];exact hA.2 j a0 hj
theorem BitsVec.len {w:World} {S:Nat->Prop} {a:Option Addr} {n cap:Nat} {L:List BitsL} (h:BitsVec w S (.slice a n cap) L):n=L.length/\n<=cap:=by
 obtain ⟨C,hC,hA⟩:=h;have:=hC.len;have:=hA.1;omega
end
section
open Go.RowKit
attribute [local go_sem] zag zaj
theorem valid_in {b:BitsL} (h:zap b=true):InI b.len:=by
 unfold zap zda at h;simp only [Bool.and_eq_true,beq_iff_eq,decide_eq_true_eq] at h;exact ⟨by omega,by omega⟩
theorem bits_range (op:BinOp) (x y:Int):0<=bits op .u64 x y/\bits op .u64 x y<18446744073709551616:=by
 unfold bits;rw [IntKind.wrap_u64];constructor <;> omega
end
section
open Go.RowKit
attribute [local go_sem] zag zaj
theorem bnew_no (n:Int) (w:World) (h:zda n=false) (h1:-9223372036854775808<=n) (h2:n<=9223372036854775807) :
  Calls prog 91 #[.int .i64 n] w fun e w'=>e = .returned (.tuple #[.agg #[.int .i64 0,.slice none 0 0],.int .i64 2])/\Below w.heap.size w w':=by
 have HR:=zjy h;clear h;go_enter func91,ntmps91
 go_wp2_with fail
 refine (zja n _ h1 h2).mono ?_;rw [HR.o];rintro e w1 ⟨rfl,rfl⟩;go_wp2_with fail
 exact zai rfl rfl (zac rfl) underlying56 rfl (by kernel_rfl)
  ⟨rfl,(Below.refl w.heap.size w).alloc xnl _⟩
theorem BitsAt.none (w:World) (S:Nat->Prop):BitsAt w S (.agg #[.int .i64 0,.slice none 0 0]) zch:=⟨_,rfl,Vec.nil _ _ _ _⟩
end
section
open Go.RowKit Cal
attribute [local go_sem] zag zaj za6
theorem zhh (i v:Int) (w:World) :
  Calls prog 92 #[.int .i64 i,.int .i64 v] w fun e w'=>e = .returned (.bool (zbl i v))/\w=w':=by
 unfold zbl;cases e1:decide ((1:Int)<=i)
 ·go_enter func92,ntmps92
  go_wp2_with fail
  go_ret;exact ⟨rfl,rfl⟩
 ·cases e2:decide (i<=(1048576:Int))
  ·go_enter func92,ntmps92
   go_wp2_with fail
   go_ret;exact ⟨rfl,rfl⟩
  ·cases e3:decide ((1:Int)<=v)
   ·go_enter func92,ntmps92
    go_wp2_with fail
    go_ret;exact ⟨rfl,rfl⟩
   ·go_enter func92,ntmps92
    go_wp2_with fail
    go_ret;exact ⟨rfl,rfl⟩
theorem rchk_any (S:Nat->Prop) (vf vt vn vs:Value) (s:SchemaL) (r:RecL) (sv:Value) (w:World) (h:SchemaAt w S vf vt vn vs s) (hv:Vec w zau 1 za8 sv r.vals) (hs:∀ x∈r.vals,x.length<=1000000) (hn:r.vals.length<=1000000) :
  Calls prog 64 #[.agg #[vf,vt,vn,vs],.agg #[.int .i64 r.id,.int .i64 r.ver,sv]] w fun e w'=>e = .returned (.int .i64 (zeu s r))/\Below w.heap.size w w':=by
 obtain ⟨a,cap,rfl⟩:=hv.slice;obtain ⟨af,cf,rfl⟩:=h.1.slice;obtain ⟨id,ver,vals⟩:=r;dsimp only at hv hs hn ⊢;have a3:zeu s ⟨id,ver,vals⟩=if (zbl id ver && (vals.length == s.fields.length) && zfa s 0 vals)=true then 0 else 7:=rfl
 obtain ⟨c,hc⟩:=xex (zeu s ⟨id,ver,vals⟩);rw [hc] at a3 ⊢;have HV:=zjy hv;have b4:=zjy hs;have HS:=zjy h.any;have a0:=zjy a3;clear hv hs h a3 hc;cases hnum:zbl id ver
 ·have h7:c=7:=by rw [a0.o,hnum];rfl
  subst h7;have HN:=zjy hnum;clear hnum a0;go_enter func64,ntmps64
  go_wp2_with fail
  refine (zhh _ _ _).mono ?_;rw [HN.o];rintro e w1 ⟨rfl,rfl⟩;go_wp2_with fail
  go_ret;exact ⟨rfl,((Below.refl w.heap.size w).alloc xnl _).alloc (by simp) _⟩
 ·have HN:=zjy hnum
  by_cases hlen:vals.length=s.fields.length
  ·have a1:=zjy (show c=if zfa s 0 vals=true then 0 else 7 by rw [a0.o,hnum,hlen];simp)
   have b3:((vals.length:Int) != (s.fields.length:Int))=false:=by rw [hlen];simp
   have HL:=zjy hlen;clear hnum a0 hlen;go_enter func64,ntmps64
   go_wp2_with fail
   refine (zhh _ _ _).mono ?_;rw [HN.o];rintro e w1 ⟨rfl,rfl⟩;go_wp2_with fail
   refine zal (fun W hW=>?_)
   have b0:=xam hW
   have a7:W.heap[w.heap.size]?=some (.cells #[.slice af s.fields.length cf,vt,vn,vs] 33 (0,0)):=by rw [hW];exact zaf (zac rfl)
   clear hW;have a2:=zjy b0;have b1:=zjy a7;clear b0 a7;go_loopw [5,6,25] (fun _ _ i wr=>∃ j:Nat,i = .int .i64 j/\j<=vals.length/\Hid (zfa s j (vals.drop j)=zfa s 0 vals)/\Below W.heap.size W wr) (fun _ _ i _=>vals.length - (intOf i).toNat)
   case atStart=>exact ⟨0,rfl,by omega,zjy rfl,Below.refl _ _⟩
   case round =>
    obtain ⟨j,rfl,hj,HT,hb⟩:=hrel;have a4:=zjy hb;clear hb;by_cases hlt:j<vals.length
    ·have hq:decide ((j:Int)<vals.length)=true:=by simp;omega
     obtain ⟨x,hx⟩:=xex (vals[j]);have hxl:x.length<=1000000:=b4.o x (by rw [<- hx];exact List.getElem_mem _);have hT:=HT.o;rw [List.drop_eq_getElem_cons hlt,hx,zfa] at hT;obtain ⟨b,off,rfl,hb,hc⟩:=(HV.o.below (a2.o.trans (a4.o.mono a2.o.size))).get j hlt;have c0:=hc 0 _ rfl;rw [Nat.mul_one,Nat.add_zero,hx] at c0;have a6:=zab a4.o (zaa b1.o) b1.o;obtain ⟨s0,s1,s2,s3⟩:=zaq a6;have a5:=zjy hT;clear hc hT hx a6 HT;go_wp2_with fail
     refine (zg1 zau _ vt vn vs s j ⟨x.toArray⟩ _ (HS.o.below (a2.o.trans (a4.o.mono a2.o.size))) (by rw [zaj];omega)).mono ?_;rw [show (⟨x.toArray⟩:ByteArray).data.toList=x by simp];obtain ⟨nb,a8⟩:=xex (zat s j x);rw [a8] at a5 ⊢;rintro e w2 ⟨rfl,a9⟩;have b2:=xhh a4 a9;clear a9 a8 s0 s1 s2 s3 c0;cases nb
     ·have h7:c=7:=by rw [a1.o,<- a5.o];rfl
      subst h7;go_wp2_with fail
      go_ret;exact ⟨rfl,a2.o.trans (b2.o.mono a2.o.size)⟩
     ·go_wp2_with fail
      go_roundw
      case rel=>exact ⟨j+1,by go_num,by omega,zjy (by rw [<- a5.o,Bool.true_and]),b2.o⟩
      case measure=>simp [intOf];omega
    ·have hq:decide ((j:Int)<vals.length)=false:=by simp;omega
     obtain rfl:j=vals.length:=by omega
     have h0:c=0:=by rw [a1.o,<- HT.o,List.drop_length];rfl
     subst h0;go_wp2_with fail
     go_ret;exact ⟨rfl,a2.o.trans (a4.o.mono a2.o.size)⟩
  ·have h7:c=7:=by rw [a0.o,hnum];simp [hlen]
   have b3:((vals.length:Int) != (s.fields.length:Int))=true:=by simp;omega
   subst h7;clear hnum a0 hlen;go_enter func64,ntmps64
   go_wp2_with fail
   refine (zhh _ _ _).mono ?_;rw [HN.o];rintro e w1 ⟨rfl,rfl⟩;go_wp2_with fail
   go_ret;exact ⟨rfl,((Below.refl w.heap.size w).alloc xnl _).alloc (by simp) _⟩
end
section
open Go.RowKit Cal
attribute [local go_sem] zag zaj za6
structure ParsOk (P:List ParL):Prop where
 par:∀ i,i<P.length->ParOk (P.getD i default)
 salt:∀ i,i<P.length->(P.getD i default).salt<P.length/\(P.getD i default).salt≠i
structure RecIn (s:SchemaL) (P:List ParL) (r:RecL):Prop where
 chk:za1 s=0
 rec_:zdq s r=0
 len:P.length=s.fields.length
 pars:ParsOk P
 short:∀ v∈r.vals,v.length<=64
theorem RecIn.enc {s:SchemaL} {P:List ParL} {r:RecL} (h:RecIn s P r):EncIn s P r.vals:=by
 obtain ⟨_,a0,hl,a1⟩:=zgt h.rec_;have h5:=(zc3 h.chk).1.2;have hl2:=h.len
 refine ⟨by omega,by omega,fun i hi=>⟨h.pars.par i hi,by have:=(h.pars.salt i hi).1;omega,by omega,by omega,?_,?_,h.short⟩⟩
 ·rw [findN_in h.chk (by omega)]
 ·have:=zji s r.vals 0 a1 i (by omega)
  rwa [Nat.zero_add] at this
end
section
open Go.RowKit
def KeyPost (D:Nat) (w:World) (e:Ending) (w':World):Prop:=∃ k:Int × Int,e = .returned (.agg #[.int .u64 k.1,.int .u64 k.2])/\Moved D w w'
theorem key_deal (D:Nat) (w:World) (h:DeckAt w D) :
  Calls prog 12 #[.pointer (some ⟨D,0,none⟩)] w (KeyPost D w):=by
 have zD:=h.lt;have M0:=zjy (Moved.start h);clear h;go_enter func12,ntmps12
 go_wp2_with fail
 refine (word_any D _ (M0.o.alloc _).deck).mono ?_;rintro e w1 ⟨a,rfl,a0,a1,mv⟩;have M1:=zjy ((M0.o.alloc _).trans mv);have a3:=zjy (mv.blk (k:=w.heap.size) (by omega) (zac rfl));clear mv;go_wp2_with fail
 refine (word_any D _ M1.o.deck).mono ?_;rintro e w2 ⟨b,rfl,b0,b1,mv⟩;have M2:=zjy (M1.o.trans mv);have a2:=mv.blk (k:=w.heap.size) (by omega) a3.o;have a4:=zjy a2;obtain ⟨z0,z1⟩:=zae a2;have f0:=frozen_of_row _ _ 0 _ _ a2;have f1:=frozen_of_row _ _ 1 _ _ a2;have y1:=zaa a2;clear mv a2 a3 M1;go_wp2_with fail
 exact za5 rfl rfl (zad (i:=1) (v:=.int .u64 b) (zad (i:=0) (v:=.int .u64 a) a4.o)) underlying41 rfl (by kernel_rfl)
  ⟨(a,b),rfl,(M2.o.set (a:=⟨w.heap.size,0,none⟩) xnl _).set (a:=⟨w.heap.size,1,none⟩) xnl _⟩
theorem infoPar:(prog.info? 87).map (fun i=>(i.zero,i.size,i.bytes))=some (some (.agg #[.int .i64 0,.int .i64 0,.int .i64 0]),3,24):=by kernel_rfl
theorem one_encPar:∀ (x:ParL),∀ u∈zcm x,u.oneCell'=true:=by
 intro x u hu;simp at hu;rcases hu with rfl | rfl | rfl <;> rfl
structure ParsD (n j:Nat) (P:List ParL):Prop where
 len:P.length=j
 par:∀ i,i<j->ParOk (P.getD i default)/\(P.getD i default).salt<n/\(P.getD i default).salt≠i
theorem ParsD.nil (n:Nat):ParsD n 0 []:=⟨rfl,fun i hi=>by omega⟩
theorem ParsD.snoc {n j:Nat} {P:List ParL} {p:ParL} (h:ParsD n j P) (hp:ParOk p) (h1:p.salt<n) (h2:p.salt≠j):ParsD n (j+1) (P++[p]):=by
 refine ⟨by simp [h.len],fun i hi=>?_⟩
 by_cases hij:i<j
 ·have e:(P++[p]).getD i default=P.getD i default:=by rw [List.getD,List.getD,List.getElem?_append_left (by rw [h.len];exact hij)]
  rw [e];exact h.par i hij
 ·have a0:i=j:=by omega
  subst a0;have e:(P++[p]).getD i default=p:=by rw [List.getD,List.getElem?_append_right (by rw [h.len];exact Nat.le_refl _),h.len,Nat.sub_self];rfl
  rw [e];exact ⟨hp,h1,h2⟩
def ParsPost (D n:Nat) (w:World) (e:Ending) (w':World):Prop:=∃ v P,e = .returned v/\Vec w' (fun b=>w.heap.size<=b) 3 zcm v P/\ParsD n n P/\Moved D w w'
theorem OwnM.set2 {α:Type} {D e size:Nat} {enc:α->List Value} {wA w:World} {u:Value} {L:List α} (h:OwnM D e size enc wA u L w) {a:Addr} {v:Value} (ha:wA.heap.size<=a.block) (hn:∀ g cap,u = .slice (some ⟨g,0,none⟩) L.length cap->g<a.block):OwnM D e size enc wA u L (w.setCell a v):=by
 refine ⟨⟨h.1.1,?_⟩,h.2.set ha v⟩
 rcases h.1.2 with h0 | ⟨g,cap,cur,hv,hg,hh,rest⟩
 ·exact .inl h0
 ·exact .inr ⟨g,cap,cur,hv,hg,zam hh (by have:=hn g cap hv;omega),rest⟩
theorem pars_deal (D n:Nat) (w:World) (h:DeckAt w D) (hn:n<=5) :
  Calls prog 10 #[.pointer (some ⟨D,0,none⟩),.int .i64 n] w (ParsPost D n w):=by
 have zD:=h.lt;have M0:=zjy (Moved.start h);clear h;go_enter func10,ntmps10
 go_wp2_with fail
 go_loopw [5,6,7] (fun v i _ wr=>∃ (j:Nat) (P:List ParL),i = .int .i64 j/\j<=n/\OwnM D 87 3 zcm w v P wr/\ParsD n j P) (fun _ i _ _=>n - (intOf i).toNat)
 case atStart=>exact ⟨0,[],rfl,by omega,⟨⟨by simp,.inl ⟨rfl,rfl⟩⟩,M0.o⟩,ParsD.nil n⟩
 case round =>
  obtain ⟨j,P,rfl,hj,ho,hp⟩:=hrel;have HO:=zjy ho;have a4:=zjy hp;clear ho hp;by_cases hlt:j<n
  ·have hq:decide ((j:Int)<n)=true:=by simp;omega
   go_wp2_with fail
   refine (zb5 D _ 3 HO.o.2.deck (by omega) (by omega)).mono ?_;rintro e w1 ⟨x,rfl,x0,x1,mv⟩;have b3:=zjy (HO.o.moved mv);clear mv HO;go_wp2_with fail
   refine (zb5 D _ 6 b3.o.2.deck (by omega) (by omega)).mono ?_;rintro e w2 ⟨y,rfl,y0,y1,mv⟩;have a2:=zjy (b3.o.moved mv);clear mv b3;by_cases hn1:1<n
   ·have b8:decide ((1:Int)<n)=true:=by simp;omega
    go_wp2_with fail
    refine (zfj D _ 3 (a2.o.2.alloc _).deck (by omega) (by omega)).mono ?_;rintro e w3 ⟨u,rfl,mv⟩;have a6:=mv.blk (k:=w2.heap.size) (by have:=a2.o.2.size;omega) (zac rfl);have a5:=zjy (a2.o.moved (((Moved.start a2.o.2.deck).alloc (.cells #[.int .i64 (64*(1+x)),.int .i64 (1+y),.int .i64 (-1)] 87)).trans mv));have b4:=a2.o.2.size;have hz3:=zaa a6;have hz4:=mv.size;clear mv;obtain ⟨x0',x1',x2'⟩:=zan a6;have f2:=frozen_of_row _ _ 2 _ _ a6
    have b7:∀ g b6,u5 = .slice (some ⟨g,0,none⟩) P.length b6->g<w2.heap.size:=by
     intro g b6 e
     rcases a2.o.1.2 with ⟨h0,_⟩ | ⟨g',cap',cur,h0,hg,hh,_⟩
     ·rw [h0] at e;cases e
     ·rw [h0] at e;cases e;exact zaa hh
    cases u
    ·clear f2 a6 a2
     have a0:ParOk ⟨64*(1+x),1+y,-1⟩:=⟨by dsimp only;omega,by dsimp only;omega,by dsimp only;omega,by dsimp only;omega,by dsimp only;omega,by dsimp only;omega,by dsimp only;omega⟩;have a3:=a4.o.snoc (p:=⟨64*(1+x),1+y,-1⟩) a0 (by dsimp only;omega) (by dsimp only;omega);have a1:=zjy a3;have a7:=zjy (a5.o.moved ((Moved.start a5.o.2.deck).alloc (.cells #[.int .i64 (64*(1+x)),.int .i64 (1+y),.int .i64 (-1)] 87)));have a9:=a4.o.len;have b1:P.length+[(⟨64*(1+x),1+y,-1⟩:ParL)].length<=1000000000:=by simp only [List.length_cons,List.length_nil];omega
     clear a9 a3 a0;have b2:=zjy (show zck _ 3 (.slice (some ⟨w3.heap.size,0,none⟩) 1 1) [(⟨64*(1+x),1+y,-1⟩:ParL)].length ([(⟨64*(1+x),1+y,-1⟩:ParL)].flatMap zcm) from za0 (w:=w3.alloc (.cells #[.int .i64 (64*(1+x)),.int .i64 (1+y),.int .i64 (-1)] 87)) (t:=87) (fr:=(0,0)) (zac rfl) rfl);go_wp2_with (at_builtin;refine zel rfl (.tmp 32) (.tmp 34) 35 rfl D 87 (.agg #[.int .i64 0,.int .i64 0,.int .i64 0]) 3 24 zcm (fun _=>rfl) one_encPar underlying35 infoPar rfl (by decide) (by decide) (wA:=w) (v:=u5) (A:=P) (B:=[⟨64*(1+x),1+y,-1⟩]) rfl a7.o rfl b2.o b1 ?_;intro v4 w4 b0 b5)
     go_roundw
     case rel=>exact ⟨j+1,P++[⟨64*(1+x),1+y,-1⟩],by go_num,by omega,b0,a1.o⟩
     case measure=>simp [intOf];omega
    ·obtain ⟨q,b9,hqn,hqj⟩:∃ q:Nat,((j:Int)+1) % (n:Int)=q/\q<n/\q≠j:=by
      by_cases hjn:j+1=n
      ·exact ⟨0,by rw [show (j:Int)+1=(n:Int) by omega,Int.emod_self];rfl,by omega,by omega⟩
      ·exact ⟨j+1,by rw [Int.emod_eq_of_lt (by omega) (by omega)];rfl,by omega,by omega⟩
     have hn0:(n:Int)≠0:=by omega
     have a8:=zad (i:=2) (v:=.int .i64 q) a6;have HBX:=zjy a8;clear a8 a6 a2;have a0:ParOk ⟨64*(1+x),1+y,q⟩:=⟨by dsimp only;omega,by dsimp only;omega,by dsimp only;omega,by dsimp only;omega,by dsimp only;omega,by dsimp only;omega,by dsimp only;omega⟩;have a3:=a4.o.snoc (p:=⟨64*(1+x),1+y,q⟩) a0 (by dsimp only;omega) (by dsimp only;omega);have a1:=zjy a3;have a7:=zjy (OwnM.set2 a5.o (a:=⟨w2.heap.size,2,none⟩) (v:=.int .i64 q) b4 b7);have a9:=a4.o.len;have b1:P.length+[(⟨64*(1+x),1+y,q⟩:ParL)].length<=1000000000:=by simp only [List.length_cons,List.length_nil];omega
     clear a9 a3 a0;have c0:=zjy (a7.o.moved ((Moved.start a7.o.2.deck).alloc (.cells #[.int .i64 (64*(1+x)),.int .i64 (1+y),.int .i64 (q:Int)] 87)));have b2:=zjy (show zck _ 3 (.slice (some ⟨w3.heap.size,0,none⟩) 1 1) [(⟨64*(1+x),1+y,q⟩:ParL)].length ([(⟨64*(1+x),1+y,q⟩:ParL)].flatMap zcm) from za0 (w:=(w3.setCell ⟨w2.heap.size,2,none⟩ (.int .i64 q)).alloc (.cells #[.int .i64 (64*(1+x)),.int .i64 (1+y),.int .i64 (q:Int)] 87)) (t:=87) (fr:=(0,0)) (zac (by simp [World.setCell])) rfl);go_wp2_with (at_builtin;refine zel rfl (.tmp 32) (.tmp 34) 35 rfl D 87 (.agg #[.int .i64 0,.int .i64 0,.int .i64 0]) 3 24 zcm (fun _=>rfl) one_encPar underlying35 infoPar rfl (by decide) (by decide) (wA:=w) (v:=u5) (A:=P) (B:=[⟨64*(1+x),1+y,q⟩]) rfl c0.o rfl b2.o b1 ?_;intro v4 w4 b0 b5)
     go_roundw
     case rel=>exact ⟨j+1,P++[⟨64*(1+x),1+y,q⟩],by go_num,by omega,b0,a1.o⟩
     case measure=>simp [intOf];omega
   ·have b8:decide ((1:Int)<n)=false:=by simp;omega
    have b4:=a2.o.2.size;have a0:ParOk ⟨64*(1+x),1+y,-1⟩:=⟨by dsimp only;omega,by dsimp only;omega,by dsimp only;omega,by dsimp only;omega,by dsimp only;omega,by dsimp only;omega,by dsimp only;omega⟩;have a3:=a4.o.snoc (p:=⟨64*(1+x),1+y,-1⟩) a0 (by dsimp only;omega) (by dsimp only;omega);have a1:=zjy a3;have a7:=zjy (a2.o.moved (((Moved.start a2.o.2.deck).alloc (.cells #[.int .i64 (64*(1+x)),.int .i64 (1+y),.int .i64 (-1)] 87)).alloc (.cells #[.int .i64 (64*(1+x)),.int .i64 (1+y),.int .i64 (-1)] 87)));have a9:=a4.o.len;have b1:P.length+[(⟨64*(1+x),1+y,-1⟩:ParL)].length<=1000000000:=by simp only [List.length_cons,List.length_nil];omega
    clear a9 a3 a0;have b2:=zjy (show zck _ 3 (.slice (some ⟨w2.heap.size+1,0,none⟩) 1 1) [(⟨64*(1+x),1+y,-1⟩:ParL)].length ([(⟨64*(1+x),1+y,-1⟩:ParL)].flatMap zcm) from za0 (w:=(w2.alloc (.cells #[.int .i64 (64*(1+x)),.int .i64 (1+y),.int .i64 (-1)] 87)).alloc (.cells #[.int .i64 (64*(1+x)),.int .i64 (1+y),.int .i64 (-1)] 87)) (t:=87) (fr:=(0,0)) (zac (by simp)) rfl);go_wp2_with (at_builtin;refine zel rfl (.tmp 32) (.tmp 34) 35 rfl D 87 (.agg #[.int .i64 0,.int .i64 0,.int .i64 0]) 3 24 zcm (fun _=>rfl) one_encPar underlying35 infoPar rfl (by decide) (by decide) (wA:=w) (v:=u5) (A:=P) (B:=[⟨64*(1+x),1+y,-1⟩]) rfl a7.o rfl b2.o b1 ?_;intro v4 w4 b0 b5)
    go_roundw
    case rel=>exact ⟨j+1,P++[⟨64*(1+x),1+y,-1⟩],by go_num,by omega,b0,a1.o⟩
    case measure=>simp [intOf];omega
  ·have hq:decide ((j:Int)<n)=false:=by simp;omega
   obtain rfl:j=n:=by omega
   go_wp2_with fail
   go_ret;exact ⟨_,P,rfl,Vec.owns (k:=3) (enc:=zcm) (fun _=>rfl) HO.o.1 (fun b hb _=>hb),a4.o,HO.o.2⟩
end
section
open Go.RowKit
attribute [local go_sem] zag zaj zba
theorem ext_one (s:ByteArray) (k:Nat) (h:k<s.size):s.extract k (k+1)=⟨[s[k]].toArray⟩:=by
 have hl:s.data.toList.length=s.size:=by simp
 have:=ext_mk s.data.toList k (k+1) (by omega);unfold mkS at this;have e:(⟨s.data.toList.toArray⟩:ByteArray)=s:=by simp
 rw [e] at this;rw [this];congr 2;rw [zew s k h,List.drop_append_of_le_length (by rw [List.length_take];omega),List.drop_eq_nil_of_le (by rw [List.length_take];omega),List.nil_append]
theorem zhd (s:ByteArray) (w:World) (hs:s.size<=1000000) :
  Calls prog 152 #[.string s] w fun e w'=>e = .returned (zak (za7 s.data.toList))/\w=w':=by
 have hl:s.data.toList.length=s.size:=by simp
 have HL:=zjy hl;clear hl;go_enter func152,ntmps152
 go_wp2_with fail
 go_loop [3,4] (fun o i=>∃ k:Nat,k<=s.size/\i = .int .i64 k/\o=zak (za7 (s.data.toList.take k))) (fun _ i=>s.size - (intOf i).toNat)
 case atStart=>exact ⟨0,by omega,rfl,rfl⟩
 case round =>
  obtain ⟨k,hk,rfl,rfl⟩:=hrel;by_cases hlt:k<s.size
  ·have hq:decide ((k:Int)<s.size)=true:=by simp;omega
   have ht:=zjy (zew s k hlt);have hb:=s[k].toNat_lt;have a1:(za7 (s.data.toList.take k)).length<=1000000:=by have:=zfv (s.data.toList.take k);have:=List.length_take_le k s.data.toList;omega
   have a0:=ext_one s k hlt;cases hlo:zf8 s[k]
   ·have HN:=zjy (letters_no (s.data.toList.take k) s[k] hlo)
    have hc:=hlo;rw [zdz,decide_eq_false_iff_not] at hc;have a2:(97<=(s[k].toNat:Int)/\122<(s[k].toNat:Int))\/(s[k].toNat:Int)<97:=by omega
    clear hc hlo a0
    rcases a2 with ⟨g1,g2⟩ | g1
    all_goals
     go_wp2_with fail
     go_round
     case rel=>exact ⟨k+1,by omega,by go_num,by rw [ht.o,HN.o]⟩
     case measure=>simp [intOf];omega
   ·have HY:=zjy (letters_yes (s.data.toList.take k) s[k] hlo)
    have hc:=hlo;rw [zdz,decide_eq_true_iff] at hc;obtain ⟨g1,g2⟩:=hc;clear hlo;go_wp2_with fail
    go_round
    case rel=>exact ⟨k+1,by omega,by go_num,by rw [ht.o,HY.o]⟩
    case measure=>simp [intOf];omega
  ·obtain rfl:k=s.size:=by omega
   have hq:decide ((s.size:Int)<s.size)=false:=by simp
   have HF:=zjy (List.take_of_length_le (by rw [HL.o];exact Nat.le_refl _):s.data.toList.take s.size=s.data.toList);go_wp2_with fail
   go_ret;exact ⟨by show Ending.returned (zak (za7 (s.data.toList.take s.size)))=_;rw [HF.o],rfl⟩
theorem join_snoc (T:List (List UInt8)) (x:List UInt8):za2 (T++[x])=if T=[] then x else za2 T++[32]++x:=by
 induction T with
 | nil=>rfl
 | cons t T ih =>
  rw [if_neg (by simp)];by_cases hT:T=[]
  ·subst hT;simp [za2]
  ·rw [if_neg hT] at ih
   rw [List.cons_append,zbj _ _ (by simp),ih,zbj _ _ hT];simp
theorem zjk (L:List (List UInt8)):∀ k,(za2 (L.take k)).length<=(za2 L).length:=by
 induction L with
 | nil=>intro k;simp
 | cons a L ih =>
  intro k;cases k with
  | zero=>simp [za2]
  | succ k =>
   rw [List.take_succ_cons];by_cases hk:L.take k=[]
   ·rw [hk]
    by_cases hL:L=[]
    ·subst hL;simp [za2]
    ·rw [zbj _ _ hL];simp [za2]
   ·have hL:L≠[]:=by intro e;subst e;simp at hk
    rw [zbj _ _ hk,zbj _ _ hL];have:=ih k;simp;omega
theorem rjoin_any (S:Nat->Prop) (v:Value) (L:List (List UInt8)) (w:World) (h:Vec w S 1 za8 v L) (hn:L.length<=1000000) (hj:(za2 L).length<=1000000000) :
  Calls prog 168 #[v] w fun e w'=>e = .returned (zak (za2 L))/\w=w':=by
 obtain ⟨a,cap,rfl⟩:=h.slice;have HV:=zjy h;clear h;go_enter func168,ntmps168
 go_wp2_with fail
 go_loop [3,4] (fun o i=>∃ k:Nat,k<=L.length/\i = .int .i64 k/\o=zak (za2 (L.take k))) (fun _ i=>L.length - (intOf i).toNat)
 case atStart=>exact ⟨0,by omega,rfl,rfl⟩
 case round =>
  obtain ⟨k,hk,rfl,rfl⟩:=hrel;have a5:=zjk L k;by_cases hlt:k<L.length
  ·have hq:decide ((k:Int)<L.length)=true:=by simp;omega
   obtain ⟨b,off,rfl,_,hb,hc⟩:=zb7 HV.o (by omega);have c1:=hc k hlt;have a2:=zfo L k hlt;rw [show (default:List UInt8)=[] from rfl] at a2;have a1:=zjk L (k+1);have a0:=join_snoc (L.take k) (L.getD k []);rw [<- a2] at a0;obtain ⟨x,hx⟩:=xex (L.getD k []);rw [hx] at c1 a2 a0
   have hx1:x.length<=1000000000:=by
    rw [a0] at a1;split at a1
    ·omega
    ·simp at a1;omega
   have a4:=zjy a0;clear hc a2 a0 hx a1;by_cases hk0:k=0
   ·subst hk0
    have e0:za2 ([]:List (List UInt8))=[]:=rfl;rw [Nat.add_zero] at c1;go_wp2_with fail
    go_round
    case rel=>exact ⟨1,by omega,by go_num,by rw [a4.o,if_pos (by simp)]⟩
    case measure=>simp [intOf];omega
   ·have hq0:decide ((0:Int)<k)=true:=by simp;omega
    have hk1:0<k:=by omega
    have a3:L.take k≠[]:=by intro e;have:=congrArg List.length e;rw [List.length_take,List.length_nil] at this;omega
    have a6:=zjy a3;clear hk0 a3;go_wp2_with fail
    go_round
    case rel=>exact ⟨k+1,by omega,by go_num,by rw [a4.o,if_neg a6.o];simp⟩
    case measure=>simp [intOf];omega
  ·obtain rfl:k=L.length:=by omega
   have hq:decide ((L.length:Int)<L.length)=false:=by simp
   have HF:=zjy (List.take_of_length_le xnl:L.take L.length=L);go_wp2_with fail
   go_ret;exact ⟨rfl,rfl⟩
end
section
open Go.RowKit
attribute [local go_sem] zag zaj zba
theorem zik (s:ByteArray) (w:World) (hs:s.size<=1000000) :
  Calls prog 164 #[.string s] w fun e w'=>∃ v,e = .returned v/\OwnAt w v (zcu s.data.toList) w':=by
 have hl:s.data.toList.length=s.size:=by simp
 have HL:=zjy hl;clear hl;obtain ⟨l,hl⟩:=xex (s.data.toList);rw [hl] at HL;have b3:=zjy hl;rw [hl];clear hl;go_enter func164,ntmps164
 go_wp2_with fail
 go_loopw [3,4,5] (fun v t i wr=>∃ (k:Nat) (C:List (List UInt8)) (p:List UInt8),k<=s.size+1/\i = .int .i64 k/\t=zak p/\OwnAt w v C wr/\p.length<=k/\C.length<=k/\(k=s.size+1->p=[])/\Hid (zcu l=C++zbw p (l.drop k))) (fun _ _ i _=>s.size+1 - (intOf i).toNat)
 case atStart=>exact ⟨0,[],[],by omega,rfl,rfl,OwnAt.start w,by simp,by simp,by omega,zjy rfl⟩
 case round =>
  obtain ⟨k,C,p,hk,rfl,rfl,ho,hp,hC,a6,HT⟩:=hrel;have HO:=zjy ho;have b2:=zjy a6;clear ho a6;by_cases hlt:k<s.size
  ·have hq:decide ((k:Int)<=s.size)=true:=by simp;omega
   have a9:decide ((k:Int)<s.size)=true:=by simp;omega
   have a1:=drop_one s k hlt;rw [b3.o] at a1;by_cases hsp:s[k]=32
   ·have e1:((s[k].toNat:Int) != 32)=false:=by rw [hsp];rfl
    rw [hsp] at a1;have HD:=zjy a1;clear hsp a1;by_cases hp0:p=[]
    ·subst hp0
     go_wp2_with fail
     go_roundw
     case rel=>exact ⟨k+1,C,[],by omega,by go_num,rfl,HO.o,by simp,by omega,fun _=>rfl,zjy (by rw [HT.o,HD.o,zbm])⟩
     case measure=>simp [intOf];try omega
    ·have f1:(p == [])=false:=by simpa using hp0
     have f2:p.isEmpty=false:=by simpa using hp0
     have f3:(p != [])=true:=by simpa using hp0
     have a5:=zjy hp0;clear hp0;have a2:∀ u∈(#[zak p]:Array Value).toList,u.oneCell'=true:=by intro u hu;simp at hu;subst hu;rfl
     go_wp2_with (at_builtin;refine zay rfl _ _ 28 rfl w.heap.size 9 1 16 (.string ⟨#[]⟩) underlying28 zdt rfl (by decide) (by decide) _ _ _ rfl HO.o.1 #[zak p] 1 rfl rfl a2 (by omega) HO.o.2.size ?_;intro v2 w8 a4 a3)
     go_roundw
     case rel=>exact ⟨k+1,C++[p],[],by omega,by go_num,rfl,⟨by rw [List.length_append,zd4];exact a4,a3 _ HO.o.2⟩,by simp,by rw [List.length_append,List.length_singleton];omega,fun _=>rfl,zjy (by rw [HT.o,HD.o,zbz _ _ a5.o];simp)⟩
     case measure=>simp [intOf];try omega
   ·have e1:((s[k].toNat:Int) != 32)=true:=by
     simp only [bne_iff_ne,ne_eq];intro e;apply hsp;rw [<- UInt8.toNat_inj];simp;omega
    have b0:=ext_one s k hlt;have HD:=zjy a1;have b1:=zjy hsp;clear hsp a1;go_wp2_with fail
    go_roundw
    case rel=>exact ⟨k+1,C,p++[s[k]],by omega,by go_num,rfl,HO.o,by simp;omega,by omega,fun h=>by omega,zjy (by rw [HT.o,HD.o,zb0 _ _ _ b1.o])⟩
    case measure=>simp [intOf];omega
  ·by_cases hke:k=s.size
   ·subst hke
    have hq:decide ((s.size:Int)<=s.size)=true:=by simp
    have a9:decide ((s.size:Int)<s.size)=false:=by simp
    have a1:l.drop s.size=[]:=List.drop_eq_nil_of_le (by rw [HL.o];exact Nat.le_refl _);have a0:l.drop (s.size+1)=[]:=List.drop_eq_nil_of_le (by rw [HL.o];omega);have HD:=zjy a1;have a8:=zjy a0;clear a1 a0;by_cases hp0:p=[]
    ·subst hp0
     go_wp2_with fail
     go_roundw
     case rel=>exact ⟨s.size+1,C,[],by omega,by go_num,rfl,HO.o,by simp,by omega,fun _=>rfl,zjy (by rw [HT.o,HD.o,a8.o])⟩
     case measure=>simp [intOf];try omega
    ·have f1:(p == [])=false:=by simpa using hp0
     have f2:p.isEmpty=false:=by simpa using hp0
     have f3:(p != [])=true:=by simpa using hp0
     have a5:=zjy hp0;clear hp0;have a2:∀ u∈(#[zak p]:Array Value).toList,u.oneCell'=true:=by intro u hu;simp at hu;subst hu;rfl
     go_wp2_with (at_builtin;refine zay rfl _ _ 28 rfl w.heap.size 9 1 16 (.string ⟨#[]⟩) underlying28 zdt rfl (by decide) (by decide) _ _ _ rfl HO.o.1 #[zak p] 1 rfl rfl a2 (by omega) HO.o.2.size ?_;intro v2 w8 a4 a3)
     go_roundw
     case rel=>exact ⟨s.size+1,C++[p],[],by omega,by go_num,rfl,⟨by rw [List.length_append,zd4];exact a4,a3 _ HO.o.2⟩,by simp,by rw [List.length_append,List.length_singleton];omega,fun _=>rfl,zjy (by rw [HT.o,HD.o,a8.o,ze8 _ a5.o];simp [zbw])⟩
     case measure=>simp [intOf];try omega
   ·have hq:decide ((k:Int)<=s.size)=false:=by simp;omega
    obtain rfl:k=s.size+1:=by omega
    obtain rfl:p=[]:=b2.o rfl;have a0:l.drop (s.size+1)=[]:=List.drop_eq_nil_of_le (by rw [HL.o];omega);have hT:=HT.o;rw [a0] at hT;have a7:zcu l=C:=by rw [hT];simp [zbw]
    rw [<- a7] at HO;clear hT a7 a0 hke;go_wp2_with fail
    go_ret;exact ⟨_,rfl,HO.o⟩
end
section
open Go.RowKit
def zgg:List UInt8->Bool
 | []=>false
 | [c]=>c == 32
 | _ :: d :: r=>zgg (d :: r)
theorem zhm (c:UInt8) {R:List UInt8} (h:R≠[]):zgg (c :: R)=zgg R:=by
 cases R with
 | nil=>exact absurd rfl h
 | cons d r=>rfl
theorem ends_snoc (R:List UInt8) (c:UInt8):zgg (R++[c])=(c == 32):=by
 induction R with
 | nil=>rfl
 | cons d R ih=>rw [List.cons_append,zhm _ (by simp),ih]
theorem ends_app (R:List UInt8) {x:List UInt8} (h:x≠[]) (h2:∀ b∈x,b≠32):zgg (R++x)=false:=by
 obtain ⟨y,c,rfl⟩:∃ y c,x=y++[c]:=⟨_,_,(List.dropLast_concat_getLast h).symm⟩;rw [<- List.append_assoc,ends_snoc];simpa using h2 c (by simp)
theorem toksA_only (x:List UInt8) (h2:∀ b∈x,b≠32):∀ p,p++x≠[]->zbw p x=[p++x]:=by
 induction x with
 | nil=>intro p h;rw [List.append_nil] at h;rw [ze8 _ h,List.append_nil]
 | cons c x ih =>
  intro p _;rw [zb0 _ _ _ (h2 c List.mem_cons_self),ih (fun b hb=>h2 b (List.mem_cons_of_mem _ hb)) _ (by simp)]
  simp
theorem join_nil {T:List (List UInt8)} (h:∀ t∈T,t≠[]) (e:za2 T=[]):T=[]:=by
 cases T with
 | nil=>rfl
 | cons t T =>
  exfalso;by_cases hT:T=[]
  ·subst hT;exact h t List.mem_cons_self (by simpa [za2] using e)
  ·rw [zbj _ _ hT] at e;simp at e
theorem spaces_end (R:List UInt8):zbw [] R=[]->zgg (32 :: R)=true:=by
 induction R with
 | nil=>intro _;rfl
 | cons c R ih =>
  intro h;rw [zhm _ (by simp)];by_cases hc:c=32
  ·subst hc
   rw [zbm] at h;exact ih h
  ·exfalso
   rw [zb0 _ _ _ hc] at h;have:=(zd3 R ([]++[c])).2
   have h3:∀ (R:List UInt8) p,p≠[]->zbw p R≠[]:=by
    intro R;induction R with
    | nil=>intro p hp;rw [ze8 _ hp];simp
    | cons d R ih2 =>
     intro p hp;by_cases hd:d=32
     ·subst hd;rw [zbz _ _ hp];simp
     ·rw [zb0 _ _ _ hd];exact ih2 _ (by simp)
   exact h3 R _ (by simp) h
theorem toksA_more (R:List UInt8) {x:List UInt8} (h:x≠[]) (h2:∀ b∈x,b≠32):∀ p,zbw p (R++x)≠[]:=by
 induction R with
 | nil=>intro p;rw [List.nil_append,toksA_only x h2 p (by simp [h])];simp
 | cons c R ih =>
  intro p;rw [List.cons_append];by_cases hc:c=32
  ·subst hc
   by_cases hp:p=[]
   ·subst hp;rw [zbm];exact ih []
   ·rw [zbz _ _ hp];simp
  ·rw [zb0 _ _ _ hc];exact ih _
theorem join_more {x:List UInt8} (h:x≠[]) (h2:∀ b∈x,b≠32) (R:List UInt8):∀ p,za2 (zbw p (R++x))=za2 (zbw p R)++(if zgg R=true/\za2 (zbw p R)≠[] then [32] else [])++x:=by
 induction R with
 | nil =>
  intro p;rw [List.nil_append,toksA_only x h2 p (by simp [h]),if_neg (by simp [zgg])];by_cases hp:p=[]
  ·subst hp;simp [zbw,za2]
  ·rw [ze8 _ hp];simp [za2]
 | cons c R ih =>
  intro p;rw [List.cons_append];by_cases hc:c=32
  ·subst hc
   by_cases hp:p=[]
   ·subst hp
    rw [zbm,zbm,ih []];by_cases hR:R=[]
    ·subst hR;simp [zgg,zbw,za2]
    ·rw [zhm _ hR]
   ·rw [zbz _ _ hp,zbz _ _ hp,zbj _ _ (toksA_more R h h2 []),ih []]
    by_cases hT:zbw [] R=[]
    ·rw [hT]
     have he:=spaces_end R hT;rw [if_neg (by simp [za2]),if_pos ⟨he,by simpa [za2] using hp⟩];simp [za2]
    ·have hR:R≠[]:=by intro e;subst e;exact hT rfl
     have hj:za2 (zbw [] R)≠[]:=fun e=>hT (join_nil (toksA_ne R []) e)
     rw [zbj _ _ hT,zhm _ hR];by_cases he:zgg R=true
     ·rw [if_pos ⟨he,hj⟩,if_pos ⟨he,by simp⟩];simp
     ·rw [if_neg (fun h=>he h.1),if_neg (fun h=>he h.1)];simp
  ·rw [zb0 _ _ _ hc,zb0 _ _ _ hc,ih]
   by_cases hR:R=[]
   ·subst hR
    rw [if_neg (by simp [zgg]),if_neg (by simp [zgg,hc])]
   ·rw [zhm _ hR]
theorem fold_more {x:List UInt8} (h:x≠[]) (h2:∀ b∈x,b≠32) (R:List UInt8):za2 (zcu (R++x))=za2 (zcu R)++(if zgg R=true/\za2 (zcu R)≠[] then [32] else [])++x:=join_more h h2 R []
theorem fold_space (R:List UInt8):zcu (R++[32])=zcu R:=toksA_last R []
end
section
open Go.RowKit
attribute [local go_sem] zag zaj zba
theorem ok_not_pair (s:ByteArray) (k:Nat) (hk:k<s.size) (h:zfl s[k]=true):zdw (s.data.toList.drop k)=false:=by
 by_cases h2:k+1<s.size
 ·rw [zfn s k h2];exact byte_pair h
 ·rw [zho s k (by omega)];rfl
theorem zip (s:ByteArray) (k:Nat) (h2:k+1<s.size) (h:zdw (s.data.toList.drop k)=true):s[k]=195/\128<=(s[k+1].toNat:Int)/\(s[k+1].toNat:Int)<=191:=by
 rw [zfn s k h2] at h;have h':zjl s[k] s[k+1]=true:=h;rw [zh0,decide_eq_true_iff] at h';exact ⟨by rw [<- UInt8.toNat_inj];simp;omega,h'.2⟩
theorem rvalid_text (s:ByteArray) (w:World) (hs:s.size<=9223372036854775000) :
  Calls prog 198 #[.string s] w fun e w'=>e = .returned (.bool (zdi s.data.toList))/\w=w':=by
 have hl:s.data.toList.length=s.size:=by simp
 have HL:=zjy hl;clear hl;unfold zdi;by_cases h64:s.size<=64
 ·have d1:decide ((64:Int)<s.size)=false:=by simp;omega
  go_enter func198,ntmps198
  go_wp2_with fail
  clear d1;go_loop [3] (fun i=>∃ k:Nat,k<=s.size/\i = .int .i64 k/\Hid (zcx s.data.toList=zcx (s.data.toList.drop k))) (fun i=>s.size - (intOf i).toNat)
  case atStart=>exact ⟨0,by omega,rfl,zjy rfl⟩
  case round =>
   obtain ⟨k,hk,rfl,HV⟩:=hrel;by_cases hlt:k<s.size
   ·have hq:decide ((k:Int)<s.size)=true:=by simp;omega
    have hb:=s[k].toNat_lt;cases hok:zfl s[k]
    ·cases hp:zdw (s.data.toList.drop k)
     ·have hv:=zjy (zgj s k hlt hp)
      have a2:=zjy hok;rw [ok_iff,decide_eq_false_iff_not] at hok;have hc:(s[k].toNat:Int)<32\/(32<=(s[k].toNat:Int)/\126<(s[k].toNat:Int)):=by omega
      clear hok;have a0:zcx s.data.toList=false:=by rw [HV.o,hv.o,a2.o];rfl
      have HF:=zjy a0;clear a0;by_cases h195:s[k]=195
      ·have e1:((s[k].toNat:Int) != 195)=false:=by rw [h195];rfl
       by_cases h2:k+1<s.size
       ·have e2:((k:Int)+1 == (s.size:Int))=false:=by simp only [beq_eq_false_iff_ne,ne_eq];omega
        rw [zfn s k h2] at hp;have a3:zjl s[k] s[k+1]=false:=hp;rw [zh0,decide_eq_false_iff_not] at a3;have a1:(s[k].toNat:Int)=195:=by rw [h195];rfl
        have a4:(s[k+1].toNat:Int)<128\/(128<=(s[k+1].toNat:Int)/\191<(s[k+1].toNat:Int)):=by omega
        clear hp a3 h195 a1
        rcases hc with g1 | ⟨g1,g2⟩ <;> rcases a4 with g3 | ⟨g3,g4⟩
        all_goals
         go_wp2_with fail
         go_ret;exact ⟨zax (by rw [HF.o];try rfl),rfl⟩
       ·have e2:((k:Int)+1 == (s.size:Int))=true:=by simp only [beq_iff_eq];omega
        clear hp h195
        rcases hc with g1 | ⟨g1,g2⟩
        all_goals
         go_wp2_with fail
         go_ret;exact ⟨zax (by rw [HF.o];try rfl),rfl⟩
      ·have e1:((s[k].toNat:Int) != 195)=true:=by
        simp only [bne_iff_ne,ne_eq];intro e;apply h195;rw [<- UInt8.toNat_inj];simp;omega
       clear hp h195
       rcases hc with g1 | ⟨g1,g2⟩
       all_goals
        go_wp2_with fail
        go_ret;exact ⟨zax (by rw [HF.o];try rfl),rfl⟩
     ·have h2:=zhf s k hlt hp
      have hv:=zjy (valid_two s k hlt hp);obtain ⟨g0,g3,g4⟩:=zip s k h2 hp;have e1:((s[k].toNat:Int) != 195)=false:=by rw [g0];rfl
      have e2:((k:Int)+1 == (s.size:Int))=false:=by simp only [beq_eq_false_iff_ne,ne_eq];omega
      have g1:32<=(s[k].toNat:Int):=by rw [g0];decide
      have g2:126<(s[k].toNat:Int):=by rw [g0];decide
      clear hok hp g0;go_wp2_with fail
      go_round
      case rel=>exact ⟨k+2,by omega,by go_num,zjy (HV.o.trans hv.o)⟩
      case measure=>simp [intOf];omega
    ·have hp:=ok_not_pair s k hlt hok
     have hv:=zjy (zgj s k hlt hp);have a2:=zjy hok;rw [ok_iff,decide_eq_true_iff] at hok;obtain ⟨g1,g2⟩:=hok;clear hp;go_wp2_with fail
     go_round
     case rel=>exact ⟨k+1,by omega,by go_num,zjy (HV.o.trans (by rw [hv.o,a2.o];rfl))⟩
     case measure=>simp [intOf];omega
   ·have hq:decide ((k:Int)<s.size)=false:=by simp;omega
    have hd:s.data.toList.drop k=[]:=List.drop_eq_nil_of_le (by rw [HL.o];omega);have HD:=zjy hd;clear hd;go_wp2_with fail
    go_ret;refine ⟨zax ?_,rfl⟩;rw [HV.o,HD.o];first | rfl | (rw [HL.o,decide_eq_true (by omega)];rfl)
 ·have d1:decide ((64:Int)<s.size)=true:=by simp;omega
  go_enter func198,ntmps198
  go_wp2_with fail
  go_ret;exact ⟨zax (by rw [HL.o,decide_eq_false (by omega)];simp),rfl⟩
end
section
open Go.RowKit
attribute [local go_sem] zag zaj zba
def tabR:List UInt8:=[97,97,97,97,97,97,63,63,101,101,101,101,105,105,105,105,100,110,111,111,111,111,111,63,111,117,117,117,117,121,63,63]
def replR (n:Nat):List UInt8:=if n % 32=6 then [97,101] else if n % 32=7 then [99] else if n % 32=23 then [] else if n % 32=30 then [116,104] else if n=31 then [115,115] else if n=63 then [121] else [tabR.getD (n % 32) 0]
theorem replB_is:∀ n:Fin 64,zic (UInt8.ofNat (128+n))=replR n:=by decide
theorem and_31:((List.range 64).all fun n=>bits .and .u8 ((128+n:Nat):Int) 31 == ((n % 32:Nat):Int))=true:=by kernel_rfl
theorem tab_ext (r:Nat) (h:r<32):(⟨#[97,97,97,97,97,97,63,63,101,101,101,101,105,105,105,105,100,110,111,111,111,111,111,63,111,117,117,117,117,121,63,63]⟩:ByteArray).extract r (r+1)=⟨[tabR.getD r 0].toArray⟩:=by
 have h':r<(⟨tabR.toArray⟩:ByteArray).size:=h;have:=ext_one ⟨tabR.toArray⟩ r h';refine this.trans ?_;congr 3;rw [List.getD,List.getElem?_eq_getElem (show r<tabR.length from h)];rfl
theorem rrepl_any (x:UInt8) (w:World) (h1:128<=(x.toNat:Int)) (h2:(x.toNat:Int)<=191) :
  Calls prog 199 #[.int .u8 x.toNat] w fun e w'=>e = .returned (zak (zic x))/\w=w':=by
 obtain ⟨n,hn⟩:∃ n:Nat,x.toNat=128+n:=⟨x.toNat - 128,by omega⟩;have a0:n<64:=by omega
 have hx:x=UInt8.ofNat (128+n):=by rw [<- hn];simp
 have hR:zic x=replR n:=by rw [hx];exact replB_is ⟨n,a0⟩
 have a2:bits .and .u8 (x.toNat:Int) 31=((n % 32:Nat):Int):=by
  have:=List.all_eq_true.1 and_31 n (List.mem_range.2 a0);rw [hn];simpa using this
 obtain ⟨r,hr⟩:=xex (n % 32);have a1:r<32:=by omega
 have a4:replR n=if r=6 then [97,101] else if r=7 then [99] else if r=23 then [] else if r=30 then [116,104] else if n=31 then [115,115] else if n=63 then [121] else [tabR.getD r 0]:=by unfold replR;rw [hr]
 rw [hR,a4];rw [hr] at a2;have a3:(x.toNat:Int)=128+(n:Int):=by omega
 have hb:=x.toNat_lt;have HR:=zjy hr;have HN:=zjy a3;clear hx hR a4 hr hn a3;by_cases c6:r=6
 ·subst c6
  go_enter func199,ntmps199
  go_wp2_with fail
  go_ret;exact ⟨rfl,rfl⟩
 ·have e6:((r:Int) == 6)=false:=by simp only [beq_eq_false_iff_ne,ne_eq];omega
  rw [if_neg c6];by_cases c7:r=7
  ·subst c7
   clear c6;go_enter func199,ntmps199
   go_wp2_with fail
   go_ret;exact ⟨rfl,rfl⟩
  ·have e7:((r:Int) == 7)=false:=by simp only [beq_eq_false_iff_ne,ne_eq];omega
   rw [if_neg c7];by_cases c23:r=23
   ·subst c23
    clear c6 c7;go_enter func199,ntmps199
    go_wp2_with fail
    go_ret;exact ⟨rfl,rfl⟩
   ·have e23:((r:Int) == 23)=false:=by simp only [beq_eq_false_iff_ne,ne_eq];omega
    rw [if_neg c23];by_cases c30:r=30
    ·subst c30
     clear c6 c7 c23;go_enter func199,ntmps199
     go_wp2_with fail
     go_ret;exact ⟨rfl,rfl⟩
    ·have e30:((r:Int) == 30)=false:=by simp only [beq_eq_false_iff_ne,ne_eq];omega
     rw [if_neg c30];by_cases n31:n=31
     ·have a7:((x.toNat:Int) == 159)=true:=by simp only [beq_iff_eq];rw [HN.o];omega
      rw [if_pos n31];clear c6 c7 c23 c30 n31;go_enter func199,ntmps199
      go_wp2_with fail
      go_ret;exact ⟨rfl,rfl⟩
     ·have a7:((x.toNat:Int) == 159)=false:=by simp only [beq_eq_false_iff_ne,ne_eq];rw [HN.o];omega
      rw [if_neg n31];by_cases n63:n=63
      ·have a6:((x.toNat:Int) == 191)=true:=by simp only [beq_iff_eq];rw [HN.o];omega
       rw [if_pos n63];clear c6 c7 c23 c30 n31 n63;go_enter func199,ntmps199
       go_wp2_with fail
       go_ret;exact ⟨rfl,rfl⟩
      ·have a6:((x.toNat:Int) == 191)=false:=by simp only [beq_eq_false_iff_ne,ne_eq];rw [HN.o];omega
       rw [if_neg n63];have a5:=tab_ext r a1;clear c6 c7 c23 c30 n31 n63;go_enter func199,ntmps199
       go_wp2_with fail
       go_ret;exact ⟨rfl,rfl⟩
end
section
open Go.RowKit
attribute [local go_sem] zag zaj zba
structure FoldSt (s:ByteArray) (k:Nat) (b:Bool) (k':Nat) (b':Bool) (x y:List UInt8):Prop where
 raw:rawL (s.data.toList.drop k)=y++rawL (s.data.toList.drop (k'+1))
 val:zcx (s.data.toList.drop (k'+1))=true
 lo:k<=k'
 hi:k'<s.size
 len:x.length<=2
 way:(x=y/\b'=b/\∀ c∈x,c≠32)\/(x=[]/\y=[32]/\b'=true)
theorem replB_sp:∀ n:Fin 64,((zic (UInt8.ofNat (128+n))).all fun c=>c != 32)=true:=by decide
theorem FoldSt.pair {s:ByteArray} {k:Nat} {b:Bool} (h2:k+1<s.size) (hp:zdw (s.data.toList.drop k)=true) (hv:zcx (s.data.toList.drop k)=true):FoldSt s k b (k+1) b (zic s[k+1]) (zic s[k+1]):=by
 obtain ⟨_,g1,g2⟩:=zip s k h2 hp
 refine ⟨raw_two s k h2 hp,by rw [<- valid_two s k (by omega) hp];exact hv,by omega,h2,(replB_ok _).2,.inl ⟨rfl,rfl,fun c hc=>?_⟩⟩
 obtain ⟨n,hn⟩:∃ n:Nat,s[k+1].toNat=128+n:=⟨s[k+1].toNat - 128,by omega⟩;have hx:s[k+1]=UInt8.ofNat (128+n):=by rw [<- hn];simp
 have:=replB_sp ⟨n,by omega⟩;rw [hx] at hc;simpa using List.all_eq_true.1 this c hc
theorem FoldSt.one {s:ByteArray} {k:Nat} {b:Bool} (hk:k<s.size) (hp:zdw (s.data.toList.drop k)=false) (hv:zcx (s.data.toList.drop k)=true) {x:List UInt8} (hx:zbn s[k]=x) (h32:∀ c∈x,c≠32):FoldSt s k b k b x x:=by
 have h1:=zgj s k hk hp;rw [h1,Bool.and_eq_true] at hv;exact ⟨by rw [raw_one s k hk hp,hx],hv.2,Nat.le_refl _,hk,by rw [<- hx];have:=(zgo s[k]).2;omega,.inl ⟨rfl,rfl,h32⟩⟩
theorem FoldSt.sep {s:ByteArray} {k:Nat} {b:Bool} (hk:k<s.size) (hp:zdw (s.data.toList.drop k)=false) (hv:zcx (s.data.toList.drop k)=true) (hx:zbn s[k]=[32]):FoldSt s k b k true [] [32]:=by
 have h1:=zgj s k hk hp;rw [h1,Bool.and_eq_true] at hv;exact ⟨by rw [raw_one s k hk hp,hx],hv.2,Nat.le_refl _,hk,by simp,.inr ⟨rfl,rfl,rfl⟩⟩
theorem plain_no32 {c:UInt8} (h:isUp c=true\/zf8 c=true\/isDgt c=true):∀ d∈zbn c,d≠32:=by
 intro d hd;unfold zbn at hd;split at hd
 ·rename_i hu
  simp at hd;subst hd;rw [up_iff,decide_eq_true_iff] at hu;intro e;have:(c+32).toNat=32:=by rw [e];rfl
  rw [UInt8.toNat_add] at this;simp at this;omega
 ·split at hd
  ·rename_i h1 h2
   simp at hd;subst hd;simp only [Bool.or_eq_true] at h2;intro e;subst e
   rcases h2 with h2 | h2
   ·rw [zdz] at h2;simp at h2
   ·rw [ze0] at h2;simp at h2
  ·rename_i h1 h2
   exfalso
   rcases h with h | h | h
   ·exact h1 h
   ·exact h2 (by simp [h])
   ·exact h2 (by simp [h])
structure FoldIn (s:ByteArray) (w:World) (k:Nat) (R:List UInt8) (b:Bool) (wr:World):Prop where
 raw:R++rawL (s.data.toList.drop k)=rawL s.data.toList
 sep:b=zgg R
 val:zcx (s.data.toList.drop k)=true
 bel:Below w.heap.size w wr
theorem FoldIn.len {s:ByteArray} {w:World} {k:Nat} {R:List UInt8} {b:Bool} {wr:World} (h:FoldIn s w k R b wr) (hs:s.size<=64):(za2 (zcu R)).length<=64:=by
 have h1:=congrArg List.length h.raw;have h2:=(raw_ok s.data.toList).2;have h3:=(zd3 R []).1;have hl:s.data.toList.length=s.size:=by simp
 unfold zcu;simp at h1 h3;omega
theorem rfold_yes (s:ByteArray) (w:World) (hv:zdi s.data.toList=true) :
  Calls prog 165 #[.string s] w fun e w'=>e = .returned (.tuple #[zak (zbx s.data.toList),.int .i64 0])/\Below w.heap.size w w':=by
 have hl:s.data.toList.length=s.size:=by simp
 have b5:=hv;unfold zdi at b5;rw [Bool.and_eq_true,decide_eq_true_iff,hl] at b5;obtain ⟨a3,hs⟩:=b5;have HL:=zjy hl;have HV:=zjy hv;have K0:=zjy (show FoldIn s w 0 [] false w from ⟨rfl,rfl,a3,Below.refl _ _⟩);clear hl hv a3;go_enter func165,ntmps165
 go_wp2_with fail
 refine (rvalid_text s _ (by omega)).mono ?_;rw [HV.o];rintro e w' ⟨rfl,rfl⟩;go_wp2_with fail
 go_loopw [4,5,6] (fun o t i wr=>∃ (k:Nat) (R:List UInt8) (b:Bool),k<=s.size/\o=zak (za2 (zcu R))/\t = .bool b/\i = .int .i64 k/\FoldIn s w k R b wr) (fun _ _ i _=>s.size - (intOf i).toNat)
 case atStart=>exact ⟨0,[],false,by omega,rfl,rfl,rfl,K0.o⟩
 case round =>
  obtain ⟨k,R,b,hk,rfl,rfl,rfl,b6⟩:=hrel;have hO:=b6.len hs;have HI:=zjy b6;clear b6 K0;obtain ⟨O,b9⟩:=xex (za2 (zcu R));have b4:=zjy b9;rw [b9] at hO ⊢;clear b9;by_cases hlt:k<s.size
  ·have hq:decide ((k:Int)<s.size)=true:=by simp;omega
   have hb:=s[k].toNat_lt;go_upto_block 2 with (fail)
   go_cut [5,6,8] (fun s5 s6 s8 wx=>∃ (k':Nat) (b':Bool) (x y:List UInt8),s5 = .bool b'/\s6 = .int .i64 k'/\s8=zak x/\FoldSt s k b k' b' x y/\Below w.heap.size w wx)
   case first =>
    cases hp:zdw (s.data.toList.drop k)
    ·have a3:=HI.o.val
     have a5:=a3;rw [zgj s k hlt hp,Bool.and_eq_true] at a5;have b0:=a5.1;rw [ok_iff,decide_eq_true_iff] at b0;have c0:((s[k].toNat:Int) == 195)=false:=by simp only [beq_eq_false_iff_ne,ne_eq];omega
     have HP:=zjy hp;have b2:=zjy a3;clear hp a3 a5;cases hu:isUp s[k]
     ·have a8:=hu
      rw [up_iff,decide_eq_false_iff_not] at a8;have b3:(65<=(s[k].toNat:Int)/\90<(s[k].toNat:Int))\/(s[k].toNat:Int)<65:=by omega
      cases hlo:zf8 s[k]
      ·have a2:=hlo
       rw [zdz,decide_eq_false_iff_not] at a2;have b8:(97<=(s[k].toNat:Int)/\122<(s[k].toNat:Int))\/(s[k].toNat:Int)<97:=by omega
       cases hdi:isDgt s[k]
       ·have a4:=hdi
        rw [ze0,decide_eq_false_iff_not] at a4;have c2:(48<=(s[k].toNat:Int)/\57<(s[k].toNat:Int))\/(s[k].toNat:Int)<48:=by omega
        cases ha:((s[k].toNat:Int) == 39)
        ·have this:(s[k] == 39)=false:=by simp at ha ⊢;intro h;rw [h] at ha;simp at ha
         have a0:zbn s[k]=[32]:=by simp [zbn,hu,hlo,hdi,this]
         have c6:((s[k].toNat:Int) != 39)=true:=by simpa using ha
         have HS:=zjy (FoldSt.sep (b:=b) hlt HP.o b2.o a0);clear hu a8 hlo a2 hdi a4 this a0 b0
         rcases b3 with ⟨g1,g2⟩ | g1 <;> rcases b8 with ⟨g3,g4⟩ | g3 <;> rcases c2 with ⟨g5,g6⟩ | g5
         all_goals first
          | (exfalso;omega)
          | (go_wp2_with fail;go_meet;exact ⟨k,true,[],[32],rfl,rfl,rfl,HS.o,HI.o.bel⟩)
        ·have this:(s[k] == 39)=true:=by simp [<- UInt8.toNat_inj] at ha ⊢;omega
         have a0:zbn s[k]=[]:=by simp [zbn,hu,hlo,hdi,this]
         have c6:((s[k].toNat:Int) != 39)=false:=by simpa using ha
         have HS:=zjy (FoldSt.one (b:=b) hlt HP.o b2.o a0 (by simp));clear hu a8 hlo a2 hdi a4 this a0 b0
         rcases b3 with ⟨g1,g2⟩ | g1 <;> rcases b8 with ⟨g3,g4⟩ | g3 <;> rcases c2 with ⟨g5,g6⟩ | g5
         all_goals first
          | (exfalso;simp at ha;omega)
          | (go_wp2_with fail;go_meet;exact ⟨k,b,[],[],rfl,rfl,rfl,HS.o,HI.o.bel⟩)
       ·have a4:=hdi
        rw [ze0,decide_eq_true_iff] at a4;obtain ⟨g5,g6⟩:=a4;have a0:zbn s[k]=[s[k]]:=by simp [zbn,hu,hlo,hdi]
        have HS:=zjy (FoldSt.one (b:=b) hlt HP.o b2.o a0 (by rw [<- a0];exact plain_no32 (.inr (.inr hdi))));have b7:=one_byte wr s[k];have g1:(s[k].toNat:Int)<65:=by omega
        have g3:(s[k].toNat:Int)<97:=by omega
        clear hu a8 hlo a2 hdi a0 b0 b3 b8;go_wp2_with fail
        go_meet;exact ⟨k,b,[s[k]],[s[k]],rfl,rfl,rfl,HS.o,HI.o.bel.alloc HI.o.bel.size _⟩
      ·have a2:=hlo
       rw [zdz,decide_eq_true_iff] at a2;obtain ⟨g3,g4⟩:=a2;have a0:zbn s[k]=[s[k]]:=by simp [zbn,hu,hlo]
       have HS:=zjy (FoldSt.one (b:=b) hlt HP.o b2.o a0 (by rw [<- a0];exact plain_no32 (.inr (.inl hlo))));have b7:=one_byte wr s[k];have g1:65<=(s[k].toNat:Int):=by omega
       have g2:90<(s[k].toNat:Int):=by omega
       clear hu a8 hlo a0 b0 b3;go_wp2_with fail
       go_meet;exact ⟨k,b,[s[k]],[s[k]],rfl,rfl,rfl,HS.o,HI.o.bel.alloc HI.o.bel.size _⟩
     ·have a8:=hu
      rw [up_iff,decide_eq_true_iff] at a8;obtain ⟨g1,g2⟩:=a8;have a0:zbn s[k]=[s[k]+32]:=by simp [zbn,hu]
      have HS:=zjy (FoldSt.one (b:=b) hlt HP.o b2.o a0 (by rw [<- a0];exact plain_no32 (.inl hu)));have b7:=one_byte wr (s[k]+32);have e2:((s[k]+32).toNat:Int)=(s[k].toNat:Int)+32:=by rw [UInt8.toNat_add];simp;omega
      rw [e2] at b7;clear hu a0 b0 e2;go_wp2_with fail
      go_meet;exact ⟨k,b,[s[k]+32],[s[k]+32],rfl,rfl,rfl,HS.o,HI.o.bel.alloc HI.o.bel.size _⟩
    ·have h2:=zhf s k hlt hp
     obtain ⟨g0,g1,g2⟩:=zip s k h2 hp;have HS:=zjy (FoldSt.pair (b:=b) h2 hp HI.o.val);have c0:((s[k].toNat:Int) == 195)=true:=by rw [g0];rfl
     clear hp g0;go_wp2_with fail
     refine (rrepl_any s[k+1] _ g1 g2).mono ?_;rintro e w' ⟨rfl,rfl⟩;go_wp2_with fail
     go_meet;exact ⟨k+1,b,zic s[k+1],zic s[k+1],rfl,by go_num,rfl,HS.o,HI.o.bel⟩
   case rest =>
    obtain ⟨k',b',x,y,rfl,rfl,rfl,a1,c3⟩:=hcut;have HS:=zjy a1;have HB:=zjy c3;have hk1:=a1.lo;have hk2:=a1.hi;have hxl:=a1.len;clear a1 c3;by_cases hx:x=[]
    ·subst hx
     have KN:∃ R',FoldIn s w (k'+1) R' b' wc/\za2 (zcu R')=O:=by
      have hi:=HI.o;have a1:=HS.o
      rcases a1.way with ⟨h1,h2,_⟩ | ⟨_,h1,h2⟩
      ·subst h1;subst h2
       exact ⟨R,⟨by have:=a1.raw;simp only [List.nil_append] at this;rw [<- this];exact hi.raw,hi.sep,a1.val,HB.o⟩,b4.o⟩
      ·subst h1;subst h2
       exact ⟨R++[32],⟨by rw [List.append_assoc,<- a1.raw];exact hi.raw,(ends_snoc R 32).symm,a1.val,HB.o⟩,by rw [fold_space,b4.o]⟩
     obtain ⟨R',c5,c4⟩:=KN;have c8:=zjy c5;have c7:=zjy c4;clear c5 c4;go_wp2_with fail
     go_roundw
     case rel=>exact ⟨k'+1,R',b',by omega,by rw [c7.o],rfl,by go_num,c8.o⟩
     case measure=>simp [intOf];omega
    ·have f1:(x == [])=false:=by simpa using hx
     have f2:x.isEmpty=false:=by simpa using hx
     have a1:=HS.o;obtain ⟨h1,h2,h3⟩:=a1.way.resolve_right (fun h=>hx h.1)
     subst h1 h2;have a6:=fold_more hx h3 R;have a9:=ends_app R hx h3;have KN:=zjy (show FoldIn s w (k'+1) (R++x) false wc from ⟨by rw [List.append_assoc,<- a1.raw];exact HI.o.raw,a9.symm,a1.val,HB.o⟩);rw [<- HI.o.sep,b4.o] at a6;have a7:=zjy a6;clear a1 a6 a9 h3 hx;cases b'
     ·go_wp2_with fail
      go_roundw
      case rel=>exact ⟨k'+1,R++x,false,by omega,by rw [a7.o];simp,rfl,by go_num,KN.o⟩
      case measure=>simp [intOf];omega
     ·by_cases hO0:O=[]
      ·have f3:(O == [])=true:=by rw [hO0];rfl
       have f4:(O != [])=false:=by rw [hO0];rfl
       have c1:=zjy hO0;clear hO0;go_wp2_with fail
       go_roundw
       case rel=>exact ⟨k'+1,R++x,false,by omega,by rw [a7.o,c1.o];simp,rfl,by go_num,KN.o⟩
       case measure=>simp [intOf];omega
      ·have f3:(O == [])=false:=by simpa using hO0
       have f4:(O != [])=true:=by simpa using hO0
       have f5:O.isEmpty=false:=by simpa using hO0
       have c1:=zjy hO0;clear hO0;go_wp2_with fail
       go_roundw
       case rel=>exact ⟨k'+1,R++x,false,by omega,by rw [a7.o,if_pos ⟨rfl,c1.o⟩];simp,rfl,by go_num,KN.o⟩
       case measure=>simp [intOf];omega
  ·have hq:decide ((k:Int)<s.size)=false:=by simp;omega
   have b1:zbx s.data.toList=O:=by
    have hi:=HI.o;have hd:s.data.toList.drop k=[]:=List.drop_eq_nil_of_le (by rw [HL.o];omega);have hr:=hi.raw;rw [hd,show rawL []=[] from rfl,List.append_nil] at hr;unfold zbx;rw [<- hr];exact b4.o
   have HF:=zjy b1;clear b1;go_wp2_with fail
   go_ret2;exact ⟨by show Ending.returned (.tuple #[zak O,.int .i64 0])=_;rw [HF.o],HI.o.bel⟩
theorem rfold_no (s:ByteArray) (w:World) (hs:s.size<=9223372036854775000) (hv:zdi s.data.toList=false) :
  Calls prog 165 #[.string s] w fun e w'=>e = .returned (.tuple #[zak [],.int .i64 3])/\Below w.heap.size w w':=by
 have HV:=zjy hv;clear hv;go_enter func165,ntmps165
 go_wp2_with fail
 refine (rvalid_text s _ hs).mono ?_;rw [HV.o];rintro e w' ⟨rfl,rfl⟩;go_wp2_with fail
 go_ret2;exact ⟨rfl,Below.refl _ _⟩
end
section
open Go.RowKit
attribute [local go_sem] zag zaj zba
theorem rtoken_any (l:List UInt8) (w:World) :
  Calls prog 153 #[zak l] w fun e w'=>e = .returned (.bool (zb8 l))/\w=w':=by
 unfold zb8;by_cases h0:l=[]
 ·subst h0
  go_enter func153,ntmps153
  go_wp2
  go_ret;exact ⟨rfl,rfl⟩
 ·have h1:l.isEmpty=false:=by simpa using h0
  have h2:(l == [])=false:=by simpa using h0
  have h2':(l != [])=true:=by simpa using h0
  rw [h1];by_cases h3:l.length<=64
  ·have h4:decide (l.length<=64)=true:=by simpa using h3
   have h5:decide ((l.length:Int)<=64)=true:=by simp;omega
   rw [h4];clear h0 h4;go_enter func153,ntmps153
   go_wp2_with fail
   refine (zhd ⟨l.toArray⟩ _ (by rw [zaj];omega)).mono ?_;rw [show (⟨l.toArray⟩:ByteArray).data.toList=l by simp];rintro e w1 ⟨rfl,rfl⟩;go_wp2_with fail
   go_ret;exact ⟨rfl,rfl⟩
  ·have h4:decide (l.length<=64)=false:=by simpa using h3
   have h5:decide ((l.length:Int)<=64)=false:=by simp;omega
   rw [h4];clear h0 h4;go_enter func153,ntmps153
   go_wp2_with fail
   go_ret;exact ⟨rfl,rfl⟩
def ascAt (L:List (List UInt8)) (j:Nat):Bool:=decide (j=0) || ltB (L.getD (j - 1) []) (L.getD j [])
def ascL (L:List (List UInt8)):Bool:=(List.range L.length).all (ascAt L)
theorem leq_less (x y:List UInt8):(Op.bytesLess x y || x == y) = !Op.bytesLess y x:=by
 rw [bytesLess_eq,bytesLess_eq,Bool.eq_iff_iff];simp only [Bool.or_eq_true,decide_eq_true_eq,beq_iff_eq,Bool.not_eq_true',decide_eq_false_iff_not];exact List.le_iff_lt_or_eq.symm
theorem rasc_any (S:Nat->Prop) (v:Value) (L:List (List UInt8)) (w:World) (h:Vec w S 1 za8 v L) (hn:L.length<=1000000) :
  Calls prog 154 #[v] w fun e w'=>e = .returned (.bool (ascL L))/\Below w.heap.size w w':=by
 obtain ⟨a,cap,rfl⟩:=h.slice;have HV:=zjy h;clear h;go_enter func154,ntmps154
 go_wp2_with fail
 go_loopw [3] (fun i wr=>∃ m:Nat,i = .int .i64 (m+1)/\m<=L.length/\Below w.heap.size w wr/\Hid (∀ j,j<m+1->j<L.length->ascAt L j=true)) (fun i _=>L.length+1 - (intOf i).toNat)
 case atStart=>exact ⟨0,rfl,by omega,Below.refl _ _,zjy fun j hj _=>by (obtain rfl:j=0:=by omega);rfl⟩
 case round =>
  obtain ⟨m,rfl,hm,a3,HA⟩:=hrel;have HW:=zjy a3;by_cases hlt:m+1<L.length
  ·have hq:decide ((m:Int)+1<L.length)=true:=by simp;omega
   obtain ⟨b,off,rfl,_,hb,hc⟩:=zb7 HV.o (by omega);have c1:=(a3.cell (p:=⟨b,off+(m+1),none⟩) hb).trans (hc (m+1) hlt);have c2:=(a3.cell (p:=⟨b,off+m,none⟩) hb).trans (hc m (by omega));have a2:ascAt L (m+1)=Op.bytesLess (L.getD m []) (L.getD (m+1) []):=by simp [ascAt,ltB]
   obtain ⟨x,hx⟩:=xex (L.getD (m+1) []);obtain ⟨y,hy⟩:=xex (L.getD m []);rw [hx] at c1 a2;rw [hy] at c2 a2;have hi1:(m:Int)+1<(L.length:Int):=by omega
   have hi2:(m:Int)<(L.length:Int):=by omega
   have hi3:(0:Int)<=(m:Int)+1:=by omega
   have a1:=leq_less x y;clear hc hx hy a3;cases hl:Op.bytesLess y x
   ·rw [hl] at a2 a1
    have a4:=zjy a2;clear a2 hl;have a0:(Op.bytesLess x y || x == y)=true:=a1;clear a1;go_wp2_with fail
    go_quiet (fail)
    go_wp2_with fail
    go_ret;exact ⟨zax (by rw [ascL,zb9 hlt a4.o]),below_drewN HW.o _⟩
   ·rw [hl] at a2 a1
    have a4:=zjy a2;clear a2 hl;have a0:(Op.bytesLess x y || x == y)=false:=a1;have g1:Op.bytesLess x y=false:=(Bool.or_eq_false_iff.1 a0).1;have g2:(x == y)=false:=(Bool.or_eq_false_iff.1 a0).2;clear a1 a0;go_wp2_with fail
    go_quiet (fail)
    go_wp2_with fail
    go_roundw
    case rel=>exact ⟨m+1,by go_num,by omega,below_drewN HW.o _,zjy fun j hj hjl=>by
     by_cases e:j=m+1
     ·subst e;exact a4.o
     ·exact HA.o j (by omega) hjl⟩
    case measure=>simp [intOf];omega
  ·have hq:decide ((m:Int)+1<L.length)=false:=by simp;omega
   go_wp2_with fail
   go_ret;exact ⟨zax (by rw [ascL,zju fun j hj=>HA.o j (by omega) hj]),HW.o⟩
theorem rhas_any (S:Nat->Prop) (v:Value) (L:List (List UInt8)) (x:List UInt8) (w:World) (h:Vec w S 1 za8 v L) (hn:L.length<=1000000) :
  Calls prog 156 #[v,zak x] w fun e w'=>e = .returned (.bool (zhk L x))/\w=w':=by
 obtain ⟨a,cap,rfl⟩:=h.slice;have HV:=zjy h;clear h;go_enter func156,ntmps156
 go_wp2_with fail
 go_loop [5] (fun i=>∃ k:Nat,k<=L.length/\i = .int .i64 k/\Hid (∀ j,j<k->L.getD j []≠x)) (fun i=>L.length - (intOf i).toNat)
 case atStart=>exact ⟨0,by omega,rfl,zjy fun j hj=>by omega⟩
 case round =>
  obtain ⟨k,hk,rfl,HA⟩:=hrel;by_cases hlt:k<L.length
  ·have hq:decide ((k:Int)<L.length)=true:=by simp;omega
   obtain ⟨b,off,rfl,_,hb,hc⟩:=zb7 HV.o (by omega);have c1:=hc k hlt;have hm:L.getD k []∈L:=by rw [List.getD,List.getElem?_eq_getElem hlt];exact List.getElem_mem hlt
   obtain ⟨y,hy⟩:=xex (L.getD k []);rw [hy] at c1 hm;have HY:=zjy hy;have HM:=zjy hm;clear hc hy hm;by_cases he:y=x
   ·subst he
    go_wp2_with fail
    go_ret;exact ⟨zax (by unfold zhk;rw [List.any_eq_true.2 ⟨y,HM.o,by simp⟩]),rfl⟩
   ·have e1:(y == x)=false:=by simpa using he
    have HE:=zjy he;clear he;go_wp2_with fail
    go_round
    case rel=>exact ⟨k+1,by omega,by go_num,zjy fun j hj=>by
     by_cases e:j=k
     ·subst e;rw [HY.o];exact HE.o
     ·exact HA.o j (by omega)⟩
    case measure=>simp [intOf];omega
  ·have hq:decide ((k:Int)<L.length)=false:=by simp;omega
   go_wp2_with fail
   go_ret;refine ⟨zax ?_,rfl⟩;symm;unfold zhk;rw [List.any_eq_false];intro y hy;obtain ⟨j,hj,rfl⟩:=List.getElem_of_mem hy;have:=HA.o j (by omega);rw [List.getD,List.getElem?_eq_getElem hj] at this;simpa using this
end
section
open Go.RowKit
attribute [local go_sem] zag zaj zba
theorem canon_drop {L:List P2} {s:List UInt8} (k:Nat) (hk:k<L.length):zbe (L.drop k) s=if (L.getD k default).1=s then (L.getD k default).2 else zbe (L.drop (k+1)) s:=by
 rw [List.drop_eq_getElem_cons hk,List.getD,List.getElem?_eq_getElem hk];simp only [Option.getD_some,zbe,beq_iff_eq]
theorem rreplace_any (S:Nat->Prop) (v:Value) (L:List P2) (x:List UInt8) (w:World) (h:Vec w S 2 encP v L) (hn:L.length<=1000000) :
  Calls prog 170 #[v,zak x] w fun e w'=>e = .returned (zak (zbe L x))/\w=w':=by
 obtain ⟨a,cap,rfl⟩:=h.slice;have HV:=zjy h;clear h;go_enter func170,ntmps170
 go_wp2_with fail
 go_loop [5] (fun i=>∃ k:Nat,k<=L.length/\i = .int .i64 k/\Hid (zbe L x=zbe (L.drop k) x)) (fun i=>L.length - (intOf i).toNat)
 case atStart=>exact ⟨0,by omega,rfl,zjy rfl⟩
 case round =>
  obtain ⟨k,hk,rfl,HA⟩:=hrel;by_cases hlt:k<L.length
  ·have hq:decide ((k:Int)<L.length)=true:=by simp;omega
   obtain ⟨b,off,rfl,_,hb,hc⟩:=zco HV.o (by omega);have c0:=hc k hlt 0 _ rfl;have c1:=hc k hlt 1 _ rfl;rw [Nat.add_zero] at c0;have hd:=canon_drop (s:=x) k hlt;obtain ⟨⟨y,z⟩,hy⟩:∃ y,L.getD k default=y:=⟨_,rfl⟩;rw [hy] at c0 c1 hd;dsimp only at c0 c1 hd;have HD:=zjy hd;clear hc hy hd;by_cases he:y=x
   ·subst he
    go_wp2_with fail
    go_ret;exact ⟨by show Ending.returned (zak z) = .returned (zak (zbe L y));rw [HA.o,HD.o];simp,rfl⟩
   ·have e1:(y == x)=false:=by simpa using he
    have HE:=zjy he;clear he;go_wp2_with fail
    go_round
    case rel=>exact ⟨k+1,by omega,by go_num,zjy (by rw [HA.o,HD.o,if_neg HE.o])⟩
    case measure=>simp [intOf];omega
  ·have hq:decide ((k:Int)<L.length)=false:=by simp;omega
   have a0:zbe L x=x:=by rw [HA.o,List.drop_eq_nil_of_le (by omega)];rfl
   have HF:=zjy a0;clear a0;go_wp2_with fail
   go_ret;exact ⟨by show Ending.returned (zak x) = .returned (zak (zbe L x));rw [HF.o],rfl⟩
theorem rcanonical_any (S:Nat->Prop) (vt vn vs:Value) (L:List P2) (x:List UInt8) (w:World) (h:Vec w S 2 encP vn L) (hn:L.length<=1000000) :
  Calls prog 167 #[.agg #[vt,vn,vs],zak x] w fun e w'=>e = .returned (zak (zbe L x))/\Below w.heap.size w w':=by
 have HV:=zjy h;clear h;go_enter func167,ntmps167
 go_wp2_with fail
 refine (rreplace_any S vn L x _ (HV.o.below ((Below.refl _ _).alloc xnl _)) hn).mono ?_;rintro e w' ⟨rfl,rfl⟩;go_wp2_with fail
 go_ret;exact ⟨rfl,(Below.refl _ _).alloc xnl _⟩
theorem rdropped_any (S:Nat->Prop) (vt vn vs:Value) (L:List (List UInt8)) (x:List UInt8) (w:World) (h:Vec w S 1 za8 vt L) (hn:L.length<=1000000) :
  Calls prog 166 #[.agg #[vt,vn,vs],zak x] w fun e w'=>e = .returned (.bool (zhk L x))/\Below w.heap.size w w':=by
 have HV:=zjy h;clear h;go_enter func166,ntmps166
 go_wp2_with fail
 refine (rhas_any S vt L x _ (HV.o.below ((Below.refl _ _).alloc xnl _)) hn).mono ?_;rintro e w' ⟨rfl,rfl⟩;go_wp2_with fail
 go_ret;exact ⟨rfl,(Below.refl _ _).alloc xnl _⟩
theorem find_has_from (s:List UInt8):∀ (L:List P2) (i:Nat),decide (Lib.idxByFrom (fun _ (y:P2)=>y.1 == s) default L i<0) = !zhk (L.map (·.1)) s:=by
 intro L;induction L with
 | nil=>intro i;simp [Lib.idxByFrom,zhk]
 | cons p L ih =>
  intro i;have e:zhk ((p :: L).map (·.1)) s=(p.1 == s || zhk (L.map (·.1)) s):=by simp [zhk]
  rw [e];cases h:p.1 == s
  ·simp only [Lib.idxByFrom,h,Bool.false_eq_true,if_false,Bool.false_or]
   exact ih (i+1)
  ·simp only [Lib.idxByFrom,h,if_true,Bool.true_or,Bool.not_true]
   simp
theorem find_has (L:List P2) (s:List UInt8):decide (zjn L s<0) = !zhk (L.map (·.1)) s:=find_has_from s L 0
theorem map_getD (L:List P2) (j:Nat) (h:j<L.length):(L.map (·.1)).getD j []=(L.getD j default).1:=by
 rw [List.getD,List.getD,List.getElem?_map,List.getElem?_eq_getElem h];rfl
theorem zje (L:List P2) (j:Nat) (h:j<L.length):zdy L j=(zb8 (L.getD j default).1 && zb8 (L.getD j default).2 && ascAt (L.map (·.1)) j && !zhk (L.map (·.1)) (L.getD j default).2):=by
 unfold zdy ascAt;rw [find_has,map_getD L j h];by_cases h0:j=0
 ·subst h0;simp
 ·rw [map_getD L (j - 1) (by omega)]
theorem pairs_no_tok {L:List P2} {j:Nat} (h:j<L.length) (ht:(zb8 (L.getD j default).1 && zb8 (L.getD j default).2)=false):zcg L=false:=by
 unfold zcg;exact zb9 h (by rw [zje L j h,ht];simp)
theorem pairs_no_has {L:List P2} {j:Nat} (h:j<L.length) (ht:zhk (L.map (·.1)) (L.getD j default).2=true):zcg L=false:=by
 unfold zcg;exact zb9 h (by rw [zje L j h,ht];simp)
theorem pairs_asc {L:List P2} (h1:∀ j,j<L.length->(zb8 (L.getD j default).1 && zb8 (L.getD j default).2)=true) (h2:∀ j,j<L.length->zhk (L.map (·.1)) (L.getD j default).2=false):zcg L=ascL (L.map (·.1)):=by
 unfold zcg ascL;rw [List.length_map]
 refine Bool.eq_iff_iff.2 ⟨fun h=>?_,fun h=>?_⟩
 ·refine List.all_eq_true.2 fun j hj=>?_
  have:=List.all_eq_true.1 h j hj;rw [zje L j (List.mem_range.1 hj)] at this;simp only [Bool.and_eq_true] at this;exact this.1.2
 ·refine List.all_eq_true.2 fun j hj=>?_
  have:=List.all_eq_true.1 h j hj;have a0:=List.mem_range.1 hj;rw [zje L j a0,h1 j a0,h2 j a0,this];rfl
theorem flat_fst_snoc (L:List P2) (k:Nat) (h:k<L.length):(L.take (k+1)).map (·.1)=(L.take k).map (·.1)++[(L.getD k default).1]:=by
 rw [zfo L k h,List.map_append];rfl
theorem rpairs_any (S:Nat->Prop) (v:Value) (L:List P2) (w:World) (h:Vec w S 2 encP v L) (hn:L.length<=1000000) :
  Calls prog 155 #[v] w fun e w'=>e = .returned (.bool (zcg L))/\Below w.heap.size w w':=by
 obtain ⟨a,cap,rfl⟩:=h.slice;have HV:=zjy h;clear h;go_enter func155,ntmps155
 go_wp2_with fail
 go_loopw [3,4] (fun f i wr=>∃ k:Nat,k<=L.length/\i = .int .i64 k/\OwnAt w f ((L.take k).map (·.1)) wr/\Hid (∀ j,j<k->(zb8 (L.getD j default).1 && zb8 (L.getD j default).2)=true)) (fun _ i _=>L.length - (intOf i).toNat)
 case atStart=>exact ⟨0,by omega,rfl,OwnAt.start w,zjy fun j hj=>by omega⟩
 case round =>
  obtain ⟨k,hk,rfl,ho,HA⟩:=hrel;have HO:=zjy ho;clear ho;by_cases hlt:k<L.length
  ·have hq:decide ((k:Int)<L.length)=true:=by simp;omega
   obtain ⟨b,off,rfl,_,hb,hc⟩:=zco HV.o (by omega);have k0:=hc k hlt 0 _ rfl;rw [Nat.add_zero] at k0;have c0:=(HO.o.2.cell (p:=⟨b,off+k*2,none⟩) hb).trans k0;clear k0;have c1:=(HO.o.2.cell (p:=⟨b,off+k*2+1,none⟩) hb).trans (hc k hlt 1 _ rfl);have a2:=flat_fst_snoc L k hlt;have a0:=pairs_no_tok (L:=L) (j:=k) hlt;obtain ⟨⟨y,z⟩,hy⟩:∃ y,L.getD k default=y:=⟨_,rfl⟩;rw [hy] at c0 c1 a2 a0;dsimp only at c0 c1 a2 a0;have b3:=zjy a2;have a3:=zjy a0;have HY:=zjy hy;clear hc hy a2 a0;go_wp2_with fail
   refine (rtoken_any y _).mono ?_;cases ht:zb8 y
   ·rintro e w' ⟨rfl,rfl⟩
    have HT:=zjy ht;clear ht;go_wp2_with fail
    go_ret;exact ⟨zax (by rw [a3.o (by rw [HT.o];rfl)]),HO.o.2⟩
   ·rintro e w' ⟨rfl,rfl⟩
    have HT:=zjy ht;clear ht;go_wp2_with fail
    refine (rtoken_any z _).mono ?_;cases ht2:zb8 z
    ·rintro e w' ⟨rfl,rfl⟩
     have a6:=zjy ht2;clear ht2;go_wp2_with fail
     go_ret;exact ⟨zax (by rw [a3.o (by rw [HT.o,a6.o];rfl)]),HO.o.2⟩
    ·rintro e w' ⟨rfl,rfl⟩
     have a6:=zjy ht2;clear ht2;have a5:((L.take k).map (·.1)).length<1099511627776:=by have:=List.length_take_le k L;rw [List.length_map];omega
     have a4:∀ u∈(#[zak y]:Array Value).toList,u.oneCell'=true:=by intro u hu;simp at hu;subst hu;rfl
     go_wp2_with (at_builtin;refine zay rfl _ _ 28 rfl w.heap.size 9 1 16 (.string ⟨#[]⟩) underlying28 zdt rfl (by decide) (by decide) _ _ _ rfl HO.o.1 #[zak y] 1 rfl rfl a4 a5 HO.o.2.size ?_;intro v2 w8 b2 b0)
     go_roundw
     case rel=>exact ⟨k+1,by omega,by go_num,⟨by rw [b3.o,List.length_append,zd4];exact b2,b0 _ HO.o.2⟩,zjy fun j hj=>by
      by_cases e:j=k
      ·subst e;rw [HY.o,HT.o,a6.o];rfl
      ·exact HA.o j (by omega)⟩
     case measure=>simp [intOf];omega
  ·have hq:decide ((k:Int)<L.length)=false:=by simp;omega
   obtain rfl:k=L.length:=by omega
   rw [List.take_of_length_le xnl] at HO;have HF:=zjy (Vec.owns (S:=zau) (k:=1) (enc:=za8) (fun _=>rfl) HO.o.1 (fun _ _ _=>trivial))
   have a8:(L.map (·.1)).length<=1000000:=by rw [List.length_map];exact hn
   obtain ⟨wo,rfl⟩:∃ wo:World,wo=wr:=⟨_,rfl⟩;go_wp2_with fail
   go_loopw [5] (fun i wr=>∃ k:Nat,k<=L.length/\i = .int .i64 k/\wr=wo/\Hid (∀ j,j<k->zhk (L.map (·.1)) (L.getD j default).2=false)) (fun i _=>L.length - (intOf i).toNat)
   case atStart=>exact ⟨0,by omega,rfl,rfl,zjy fun j hj=>by omega⟩
   case round =>
    obtain ⟨k,hk2,rfl,rfl,HB⟩:=hrel;by_cases hlt2:k<L.length
    ·have b1:decide ((k:Int)<L.length)=true:=by simp;omega
     obtain ⟨b,off,rfl,_,hb,hc⟩:=zco HV.o (by omega);have c1:=(HO.o.2.cell (p:=⟨b,off+k*2+1,none⟩) hb).trans (hc k hlt2 1 _ rfl);have a0:=pairs_no_has (L:=L) (j:=k) hlt2;obtain ⟨⟨y,z⟩,hy⟩:∃ y,L.getD k default=y:=⟨_,rfl⟩;rw [hy] at c1 a0;dsimp only at c1 a0;have a3:=zjy a0;have HY:=zjy hy;clear hc hy a0;go_wp2_with fail
     refine (rhas_any zau _ (L.map (·.1)) z _ HF.o a8).mono ?_;cases ht:zhk (L.map (·.1)) z
     ·rintro e w' ⟨rfl,rfl⟩
      have HT:=zjy ht;clear ht;go_wp2_with fail
      go_roundw
      case rel=>exact ⟨k+1,by omega,by go_num,by trivial,zjy fun j hj=>by
       by_cases e:j=k
       ·subst e;rw [HY.o];exact HT.o
       ·exact HB.o j (by omega)⟩
      case measure=>simp [intOf];omega
     ·rintro e w' ⟨rfl,rfl⟩
      have HT:=zjy ht;clear ht;go_wp2_with fail
      go_ret;exact ⟨zax (by rw [a3.o HT.o]),HO.o.2⟩
    ·have b1:decide ((k:Int)<L.length)=false:=by simp;omega
     have a1:=pairs_asc (L:=L) HA.o (fun j hj=>HB.o j (by omega))
     have a7:=zjy a1;clear a1;go_wp2_with fail
     refine (rasc_any zau _ (L.map (·.1)) _ HF.o a8).mono ?_;rintro e w2 ⟨rfl,a9⟩;have b4:=zjy (HO.o.2.trans (a9.mono HO.o.2.size));clear a9;go_wp2_with fail
     go_ret;exact ⟨zax (by rw [a7.o]),b4.o⟩
end
section
open Go.RowKit
attribute [local go_sem] zag zaj zba
theorem titles_is {L:List (List UInt8)} (h:∀ j,j<L.length->zb8 (L.getD j [])=true):zfh L=ascL L:=by
 unfold zfh ascL
 refine Bool.eq_iff_iff.2 ⟨fun g=>?_,fun g=>?_⟩
 ·refine List.all_eq_true.2 fun j hj=>?_
  have:=List.all_eq_true.1 g j hj;unfold zfs at this;rw [Bool.and_eq_true] at this;exact this.2
 ·refine List.all_eq_true.2 fun j hj=>?_
  have:=List.all_eq_true.1 g j hj;unfold zfs;rw [h j (List.mem_range.1 hj)];exact this
theorem titles_no {L:List (List UInt8)} {j:Nat} (h:j<L.length) (ht:zb8 (L.getD j [])=false):zfh L=false:=by
 unfold zfh;exact zb9 h (by unfold zfs;rw [ht];rfl)
theorem zec (S:Nat->Prop) (vt vn vs:Value) (r:RulesL) (w:World) (h:RulesAt w S vt vn vs r) :
  Calls prog 113 #[.agg #[vt,vn,vs]] w fun e w'=>e = .returned (.int .i64 (zaz r))/\Below w.heap.size w w':=by
 obtain ⟨lt,ln,ls⟩:=r;obtain ⟨h1,h2,h3⟩:=h;dsimp only at h1 h2 h3;obtain ⟨b6,ct,rfl⟩:=h1.slice;obtain ⟨an,cn,rfl⟩:=h2.slice;obtain ⟨c5,cs,rfl⟩:=h3.slice;have H1:=zjy h1.any;have H2:=zjy h2.any;have H3:=zjy h3.any;clear h1 h2 h3;have a1:∀ n:Int,zaz ⟨lt,ln,ls⟩=n->Ending.returned (.int .i64 n) = .returned (.int .i64 (zaz ⟨lt,ln,ls⟩)):=fun n h=>by rw [h]
 have HF:=zjy a1;clear a1;by_cases g1:32<lt.length
 ·have e1:decide ((32:Int)<lt.length)=true:=by simp;omega
  go_enter func113,ntmps113
  go_wp2_with fail
  go_ret;exact ⟨HF.o 1 (by unfold zaz;rw [if_pos (.inl g1)]),(Below.refl _ _).alloc xnl _⟩
 ·have e1:decide ((32:Int)<lt.length)=false:=by simp;omega
  by_cases g2:32<ln.length
  ·have e2:decide ((32:Int)<ln.length)=true:=by simp;omega
   go_enter func113,ntmps113
   go_wp2_with fail
   go_ret;exact ⟨HF.o 1 (by unfold zaz;rw [if_pos (.inr (.inl g2))]),(Below.refl _ _).alloc xnl _⟩
  ·have e2:decide ((32:Int)<ln.length)=false:=by simp;omega
   by_cases g3:32<ls.length
   ·have e3:decide ((32:Int)<ls.length)=true:=by simp;omega
    go_enter func113,ntmps113
    go_wp2_with fail
    go_ret;exact ⟨HF.o 1 (by unfold zaz;rw [if_pos (.inr (.inr g3))]),(Below.refl _ _).alloc xnl _⟩
   ·have e3:decide ((32:Int)<ls.length)=false:=by simp;omega
    have b4:¬ (32<lt.length\/32<ln.length\/32<ls.length):=by omega
    have a3:=zjy b4;clear b4;go_enter func113,ntmps113
    go_wp2_with fail
    clear e1 e2 e3
    refine zal (fun W hW=>?_)
    have HX:=zjy (show W.heap[w.heap.size]?=some (.cells #[.slice b6 lt.length ct,.slice an ln.length cn,.slice c5 ls.length cs] 31 (0,0)) from by rw [hW];exact zac rfl);have HB:=zjy (show Below w.heap.size w W from by rw [hW];exact (Below.refl _ _).alloc xnl _);have zW:w.heap.size<W.heap.size:=zaa HX.o;clear hW;obtain ⟨p0,p1,p2⟩:=zan HX.o;go_loop [3] (fun i=>∃ k:Nat,k<=lt.length/\i = .int .i64 k/\Hid (∀ j,j<k->zb8 (lt.getD j [])=true)) (fun i=>lt.length - (intOf i).toNat)
    case atStart=>exact ⟨0,by omega,rfl,zjy fun j hj=>by omega⟩
    case round =>
     obtain ⟨k,hk,rfl,HA⟩:=hrel;by_cases hlt:k<lt.length
     ·have hq:decide ((k:Int)<lt.length)=true:=by simp;omega
      obtain ⟨b,off,rfl,_,hb,hc⟩:=zb7 (H1.o.below HB.o) (by omega);have c1:=hc k hlt;obtain ⟨x,hx⟩:=xex (lt.getD k []);rw [hx] at c1;have b7:=zjy hx;clear hc hx;go_wp2_with fail
      refine (rtoken_any x _).mono ?_;cases ht:zb8 x
      ·rintro e w' ⟨rfl,rfl⟩
       have HT:=zjy ht;clear ht;go_wp2_with fail
       go_ret;exact ⟨HF.o 5 (by unfold zaz;rw [if_neg a3.o,titles_no (j:=k) hlt (by rw [b7.o];exact HT.o)];simp),HB.o⟩
      ·rintro e w' ⟨rfl,rfl⟩
       have HT:=zjy ht;clear ht;go_wp2_with fail
       go_round
       case rel=>exact ⟨k+1,by omega,by go_num,zjy fun j hj=>by
        by_cases e:j=k
        ·subst e;rw [b7.o];exact HT.o
        ·exact HA.o j (by omega)⟩
       case measure=>simp [intOf];omega
     ·have hq:decide ((k:Int)<lt.length)=false:=by simp;omega
      have c3:=zjy (titles_is (L:=lt) (fun j hj=>HA.o j (by omega)))
      go_wp2_with fail
      refine (rasc_any zau _ lt _ (H1.o.below HB.o) (by omega)).mono ?_;rw [<- c3.o];rintro e w1 ⟨rfl,a7⟩;have a9:=zjy (zab a7 zW HX.o);have b2:=xhh HB a7;clear a7 p0 p1 p2;obtain ⟨p0,p1,p2⟩:=zan a9.o;have z1:w.heap.size<w1.heap.size:=zaa a9.o;cases ht:zfh lt
      ·have HT:=zjy ht;clear ht
       go_wp2_with fail
       go_ret;exact ⟨HF.o 5 (by unfold zaz;rw [if_neg a3.o,HT.o];simp),b2.o⟩
      ·have HT:=zjy ht;clear ht
       go_wp2_with fail
       refine (rpairs_any zau _ ln _ (H2.o.below b2.o) (by omega)).mono ?_;rintro e w2 ⟨rfl,a6⟩;have a8:=zjy (zab a6 z1 a9.o);have b1:=xhh b2 a6;clear a6 p0 p1 p2;obtain ⟨p0,p1,p2⟩:=zan a8.o;have z2:w.heap.size<w2.heap.size:=zaa a8.o;cases hp:zcg ln
       ·have HP:=zjy hp;clear hp
        go_wp2_with fail
        go_ret;exact ⟨HF.o 5 (by unfold zaz;rw [if_neg a3.o,HT.o,HP.o];simp),b1.o⟩
       ·have HP:=zjy hp;clear hp
        go_wp2_with fail
        refine (rpairs_any zau _ ls _ (H3.o.below b1.o) (by omega)).mono ?_;rintro e w3 ⟨rfl,a5⟩;have b9:=zjy (zab a5 z2 a8.o);have c2:=xhh b1 a5;clear a5 p0 p1 p2;cases hs:zcg ls
        ·have HS:=zjy hs;clear hs
         go_wp2_with fail
         go_ret;exact ⟨HF.o 5 (by unfold zaz;rw [if_neg a3.o,HT.o,HP.o,HS.o];simp),c2.o⟩
        ·have HS:=zjy hs;clear hs
         have b5:zaz ⟨lt,ln,ls⟩=if (ln.any fun x=>zhk lt x.2)=true then 5 else 0:=by
          unfold zaz;rw [if_neg a3.o,HT.o,HP.o,HS.o];simp
         have c0:=zjy b5;clear b5;go_wp2_with fail
         go_loopw [4] (fun i wr=>∃ k:Nat,k<=ln.length/\i = .int .i64 k/\Below w3.heap.size w3 wr/\Hid (∀ j,j<k->zhk lt (ln.getD j default).2=false)) (fun i _=>ln.length - (intOf i).toNat)
         case atStart=>exact ⟨0,by omega,rfl,Below.refl _ _,zjy fun j hj=>by omega⟩
         case round =>
          obtain ⟨k,hk2,rfl,a4,HH⟩:=hrel;have HW:=xhh c2 a4;have b8:=zjy (zab a4 (zaa b9.o) b9.o);have c6:=zjy a4;clear a4;have zw:=zaa b8.o;obtain ⟨p0,p1,p2⟩:=zan b8.o;by_cases hlt2:k<ln.length
          ·have c4:decide ((k:Int)<ln.length)=true:=by simp;omega
           have hi:(k:Int)<(ln.length:Int):=by omega
           obtain ⟨b,off,rfl,_,hb,hc⟩:=zco (H2.o.below HW.o) (by omega);have c1:=hc k hlt2 1 _ rfl;obtain ⟨⟨y,z⟩,hy⟩:∃ y,ln.getD k default=y:=⟨_,rfl⟩;have a0:ln.getD k default∈ln:=by rw [List.getD,List.getElem?_eq_getElem hlt2];exact List.getElem_mem hlt2
           rw [hy] at c1 a0;dsimp only at c1;have HY:=zjy hy;have HM:=zjy a0;clear hc hy a0;go_wp2_with fail
           refine wp_region_noPanic ?_
           refine wp_region_held_drew (S:=(fun w'=>w'.cell? ⟨w.heap.size,0,none⟩=some (.slice b6 lt.length ct)/\w'.cell? ⟨w.heap.size,1,none⟩=some (.slice (some ⟨b,off,none⟩) ln.length cn)/\w'.cell? ⟨b,off+k*2+1,none⟩=some (zak z))) (by kernel_rfl) (⟨p0,p1,c1⟩) (fun hHeld=>?_)
           refine tH 0 ?_;refine tH 1 ?_;refine tH 2 ?_;refine tH 3 ?_;refine tH 4 ?_;refine tH 5 ?_;refine tH 6 ?_;refine tH 7 ?_
           refine xrH 8 rfl fun K hK=>?_
           go_simp;refine (rhas_any zau _ lt z _ ((H1.o.below HW.o).below (Below.refl _ _).drew) (by omega)).mono ?_;rintro e w' ⟨rfl,rfl⟩
           refine hK.out _ _ (hHeld) (fun hHeld=>?_)
           clear hK K;refine wpAnyH_done (by kernel_rfl) ?_ _;refine NoPanic.normal ?_;cases hh:zhk lt z
           ·have b0:=zjy hh;clear hh
            go_wp2_with fail
            go_roundw
            case rel=>exact ⟨k+1,by omega,by go_num,c6.o.drew,zjy fun j hj=>by
             by_cases e:j=k
             ·subst e;rw [HY.o];exact b0.o
             ·exact HH.o j (by omega)⟩
            case measure=>simp [intOf];omega
           ·have b0:=zjy hh;clear hh
            go_wp2_with fail
            go_ret;exact ⟨HF.o 5 (by rw [c0.o,if_pos (List.any_eq_true.2 ⟨_,HM.o,b0.o⟩)]),HW.o.drew⟩
          ·have c4:decide ((k:Int)<ln.length)=false:=by simp;omega
           have a2:(ln.any fun x=>zhk lt x.2)=false:=by
            rw [List.any_eq_false];intro y hy;obtain ⟨j,hj,rfl⟩:=List.getElem_of_mem hy;have:=HH.o j (by omega);rw [List.getD,List.getElem?_eq_getElem hj] at this;simpa using this
           have b3:=zjy a2;clear a2;go_wp2_with fail
           go_ret;exact ⟨HF.o 0 (by rw [c0.o,b3.o];simp),HW.o⟩
end
section
open Go.RowKit
attribute [local go_sem] zag zaj
theorem rnorm_yes (S:Nat->Prop) (vt vn vs:Value) (r:RulesL) (s:ByteArray) (w:World) (h:RulesAt w S vt vn vs r) (hc:zaz r=0) (hv:zdi s.data.toList=true) :
  Calls prog 124 #[.agg #[vt,vn,vs],.string s] w fun e w'=>e = .returned (zdx (zdd r s.data.toList))/\Below w.heap.size w w':=by
 have hs:s.size<=64:=by
  have:=zgr hv;have h2:s.data.toList.length=s.size:=by simp
  omega
 obtain ⟨⟨k1,k2,k3⟩,g1,g2,g3,g4⟩:=ze1 hc;have G2:=zjy g2;have HR:=zjy h.any;have HC:=zjy hc;have HV:=zjy hv;clear h hc hv g1 g2 g3 g4
 have a4:zdd r s.data.toList=(if 6<(za9 r (zcu (zbx s.data.toList))).length\/64<(za2 (za9 r (zcu (zbx s.data.toList)))).length then ([],1) else (za2 (za9 r (zcu (zbx s.data.toList))),0)):=by
  unfold zdd;rw [if_pos HC.o,if_pos HV.o]
 have HF:=zjy a4;clear a4;go_enter func124,ntmps124
 go_wp2_with fail
 refine (zec zau vt vn vs r _ (HR.o.below ((Below.refl _ _).alloc xnl _))).mono ?_;rw [HC.o];rintro e w1 ⟨rfl,b5⟩;have X1:w1.heap[w.heap.size]?=some (.cells #[vt,vn,vs] 31 (0,0)):=zab b5 (by simp) (zac rfl);have c0:=zjy X1;have d3:=zjy (xbt b5);clear X1 b5;go_wp2_with fail
 refine (rfold_yes s _ HV.o).mono ?_;rintro e w2 ⟨rfl,b4⟩;have b9:=zjy (zab b4 (zaa c0.o) c0.o);have d0:=xhh d3 b4;clear b4 c0 d3;go_wp2_with fail
 have e0:(zbx s.data.toList).length<=64:=by
  have:=zg3 s.data.toList;have h2:s.data.toList.length=s.size:=by simp
  omega
 obtain ⟨fl,a1⟩:=xex (zbx s.data.toList);have a5:ascii fl:=a1 ▸ zh5 _;have HA:=zjy a5;rw [a1] at e0 HF ⊢;clear a5 a1;refine (zik ⟨fl.toArray⟩ _ (by rw [zaj];omega)).mono ?_;rw [show (⟨fl.toArray⟩:ByteArray).data.toList=fl by simp];rintro e w4 ⟨v4,rfl,ho⟩;obtain ⟨aT,cT,rfl⟩:=zar ho.1;have b3:=ho.2;have c8:=zjy (zab b3 (zaa b9.o) b9.o);have a3:=xhh d0 b3;have hV:=Vec.owns (S:=zau) (k:=1) (enc:=za8) (fun _=>rfl) ho.1 (fun _ _ _=>trivial)
 have a8:∀ t∈zcu fl,t.length<=64:=fun t ht=>by have:=toks_le fl [] t ht;simp at this;omega
 have d7:(zcu fl).length<=65:=by have:=(zd3 fl []).2.1;unfold zcu;omega
 obtain ⟨T,hT⟩:=xex (zcu fl);rw [hT] at hV a8 d7 HF ⊢;have e5:=zjy hV;have c9:=zjy a8;clear b3 b9 d0 ho hV hT a8;go_wp2_with fail
 go_loopw [10,11] (fun v i wr=>∃ k:Nat,k<=T.length/\i = .int .i64 k/\OwnAt w4 v (za9 r (T.take k)) wr) (fun _ i _=>T.length - (intOf i).toNat)
 case atStart=>exact ⟨0,by omega,rfl,OwnAt.start w4⟩
 case round =>
  obtain ⟨k,hk,rfl,ho⟩:=hrel;by_cases hlt:k<T.length
  ·have hq:decide ((k:Int)<T.length)=true:=by simp;omega
   have hi:(k:Int)<(T.length:Int):=by omega
   obtain ⟨b,off,rfl,_,hb,c6⟩:=zb7 e5.o (by omega)
   have a9:T.take (k+1)=T.take k++[T.getD k []]:=by
    rw [List.take_succ_eq_append_getElem hlt,List.getD,List.getElem?_eq_getElem hlt];rfl
   have d5:(T.getD k []).length<=64:=TL_get c9.o k hlt;have a2:=c6 k hlt;obtain ⟨x,hx⟩:=xex (T.getD k []);rw [hx] at a9 d5 a2;have c1:wr.cell? ⟨b,off+k,none⟩=some (zak x):=(ho.2.cell (p:=⟨b,off+k,none⟩) hb).trans a2;have HT:=zjy a9;have HO:=zjy ho;have b1:=zgc r (T.take k);have b0:(za9 r (T.take k)).length<1099511627776:=by have:=List.length_take_le k T;omega
   clear hx a9 c6 a2 ho b1;go_wp2_with fail
   refine (zhd (mkS x) _ (by rw [show (mkS x).size=x.length from zaj x];omega)).mono ?_;rw [show (mkS x).data.toList=x by simp [mkS]];rintro e w' ⟨rfl,rfl⟩;have a6:=HO;have b7:=zab (a6.o.2) (zaa c8.o) c8.o;clear HO;have a0:=zjy (show zcz r x=if (za7 x).isEmpty || zhk r.titles (za7 x) then [] else [zbe r.nicks (za7 x)] from rfl);have d4:=zfv x;obtain ⟨y,hy⟩:=xex (za7 x);rw [hy] at a0 d4 ⊢;clear hy;have b8:=zjy b7;obtain ⟨p0,p1,p2⟩:=zan b7;clear b7;by_cases hye:y=[]
   ·have e1:(y == [])=true:=by simpa using hye
    have e2:y.isEmpty=true:=by simpa using hye
    have HN:=zjy (show zcz r x=[] by rw [a0.o,e2];rfl);clear hye a0;go_wp2_with fail
    go_roundw
    case rel=>exact ⟨k+1,by omega,by go_num,by rw [HT.o,zds,HN.o,List.append_nil];exact a6.o⟩
    case measure=>simp [intOf];omega
   ·have e1:(y == [])=false:=by simpa using hye
    have e2:y.isEmpty=false:=by simpa using hye
    rw [e2,Bool.false_or] at a0;clear hye;go_wp2_with fail
    refine (rdropped_any zau vt vn vs r.titles y _ (HR.o.1.below (a3.o.trans (a6.o.2.mono a3.o.size))) (by omega)).mono ?_;rintro e w6 ⟨rfl,b2⟩;have a7:=zjy (a6.o.below b2);have b6:=zab b2 (zaa b8.o) b8.o;clear p0 p1 p2 b8 b2 a6;obtain ⟨p0,p1,p2⟩:=zan b6;have e4:=zjy b6;clear b6;cases hd:zhk r.titles y
    ·have HN:=zjy (show zcz r x=[zbe r.nicks y] by rw [a0.o,hd];rfl)
     clear hd a0;go_wp2_with fail
     refine (rcanonical_any zau vt vn vs r.nicks y _ (HR.o.2.1.below (a3.o.trans (a7.o.2.mono a3.o.size))) (by omega)).mono ?_;rintro e w7 ⟨rfl,c7⟩;have c4:=zjy (a7.o.below c7);clear p0 p1 p2 e4 c7 a7;obtain ⟨z,hz⟩:=xex (zbe r.nicks y);rw [hz] at HN ⊢;clear hz;have e3:w4.heap.size<=w7.heap.size:=c4.o.2.size;go_wp2_with (at_builtin;refine zay rfl _ _ 28 rfl w4.heap.size 9 1 16 (.string ⟨#[]⟩) underlying28 zdt rfl (by decide) (by decide) _ _ _ rfl c4.o.1 #[zak z] 1 rfl rfl (by simp [Value.oneCell']) b0 e3 ?_;intro v2 w8 d8 d6)
     go_roundw
     case rel=>exact ⟨k+1,by omega,by go_num,by rw [HT.o,zds,HN.o];exact ⟨by rw [List.length_append,zd4];exact d8,d6 _ c4.o.2⟩⟩
     case measure=>simp [intOf];omega
    ·have HN:=zjy (show zcz r x=[] by rw [a0.o,hd];rfl)
     clear hd a0;go_wp2_with fail
     go_roundw
     case rel=>exact ⟨k+1,by omega,by go_num,by rw [HT.o,zds,HN.o,List.append_nil];exact a7.o⟩
     case measure=>simp [intOf];omega
  ·have hq:decide ((k:Int)<T.length)=false:=by simp;omega
   rw [List.take_of_length_le (by omega)] at ho;have c3:=zjy (Vec.owns (S:=zau) (k:=1) (enc:=za8) (fun _=>rfl) ho.1 (fun _ _ _=>trivial))
   have HW:=zjy (a3.o.trans (ho.2.mono a3.o.size));have b1:=zgc r T;have c5:=join_le (za9 r T) (nameToks_le G2.o c9.o);clear ho;obtain ⟨N,hN⟩:=xex (za9 r T);rw [hN] at c3 b1 c5 HF;clear hN
   have d9:(za2 N).length<=1000000:=by
    have:N.length*65<=65*65:=Nat.mul_le_mul_right 65 (by omega);omega
   clear c5;obtain ⟨av,cv,rfl⟩:=c3.o.slice;go_wp2_with fail
   refine (rjoin_any zau _ N _ c3.o (by omega) (by omega)).mono ?_;rintro e w' ⟨rfl,rfl⟩;have c2:=HW;obtain ⟨J,hJ⟩:=xex (za2 N);rw [hJ] at HF d9 ⊢;clear hJ;by_cases g1:6<N.length
   ·have d1:decide ((6:Int)<N.length)=true:=by simp;omega
    rw [if_pos (.inl g1)] at HF;go_wp2_with fail
    go_ret2;exact ⟨by rw [HF.o];rfl,c2.o⟩
   ·have d1:decide ((6:Int)<N.length)=false:=by simp;omega
    by_cases g2:64<J.length
    ·have d2:decide ((64:Int)<J.length)=true:=by simp;omega
     rw [if_pos (.inr g2)] at HF;go_wp2_with fail
     go_ret2;exact ⟨by rw [HF.o];rfl,c2.o⟩
    ·have d2:decide ((64:Int)<J.length)=false:=by simp;omega
     rw [if_neg (by omega)] at HF;go_wp2_with fail
     go_ret2;exact ⟨by rw [HF.o];rfl,c2.o⟩
theorem rnorm_no (S:Nat->Prop) (vt vn vs:Value) (r:RulesL) (s:ByteArray) (w:World) (h:RulesAt w S vt vn vs r) (hs:s.size<=9223372036854775000) (hc:zaz r=0) (hv:zdi s.data.toList=false) :
  Calls prog 124 #[.agg #[vt,vn,vs],.string s] w fun e w'=>e = .returned (zdx (zdd r s.data.toList))/\Below w.heap.size w w':=by
 have HR:=zjy h.any;have HC:=zjy hc;have HV:=zjy hv;clear h hc hv;have HF:=zjy (show zdd r s.data.toList=([],3) by unfold zdd;rw [if_pos HC.o,if_neg (by rw [HV.o];simp)]);go_enter func124,ntmps124
 go_wp2_with fail
 refine (zec zau vt vn vs r _ (HR.o.below ((Below.refl _ _).alloc xnl _))).mono ?_;rw [HC.o];rintro e w1 ⟨rfl,a1⟩;have a2:=zjy (xbt a1);clear a1;go_wp2_with fail
 refine (rfold_no s _ hs HV.o).mono ?_;rintro e w2 ⟨rfl,a0⟩;have a3:=xhh a2 a0;clear a0 a2;go_wp2_with fail
 go_ret2;exact ⟨by rw [HF.o];rfl,a3.o⟩
theorem rnorm_bad (S:Nat->Prop) (vt vn vs:Value) (r:RulesL) (s:ByteArray) (w:World) (h:RulesAt w S vt vn vs r) (hc:zaz r≠0) :
  Calls prog 124 #[.agg #[vt,vn,vs],.string s] w fun e w'=>e = .returned (zdx (zdd r s.data.toList))/\Below w.heap.size w w':=by
 have HR:=zjy h.any;have HF:=zjy (show zdd r s.data.toList=([],zaz r) by unfold zdd;rw [if_neg hc]);have a2:(zaz r != 0)=true:=by simpa using hc
 clear h hc;go_enter func124,ntmps124
 go_wp2_with fail
 refine (zec zau vt vn vs r _ (HR.o.below ((Below.refl _ _).alloc xnl _))).mono ?_;obtain ⟨c,a0⟩:=xex (zaz r);rw [a0] at a2 HF ⊢;clear a0;rintro e w1 ⟨rfl,a1⟩;have a3:=zjy (xbt a1);clear a1;go_wp2_with fail
 go_ret2;exact ⟨by rw [HF.o];rfl,a3.o⟩
theorem rnorm_any (S:Nat->Prop) (vt vn vs:Value) (r:RulesL) (s:ByteArray) (w:World) (h:RulesAt w S vt vn vs r) (hs:s.size<=9223372036854775000) :
  Calls prog 124 #[.agg #[vt,vn,vs],.string s] w fun e w'=>e = .returned (zdx (zdd r s.data.toList))/\Below w.heap.size w w':=by
 by_cases hc:zaz r=0
 ·cases hv:zdi s.data.toList with
  | true=>exact rnorm_yes S vt vn vs r s w h hc hv
  | false=>exact rnorm_no S vt vn vs r s w h hs hc hv
 ·exact rnorm_bad S vt vn vs r s w h hc
theorem rnormal_any (S:Nat->Prop) (vt vn vs:Value) (r:RulesL) (s:ByteArray) (w:World) (h:RulesAt w S vt vn vs r) (hs:s.size<=9223372036854775000) :
  Calls prog 157 #[.agg #[vt,vn,vs],.string s] w fun e w'=>e = .returned (.bool (zep (zdd r s.data.toList) s.data.toList))/\Below w.heap.size w w':=by
 have HR:=zjy h.any;clear h;have HS:=zjy (Lib.toList_data s);go_enter func157,ntmps157
 go_wp2_with fail
 refine (rnorm_any zau vt vn vs r s _ (HR.o.below ((Below.refl _ _).alloc xnl _)) hs).mono ?_;obtain ⟨p,hp⟩:=xex (zdd r s.data.toList);rw [hp];have HP:=zjy hp;clear hp;obtain ⟨pl,pe⟩:=p;unfold zdx;rintro e w1 ⟨rfl,a0⟩;have a1:=zjy (xbt a0);clear a0;cases he:(pe == 0)
 all_goals
  go_wp2_with fail
  go_ret;refine ⟨zax ?_,a1.o⟩;rw [HP.o];simp [zep,he,HS.o]
end
section
open Go.RowKit
attribute [local go_sem] zag zaj zba
theorem rword_any (l:List UInt8) (w:World) :
  Calls prog 112 #[zak l] w fun e w'=>e = .returned (.bool (wordB l))/\w=w':=by
 unfold wordB;by_cases h0:l=[]
 ·subst h0
  go_enter func112,ntmps112
  go_wp2
  go_ret;exact ⟨rfl,rfl⟩
 ·have h1:l.isEmpty=false:=by simpa using h0
  have h2:(l == [])=false:=by simpa using h0
  have h2':(l != [])=true:=by simpa using h0
  rw [h1];by_cases h3:l.length<=12
  ·have h4:decide (l.length<=12)=true:=by simpa using h3
   have h5:decide ((l.length:Int)<=12)=true:=by simp;omega
   rw [h4];clear h0 h4;go_enter func112,ntmps112
   go_wp2_with fail
   refine (zhd ⟨l.toArray⟩ _ (by rw [zaj];omega)).mono ?_;rw [show (⟨l.toArray⟩:ByteArray).data.toList=l by simp];rintro e w1 ⟨rfl,rfl⟩;go_wp2_with fail
   go_ret;exact ⟨rfl,rfl⟩
  ·have h4:decide (l.length<=12)=false:=by simpa using h3
   have h5:decide ((l.length:Int)<=12)=false:=by simp;omega
   rw [h4];clear h0 h4;go_enter func112,ntmps112
   go_wp2_with fail
   go_ret;exact ⟨rfl,rfl⟩
theorem any_take_true {F:List F2} {k j:Nat} {nm:List UInt8} (hj:j<k) (hk:k<=F.length) (h:((F.getD j default).1 == nm)=true) :
  (F.take k).any (fun y=>y.1 == nm)=true:=by
 rw [List.any_eq_true];refine ⟨F.getD j default,?_,h⟩;have h1:j<F.length:=by omega
 rw [List.mem_take_iff_getElem];exact ⟨j,by omega,by simp [List.getD,List.getElem?_eq_getElem h1]⟩
theorem any_take_false {F:List F2} {k:Nat} {nm:List UInt8} (h:∀ j,j<k->((F.getD j default).1 == nm)=false) :
  (F.take k).any (fun y=>y.1 == nm)=false:=by
 rw [List.any_eq_false];intro x hx;obtain ⟨j,hj,rfl⟩:=List.mem_take_iff_getElem.1 hx;have h1:j<F.length:=by omega
 have:=h j (by omega);simp [List.getD,List.getElem?_eq_getElem h1] at this;simpa using this
theorem zeb (S:Nat->Prop) (vf vt vn vs:Value) (s:SchemaL) (w:World) (h:SchemaAt w S vf vt vn vs s) :
  Calls prog 74 #[.agg #[vf,vt,vn,vs]] w fun e w'=>e = .returned (.int .i64 (za1 s))/\Below w.heap.size w w':=by
 obtain ⟨F,r⟩:=s;obtain ⟨h1,h2⟩:=h;dsimp only at h1 h2;obtain ⟨af,cf,rfl⟩:=h1.slice;have H1:=zjy h1.any;have H2:=zjy h2.any;clear h1 h2;have a1:∀ n:Int,za1 ⟨F,r⟩=n->Ending.returned (.int .i64 n) = .returned (.int .i64 (za1 ⟨F,r⟩)):=fun n h=>by rw [h]
 have HF:=zjy a1;clear a1;by_cases g1:F.length<1
 ·have d1:decide ((F.length:Int)<1)=true:=by simp;omega
  go_enter func74,ntmps74
  go_wp2_with fail
  go_ret;exact ⟨HF.o 6 (by unfold za1;rw [if_pos (.inl g1)]),(Below.refl _ _).alloc xnl _⟩
 ·have d1:decide ((F.length:Int)<1)=false:=by simp;omega
  by_cases g2:5<F.length
  ·have d2:decide ((5:Int)<F.length)=true:=by simp;omega
   go_enter func74,ntmps74
   go_wp2_with fail
   go_ret;exact ⟨HF.o 6 (by unfold za1;rw [if_pos (.inr g2)]),(Below.refl _ _).alloc xnl _⟩
  ·have d2:decide ((5:Int)<F.length)=false:=by simp;omega
   have HN:=zjy (show ¬ (F.length<1\/5<F.length) by omega);obtain ⟨b,off,rfl,_,hb,hc⟩:=zco H1.o (by omega);have HC:=zjy hc;clear hc;go_enter func74,ntmps74
   go_wp2_with fail
   clear d1 d2;go_loopw [3] (fun i wr=>∃ k:Nat,k<=F.length/\i = .int .i64 k/\wr.heap[w.heap.size]?=some (.cells #[.slice (some ⟨b,off,none⟩) F.length cf,vt,vn,vs] 33 (0,0))/\Below w.heap.size w wr/\∀ j,j<k->zcb F j=true) (fun i _=>F.length - (intOf i).toNat)
   case atStart=>exact ⟨0,by omega,rfl,zac rfl,(Below.refl _ _).alloc xnl _,fun j hj=>by omega⟩
   case round =>
    obtain ⟨k,hk,rfl,hX,a2,ha⟩:=hrel;have HA:=zjy ha;clear ha;obtain ⟨p0,p1,p2,p3⟩:=zbp hX;have zX:=zaa hX;have HX:=zjy hX;clear hX;have HW:=zjy a2;by_cases hlt:k<F.length
    ·obtain ⟨wu,rfl⟩:∃ wu:World,wu=wr:=⟨_,rfl⟩
     have hq:decide ((k:Int)<F.length)=true:=by simp;omega
     have hi:(k:Int)<(F.length:Int):=by omega
     obtain ⟨x,hx⟩:=xex (F.getD k default);have hc:=HC.o k hlt;rw [hx] at hc;have c0:wu.cell? ⟨b,off+k*2,none⟩=some (zak x.1):=(a2.cell (p:=⟨b,off+k*2,none⟩) hb).trans (hc 0 _ rfl);have c1:wu.cell? ⟨b,off+k*2+1,none⟩=some (.int .i64 x.2):=(a2.cell (p:=⟨b,off+k*2+1,none⟩) hb).trans (hc 1 _ rfl);have b0:zcb F k=(wordB x.1 && !((F.take k).any fun y=>y.1 == x.1) && decide (1<=x.2) && decide (x.2<=4)):=by simp only [zcb];rw [hx]
     have a0:=zjy b0;obtain ⟨nm,kd⟩:=x;dsimp only at c0 c1 a0;clear hx hc a2 b0;have b2:∀ x:Bool,zcb F k=false->Ending.returned (.int .i64 6)=Ending.returned (.int .i64 (za1 ⟨F,r⟩)):=fun _ hf=>HF.o 6 (by unfold za1;rw [if_neg HN.o,if_neg (by rw [zfy,zb9 hlt hf];simp)])
     have a5:=zjy (b2 true);clear b2;go_wp2_with fail
     refine (rword_any nm _).mono ?_;obtain ⟨wb,a9⟩:=xex (wordB nm);rw [a9] at a0 ⊢;clear a9;rintro e w3 ⟨rfl,rfl⟩;cases wb
     ·have a0:=zjy (show zcb F k=false by rw [a0.o];rfl)
      go_wp2_with fail
      go_ret;exact ⟨a5.o a0.o,HW.o.alloc HW.o.size _⟩
     ·by_cases k1:1<=kd
      ·have b8:decide (kd<1)=false:=by simp;omega
       by_cases k4:kd<=4
       ·have b7:decide (4<kd)=false:=by simp;omega
        have a0:=zjy (show zcb F k = !((F.take k).any fun y=>y.1 == nm) by rw [a0.o];simp [k1,k4])
        go_wp2_with fail
        go_loopw [5] (fun i wr=>∃ j:Nat,j<=k/\i = .int .i64 j/\wr.heap[w.heap.size]?=some (.cells #[.slice (some ⟨b,off,none⟩) F.length cf,vt,vn,vs] 33 (0,0))/\wr.heap[wu.heap.size]?=some (.cells #[zak nm,.int .i64 kd] 85 (0,0))/\Below w.heap.size w wr/\∀ m,m<j->((F.getD m default).1 == nm)=false) (fun i _=>k - (intOf i).toNat)
        case atStart=>exact ⟨0,by omega,rfl,zaf HX.o,zac rfl,HW.o.alloc HW.o.size _,fun m hm=>by omega⟩
        case round =>
         obtain ⟨j,hj,rfl,hX,a4,a3,ha⟩:=hrel;have b4:=zjy ha;clear ha;obtain ⟨p0,p1,p2,p3⟩:=zbp hX;have q0:wr.cell? ⟨wu.heap.size,0,none⟩=some (zak nm):=by rw [cell_of_row _ _ _ _ _ _ a4];rfl
         have b6:=zaa hX;have b5:=zaa a4;have b3:=zjy hX;have c2:=zjy a4;have a8:=zjy a3;clear hX a4;by_cases hjk:j<k
         ·have b9:decide ((j:Int)<k)=true:=by simp;omega
          have hij:(j:Int)<(F.length:Int):=by omega
          obtain ⟨y,hy⟩:=xex (F.getD j default);have a7:=HC.o j (by omega);rw [hy] at a7;have e0:wr.cell? ⟨b,off+j*2,none⟩=some (zak y.1):=(a3.cell (p:=⟨b,off+j*2,none⟩) hb).trans (a7 0 _ rfl);have HE:=zjy (show ((F.getD j default).1 == nm)=(y.1 == nm) by rw [hy]);obtain ⟨ny,ky⟩:=y;dsimp only at e0 HE;clear a7 hy a3;cases hn:ny == nm
          ·rw [hn] at HE
           go_wp2_with fail
           go_quiet (fail)
           go_wp2_with fail
           go_roundw
           case rel=>exact ⟨j+1,by omega,by go_num,zab (below_drewN (Below.refl _ _) _) b6 b3.o,zab (below_drewN (Below.refl _ _) _) b5 c2.o,below_drewN a8.o _,fun m hm=>by
            by_cases e:m=j
            ·subst e;exact HE.o
            ·exact b4.o m (by omega)⟩
           case measure=>simp [intOf];omega
          ·rw [hn] at HE
           go_wp2_with fail
           go_quiet (fail)
           go_wp2_with fail
           go_ret;exact ⟨a5.o (by rw [a0.o,any_take_true hjk hk HE.o];rfl),below_drewN a8.o _⟩
         ·have b9:decide ((j:Int)<k)=false:=by simp;omega
          have a6:j=k:=by omega
          subst a6;clear a3;go_wp2_with fail
          go_roundw
          case rel=>exact ⟨j+1,by omega,by go_num,b3.o,a8.o,fun m hm=>by
           by_cases e:m=j
           ·subst e;rw [a0.o,any_take_false b4.o];rfl
           ·exact HA.o m (by omega)⟩
          case measure=>simp [intOf];omega
       ·have b7:decide (4<kd)=true:=by simp;omega
        have a0:=zjy (show zcb F k=false by rw [a0.o];simp [k4]);go_wp2_with fail
        go_ret;exact ⟨a5.o a0.o,HW.o.alloc HW.o.size _⟩
      ·have b8:decide (kd<1)=true:=by simp;omega
       have a0:=zjy (show zcb F k=false by rw [a0.o];simp [k1]);go_wp2_with fail
       go_ret;exact ⟨a5.o a0.o,HW.o.alloc HW.o.size _⟩
    ·have hq:decide ((k:Int)<F.length)=false:=by simp;omega
     clear a2;go_wp2_with fail
     refine (zec zau vt vn vs r _ (H2.o.below HW.o)).mono ?_;obtain ⟨c,hc⟩:=xex (zaz r);rw [hc];have c4:=zjy hc;clear hc;rintro e w3 ⟨rfl,b1⟩;have c3:=xhh HW b1;clear b1;go_wp2_with fail
     go_ret;exact ⟨HF.o c (by unfold za1;rw [if_neg HN.o,if_pos (by rw [zfy];exact zju fun j hj=>HA.o j (by have hj':j<F.length:=hj;omega))];exact c4.o),c3.o⟩
end
section
open Go.RowKit
attribute [local go_sem] zag zaj zba
@[local go_sem] theorem get_zero4 (c:UInt8) (l:List UInt8) (h:0<(⟨(c :: l).toArray⟩:ByteArray).size):(⟨(c :: l).toArray⟩:ByteArray)[0]'h=c:=rfl
@[local go_sem] theorem get_one4 (c d:UInt8) (l:List UInt8) (h:1<(⟨(c :: d :: l).toArray⟩:ByteArray).size):(⟨(c :: d :: l).toArray⟩:ByteArray)[1]'h=d:=rfl
theorem rnumeral_any (l:List UInt8) (w:World) :
  Calls prog 200 #[zak l] w fun e w'=>e = .returned (.bool (zdc l))/\w=w':=by
 cases l with
 | nil =>
  go_enter func200,ntmps200
  go_wp2
  go_ret;exact ⟨rfl,rfl⟩
 | cons c l =>
  have HD:=zjy (ze0 c)
  by_cases h1:48<=(c.toNat:Int) <;> by_cases h2:(c.toNat:Int)<=57
  all_goals
   go_enter func200,ntmps200
   go_wp2
   go_ret;exact ⟨zax (by rw [show zdc (c :: l)=isDgt c from rfl,HD.o];simp;try omega),rfl⟩
theorem short_stop {c:UInt8} {l:List UInt8} (h:zdc (c :: l)=true) (hs:c≠48\/zdc l=false):zbk (c :: l)=c :: l:=by
 by_cases hc:c=48
 ·subst hc
  have hn:zdc l=false:=hs.resolve_left (fun h=>h rfl)
  have hd:l.dropWhile (· == 48)=l:=by
   cases l with
   | nil=>rfl
   | cons d r =>
    rw [List.dropWhile_cons,if_neg];intro e;have:d=48:=by simpa using e
    subst this;have a0:zdc (48 :: r)=true:=rfl;rw [a0] at hn;cases hn
  unfold zbk;rw [show (48 :: l).dropWhile (· == 48)=l.dropWhile (· == 48) from rfl,hd,if_neg (by rw [hn];simp)]
 ·unfold zbk
  have hd:(c :: l).dropWhile (· == 48)=c :: l:=by rw [List.dropWhile_cons,if_neg (by simpa using hc)]
  rw [hd,if_pos h]
theorem short_next {l:List UInt8}:zbk (48 :: l)=zbk l:=by
 unfold zbk;rfl
theorem rtrimmed_any (x:List UInt8) (w:World) (hx:zdc x=true) (hl:x.length<=1000000) :
  Calls prog 171 #[zak x] w fun e w'=>e = .returned (zak (zbk x))/\w=w':=by
 have HX:=zjy hx;clear hx;go_enter func171,ntmps171
 go_wp2_with fail
 go_loop [0] (fun s=>∃ l:List UInt8,s=zak l/\l.length<=1000000/\Hid (zdc l=true)/\Hid (zbk x=zbk l)) (fun s=>match s with | .string b=>b.size | _=>0)
 case atStart=>exact ⟨x,rfl,hl,HX,zjy rfl⟩
 case round =>
  obtain ⟨l,rfl,a1,HN,HS⟩:=hrel;cases l with
  | nil=>exact absurd HN.o (by decide)
  | cons c l =>
   cases l with
   | nil =>
    have a0:zbk x=[c]:=by rw [HS.o];exact short_stop HN.o (.inr rfl)
    have HF:=zjy a0;clear a0;go_wp2_with fail
    go_ret;exact ⟨by show Ending.returned (zak [c])=_;rw [HF.o],rfl⟩
   | cons d r =>
    have hb:=c.toNat_lt;have hb2:=d.toNat_lt;have hl2:1<(c :: d :: r).length:=by simp
    by_cases hc:c=48
    ·have e1:((c.toNat:Int) == 48)=true:=by rw [hc];rfl
     cases hd:isDgt d
     ·have a0:zbk x=c :: d :: r:=by rw [HS.o];exact short_stop HN.o (.inr hd)
      have HF:=zjy a0;clear a0;rw [ze0,decide_eq_false_iff_not] at hd;have a3:(48<=(d.toNat:Int)/\57<(d.toNat:Int))\/(d.toNat:Int)<48:=by omega
      clear hd hc
      rcases a3 with ⟨g1,g2⟩ | g1
      all_goals
       go_wp2_with fail
       go_ret;exact ⟨by show Ending.returned (zak (c :: d :: r))=_;rw [HF.o],rfl⟩
     ·have a5:=zjy (show zdc (d :: r)=true from hd)
      have a4:=zjy (show zbk x=zbk (d :: r) by rw [HS.o,hc];exact short_next);rw [ze0,decide_eq_true_iff] at hd;obtain ⟨g1,g2⟩:=hd
      have a2:(⟨(c :: d :: r).toArray⟩:ByteArray).extract 1 (r.length+1+1)=⟨(d :: r).toArray⟩:=by
       have:=ext_mk (c :: d :: r) 1 (r.length+1+1) (by simp);unfold mkS at this;rw [this,List.take_of_length_le (by simp)];rfl
      clear hc;go_wp2_with fail
      go_round
      case rel=>exact ⟨d :: r,rfl,by simp at a1 ⊢;omega,a5,a4⟩
      case measure=>simp [zaj]
    ·have e1:((c.toNat:Int) == 48)=false:=by
      simp only [beq_eq_false_iff_ne,ne_eq];intro e;apply hc;rw [<- UInt8.toNat_inj];simp;omega
     have a0:zbk x=c :: d :: r:=by rw [HS.o];exact short_stop HN.o (.inl hc)
     have HF:=zjy a0;clear a0 hc;go_wp2_with fail
     go_ret;exact ⟨by show Ending.returned (zak (c :: d :: r))=_;rw [HF.o],rfl⟩
def PartsPost (L:List (List UInt8)) (w:World) (e:Ending) (w':World):Prop:=∃ u v,e = .returned (.tuple #[u,v])/\TwoAt w v u (L.filter zdc) (L.filter fun x=>!zdc x) w'
theorem rparts_any (S:Nat->Prop) (v:Value) (L:List (List UInt8)) (w:World) (h:Vec w S 1 za8 v L) (hn:L.length<=1000000) :
  Calls prog 169 #[v] w (PartsPost L w):=by
 obtain ⟨a,cap,rfl⟩:=h.slice;have HV:=zjy h;clear h;go_enter func169,ntmps169
 go_wp2_with fail
 go_loopw [4,5,6] (fun n y i wr=>∃ k:Nat,k<=L.length/\i = .int .i64 k/\TwoAt w y n ((L.take k).filter zdc) ((L.take k).filter fun x=>!zdc x) wr) (fun _ _ i _=>L.length - (intOf i).toNat)
 case atStart=>exact ⟨0,by omega,rfl,TwoAt.start w⟩
 case round =>
  obtain ⟨k,hk,rfl,ho⟩:=hrel;have HO:=zjy ho;clear ho;by_cases hlt:k<L.length
  ·have hq:decide ((k:Int)<L.length)=true:=by simp;omega
   have hi:(k:Int)<(L.length:Int):=by omega
   obtain ⟨b,off,rfl,_,hb,a6⟩:=zb7 HV.o (by omega);have a3:=zhv L k hlt;have a0:=a6 k hlt;obtain ⟨x,hx⟩:=xex (L.getD k []);rw [hx] at a3 a0;have c1:wr.cell? ⟨b,off+k,none⟩=some (zak x):=(HO.o.2.2.2.cell (p:=⟨b,off+k,none⟩) hb).trans a0;have HT:=zjy a3;have l1:((L.take k).filter zdc).length<1099511627776:=by have:=List.length_filter_le zdc (L.take k);have:=List.length_take_le k L;omega
   have l2:((L.take k).filter fun x=>!zdc x).length<1099511627776:=by have:=List.length_filter_le (fun x=>!zdc x) (L.take k);have:=List.length_take_le k L;omega
   have a7:w.heap.size<=wr.heap.size:=HO.o.2.2.2.size;clear hx a3 a6 a0;go_wp2_with fail
   refine (rnumeral_any x _).mono ?_;rintro e w' ⟨rfl,rfl⟩;cases hd:zdc x
   ·have F1:=zjy (ze3 (p:=zdc) (L.take k) x hd)
    have F2:=zjy (zeq (p:=fun x=>!zdc x) (L.take k) x (by simp [hd]))
    clear hd;go_wp2_with (at_builtin;refine zc5 rfl _ _ 28 rfl w.heap.size 9 1 16 (.string ⟨#[]⟩) underlying28 zdt rfl (by decide) (by decide) _ _ _ rfl HO.o.2.1 #[zak x] 1 rfl rfl (by simp [Value.oneCell']) l2 a7 ?_;intro v2 w8 a4 a5 a1 a2)
    go_roundw
    case rel=>exact ⟨k+1,by omega,by go_num,by rw [HT.o,F1.o,F2.o];exact (HO.o.swap.put a4 a5 a1 a2).swap⟩
    case measure=>simp [intOf];omega
   ·have F1:=zjy (zeq (p:=zdc) (L.take k) x hd)
    have F2:=zjy (ze3 (p:=fun x=>!zdc x) (L.take k) x (by simp [hd]))
    clear hd;go_wp2_with (at_builtin;refine zc5 rfl _ _ 28 rfl w.heap.size 9 1 16 (.string ⟨#[]⟩) underlying28 zdt rfl (by decide) (by decide) _ _ _ rfl HO.o.1 #[zak x] 1 rfl rfl (by simp [Value.oneCell']) l1 a7 ?_;intro v2 w8 a4 a5 a1 a2)
    go_roundw
    case rel=>exact ⟨k+1,by omega,by go_num,by rw [HT.o,F1.o,F2.o];exact HO.o.put a4 a5 a1 a2⟩
    case measure=>simp [intOf];omega
  ·have hq:decide ((k:Int)<L.length)=false:=by simp;omega
   rw [List.take_of_length_le (by omega)] at HO;go_wp2_with fail
   go_ret2;exact ⟨_,_,rfl,HO.o⟩
end
section
open Go.RowKit
attribute [local go_sem] zag zaj zba
def noSp (l:List UInt8):List UInt8:=l.filter (· != 32)
theorem flat_noSp (l:List UInt8):∀ p,(zbw p l).flatten=p++noSp l:=by
 induction l with
 | nil =>
  intro p;by_cases hp:p=[]
  ·subst hp;simp [zbw,noSp]
  ·rw [ze8 _ hp];simp [noSp]
 | cons c l ih =>
  intro p;by_cases hc:c=32
  ·subst hc
   have e:noSp (32 :: l)=noSp l:=by simp [noSp]
   by_cases hp:p=[]
   ·subst hp;rw [zbm,ih,e]
   ·rw [zbz _ _ hp,List.flatten_cons,ih,e];simp
  ·have e:noSp (c :: l)=c :: noSp l:=by simp [noSp,hc]
   rw [zb0 _ _ _ hc,ih,e];simp
theorem noSp_snoc (l:List UInt8) (c:UInt8):noSp (l++[c])=if c=32 then noSp l else noSp l++[c]:=by
 unfold noSp
 by_cases h:c=32 <;> simp [List.filter_append,h]
theorem rcode_yes (s:ByteArray) (w:World) (hv:zdi s.data.toList=true) :
  Calls prog 125 #[.string s] w fun e w'=>e = .returned (zdx (zd6 s.data.toList))/\Below w.heap.size w w':=by
 have b1:=zg3 s.data.toList;have b6:=zgr hv
 have a0:zd6 s.data.toList=if 12<(noSp (zbx s.data.toList)).length then ([],1) else (noSp (zbx s.data.toList),0):=by
  unfold zd6 zcu;rw [if_pos hv,flat_noSp];rfl
 have HV:=zjy hv;obtain ⟨fl,a2⟩:=xex (zbx s.data.toList);have hc:=rfold_yes s w hv;rw [a2] at b1 a0 hc;have HC:=zjy hc;have a1:=zjy a0;have hl:fl.length<=64:=by omega
 clear hv a2 a0 hc b1 b6;go_enter func125,ntmps125
 go_wp2_with fail
 refine HC.o.mono ?_;rintro e w1 ⟨rfl,b2⟩;have b4:=zjy b2;clear b2 HC;obtain ⟨sf,a3⟩:∃ sf:ByteArray,(⟨fl.toArray⟩:ByteArray)=sf:=⟨_,rfl⟩;have a9:sf.data.toList=fl:=by rw [<- a3]
 have a8:sf.size=fl.length:=by rw [<- a3];exact zaj fl
 rw [show zak fl = .string sf by rw [<- a3]];have b8:=zjy a9;have b7:=zjy a8;have hsb:sf.size<=64:=by omega
 clear a3 a9 a8 hl;go_wp2_with fail
 go_loop [6,7] (fun o i=>∃ k:Nat,k<=sf.size/\i = .int .i64 k/\o=zak (noSp (fl.take k))) (fun _ i=>sf.size - (intOf i).toNat)
 case atStart=>exact ⟨0,by omega,rfl,rfl⟩
 case round =>
  obtain ⟨k,hk,rfl,rfl⟩:=hrel
  have b0:(noSp (fl.take k)).length<=64:=by
   have:=List.length_filter_le (fun c:UInt8=>c != 32) (fl.take k)
   have:=List.length_take_le k fl;unfold noSp;omega
  by_cases hlt:k<sf.size
  ·have hq:decide ((k:Int)<sf.size)=true:=by simp;omega
   have hb:=sf[k].toNat_lt;have a4:=zew sf k hlt;rw [b8.o] at a4;have a5:=noSp_snoc (fl.take k) sf[k];rw [<- a4] at a5;have b3:=zjy a5;clear a4 a5;by_cases hsp:sf[k]=32
   ·have e1:((sf[k].toNat:Int) != 32)=false:=by rw [hsp];rfl
    have a6:=zjy hsp;clear hsp;go_wp2_with fail
    go_round
    case rel=>exact ⟨k+1,by omega,by go_num,by rw [b3.o,if_pos a6.o]⟩
    case measure=>simp [intOf];omega
   ·have e1:((sf[k].toNat:Int) != 32)=true:=by
     simp only [bne_iff_ne,ne_eq];intro e;apply hsp;rw [<- UInt8.toNat_inj];simp;omega
    have b5:=ext_one sf k hlt;have a6:=zjy hsp;clear hsp;go_wp2_with fail
    go_round
    case rel=>exact ⟨k+1,by omega,by go_num,by rw [b3.o,if_neg a6.o]⟩
    case measure=>simp [intOf];omega
  ·have hq:decide ((k:Int)<sf.size)=false:=by simp;omega
   have a7:fl.take k=fl:=List.take_of_length_le (by rw [<- b7.o];omega);rw [a7] at b0 ⊢;obtain ⟨O,hO⟩:=xex (noSp fl);rw [hO] at b0 a1 ⊢;clear a7 hO;by_cases g:12<O.length
   ·have d1:decide ((12:Int)<O.length)=true:=by simp;omega
    have HF:=zjy (show zd6 s.data.toList=([],1) by rw [a1.o,if_pos g]);clear g;go_wp2_with fail
    go_ret2;exact ⟨by rw [HF.o];rfl,b4.o⟩
   ·have d1:decide ((12:Int)<O.length)=false:=by simp;omega
    have HF:=zjy (show zd6 s.data.toList=(O,0) by rw [a1.o,if_neg g]);clear g;go_wp2_with fail
    go_ret2;exact ⟨by rw [HF.o];rfl,b4.o⟩
theorem rcode_no (s:ByteArray) (w:World) (hs:s.size<=9223372036854775000) (hv:zdi s.data.toList=false) :
  Calls prog 125 #[.string s] w fun e w'=>e = .returned (zdx (zd6 s.data.toList))/\Below w.heap.size w w':=by
 have HF:=zjy (show zd6 s.data.toList=([],3) by unfold zd6;rw [if_neg (by rw [hv];simp)]);have HV:=zjy hv;clear hv;go_enter func125,ntmps125
 go_wp2_with fail
 refine (rfold_no s _ hs HV.o).mono ?_;rintro e w1 ⟨rfl,a0⟩;have a1:=zjy a0;clear a0;go_wp2_with fail
 go_ret2;exact ⟨by rw [HF.o];rfl,a1.o⟩
theorem rcode_any (s:ByteArray) (w:World) (hs:s.size<=9223372036854775000) :
  Calls prog 125 #[.string s] w fun e w'=>e = .returned (zdx (zd6 s.data.toList))/\Below w.heap.size w w':=by
 cases hv:zdi s.data.toList with
 | true=>exact rcode_yes s w hv
 | false=>exact rcode_no s w hs hv
theorem rnormed_any (s:ByteArray) (w:World) (hs:s.size<=9223372036854775000) :
  Calls prog 158 #[.string s] w fun e w'=>e = .returned (.bool (zep (zd6 s.data.toList) s.data.toList))/\Below w.heap.size w w':=by
 have HS:=zjy (Lib.toList_data s);go_enter func158,ntmps158
 go_wp2_with fail
 refine (rcode_any s _ hs).mono ?_;obtain ⟨p,hp⟩:=xex (zd6 s.data.toList);rw [hp];have HP:=zjy hp;clear hp;obtain ⟨pl,pe⟩:=p;unfold zdx;rintro e w1 ⟨rfl,a0⟩;have a1:=zjy a0;clear a0;cases he:(pe == 0)
 all_goals
  go_wp2_with fail
  go_ret;refine ⟨zax ?_,a1.o⟩;rw [HP.o];simp [zep,he,HS.o]
end
section
open Go.RowKit
attribute [local go_sem] zag zaj zba
theorem flat_setS (L:List (List UInt8)) (y:List UInt8):∀ k,(L.set k y).flatMap za8=(L.flatMap za8).set k (zak y):=by
 induction L with
 | nil=>intro k;rfl
 | cons a L ih =>
  intro k;cases k with
  | zero=>rfl
  | succ k =>
   rw [List.set_cons_succ,List.flatMap_cons,List.flatMap_cons,ih];rfl
theorem TwoAt.store {w wr:World} {v:Value} {Y N:List (List UInt8)} {g c:Nat} (h:TwoAt w v (.slice (some ⟨g,0,none⟩) N.length c) Y N wr) (k:Nat) (y:List UInt8):TwoAt w v (.slice (some ⟨g,0,none⟩) N.length c) Y (N.set k y) (wr.setCell ⟨g,k,none⟩ (zak y)):=by
 obtain ⟨h1,h2,h3,h4⟩:=h;obtain ⟨s1,s2⟩:=h2.stored k (zak y)
 refine ⟨own_kept h1 s2 (fun q hq e=>?_),by rw [List.length_set,flat_setS];exact s1,h3,h4.setCell (h2.lt g rfl).1 _⟩
 have:=h3 q hq;exact this (by rw [<- e];rfl)
theorem own_ptr {w:World} {B e size n c:Nat} {a:Option Addr} {xs:List Value} (h:w.ownsRow B e size (.slice a n c) n xs) (hn:0<n):∃ g,a=some ⟨g,0,none⟩/\B<=g/\g<w.heap.size:=by
 rcases h.2 with ⟨_,h0⟩ | ⟨g,cap,cur,hv,hg,hh,_⟩
 ·omega
 ·cases hv;exact ⟨g,rfl,hg,zaa hh⟩
theorem flat_cell (L:List (List UInt8)) (k:Nat) (h:k<L.length):(L.flatMap za8)[k]?=some (zak (L.getD k [])):=flat_get1 L k h
theorem parts_len (T:List (List UInt8)):(T.filter fun x=>!zdc x).length+(T.filter zdc).length=T.length:=by
 induction T with
 | nil=>rfl
 | cons x T ih=>cases hx:zdc x <;> simp [List.filter_cons,hx] <;> omega
theorem addr_num {r:RulesL} (h:zcg r.streets=true) (x:List UInt8):zdc (za3 r x)=zdc x:=by
 by_cases hn:zdc x=true
 ·have e:za3 r x=zbk x:=by unfold za3;rw [if_pos hn]
  rw [e,hn];exact short_num x
 ·have e:za3 r x=zbe r.streets x:=by unfold za3;rw [if_neg hn]
  rw [e]
  rcases ziv h x with hs | ⟨k,hk,e1,e2,e3⟩
  ·rw [hs]
  ·rw [low_not_num (token_low e2).2];simpa using hn
theorem order_parts {r:RulesL} (h:zcg r.streets=true) (T:List (List UInt8)):zb4 (T.map (za3 r))=(T.filter fun x=>!zdc x).map (zbe r.streets)++(T.filter zdc).map zbk:=by
 unfold zb4;congr 1
 ·induction T with
  | nil=>rfl
  | cons x T ih =>
   cases hx:zdc x
   ·simp only [List.map_cons,List.filter_cons,addr_num h,hx,Bool.not_false,if_true,ih]
    congr 1;unfold za3;rw [hx];simp
   ·simp only [List.map_cons,List.filter_cons,addr_num h,hx,Bool.not_true,Bool.false_eq_true,if_false,ih]
 ·induction T with
  | nil=>rfl
  | cons x T ih =>
   cases hx:zdc x
   ·simp only [List.map_cons,List.filter_cons,addr_num h,hx,Bool.false_eq_true,if_false,ih]
   ·simp only [List.map_cons,List.filter_cons,addr_num h,hx,if_true,ih]
    congr 1;unfold za3;rw [hx];simp
theorem raddr_yes (S:Nat->Prop) (vt vn vs:Value) (r:RulesL) (s:ByteArray) (w:World) (h:RulesAt w S vt vn vs r) (hc:zaz r=0) (hv:zdi s.data.toList=true) :
  Calls prog 126 #[.agg #[vt,vn,vs],.string s] w fun e w'=>e = .returned (zdx (zde r s.data.toList))/\Below w.heap.size w w':=by
 obtain ⟨⟨k1,k2,k3⟩,g1,g2,g3,g4⟩:=ze1 hc;have j4:=zg3 s.data.toList;have h64:=zgr hv;obtain ⟨h5,h4,rfl⟩:=h.2.2.slice;have G3:=zjy g3;have HR:=zjy h.any;have HC:=zjy hc;have HV:=zjy hv
 have a7:zde r s.data.toList=(if 6<(zcu (zbx s.data.toList)).length\/64<(za2 (zb4 ((zcu (zbx s.data.toList)).map (za3 r)))).length then ([],1) else (za2 (zb4 ((zcu (zbx s.data.toList)).map (za3 r))),0)):=by
  unfold zde;rw [if_pos HC.o,if_pos HV.o]
 have HF:=zjy a7;clear h hc hv g1 g2 g3 g4 a7;go_enter func126,ntmps126
 go_wp2_with fail
 refine (zec zau vt vn _ r _ (HR.o.below ((Below.refl _ _).alloc xnl _))).mono ?_;rw [HC.o];rintro e w1 ⟨rfl,e0⟩;have e3:=zjy (show w1.heap[w.heap.size]?=some (.cells #[vt,vn,.slice h5 r.streets.length h4] 31 (0,0)) from zab e0 (by simp) (zac rfl));have i4:=zjy (xbt e0);clear e0;go_wp2_with fail
 refine (rfold_yes s _ HV.o).mono ?_;rintro e w2 ⟨rfl,d9⟩;have e2:=zjy (zab d9 (zaa e3.o) e3.o);have f3:=xhh i4 d9;clear d9 e3 i4;obtain ⟨fl,c4⟩:=xex (zbx s.data.toList);rw [c4] at j4 HF ⊢;clear c4;go_wp2_with fail
 refine (zik ⟨fl.toArray⟩ _ (by rw [zaj];omega)).mono ?_;rw [show (⟨fl.toArray⟩:ByteArray).data.toList=fl by simp];rintro e w3 ⟨v3,rfl,ho⟩;obtain ⟨j5,e1⟩:=toks_len fl (by omega);obtain ⟨T,hT⟩:=xex (zcu fl);rw [hT] at ho j5 e1 HF;have h7:=zjy (zab ho.2 (zaa e2.o) e2.o);have d4:=zjy (f3.o.trans (ho.2.mono f3.o.size));have h9:=zjy (Vec.owns (S:=zau) (k:=1) (enc:=za8) (fun _=>rfl) ho.1 (fun _ _ _=>trivial))
 have i1:=zjy e1;clear ho hT e1 e2 f3;go_wp2_with fail
 refine (rparts_any zau _ T _ h9.o (by omega)).mono ?_;rintro e w4 ⟨u,v,rfl,ht⟩;have hO:=List.length_filter_le (fun x=>!zdc x) T
 have hN:=List.length_filter_le zdc T;have b6:∀ x∈T.filter zdc,zdc x=true:=fun x hx=>(List.mem_filter.1 hx).2
 have d8:∀ x∈T.filter zdc,x.length<=64:=fun x hx=>i1.o x (List.mem_filter.1 hx).1
 have d5:∀ x∈T.filter (fun x=>!zdc x),x.length<=64:=fun x hx=>i1.o x (List.mem_filter.1 hx).1
 have c2:=order_parts G3.o T;have b0:=parts_len T;rw [c2] at HF;obtain ⟨O,g5⟩:=xex ((T.filter fun x=>!zdc x))
 obtain ⟨N,g7⟩:=xex (T.filter zdc);rw [g5] at ht hO d5 HF b0;rw [g7] at ht hN b6 d8 HF b0;have e5:=zjy b0;clear b0;obtain ⟨au,cu,rfl⟩:=zar ht.2.1;obtain ⟨av,cv,rfl⟩:=zar ht.1;have HT:=zjy ht;have e9:=zjy b6;have i2:=zjy d8;have k0:=zjy d5;have z3:=zaa h7.o;clear ht b6 d8 d5 c2 g5 g7 h9;go_wp2_with fail
 go_loopw [11] (fun i wr=>∃ k:Nat,k<=O.length/\i = .int .i64 k/\TwoAt w3 (.slice av N.length cv) (.slice au O.length cu) N (midL (zbe r.streets) O k) wr) (fun i _=>O.length - (intOf i).toNat)
 case atStart=>exact ⟨0,by omega,rfl,by simpa [midL] using HT.o⟩
 case round =>
  obtain ⟨k,hk,rfl,ht⟩:=hrel;have HW:=zjy ht.2.2.2;have c6:=zjy ht;have h6:=zjy (zab ht.2.2.2 z3 h7.o);have zk:=zaa h6.o;obtain ⟨p0,p1,p2⟩:=zan h6.o;clear ht;by_cases hlt:k<O.length
  ·have hq:decide ((k:Int)<O.length)=true:=by simp;omega
   have hi:(k:Int)<(O.length:Int):=by omega
   have b3:(midL (zbe r.streets) O k).length=O.length:=mid_len _ _ _ hk;have a0:=c6.o.2.1;rw [b3] at a0;obtain ⟨g,rfl,j3,j2⟩:=own_ptr a0 (by omega);have c1:=a0.cellAt k (by omega);rw [flat_cell _ k (by omega),mid_get _ _ _ hlt] at c1;have f1:=a0.frozenAt k;have a4:=mid_set (zbe r.streets) O k hlt _ rfl;obtain ⟨x,hx⟩:=xex (O.getD k []);rw [hx] at c1 a4;have b7:=zjy a4;have hK:=zjy (fun (W:World) (hW:Below wr.heap.size wr W)=>rreplace_any zau (.slice h5 r.streets.length h4) r.streets x W (HR.o.2.2.below (d4.o.trans ((HW.o.trans (hW.mono HW.o.size)).mono d4.o.size))) (by omega))
   have b5:=c6.o;rw [<- b3] at b5;have e6:=zjy b5;have hne:w.heap.size≠g:=by have:=d4.o.size;omega
   clear a0 a4 hx b5;go_wp2_with fail
   go_region_with ((refine (hK.out _ (Below.refl _ _).drew).mono ?_;rintro e w' ⟨rfl,rfl⟩))
   all_goals
    have c8:=zjy ((e6.o.store k (zbe r.streets x)).below (Below.refl _ _).drew);rw [b7.o,b3] at c8;go_wp2_with fail
    go_roundw
    case rel=>exact ⟨k+1,by omega,by go_num,c8.o⟩
    case measure=>simp [intOf];omega
  ·have hq:decide ((k:Int)<O.length)=false:=by simp;omega
   have a5:midL (zbe r.streets) O k=O.map (zbe r.streets):=by unfold midL;rw [List.take_of_length_le (by omega),List.drop_eq_nil_of_le (by omega),List.append_nil]
   rw [a5] at c6;have b3:(O.map (zbe r.streets)).length=O.length:=List.length_map _
   have a3:∀ x∈O.map (zbe r.streets),x.length<=64:=by
    intro x hx;obtain ⟨y,hy,rfl⟩:=List.mem_map.1 hx;exact canon_len G3.o y (k0.o y hy)
   obtain ⟨O2,g6⟩:=xex (O.map (zbe r.streets));rw [g6] at c6 b3 a3 HF;have j9:=zjy a3;obtain ⟨wo,rfl⟩:∃ wo:World,wo=wr:=⟨_,rfl⟩;clear a5 g6 a3;go_wp2_with fail
   go_loopw [12] (fun i wr=>∃ k:Nat,k<=N.length/\i = .int .i64 k/\TwoAt w3 (.slice av N.length cv) (.slice au O.length cu) (midL zbk N k) O2 wr) (fun i _=>N.length - (intOf i).toNat)
   case atStart=>exact ⟨0,by omega,rfl,by simpa [midL] using c6.o⟩
   case round =>
    obtain ⟨k,i9,rfl,ht⟩:=hrel;have e4:=zjy ht.2.2.2;have c0:=zjy ht;clear ht;by_cases hlt2:k<N.length
    ·have i5:decide ((k:Int)<N.length)=true:=by simp;omega
     have hi:(k:Int)<(N.length:Int):=by omega
     have a2:(midL zbk N k).length=N.length:=mid_len _ _ _ i9;have a0:=c0.o.1;rw [a2] at a0;obtain ⟨g,rfl,j3,j2⟩:=own_ptr a0 (by omega);have c1:=a0.cellAt k (by omega);rw [flat_cell _ k (by omega),mid_get _ _ _ hlt2] at c1;have f1:=a0.frozenAt k;have a4:=mid_set zbk N k hlt2 _ rfl;have b1:N.getD k []∈N:=by rw [List.getD,List.getElem?_eq_getElem hlt2];exact List.getElem_mem hlt2
     obtain ⟨x,hx⟩:=xex (N.getD k []);rw [hx] at c1 a4 b1;have b7:=zjy a4;have b5:=c0.o.swap;rw [<- a2] at b5;have e6:=zjy b5;have HK:=zjy (fun W=>rtrimmed_any x W (e9.o x b1) (by have:=i2.o x b1;omega))
     clear a0 a4 hx b5 b1;go_wp2_with fail
     refine (HK.o _).mono ?_;rintro e w' ⟨rfl,rfl⟩;have c8:=zjy ((e6.o.store k (zbk x)).swap);rw [b7.o,a2] at c8;go_wp2_with fail
     go_roundw
     case rel=>exact ⟨k+1,by omega,by go_num,c8.o⟩
     case measure=>simp [intOf];omega
    ·have i5:decide ((k:Int)<N.length)=false:=by simp;omega
     have a5:midL zbk N k=N.map zbk:=by unfold midL;rw [List.take_of_length_le (by omega),List.drop_eq_nil_of_le (by omega),List.append_nil]
     rw [a5] at c0;have a2:(N.map zbk).length=N.length:=List.length_map _
     have a1:∀ x∈N.map zbk,x.length<=65:=by
      intro x hx;obtain ⟨y,hy,rfl⟩:=List.mem_map.1 hx;have:=short_len y;have:=i2.o y hy;omega
     obtain ⟨N2,g8⟩:=xex (N.map zbk);rw [g8] at c0 a2 a1 HF;have e7:=zjy a1;have d7:=c0.o.2.1;have d6:=c0.o.1;rw [b3] at d7;rw [a2] at d6;have b8:=zjy d7;have d3:=zjy d6
     have j0:=join_le (m:=65) (O2++N2) (fun x hx=>by
      rcases List.mem_append.1 hx with hx | hx
      ·have:=j9.o x hx;omega
      ·have:=e7.o x hx;omega)
     clear a5 g8 a1 d7 d6;obtain ⟨i0,hi,f6,f5,f4⟩:=info_parts zdt;have a6:(O2++N2).length=O.length+N.length:=by rw [List.length_append,b3,a2]
     have g0:T.length=(O2++N2).length:=by rw [a6];exact e5.o.symm
     rw [g0] at HF;have b9:=zjy a6;have c5:(O2++N2).length<=65:=by omega
     have g9:(za2 (O2++N2)).length<=1000000:=by
      have:(O2++N2).length*66<=65*66:=Nat.mul_le_mul_right 66 c5;omega
     have i3:=zjy hi;have j8:=zjy f6;have j7:=zjy f5;have j6:=zjy f4;have f8:=e4.o.size;have i6:O.length<=65:=by omega
     have i8:N.length<=65:=by omega
     clear g0 a6 j0 hi f6 f5 f4 b3 a2;go_upto_region 16 with (fail)
     go_cut [13] (fun s13 wx=>∃ a c,s13 = .slice a (O2++N2).length c/\Vec wx zau 1 za8 s13 (O2++N2)/\Below w3.heap.size w3 wx)
     case first =>
      rcases d3.o.2 with ⟨hv,h0⟩ | ⟨g,cap,cur,hv,hg,hh,_⟩
      ·obtain rfl:N=[]:=List.length_eq_zero_iff.1 h0
       simp only [Value.slice.injEq,List.length_nil,true_and] at hv;obtain ⟨rfl,rfl⟩:=hv
       have a7:wr.ownsRow w3.heap.size 9 1 (.slice au O.length cu) (O2++N2).length ((O2++N2).flatMap za8):=by
        have h1:=b8.o
        have h2:N2=[]:=by
         have:=b9.o;have h3:=b8.o.1;rw [zd8 (k:=1) (enc:=za8) (fun _=>rfl)] at h3
         refine List.length_eq_zero_iff.1 ?_;simp only [List.length_append,List.length_nil] at this;omega
        rw [h2,List.append_nil];have h3:=b8.o.1;rw [zd8 (k:=1) (enc:=za8) (fun _=>rfl)] at h3
        rw [show O2.length=O.length by omega];exact h1
       have f0:=zjy (Vec.owns (S:=zau) (k:=1) (enc:=za8) (fun _=>rfl) a7 (fun _ _ _=>trivial))
       have b4:O.length=(O2++N2).length:=by have:=b9.o;simpa using this.symm
       have k4:=zjy b4;clear h0 a7 b4;go_wp2_with (at_builtin;refine wpList_append_own_none rfl _ _ 28 rfl w3.heap.size 9 i0 1 underlying28 i3.o _ _ _ rfl b8.o rfl ?_)
       go_meet;exact ⟨au,cu,by rw [<- k4.o],f0.o,e4.o⟩
      ·simp only [Value.slice.injEq,true_and] at hv
       obtain ⟨rfl,rfl⟩:=hv;have a8:=d3.o;have hl:(N2.flatMap za8).length=N.length*1:=d3.o.1
       have b2:∀ j u,(N2.flatMap za8)[j]?=some u->wr.cell? ((⟨g,0,none⟩:Addr).add j)=some u:=fun j u hu=>by
        have hj:=(List.getElem?_eq_some_iff.1 hu).1;rw [zbu,Nat.zero_add,a8.cellAt j (by omega)];exact hu
       have c3:∀ u∈N2.flatMap za8,u.oneCell'=true:=by
        intro u hu;obtain ⟨y,_,hy⟩:=List.mem_flatMap.1 hu;simp at hy;subst hy;rfl
       have HL:=zjy hl;have c7:=zjy b2;have e8:=zjy c3;clear a8 hl b2 c3 hh;go_wp2_with (at_builtin;refine wpList_append_own _ rfl _ _ 28 rfl w3.heap.size 9 i0 (.string ⟨#[]⟩) 1 16 underlying28 i3.o j8.o j7.o j6.o rfl (by decide) _ _ _ rfl b8.o ⟨g,0,none⟩ N.length _ (N2.flatMap za8) rfl HL.o c7.o e8.o (by unfold maxLen;omega) (by omega) f8 ?_;intro v' w8 i7 j1 _)
       go_meet;have d0:=i7;rw [<- List.flatMap_append,<- b9.o] at d0;obtain ⟨a9,c9,rfl⟩:=zar d0
       refine ⟨a9,c9,by rw [b9.o],?_,e4.o.grown j1 f8 fun q hq=>(b8.o.lt q hq).1⟩
       rw [b9.o] at d0;exact Vec.owns (S:=zau) (k:=1) (enc:=za8) (fun _=>rfl) (by rw [b9.o];exact d0) (fun _ _ _=>trivial)
     case rest =>
      obtain ⟨aj,cj,rfl,f7,f9⟩:=hcut;have h8:=zjy f7;have f2:=xhh d4 f9;clear f7 f9 b8 d3 b9;obtain ⟨J,hJ⟩:=xex (O2++N2);rw [hJ] at h8 HF c5 g9 ⊢;clear hJ;go_wp2_with fail
      refine (rjoin_any zau _ J _ h8.o (by omega) (by omega)).mono ?_;rintro e w' ⟨rfl,rfl⟩;obtain ⟨Q,hQ⟩:=xex (za2 J);rw [hQ] at HF g9 ⊢;clear hQ;by_cases g1:6<J.length
      ·have d1:decide ((6:Int)<J.length)=true:=by simp;omega
       rw [if_pos (.inl g1)] at HF;go_wp2_with fail
       go_ret2;exact ⟨by rw [HF.o];rfl,f2.o⟩
      ·have d1:decide ((6:Int)<J.length)=false:=by simp;omega
       by_cases g2:64<Q.length
       ·have d2:decide ((64:Int)<Q.length)=true:=by simp;omega
        rw [if_pos (.inr g2)] at HF;go_wp2_with fail
        go_ret2;exact ⟨by rw [HF.o];rfl,f2.o⟩
       ·have d2:decide ((64:Int)<Q.length)=false:=by simp;omega
        rw [if_neg (by omega)] at HF;go_wp2_with fail
        go_ret2;exact ⟨by rw [HF.o];rfl,f2.o⟩
theorem raddr_no (S:Nat->Prop) (vt vn vs:Value) (r:RulesL) (s:ByteArray) (w:World) (h:RulesAt w S vt vn vs r) (hs:s.size<=9223372036854775000) (hc:zaz r=0) (hv:zdi s.data.toList=false) :
  Calls prog 126 #[.agg #[vt,vn,vs],.string s] w fun e w'=>e = .returned (zdx (zde r s.data.toList))/\Below w.heap.size w w':=by
 have HR:=zjy h.any;have HC:=zjy hc;have HV:=zjy hv;clear h hc hv;have HF:=zjy (show zde r s.data.toList=([],3) by unfold zde;rw [if_pos HC.o,if_neg (by rw [HV.o];simp)]);go_enter func126,ntmps126
 go_wp2_with fail
 refine (zec zau vt vn vs r _ (HR.o.below ((Below.refl _ _).alloc xnl _))).mono ?_;rw [HC.o];rintro e w1 ⟨rfl,a1⟩;have a2:=zjy (xbt a1);clear a1;go_wp2_with fail
 refine (rfold_no s _ hs HV.o).mono ?_;rintro e w2 ⟨rfl,a0⟩;have a3:=xhh a2 a0;clear a0 a2;go_wp2_with fail
 go_ret2;exact ⟨by rw [HF.o];rfl,a3.o⟩
theorem raddr_bad (S:Nat->Prop) (vt vn vs:Value) (r:RulesL) (s:ByteArray) (w:World) (h:RulesAt w S vt vn vs r) (hc:zaz r≠0) :
  Calls prog 126 #[.agg #[vt,vn,vs],.string s] w fun e w'=>e = .returned (zdx (zde r s.data.toList))/\Below w.heap.size w w':=by
 have HR:=zjy h.any;have HF:=zjy (show zde r s.data.toList=([],zaz r) by unfold zde;rw [if_neg hc]);have a2:(zaz r != 0)=true:=by simpa using hc
 clear h hc;go_enter func126,ntmps126
 go_wp2_with fail
 refine (zec zau vt vn vs r _ (HR.o.below ((Below.refl _ _).alloc xnl _))).mono ?_;obtain ⟨c,a0⟩:=xex (zaz r);rw [a0] at a2 HF ⊢;clear a0;rintro e w1 ⟨rfl,a1⟩;have a3:=zjy (xbt a1);clear a1;go_wp2_with fail
 go_ret2;exact ⟨by rw [HF.o];rfl,a3.o⟩
theorem raddr_any (S:Nat->Prop) (vt vn vs:Value) (r:RulesL) (s:ByteArray) (w:World) (h:RulesAt w S vt vn vs r) (hs:s.size<=9223372036854775000) :
  Calls prog 126 #[.agg #[vt,vn,vs],.string s] w fun e w'=>e = .returned (zdx (zde r s.data.toList))/\Below w.heap.size w w':=by
 by_cases hc:zaz r=0
 ·cases hv:zdi s.data.toList with
  | true=>exact raddr_yes S vt vn vs r s w h hc hv
  | false=>exact raddr_no S vt vn vs r s w h hs hc hv
 ·exact raddr_bad S vt vn vs r s w h hc
theorem ranormal_any (S:Nat->Prop) (vt vn vs:Value) (r:RulesL) (s:ByteArray) (w:World) (h:RulesAt w S vt vn vs r) (hs:s.size<=9223372036854775000) :
  Calls prog 159 #[.agg #[vt,vn,vs],.string s] w fun e w'=>e = .returned (.bool (zep (zde r s.data.toList) s.data.toList))/\Below w.heap.size w w':=by
 have HR:=zjy h.any;clear h;have HS:=zjy (Lib.toList_data s);go_enter func159,ntmps159
 go_wp2_with fail
 refine (raddr_any zau vt vn vs r s _ (HR.o.below ((Below.refl _ _).alloc xnl _)) hs).mono ?_;obtain ⟨p,hp⟩:=xex (zde r s.data.toList);rw [hp];have HP:=zjy hp;clear hp;obtain ⟨pl,pe⟩:=p;unfold zdx;rintro e w1 ⟨rfl,a0⟩;have a1:=zjy (xbt a0);clear a0;cases he:(pe == 0)
 all_goals
  go_wp2_with fail
  go_ret;refine ⟨zax ?_,a1.o⟩;rw [HP.o];simp [zep,he,HS.o]
end
end Go.Proofs.YtgkaafncfjlooaaGreatDoor
