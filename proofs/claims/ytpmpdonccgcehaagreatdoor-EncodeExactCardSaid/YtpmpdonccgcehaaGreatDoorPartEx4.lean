/- Parts of one proof: EncA, EncB, Splice, EncC, EncD, RecA, CmpPlain, RecAll, OpenRecs, BitsB, EncF, EncE, EncG, HexPlain, HexBits, MakeZ, PhonB, HexA, Shelf3, Split, CutAny, NumPlain, EbVars, JoinC, LinePlain. -/
import Derived.Test.YtpmpdonccgcehaaGreatDoorPartEx3
import Derived.Laws.CopyRow
import Derived.MapKept
import Derived.WideMake
import Derived.Lib.Split
import Derived.Lib.Atoi
import Derived.Lib.AtoiTie
import Derived.Lib.LaidTab
import Derived.Lib.AtoiErrMem
set_option maxHeartbeats 16000000
set_option maxRecDepth 100000
open Go.Proofs.Tryz
set_option linter.unusedSimpArgs false
set_option linter.unusedVariables false
namespace Go.Proofs.YtpmpdonccgcehaaGreatDoor
section
open Go.RowKit
attribute [local go_sem] zah zaj zaq
theorem digs_len (i:Nat) (h:i < 100):(Lib.decDigits i).length≤2:=by
 have:∀ j:Fin 100,(Lib.decDigits j).length≤2:=by decide +kernel
 exact this ⟨i,h⟩
theorem derive_any (k:Int × Int) (i:Nat) (b:Bool) (s:List UInt8) (w:World) (hi:i < 100) (hs:s.length≤50000) :
  Calls prog 93 #[.agg #[.int .i64 i,.bool b,zal s],.agg #[.int .u64 k.1,.int .u64 k.2]] w fun e w'=>e = .returned (.agg #[.int .u64 (keyN k (Lib.decDigits i) b s).1,.int .u64 (keyN k (Lib.decDigits i) b s).2])∧Below w.heap.size w w':=by
 have hd:=digs_len i hi;have hit:=fun w=>Tryz.strconv_Itoa_small i hi w
 obtain ⟨t,ht⟩:∃ t,Lib.decDigits i = t:=⟨_,rfl⟩;rw [ht] at hd hit ⊢;have HIt:=zi5 hit;obtain ⟨x,hx⟩:∃ x,zda k.1 k.2 (zcg t) = x:=⟨_,rfl⟩;have hl1:¬ 9223372036854775807 < 5 + t.length:=by omega
 have hl2:¬ 9223372036854775807 < 5 + s.length:=by omega
 have hfl:(zcg t).length≤60000:=by simp [zcg]; omega
 have hsl:(zcr s).length≤60000:=by simp [zcr]; omega
 obtain ⟨ft,hft⟩:∃ ft,zcg t = ft:=⟨_,rfl⟩;obtain ⟨st,hst⟩:∃ st,zcr s = st:=⟨_,rfl⟩;rw [hft] at hx hfl; rw [hst] at hsl;have hf5:102 :: 105 :: 101 :: 108 :: 100 :: t = ft:=hft;have hs5:115 :: 97 :: 108 :: 116 :: 61 :: s = st:=hst;have HX:=zi5 hx; have HFT:=zi5 hft; have HST:=zi5 hst;clear hit ht hx hft hst;obtain ⟨r,hr⟩:∃ r,keyN k t b s = r:=⟨_,rfl⟩;have hr2:(bif b then zda x.1 x.2 (zcr s) else x) = r:=by rw [← hr,← HX.out,← HFT.out]; rfl
 rw [hr];have HR:=zi5 hr2;clear hr hr2;go_enter func93,ntmps93
 go_wp2_with fail
 refine zao (fun W hW=>?_)
 have hb0:Below w.heap.size w W:=by rw [hW]; exact (((Below.refl _ _).alloc xnl _).alloc (by simp) _).alloc (by simp; omega) _
 have ho0:W.heap[w.heap.size]? = some (.cells #[.int .i64 i,.bool b,zal s] 133 (0,0)):=by rw [hW]; exact zaf (zaf (zac rfl))
 have hk0:W.heap[w.heap.size + 1]? = some (.cells #[.int .u64 k.1,.int .u64 k.2] 26 (0,0)):=by rw [hW]; exact zaf (zac (by simp))
 have hr0:W.heap[w.heap.size + 2]? = some (.cells #[.int .u64 0,.int .u64 0] 26 (0,0)):=by rw [hW]; exact zac (by simp)
 clear hW;have HB0:=zi5 hb0; have HO0:=zi5 ho0; have HK0:=zi5 hk0; have HR0:=zi5 hr0;obtain ⟨o0,o1,o2⟩:=zai ho0; obtain ⟨k0,k1⟩:=zak hk0;clear hb0 ho0 hk0 hr0;refine wp_region_noPanic ?_
 refine zat (by kernel_rfl) (fun w'=>w'.cell? ⟨w.heap.size + 1,0,none⟩ = some (.int .u64 k.1)∧w'.cell? ⟨w.heap.size + 1,1,none⟩ = some (.int .u64 k.2)∧w'.cell? ⟨w.heap.size,0,none⟩ = some (.int .i64 i)) 6 (⟨k0,k1,o0⟩) (fun hHeld=>?_)
 refine tK 0 (h:=?_);refine tK 1 (h:=?_);refine tK 2 (h:=?_)
 refine xrK 3 rfl fun K hK=>?_
 go_simp;refine (HIt.out _).mono ?_; rintro e w1 ⟨rfl,rfl⟩
 refine za5 hK (⟨k0,k1,o0⟩) (fun hHeld=>?_)
 clear hK K;refine tK 4 (h:=?_)
 refine xrK 5 rfl fun K hK=>?_
 go_simp;refine (zge k.1 k.2 ft _ hfl).mono ?_; rw [HX.out]; rintro e w1 ⟨rfl,hb⟩; have hb1:=((Below.refl W.heap.size W).drew).trans hb; clear hb
 refine za5 hK (⟨(hb1.cell (p:=⟨w.heap.size + 1,0,none⟩) (zaa HK0.out)).trans k0,(hb1.cell (p:=⟨w.heap.size + 1,1,none⟩) (zaa HK0.out)).trans k1,(hb1.cell (p:=⟨w.heap.size,0,none⟩) (zaa HO0.out)).trans o0⟩) (fun hHeld=>?_)
 clear hK K;have hk1:=zab hb1 (zaa HK0.out) HK0.out;obtain ⟨k2,k3⟩:=zak hk1;have f0:=frozen_of_row _ _ 0 _ _ hk1; have f1:=frozen_of_row _ _ 1 _ _ hk1;have zk:=zaa hk1
 refine xrK 6 rfl fun K hK=>?_
 go_simp;refine zas hK (by decide) ?_;clear hK K;refine zap (by kernel_rfl) ?_ _;refine NoPanic.normal ?_;clear k2 k3 f0 f1 k0 k1 o0 o1 o2
 refine zbw (fun W2 hW2=>?_)
 have hk2:W2.heap[w.heap.size + 1]? = some (.cells #[.int .u64 x.1,.int .u64 x.2] 26 (0,0)):=by rw [hW2]; exact zad (i:=1) (v:=.int .u64 x.2) (zad (i:=0) (v:=.int .u64 x.1) hk1)
 have ho2:W2.heap[w.heap.size]? = some (.cells #[.int .i64 i,.bool b,zal s] 133 (0,0)):=by rw [hW2]; exact zam (zam (zab hb1 (zaa HO0.out) HO0.out) (by show w.heap.size≠w.heap.size + 1; omega)) (by show w.heap.size≠w.heap.size + 1; omega)
 have hr2:W2.heap[w.heap.size + 2]? = some (.cells #[.int .u64 0,.int .u64 0] 26 (0,0)):=by rw [hW2]; exact zam (zam (zab hb1 (zaa HR0.out) HR0.out) (by show w.heap.size + 2≠w.heap.size + 1; omega)) (by show w.heap.size + 2≠w.heap.size + 1; omega)
 have hb2:Below w.heap.size w W2:=by rw [hW2]; exact ((HB0.out.trans (hb1.mono HB0.out.size)).setCell (p:=⟨w.heap.size + 1,0,none⟩) (Nat.le_succ _) _).setCell (p:=⟨w.heap.size + 1,1,none⟩) (Nat.le_succ _) _
 clear hW2 hb1 hk1 zk hHeld HB0 HO0 HK0 HR0;have HB2:=zi5 hb2; have HR2:=zi5 hr2; have HK2:=zi5 hk2;obtain ⟨o0,o1,o2⟩:=zai ho2; obtain ⟨k0,k1⟩:=zak hk2;have zo:=zaa ho2; have zk:=zaa hk2; have zr:=zaa hr2;clear hb2 hr2 hk2 ho2;cases b
 ·obtain ⟨r0,r1⟩:=zak HR2.out
  have f0:=frozen_of_row _ _ 0 _ _ HR2.out; have f1:=frozen_of_row _ _ 1 _ _ HR2.out;go_wp2_with fail
  rw [← show x = r from HR.out]
  exact za7 rfl rfl (zad (i:=1) (v:=.int .u64 x.2) (zad (i:=0) (v:=.int .u64 x.1) HR2.out)) underlying26 rfl (by kernel_rfl)
   ⟨rfl,(HB2.out.setCell (p:=⟨w.heap.size + 2,0,none⟩) (by show w.heap.size≤w.heap.size + 2; omega) _).setCell (p:=⟨w.heap.size + 2,1,none⟩) (by show w.heap.size≤w.heap.size + 2; omega) _⟩
 ·go_wp2_with fail
  refine (zge x.1 x.2 st _ hsl).mono ?_;rw [show zda x.1 x.2 st = r by rw [← HST.out]; exact HR.out];rintro e w3 ⟨rfl,hb⟩;have hk3:=zab hb (zaa HK2.out) HK2.out;have hr3:=zab hb (zaa HR2.out) HR2.out;have HB3:=zi5 (HB2.out.trans (hb.mono HB2.out.size)); have HR3:=zi5 hr3;obtain ⟨k2,k3⟩:=zak hk3;have f2:=frozen_of_row _ _ 0 _ _ hk3; have f3:=frozen_of_row _ _ 1 _ _ hk3;obtain ⟨r0,r1⟩:=zak hr3;have f0:=frozen_of_row _ _ 0 _ _ hr3; have f1:=frozen_of_row _ _ 1 _ _ hr3;have zk3:=zaa hk3; have zr3:=zaa hr3;clear hb hk3 hr3 o0 o1 o2 k0 k1;go_wp2_with fail
  exact za7 rfl rfl (zad (i:=1) (v:=.int .u64 r.2) (zad (i:=0) (v:=.int .u64 r.1) (zam (zam HR3.out (by show w.heap.size + 2≠w.heap.size + 1; omega)) (by show w.heap.size + 2≠w.heap.size + 1; omega)))) underlying26 rfl (by kernel_rfl)
   ⟨rfl,(((HB3.out.setCell (p:=⟨w.heap.size + 1,0,none⟩) (Nat.le_succ _) _).setCell (p:=⟨w.heap.size + 1,1,none⟩) (Nat.le_succ _) _).setCell (p:=⟨w.heap.size + 2,0,none⟩) (by show w.heap.size≤w.heap.size + 2; omega) _).setCell (p:=⟨w.heap.size + 2,1,none⟩) (by show w.heap.size≤w.heap.size + 2; omega) _⟩
end
section
open Go.RowKit Cal
attribute [local go_sem] zah zaj zaq
theorem zh0 {w:World} {S:Nat→Prop} {a:Option Addr} {n cap:Nat} {L:List (List UInt8)} (h:Vec w S 1 za2 (.slice a n cap) L) (j:Nat) (hj:j < L.length):∃ b off,a = some ⟨b,off,none⟩∧b < w.heap.size∧w.cell? ⟨b,off + j,none⟩ = some (zal (L.getD j [])):=by
 obtain ⟨b,off,e,hb,hc⟩:=h.get j hj;refine ⟨b,off,e,hb,?_⟩;have:=hc 0 _ rfl;rw [Nat.mul_one,Nat.add_zero] at this;rw [List.getD,List.getElem?_eq_getElem hj]; exact this
def FieldPost (b:BitsL) (w:World) (e:Ending) (w':World):Prop:=∃ v,e = .returned (.tuple #[v,.int .i64 0])∧BitsAt w' (fun x=>w.heap.size≤x) v b∧Below w.heap.size w w'
structure FieldIn (s:SchemaL) (p:ParL) (vals:List (List UInt8)) (i:Nat):Prop where
 par:ParOk p
 salt:p.salt < vals.length
 at_:i < vals.length
 five:vals.length≤5
 kind:(zbt s i).2 = 0
 norm:zau s i (vals.getD i []) = true
 short:∀ v∈vals,v.length≤64
structure FldAt (w:World) (vf vt vn vs:Value) (p:ParL) (k:Int × Int) (id ver:Int) (sv:Value) (W:World):Prop where
 s:W.heap[w.heap.size]? = some (.cells #[vf,vt,vn,vs] 44 (0,0))
 p:W.heap[w.heap.size + 1]? = some (.cells (parC p) 49 (0,0))
 k:W.heap[w.heap.size + 2]? = some (.cells #[.int .u64 k.1,.int .u64 k.2] 26 (0,0))
 r:W.heap[w.heap.size + 3]? = some (.cells #[.int .i64 id,.int .i64 ver,sv] 29 (0,0))
 z:W.heap[w.heap.size + 4]? = some (.cells #[.int .i64 0,.slice none 0 0] 78 (0,0))
 b:Below w.heap.size w W
theorem FldAt.below {w:World} {vf vt vn vs:Value} {p:ParL} {k:Int × Int} {id ver:Int} {sv:Value} {W W':World} (h:FldAt w vf vt vn vs p k id ver sv W) (hb:Below W.heap.size W W'):FldAt w vf vt vn vs p k id ver sv W' :=
 ⟨zab hb (zaa h.1) h.1,zab hb (zaa h.2) h.2,zab hb (zaa h.3) h.3,zab hb (zaa h.4) h.4,zab hb (zaa h.5) h.5,h.6.trans (hb.mono h.6.size)⟩
theorem FldAt.start (w:World) (vf vt vn vs:Value) (p:ParL) (k:Int × Int) (id ver:Int) (sv:Value):FldAt w vf vt vn vs p k id ver sv (((((w.alloc (.cells #[vf,vt,vn,vs] 44)).alloc (.cells (parC p) 49)).alloc (.cells #[.int .u64 k.1,.int .u64 k.2] 26)).alloc (.cells #[.int .i64 id,.int .i64 ver,sv] 29)).alloc (.cells #[.int .i64 0,.slice none 0 0] 78)) :=
 ⟨zaf (zaf (zaf (zaf (zac rfl)))),zaf (zaf (zaf (zac (by simp)))),zaf (zaf (zac (by simp))),zaf (zac (by simp)),zac (by simp),
  (((((Below.refl w.heap.size w).alloc xnl _).alloc (by simp) _).alloc (by simp; omega) _).alloc (by simp; omega) _).alloc (by simp; omega) _⟩
theorem field_yes (S T:Nat→Prop) (vf vt vn vs:Value) (s:SchemaL) (p:ParL) (k:Int × Int) (id ver:Int) (sv:Value) (vals:List (List UInt8)) (i:Nat) (w:World) (h:SchemaAt w S vf vt vn vs s) (hv:Vec w T 1 za2 sv vals) (hf:FieldIn s p vals i) :
  Calls prog 127 #[.agg #[vf,vt,vn,vs],.agg (parC p),.agg #[.int .u64 k.1,.int .u64 k.2],.agg #[.int .i64 id,.int .i64 ver,sv],.int .i64 i] w (FieldPost (zeh s p k vals i) w):=by
 obtain ⟨a,cap,rfl⟩:=hv.slice;obtain ⟨b,off,rfl,hb,hc⟩:=zh0 hv i hf.at_;obtain ⟨x,hx⟩:∃ x,vals.getD i [] = x:=⟨_,rfl⟩;have hnorm:=hf.norm; have hfi:=hf.at_; have h5:=hf.five;rw [hx] at hc hnorm;have HC:=zi5 hc;have HB:=zi5 hb;have hb0:=hb;by_cases hx0:x = []
 ·have hfn:zeh s p k vals i = zba:=by unfold zeh; rw [hx,if_pos hx0]
  rw [hfn];subst hx0;clear hfn hx hnorm hf h hv hc;go_enter func127,ntmps127
  go_upto_region 1 with (fail)
  refine zao (fun W hW=>?_)
  have hF:FldAt w vf vt vn vs p k id ver (.slice (some ⟨b,off,none⟩) vals.length cap) W:=by rw [hW]; exact FldAt.start _ _ _ _ _ _ _ _ _ _
  clear hW;have HF:=zi5 hF;have hc1:=(hF.b.cell (p:=⟨b,off + i,none⟩) hb).trans HC.out;obtain ⟨r0,r1,r2⟩:=zai hF.r;obtain ⟨z0,z1⟩:=zak hF.z;have f0:=frozen_of_row _ _ 0 _ _ hF.z; have f1:=frozen_of_row _ _ 1 _ _ hF.z;have y1:=zaa hF.z;clear hF;go_wp2_with fail
  exact zag rfl rfl (zad (i:=1) (v:=.slice none 0 0) (zad (i:=0) (v:=.int .i64 0) HF.out.z)) underlying78 rfl (by kernel_rfl)
   ⟨_,rfl,⟨_,rfl,Vec.nil _ _ _ _⟩,(HF.out.b.setCell (p:=⟨w.heap.size + 4,0,none⟩) (by show w.heap.size≤w.heap.size + 4; omega) _).setCell (p:=⟨w.heap.size + 4,1,none⟩) (by show w.heap.size≤w.heap.size + 4; omega) _⟩
 ·obtain ⟨G,hG⟩:∃ G,zfh s i x = G:=⟨_,rfl⟩
  obtain ⟨g1,g2,g3,g4⟩:=ziv hnorm hf.kind;rw [hG] at g1 g2 g3;have hex:x.isEmpty = false:=by simpa using hx0
  have hex2:(x == []) = false:=by simpa using hx0
  have HS:=zi5 h.any;by_cases hsal:0≤p.salt
  ·obtain ⟨q,hq⟩:∃ q:Nat,p.salt = q:=⟨p.salt.toNat,by omega⟩
   have hqv:q < vals.length:=by have:=hf.salt; omega
   obtain ⟨bq,offq,eq,hbq,hcq⟩:=zh0 hv q hqv;cases eq;obtain ⟨st,hst⟩:∃ st,vals.getD q [] = st:=⟨_,rfl⟩;have hstl:st.length≤64:=by rw [← hst]; exact hf.short _ (by rw [List.getD,List.getElem?_eq_getElem hqv]; exact List.getElem_mem _)
   rw [hst] at hcq;have hso:saltOf p vals = st:=by unfold saltOf; rw [if_pos hsal,hq,Int.toNat_natCast,hst]
   have hdd:decide (0≤p.salt) = true:=by simpa using hsal
   have hql:(q:Int) < (vals.length:Int):=by omega
   have HCQ:=zi5 hcq; have HQ:=zi5 hq;clear hst hcq hbq;obtain ⟨KX,hK⟩:∃ KX,keyN k (Lib.decDigits i) true st = KX:=⟨_,rfl⟩;obtain ⟨B,hBN⟩:∃ B,(zgq p KX G.1).1 = B:=⟨_,rfl⟩;have hfn:zeh s p k vals i = B:=by unfold zeh; rw [hx,if_neg hx0,hso,hdd,hK,hG,hBN]
   rw [hfn];have HBN:=zi5 hBN; clear hBN;have HFI:=zi5 hf; have HG:=zi5 hG; have HKK:=zi5 hK; have HG3:=zi5 g3; have HG1:=zi5 g1;clear hfn hx hnorm hf h hv hc hG hK hso hsal hx0 g1 g3 hdd hq;go_enter func127,ntmps127
   go_upto_region 1 with (fail)
   refine zao (fun W hW=>?_)
   have hF:FldAt w vf vt vn vs p k id ver (.slice (some ⟨b,off,none⟩) vals.length cap) W:=by rw [hW]; exact FldAt.start _ _ _ _ _ _ _ _ _ _
   clear hW;have HF:=zi5 hF;have hc1:=(hF.b.cell (p:=⟨b,off + i,none⟩) hb).trans HC.out;obtain ⟨r0,r1,r2⟩:=zai hF.r;obtain ⟨p0,p1,p2⟩:=zai hF.p;rw [HQ.out] at p2;have hcq1:=(hF.b.cell (p:=⟨b,off + q,none⟩) hb0).trans HCQ.out;have y3:=zaa hF.r; have y5:=zaa hF.p; have hbW:b < W.heap.size:=Nat.lt_of_lt_of_le hb0 hF.b.size;obtain ⟨s0,s1,s2,s3⟩:=zan hF.s;have y1:=zaa hF.z;clear hF;go_wp2_with fail
   refine zao (fun W1 hW1=>?_)
   have ho1:W1.heap[W.heap.size]? = some (.cells #[.int .i64 i,.bool true,zal st] 133 (0,0)):=by rw [hW1]; exact zac rfl
   have hb1:=xal hW1
   have hc2:=(hb1.cell (p:=⟨b,off + i,none⟩) (by have:=HF.out.b.size; show b < _; omega)).trans hc1;have HF1:=zi5 (HF.out.below hb1); have HO1:=zi5 ho1;have HS1:=zi5 (HS.out.below HF1.out.b);clear hW1 ho1 hb1 hc1 s0 s1 s2 s3 r0 r1 r2 p0 p1 p2 HF;obtain ⟨s0,s1,s2,s3⟩:=zan HF1.out.s;have r2:=(zai HF1.out.r).2.2;have y2:=zaa HO1.out;refine wp_region_noPanic ?_
   refine wp_region_held_drew (S:=(fun w'=>w'.cell? ⟨w.heap.size,0,none⟩ = some vf∧w'.cell? ⟨w.heap.size,1,none⟩ = some vt∧w'.cell? ⟨w.heap.size,2,none⟩ = some vn∧w'.cell? ⟨w.heap.size,3,none⟩ = some vs∧w'.cell? ⟨w.heap.size + 3,2,none⟩ = some (.slice (some ⟨b,off,none⟩) vals.length cap)∧w'.cell? ⟨b,off + i,none⟩ = some (zal x))) (by kernel_rfl) (⟨s0,s1,s2,s3,r2,hc2⟩) (fun hHeld=>?_)
   refine tH 0 (h:=?_);refine tH 1 (h:=?_);refine tH 2 (h:=?_);refine tH 3 (h:=?_);refine tH 4 (h:=?_);refine tH 5 (h:=?_);refine tH 6 (h:=?_);refine wpAnyH_ready (rs:=[7]) (by kernel_rfl) (by simp) ?_
   refine AllReadyH.cons rfl (fun K hK=>?_) AllReadyH.nil
   go_simp;refine (grams_s _ _ _ _ _ s i ⟨x.toArray⟩ _ (HS1.out.below (Below.refl _ _).drew) (by rw [zaj]; omega)).mono ?_; rw [show (⟨x.toArray⟩:ByteArray).data.toList = x by simp,HG.out]; rintro e w2 ⟨vg,rfl,hvg,hb2⟩; rw [HG1.out]; have b2:=((Below.refl W1.heap.size W1).drew).trans hb2; clear hb2
   refine hK.out _ _ (⟨(b2.cell (p:=⟨w.heap.size,0,none⟩) (zaa HF1.out.s)).trans s0,(b2.cell (p:=⟨w.heap.size,1,none⟩) (zaa HF1.out.s)).trans s1,(b2.cell (p:=⟨w.heap.size,2,none⟩) (zaa HF1.out.s)).trans s2,(b2.cell (p:=⟨w.heap.size,3,none⟩) (zaa HF1.out.s)).trans s3,(b2.cell (p:=⟨w.heap.size + 3,2,none⟩) (zaa HF1.out.r)).trans r2,(b2.cell (p:=⟨b,off + i,none⟩) (by have:=HF1.out.b.size; show b < _; omega)).trans hc2⟩) (fun hHeld=>?_)
   clear hK K;refine tH 8 (h:=?_);refine tH 9 (h:=?_);refine tH 10 (h:=?_);refine tH 11 (h:=?_);refine tH 12 (h:=?_);refine wpAnyH_done (by kernel_rfl) ?_ _;refine NoPanic.normal ?_;have HF2:=zi5 (HF1.out.below b2);have HO2:=zi5 (zab b2 (zaa HO1.out) HO1.out);have HVG:=zi5 hvg;obtain ⟨ag,cg,rfl⟩:=hvg.slice;clear hHeld hc2 s0 s1 s2 s3 r2 y2 y1 b2 hvg HF1 HO1 HS1;go_wp2_with fail
   refine zao (fun W2 hW2=>?_)
   rw [← hW2] at HF2 HO2 HVG; clear hW2;obtain ⟨q0,q1,q2⟩:=zai HF2.out.p;obtain ⟨k0,k1⟩:=zak HF2.out.k;obtain ⟨o0,o1,o2⟩:=zai HO2.out;refine wp_region_noPanic ?_
   refine zat (by kernel_rfl) (fun w'=>w'.cell? ⟨w.heap.size + 1,0,none⟩ = some (.int .i64 p.len)∧w'.cell? ⟨w.heap.size + 1,1,none⟩ = some (.int .i64 p.hashes)∧w'.cell? ⟨w.heap.size + 1,2,none⟩ = some (.int .i64 p.salt)∧w'.cell? ⟨w.heap.size + 2,0,none⟩ = some (.int .u64 k.1)∧w'.cell? ⟨w.heap.size + 2,1,none⟩ = some (.int .u64 k.2)∧w'.cell? ⟨W.heap.size,0,none⟩ = some (.int .i64 i)∧w'.cell? ⟨W.heap.size,1,none⟩ = some (.bool true)∧w'.cell? ⟨W.heap.size,2,none⟩ = some (zal st)) 8 (⟨q0,q1,q2,k0,k1,o0,o1,o2⟩) (fun hHeld=>?_)
   refine tK 0 (h:=?_);refine tK 1 (h:=?_);refine tK 2 (h:=?_);refine tK 4 (h:=?_)
   refine xrK 3 rfl fun K hK=>?_
   go_simp;refine (derive_any k i true st _ (by omega) (by omega)).mono ?_; rw [HKK.out]; rintro e w3 ⟨rfl,hb3⟩; have b3:=((Below.refl W2.heap.size W2).drew).trans hb3; clear hb3
   refine za5 hK (⟨(b3.cell (p:=⟨w.heap.size + 1,0,none⟩) (zaa HF2.out.p)).trans q0,(b3.cell (p:=⟨w.heap.size + 1,1,none⟩) (zaa HF2.out.p)).trans q1,(b3.cell (p:=⟨w.heap.size + 1,2,none⟩) (zaa HF2.out.p)).trans q2,(b3.cell (p:=⟨w.heap.size + 2,0,none⟩) (zaa HF2.out.k)).trans k0,(b3.cell (p:=⟨w.heap.size + 2,1,none⟩) (zaa HF2.out.k)).trans k1,(b3.cell (p:=⟨W.heap.size,0,none⟩) (zaa HO2.out)).trans o0,(b3.cell (p:=⟨W.heap.size,1,none⟩) (zaa HO2.out)).trans o1,(b3.cell (p:=⟨W.heap.size,2,none⟩) (zaa HO2.out)).trans o2⟩) (fun hHeld=>?_)
   clear hK K
   refine xrK 5 rfl fun K hK=>?_
   go_simp
   refine (bencode_yes zaw p KX _ G.1 _ HFI.out.par (HVG.out.below b3) (fun g hg=>Nat.le_trans (HG3.out g hg) (by decide)) g2).mono ?_; rw [HBN.out]; rintro e w4 ⟨_,rfl,⟨sb,rfl,hvb⟩,hb4⟩; have b4:=b3.trans (hb4.mono b3.size); have HVB:=zi5 hvb; obtain ⟨ab,cb,rfl⟩:=hvb.slice; clear hb4 hvb
   refine za5 hK (⟨(b4.cell (p:=⟨w.heap.size + 1,0,none⟩) (zaa HF2.out.p)).trans q0,(b4.cell (p:=⟨w.heap.size + 1,1,none⟩) (zaa HF2.out.p)).trans q1,(b4.cell (p:=⟨w.heap.size + 1,2,none⟩) (zaa HF2.out.p)).trans q2,(b4.cell (p:=⟨w.heap.size + 2,0,none⟩) (zaa HF2.out.k)).trans k0,(b4.cell (p:=⟨w.heap.size + 2,1,none⟩) (zaa HF2.out.k)).trans k1,(b4.cell (p:=⟨W.heap.size,0,none⟩) (zaa HO2.out)).trans o0,(b4.cell (p:=⟨W.heap.size,1,none⟩) (zaa HO2.out)).trans o1,(b4.cell (p:=⟨W.heap.size,2,none⟩) (zaa HO2.out)).trans o2⟩) (fun hHeld=>?_)
   clear hK K;refine tK 6 (h:=?_);refine tK 7 (h:=?_);have hz4:=zab b4 (zaa HF2.out.z) HF2.out.z;obtain ⟨z0,z1⟩:=zak hz4;have f0:=frozen_of_row _ _ 0 _ _ hz4; have f1:=frozen_of_row _ _ 1 _ _ hz4;have y4:=zaa hz4
   refine xrK 8 rfl fun K hK=>?_
   go_simp;refine zas hK (by decide) ?_;clear hK K
   refine xrK 9 rfl fun K hK=>?_
   go_simp;refine zas hK (by decide) ?_;clear hK K;refine zap (by kernel_rfl) ?_ _;refine NoPanic.normal ?_;go_wp2_with fail
   refine zag rfl rfl (zad (i:=1) (v:=.slice ab B.words.length cb) (zad (i:=0) (v:=.int .i64 B.len) hz4)) underlying78 rfl (by kernel_rfl)
    ⟨_,rfl,⟨_,rfl,?_⟩,((HF2.out.b.trans (b4.mono HF2.out.b.size)).setCell (p:=⟨w.heap.size + 4,0,none⟩) (by show w.heap.size≤w.heap.size + 4; omega) _).setCell (p:=⟨w.heap.size + 4,1,none⟩) (by show w.heap.size≤w.heap.size + 4; omega) _⟩
   have hlz:=zaa HF2.out.z
   refine Vec.move HVB.out (by simp [World.setCell]) fun b hb hs=>?_
   have hs':w3.heap.size≤b:=hs;have hz3:=b3.size;exact ⟨(heap_setCell_other _ _ _ _ (by show b≠w.heap.size + 4; omega)).trans (heap_setCell_other _ _ _ _ (by show b≠w.heap.size + 4; omega)),by show w.heap.size≤b; omega⟩
  ·have hso:saltOf p vals = []:=by unfold saltOf; rw [if_neg hsal]
   have hdd:decide (0≤p.salt) = false:=by simpa using hsal
   obtain ⟨KX,hK⟩:∃ KX,keyN k (Lib.decDigits i) false [] = KX:=⟨_,rfl⟩;obtain ⟨B,hBN⟩:∃ B,(zgq p KX G.1).1 = B:=⟨_,rfl⟩;have hfn:zeh s p k vals i = B:=by unfold zeh; rw [hx,if_neg hx0,hso,hdd,hK,hG,hBN]
   rw [hfn];have HBN:=zi5 hBN; clear hBN;have hsl:¬ (0≤p.salt):=hsal;have HFI:=zi5 hf; have HG:=zi5 hG; have HKK:=zi5 hK; have HG3:=zi5 g3; have HG1:=zi5 g1;clear hfn hx hnorm hf h hv hc hG hK hso hsal hx0 g1 g3;go_enter func127,ntmps127
   go_upto_region 1 with (fail)
   refine zao (fun W hW=>?_)
   have hF:FldAt w vf vt vn vs p k id ver (.slice (some ⟨b,off,none⟩) vals.length cap) W:=by rw [hW]; exact FldAt.start _ _ _ _ _ _ _ _ _ _
   clear hW;have HF:=zi5 hF;have hc1:=(hF.b.cell (p:=⟨b,off + i,none⟩) hb).trans HC.out;obtain ⟨r0,r1,r2⟩:=zai hF.r;obtain ⟨p0,p1,p2⟩:=zai hF.p;obtain ⟨s0,s1,s2,s3⟩:=zan hF.s;have y1:=zaa hF.z;clear hF;go_wp2_with fail
   refine zao (fun W1 hW1=>?_)
   have ho1:W1.heap[W.heap.size]? = some (.cells #[.int .i64 i,.bool false,zal []] 133 (0,0)):=by rw [hW1]; exact zac rfl
   have hb1:=xal hW1
   have hc2:=(hb1.cell (p:=⟨b,off + i,none⟩) (by have:=HF.out.b.size; show b < _; omega)).trans hc1;have HF1:=zi5 (HF.out.below hb1); have HO1:=zi5 ho1;have HS1:=zi5 (HS.out.below HF1.out.b);clear hW1 ho1 hb1 hc1 s0 s1 s2 s3 r0 r1 r2 p0 p1 p2 HF;obtain ⟨s0,s1,s2,s3⟩:=zan HF1.out.s;have r2:=(zai HF1.out.r).2.2;have y2:=zaa HO1.out;refine wp_region_noPanic ?_
   refine wp_region_held_drew (S:=(fun w'=>w'.cell? ⟨w.heap.size,0,none⟩ = some vf∧w'.cell? ⟨w.heap.size,1,none⟩ = some vt∧w'.cell? ⟨w.heap.size,2,none⟩ = some vn∧w'.cell? ⟨w.heap.size,3,none⟩ = some vs∧w'.cell? ⟨w.heap.size + 3,2,none⟩ = some (.slice (some ⟨b,off,none⟩) vals.length cap)∧w'.cell? ⟨b,off + i,none⟩ = some (zal x))) (by kernel_rfl) (⟨s0,s1,s2,s3,r2,hc2⟩) (fun hHeld=>?_)
   refine tH 0 (h:=?_);refine tH 1 (h:=?_);refine tH 2 (h:=?_);refine tH 3 (h:=?_);refine tH 4 (h:=?_);refine tH 5 (h:=?_);refine tH 6 (h:=?_);refine wpAnyH_ready (rs:=[7]) (by kernel_rfl) (by simp) ?_
   refine AllReadyH.cons rfl (fun K hK=>?_) AllReadyH.nil
   go_simp;refine (grams_s _ _ _ _ _ s i ⟨x.toArray⟩ _ (HS1.out.below (Below.refl _ _).drew) (by rw [zaj]; omega)).mono ?_; rw [show (⟨x.toArray⟩:ByteArray).data.toList = x by simp,HG.out]; rintro e w2 ⟨vg,rfl,hvg,hb2⟩; rw [HG1.out]; have b2:=((Below.refl W1.heap.size W1).drew).trans hb2; clear hb2
   refine hK.out _ _ (⟨(b2.cell (p:=⟨w.heap.size,0,none⟩) (zaa HF1.out.s)).trans s0,(b2.cell (p:=⟨w.heap.size,1,none⟩) (zaa HF1.out.s)).trans s1,(b2.cell (p:=⟨w.heap.size,2,none⟩) (zaa HF1.out.s)).trans s2,(b2.cell (p:=⟨w.heap.size,3,none⟩) (zaa HF1.out.s)).trans s3,(b2.cell (p:=⟨w.heap.size + 3,2,none⟩) (zaa HF1.out.r)).trans r2,(b2.cell (p:=⟨b,off + i,none⟩) (by have:=HF1.out.b.size; show b < _; omega)).trans hc2⟩) (fun hHeld=>?_)
   clear hK K;refine tH 8 (h:=?_);refine tH 9 (h:=?_);refine tH 10 (h:=?_);refine tH 11 (h:=?_);refine tH 12 (h:=?_);refine wpAnyH_done (by kernel_rfl) ?_ _;refine NoPanic.normal ?_;have HF2:=zi5 (HF1.out.below b2);have HO2:=zi5 (zab b2 (zaa HO1.out) HO1.out);have HVG:=zi5 hvg;obtain ⟨ag,cg,rfl⟩:=hvg.slice;clear hHeld hc2 s0 s1 s2 s3 r2 y2 y1 b2 hvg HF1 HO1 HS1;go_wp2_with fail
   refine zao (fun W2 hW2=>?_)
   rw [← hW2] at HF2 HO2 HVG; clear hW2;obtain ⟨q0,q1,q2⟩:=zai HF2.out.p;obtain ⟨k0,k1⟩:=zak HF2.out.k;obtain ⟨o0,o1,o2⟩:=zai HO2.out;refine wp_region_noPanic ?_
   refine zat (by kernel_rfl) (fun w'=>w'.cell? ⟨w.heap.size + 1,0,none⟩ = some (.int .i64 p.len)∧w'.cell? ⟨w.heap.size + 1,1,none⟩ = some (.int .i64 p.hashes)∧w'.cell? ⟨w.heap.size + 1,2,none⟩ = some (.int .i64 p.salt)∧w'.cell? ⟨w.heap.size + 2,0,none⟩ = some (.int .u64 k.1)∧w'.cell? ⟨w.heap.size + 2,1,none⟩ = some (.int .u64 k.2)∧w'.cell? ⟨W.heap.size,0,none⟩ = some (.int .i64 i)∧w'.cell? ⟨W.heap.size,1,none⟩ = some (.bool false)∧w'.cell? ⟨W.heap.size,2,none⟩ = some (zal [])) 8 (⟨q0,q1,q2,k0,k1,o0,o1,o2⟩) (fun hHeld=>?_)
   refine tK 0 (h:=?_);refine tK 1 (h:=?_);refine tK 2 (h:=?_);refine tK 4 (h:=?_)
   refine xrK 3 rfl fun K hK=>?_
   go_simp;refine (derive_any k i false [] _ (by omega) (by simp)).mono ?_; rw [HKK.out]; rintro e w3 ⟨rfl,hb3⟩; have b3:=((Below.refl W2.heap.size W2).drew).trans hb3; clear hb3
   refine za5 hK (⟨(b3.cell (p:=⟨w.heap.size + 1,0,none⟩) (zaa HF2.out.p)).trans q0,(b3.cell (p:=⟨w.heap.size + 1,1,none⟩) (zaa HF2.out.p)).trans q1,(b3.cell (p:=⟨w.heap.size + 1,2,none⟩) (zaa HF2.out.p)).trans q2,(b3.cell (p:=⟨w.heap.size + 2,0,none⟩) (zaa HF2.out.k)).trans k0,(b3.cell (p:=⟨w.heap.size + 2,1,none⟩) (zaa HF2.out.k)).trans k1,(b3.cell (p:=⟨W.heap.size,0,none⟩) (zaa HO2.out)).trans o0,(b3.cell (p:=⟨W.heap.size,1,none⟩) (zaa HO2.out)).trans o1,(b3.cell (p:=⟨W.heap.size,2,none⟩) (zaa HO2.out)).trans o2⟩) (fun hHeld=>?_)
   clear hK K
   refine xrK 5 rfl fun K hK=>?_
   go_simp
   refine (bencode_yes zaw p KX _ G.1 _ HFI.out.par (HVG.out.below b3) (fun g hg=>Nat.le_trans (HG3.out g hg) (by decide)) g2).mono ?_; rw [HBN.out]; rintro e w4 ⟨_,rfl,⟨sb,rfl,hvb⟩,hb4⟩; have b4:=b3.trans (hb4.mono b3.size); have HVB:=zi5 hvb; obtain ⟨ab,cb,rfl⟩:=hvb.slice; clear hb4 hvb
   refine za5 hK (⟨(b4.cell (p:=⟨w.heap.size + 1,0,none⟩) (zaa HF2.out.p)).trans q0,(b4.cell (p:=⟨w.heap.size + 1,1,none⟩) (zaa HF2.out.p)).trans q1,(b4.cell (p:=⟨w.heap.size + 1,2,none⟩) (zaa HF2.out.p)).trans q2,(b4.cell (p:=⟨w.heap.size + 2,0,none⟩) (zaa HF2.out.k)).trans k0,(b4.cell (p:=⟨w.heap.size + 2,1,none⟩) (zaa HF2.out.k)).trans k1,(b4.cell (p:=⟨W.heap.size,0,none⟩) (zaa HO2.out)).trans o0,(b4.cell (p:=⟨W.heap.size,1,none⟩) (zaa HO2.out)).trans o1,(b4.cell (p:=⟨W.heap.size,2,none⟩) (zaa HO2.out)).trans o2⟩) (fun hHeld=>?_)
   clear hK K;refine tK 6 (h:=?_);refine tK 7 (h:=?_);have hz4:=zab b4 (zaa HF2.out.z) HF2.out.z;obtain ⟨z0,z1⟩:=zak hz4;have f0:=frozen_of_row _ _ 0 _ _ hz4; have f1:=frozen_of_row _ _ 1 _ _ hz4;have y4:=zaa hz4
   refine xrK 8 rfl fun K hK=>?_
   go_simp;refine zas hK (by decide) ?_;clear hK K
   refine xrK 9 rfl fun K hK=>?_
   go_simp;refine zas hK (by decide) ?_;clear hK K;refine zap (by kernel_rfl) ?_ _;refine NoPanic.normal ?_;go_wp2_with fail
   refine zag rfl rfl (zad (i:=1) (v:=.slice ab B.words.length cb) (zad (i:=0) (v:=.int .i64 B.len) hz4)) underlying78 rfl (by kernel_rfl)
    ⟨_,rfl,⟨_,rfl,?_⟩,((HF2.out.b.trans (b4.mono HF2.out.b.size)).setCell (p:=⟨w.heap.size + 4,0,none⟩) (by show w.heap.size≤w.heap.size + 4; omega) _).setCell (p:=⟨w.heap.size + 4,1,none⟩) (by show w.heap.size≤w.heap.size + 4; omega) _⟩
   have hlz:=zaa HF2.out.z
   refine Vec.move HVB.out (by simp [World.setCell]) fun b hb hs=>?_
   have hs':w3.heap.size≤b:=hs;have hz3:=b3.size;exact ⟨(heap_setCell_other _ _ _ _ (by show b≠w.heap.size + 4; omega)).trans (heap_setCell_other _ _ _ _ (by show b≠w.heap.size + 4; omega)),by show w.heap.size≤b; omega⟩
end
section
open Go.RowKit
section
variable {P:Program}
end
def zgr (B:Nat) (v:Value) (x:Nat):Prop:=B≤x∧some x≠v.ownBlock
section
variable {α:Type} {P:Program} {w:World} {ops:Array Oper} {rest:List Oper} {o:Oper} {a:Act} {Q:Exit→Act→World→Prop}
theorem zbq (hgd:o.guard = none) (s x:Operand) (t:TypeId) (ho:o.op = .call { callee:=.builtin .append,args:=#[s,x],argTypes:=#[t,t] })
  (e:TypeId) (z:Value) (size bytes:Nat) (enc:α→List Value) (hk:∀ x,(enc x).length = size) (h1:∀ x,∀ u∈enc x,u.oneCell' = true) (ht:P.underlying t = some (.slice e)) (hinfo:(P.info? e).map (fun i=>(i.zero,i.size,i.bytes)) = some (some z,size,bytes))
  (hzs:z.cells.size = size) (hsz:0 < size) (hby:bytes≤128) {w0:World} {v u:Value} {A B:List α} (hs:a.eval s = v) (hown:OwnV e size enc w0 v A w) (hx:a.eval x = u) (hr:zco w size u B.length (B.flatMap enc)) (hn:A.length + B.length≤1000000000)
  (h:∀ v' w',OwnV e size enc w0 v' (A ++ B) w'→(∀ k o,some k≠v.ownBlock→w.heap[k]? = some o→w'.heap[k]? = some o)→w.heap.size≤w'.heap.size→(v'.ownBlock = none∨v.ownBlock = v'.ownBlock∨v'.ownBlock = some w.heap.size)→wpList P ops Q rest (a.put o.dst v') w'):wpList P ops Q (o :: rest) a w:=by
 refine wpList_plain hgd fun K hK=>?_
 refine zd7 s x t ho w0.heap.size e z size bytes ht hinfo hzs hsz v A.length (A.flatMap enc) hs hown.1 u B.length (B.flatMap enc) hx hr (fun u hu=>?_) (by unfold maxLen; omega) ?_ hown.2.size ?_
 ·obtain ⟨y,_,hy⟩:=List.mem_flatMap.1 hu
  exact h1 y u hy
 ·exact Nat.le_trans (Nat.mul_le_mul hn hby) (by decide)
 ·intro v' w' ho' hg hat
  refine hK _ _ (h v' w' ⟨by rw [List.length_append,List.flatMap_append]; exact ho',hown.2.grown hg hown.2.size fun k hk=>?_⟩ (fun k o hk hko=>(hg.block k (zaa hko) hk).trans hko) hg.size hat)
  rcases hown.1.2 with ⟨rfl,_⟩ | ⟨g,cap,cur,rfl,hg1,_⟩
  ·simp [Value.ownBlock] at hk
  ·have:g = k:=by simpa [Value.ownBlock] using hk
   omega
end
end
section
open Go.RowKit Cal
attribute [local go_sem] zah zaj zaq
structure CapAt (sb kb rb:Nat) (vf vt vn vs:Value) (s:SchemaL) (k:Int × Int) (id ver:Int) (sv:Value) (vals:List (List UInt8)) (w:World):Prop where
 bs:w.heap[sb]? = some (.cells #[vf,vt,vn,vs] 44 (0,0))
 bk:w.heap[kb]? = some (.cells #[.int .u64 k.1,.int .u64 k.2] 26 (0,0))
 br:w.heap[rb]? = some (.cells #[.int .i64 id,.int .i64 ver,sv] 29 (0,0))
 sch:SchemaAt w zaw vf vt vn vs s
 val:Vec w zaw 1 za2 sv vals
theorem CapAt.below {sb kb rb:Nat} {vf vt vn vs:Value} {s:SchemaL} {k:Int × Int} {id ver:Int} {sv:Value} {vals:List (List UInt8)} {w w':World} (h:CapAt sb kb rb vf vt vn vs s k id ver sv vals w) (hb:Below w.heap.size w w'):CapAt sb kb rb vf vt vn vs s k id ver sv vals w' :=
 ⟨zab hb (zaa h.bs) h.bs,zab hb (zaa h.bk) h.bk,zab hb (zaa h.br) h.br,h.sch.below hb,h.val.below hb⟩
theorem clos_yes (sb kb rb:Nat) (vf vt vn vs:Value) (s:SchemaL) (p:ParL) (k:Int × Int) (id ver:Int) (sv:Value) (vals:List (List UInt8)) (i:Nat) (w:World) (h:CapAt sb kb rb vf vt vn vs s k id ver sv vals w) (hf:FieldIn s p vals i) :
  Calls prog 126 #[.int .i64 i,.agg (parC p),.pointer (some ⟨sb,0,none⟩),.pointer (some ⟨kb,0,none⟩),.pointer (some ⟨rb,0,none⟩)] w (FieldPost (zeh s p k vals i) w):=by
 obtain ⟨a,cap,rfl⟩:=h.val.slice;obtain ⟨B,hB⟩:∃ B,zeh s p k vals i = B:=⟨_,rfl⟩;rw [hB];have HBF:=zi5 hB; have HC:=zi5 h; have HFI:=zi5 hf;obtain ⟨s0,s1,s2,s3⟩:=zan h.bs; obtain ⟨k0,k1⟩:=zak h.bk; obtain ⟨r0,r1,r2⟩:=zai h.br;have ls:=zaa h.bs; have lk:=zaa h.bk; have lr:=zaa h.br;clear h hf hB;go_enter func126,ntmps126
 go_wp2_with fail
 refine zae (fun W hW=>?_)
 have hb0:=xam hW
 have hz0:W.heap[w.heap.size + 1]? = some (.cells #[.int .i64 0,.slice none 0 0] 78 (0,0)):=by rw [hW]; exact zac (by simp)
 clear hW;have HB0:=zi5 hb0; have HZ0:=zi5 hz0;clear hb0 hz0;refine (field_yes zaw zaw vf vt vn vs s p k id ver _ vals i W (HC.out.sch.below HB0.out) (HC.out.val.below HB0.out) HFI.out).mono ?_;rw [HBF.out];rintro e w1 ⟨_,rfl,⟨sw,rfl,hvw⟩,hb1⟩;have HVW:=zi5 hvw;obtain ⟨aw,cw,rfl⟩:=hvw.slice;have hz1:=zab hb1 (zaa HZ0.out) HZ0.out;have HB1:=zi5 (HB0.out.trans (hb1.mono HB0.out.size)); have HZ1:=zi5 hz1;have hWz:=HB0.out.size; have hWz2:=hb1.size; have hWz3:=zaa HZ0.out;obtain ⟨z0,z1⟩:=zak hz1;have f0:=frozen_of_row _ _ 0 _ _ hz1; have f1:=frozen_of_row _ _ 1 _ _ hz1;have y1:=zaa hz1;clear hvw hz1 hb1 s0 s1 s2 s3 k0 k1 r0 r1 r2;go_wp2_with fail
 refine zag rfl rfl (zad (i:=1) (v:=.slice aw B.words.length cw) (zad (i:=0) (v:=.int .i64 B.len) HZ1.out)) underlying78 rfl (by kernel_rfl)
  ⟨_,rfl,⟨_,rfl,?_⟩,(HB1.out.setCell (p:=⟨w.heap.size + 1,0,none⟩) (Nat.le_succ _) _).setCell (p:=⟨w.heap.size + 1,1,none⟩) (Nat.le_succ _) _⟩
 refine Vec.move HVW.out (by simp [World.setCell]) fun b hb hs=>?_
 have hs':W.heap.size≤b:=hs;exact ⟨(heap_setCell_other _ _ _ _ (by show b≠w.heap.size + 1; omega)).trans (heap_setCell_other _ _ _ _ (by show b≠w.heap.size + 1; omega)),by show w.heap.size≤b; omega⟩
abbrev zbc (p:ParL):List Value:=[.int .i64 p.len,.int .i64 p.hashes,.int .i64 p.salt]
structure BV where
 len:Int
 a:Option Addr
 n:Nat
 c:Nat
abbrev zbp (x:BV):List Value:=[.int .i64 x.len,.slice x.a x.n x.c]
def BitsAll (w:World) (S:Nat→Prop) (C:List BV) (L:List BitsL):Prop:=C.length = L.length∧∀ n (h1:n < C.length) (h2:n < L.length),BitsAt w S (.agg (zbp C[n]).toArray) L[n]
theorem BitsAt.below {w w':World} {S:Nat→Prop} {v:Value} {b:BitsL} (h:BitsAt w S v b) (hb:Below w.heap.size w w'):BitsAt w' S v b:=by
 obtain ⟨s,rfl,hv⟩:=h; exact ⟨s,rfl,hv.below hb⟩
theorem BitsAll.below {w w':World} {S:Nat→Prop} {C:List BV} {L:List BitsL} (h:BitsAll w S C L) (hb:Below w.heap.size w w'):BitsAll w' S C L:=⟨h.1,fun n h1 h2=>(h.2 n h1 h2).below hb⟩
theorem BitsAll.snoc {w:World} {S:Nat→Prop} {C:List BV} {L:List BitsL} {c:BV} {b:BitsL} (h:BitsAll w S C L) (hc:BitsAt w S (.agg (zbp c).toArray) b):BitsAll w S (C ++ [c]) (L ++ [b]):=by
 refine ⟨by simp [h.1],fun n h1 h2=>?_⟩
 by_cases hn:n < C.length
 ·rw [List.getElem_append_left hn,List.getElem_append_left (by rw [← h.1]; exact hn)]; exact h.2 n _ _
 ·have:n = C.length:=by simp at h1; omega
  subst this;rw [List.getElem_append_right xnl,List.getElem_append_right (by rw [h.1]; exact Nat.le_refl _)];simpa using hc
theorem zhq:(prog.info? 78).map (fun i=>(i.zero,i.size,i.bytes)) = some (some (.agg #[.int .i64 0,.slice none 0 0]),2,32):=by kernel_rfl
theorem zf7:∀ (x:BV),∀ u∈zbp x,u.oneCell' = true:=by
 intro x u hu; simp at hu; rcases hu with rfl | rfl <;> rfl
theorem BitsAt.form {w:World} {S:Nat→Prop} {v:Value} {b:BitsL} (h:BitsAt w S v b):∃ c:BV,v = .agg (zbp c).toArray∧BitsAt w S (.agg (zbp c).toArray) b:=by
 obtain ⟨s,rfl,hv⟩:=h;obtain ⟨a,cap,rfl⟩:=hv.slice;exact ⟨⟨b.len,a,_,cap⟩,rfl,_,rfl,hv⟩
theorem BitsAt.weaken {w:World} {S T:Nat→Prop} {v:Value} {b:BitsL} (h:BitsAt w S v b) (hS:∀ x,S x→T x):BitsAt w T v b:=by
 obtain ⟨s,rfl,hv⟩:=h;exact ⟨s,rfl,hv.move xnl fun x _ hx=>⟨rfl,hS x hx⟩⟩
theorem BitsAt.move {w w':World} {S:Nat→Prop} {v:Value} {b:BitsL} (h:BitsAt w S v b) (hz:w.heap.size≤w'.heap.size) (hS:∀ x,x < w.heap.size→S x→w'.heap[x]? = w.heap[x]?):BitsAt w' S v b:=by
 obtain ⟨s,rfl,hv⟩:=h;exact ⟨s,rfl,hv.move hz fun x h1 h2=>⟨hS x h1 h2,h2⟩⟩
theorem BitsAll.weaken {w:World} {S T:Nat→Prop} {C:List BV} {L:List BitsL} (h:BitsAll w S C L) (hS:∀ x,S x→T x):BitsAll w T C L:=⟨h.1,fun n h1 h2=>(h.2 n h1 h2).weaken hS⟩
theorem BitsAll.move {w w':World} {S T:Nat→Prop} {C:List BV} {L:List BitsL} (h:BitsAll w S C L) (hz:w.heap.size≤w'.heap.size) (hS:∀ x,x < w.heap.size→S x→w'.heap[x]? = w.heap[x]?∧T x):BitsAll w' T C L :=
 ⟨h.1,fun n h1 h2=>by obtain ⟨s,e,hv⟩:=h.2 n h1 h2; exact ⟨s,e,hv.move hz hS⟩⟩
def zeg (s:SchemaL) (P:List ParL) (k:Int × Int) (vals:List (List UInt8)) (n:Nat):List BitsL:=(List.range n).map fun i=>zeh s (P.getD i default) k vals i
theorem fieldsN_succ (s:SchemaL) (P:List ParL) (k:Int × Int) (vals:List (List UInt8)) (n:Nat):zeg s P k vals (n + 1) = zeg s P k vals n ++ [zeh s (P.getD n default) k vals n]:=by
 unfold zeg; rw [List.range_succ,List.map_append]; rfl
def BitsVec (w:World) (S:Nat→Prop) (v:Value) (L:List BitsL):Prop:=∃ C,Vec w S 2 zbp v C∧BitsAll w S C L
def EachPost (L:List BitsL) (w:World) (e:Ending) (w':World):Prop:=∃ v,e = .returned (.tuple #[v,.int .i64 0])∧BitsVec w' (fun x=>w.heap.size≤x) v L∧Below w.heap.size w w'
theorem each_yes (S:Nat→Prop) (sb kb rb:Nat) (vf vt vn vs:Value) (s:SchemaL) (P:List ParL) (pv:Value) (k:Int × Int) (id ver:Int) (sv:Value) (vals:List (List UInt8)) (w:World) (h:CapAt sb kb rb vf vt vn vs s k id ver sv vals w)
  (hp:Vec w S 3 zbc pv P) (hf:∀ i,i < P.length→FieldIn s (P.getD i default) vals i) (h5:P.length≤5) :
  Calls prog 125 #[pv,.func (.func 126) #[] #[.pointer (some ⟨sb,0,none⟩),.pointer (some ⟨kb,0,none⟩),.pointer (some ⟨rb,0,none⟩)]] w (EachPost (zeg s P k vals P.length) w):=by
 obtain ⟨a,cap,rfl⟩:=hp.slice;have HC:=zi5 h; have HP:=zi5 hp.any; have HF:=zi5 hf;clear h hp hf;go_enter func125,ntmps125
 go_wp2_with fail
 go_loopw [6,7,8,9,10,13] (fun v _ _ _ _ i wr=>∃ (j:Nat) (C:List BV),i = .int .i64 j∧j≤P.length∧C.length = j∧OwnV 78 2 zbp w v C wr∧BitsAll wr (zgr w.heap.size v) C (zeg s P k vals j)) (fun _ _ _ _ _ i _=>P.length - (intOf i).toNat)
 case atStart=>exact ⟨0,[],rfl,by omega,rfl,OwnV.start _ _ _ _,rfl,fun n h1 _=>by simp at h1⟩
 case round =>
  obtain ⟨j,C,rfl,hj,hCl,ho,hba⟩:=hrel;have HO:=zi5 ho; have HBA:=zi5 hba; have HCl:=zi5 hCl;clear ho hba hCl;by_cases hlt:j < P.length
  ·have hq:decide ((j:Int) < P.length) = true:=by simp; omega
   have hfj:=HF.out j hlt;obtain ⟨p,hpj⟩:∃ p,P[j] = p:=⟨_,rfl⟩;have hgd:P.getD j default = p:=by rw [List.getD,List.getElem?_eq_getElem hlt]; exact hpj
   rw [hgd] at hfj;have hsucc:=fieldsN_succ s P k vals j;rw [hgd] at hsucc;obtain ⟨b,off,rfl,hb,hc⟩:=(HP.out.below HO.out.2).get j hlt;rw [hpj] at hc;have c0:=hc 0 _ rfl; have c1:=hc 1 _ rfl; have c2:=hc 2 _ rfl;rw [Nat.add_zero] at c0;have HFJ:=zi5 hfj; have HSu:=zi5 hsucc;clear hc hfj hsucc hgd hpj;go_wp2_with fail
   have hbA:Below w.heap.size w (wr.alloc (.cells (parC p) 49)):=HO.out.2.alloc HO.out.2.size _;refine (clos_yes sb kb rb vf vt vn vs s p k id ver sv vals j _ (HC.out.below hbA) HFJ.out).mono ?_;rintro e w1 ⟨vb,rfl,hvb,hb1⟩;obtain ⟨c,rfl,hcb⟩:=hvb.form;have hb2:Below wr.heap.size wr w1:=xbt hb1;have hwz:=HO.out.2.size;have hb3:Below wr.heap.size wr ((w1.alloc (.cells (zbp c).toArray 78)).alloc (.cells (zbp c).toArray 78)):=(hb2.alloc hb2.size _).alloc (by have:=hb2.size; simp; omega) _;have HO2:=zi5 (HO.out.below hb3);have HR2:=zi5 (show zco ((w1.alloc (.cells (zbp c).toArray 78)).alloc (.cells (zbp c).toArray 78)) 2 (.slice (some ⟨w1.heap.size + 1,0,none⟩) 1 1) [c].length ([c].flatMap zbp) from zav (xs:=[c].flatMap zbp) (fr:=(0,0)) (t:=78) (zac (by simp)) rfl)
   have hown6:∀ x,wr.heap.size≤x→some x≠u6.ownBlock:=by
    intro x hx
    rcases HO.out.1.2 with ⟨h0,_⟩ | ⟨g,cap,cur,h0,hg,hh,_⟩
    ·rw [h0]; simp [Value.ownBlock]
    ·rw [h0]; have:=zaa hh; simp [Value.ownBlock]; omega
   have HCB:=zi5 (BitsAt.weaken (T:=fun x=>some x≠u6.ownBlock∧w.heap.size≤x) hcb (fun x hx=>by have hx':(wr.alloc (.cells (parC p) 49)).heap.size≤x:=hx; simp at hx'; exact ⟨hown6 x (by omega),by omega⟩))
   have HBA2:=zi5 (HBA.out.below hb2);have hcn:C.length + [c].length≤1000000000:=by rw [HCl.out]; simp only [List.length_cons,List.length_nil]; omega
   have HB3:=zi5 hb3;obtain ⟨cl,ca,cn,cc⟩:=c;clear hvb hb1 hb2 hb3 hcb hbA c0 c1 c2;go_wp2_with (at_builtin; refine zbq rfl (.tmp 28) (.tmp 30) 30 rfl 78 (.agg #[.int .i64 0,.slice none 0 0]) 2 32 zbp (fun _=>rfl) zf7 underlying30 zhq rfl (by decide) (by decide) (w0:=w) (v:=u6) (A:=C) (B:=[⟨cl,ca,cn,cc⟩]) rfl HO2.out rfl HR2.out hcn ?_; intro v2 w2 ho2 hk2 hz2 hat2)
   have hba:BitsAll w1 (fun x=>some x≠u6.ownBlock∧w.heap.size≤x) (C ++ [⟨cl,ca,cn,cc⟩]) (zeg s P k vals (j + 1)):=by
    rw [HSu.out];exact (HBA2.out.weaken fun x hx=>⟨hx.2,hx.1⟩).snoc HCB.out
   go_roundw
   case rel =>
    refine ⟨j + 1,C ++ [⟨cl,ca,cn,cc⟩],by go_num,by omega,by rw [List.length_append,HCl.out]; rfl,ho2,hba.move ?_ ?_⟩
    ·simp at hz2; omega
    ·intro x hx hS
     obtain ⟨q1,q2⟩:=hS;have hlt1:=hx;refine ⟨?_,q2,?_⟩
     ·obtain ⟨ob,hob⟩:∃ ob,w1.heap[x]? = some ob:=⟨_,Array.getElem?_eq_getElem hx⟩
      rw [hob];exact hk2 x ob q1 (zaf (zaf hob))
     ·rcases hat2 with h1 | h1 | h1
      ·rw [h1]; simp
      ·rw [← h1]; exact q1
      ·rw [h1]; simp; omega
   case measure=>simp [intOf]; omega
  ·have hq:decide ((j:Int) < P.length) = false:=by simp; omega
   obtain rfl:j = P.length:=by omega
   go_wp2_with fail
   go_ret2;exact ⟨_,rfl,⟨C,(OwnV.vec (size:=2) (enc:=zbp) (fun _=>rfl) HO.out),HBA.out.weaken fun x hx=>hx.1⟩,HO.out.2⟩
end
section
open Go.RowKit Cal
attribute [local go_sem] zah zaj zaq
theorem BitsVec.slice {w:World} {S:Nat→Prop} {v:Value} {L:List BitsL} (h:BitsVec w S v L):∃ a cap,v = .slice a L.length cap:=by
 obtain ⟨C,hv,hc⟩:=h;obtain ⟨a,cap,rfl⟩:=hv.slice;exact ⟨a,cap,by rw [hc.1]⟩
theorem BitsVec.below {w w':World} {S:Nat→Prop} {v:Value} {L:List BitsL} (h:BitsVec w S v L) (hb:Below w.heap.size w w'):BitsVec w' S v L:=by
 obtain ⟨C,hv,hc⟩:=h; exact ⟨C,hv.below hb,hc.below hb⟩
theorem BitsVec.move {w w':World} {S T:Nat→Prop} {v:Value} {L:List BitsL} (h:BitsVec w S v L) (hz:w.heap.size≤w'.heap.size) (hS:∀ x,x < w.heap.size→S x→w'.heap[x]? = w.heap[x]?∧T x):BitsVec w' T v L:=by
 obtain ⟨C,hv,hc⟩:=h; exact ⟨C,hv.move hz hS,hc.move hz hS⟩
def EncVal (w:World) (S:Nat→Prop) (v:Value) (e:EncL):Prop:=∃ s,v = .agg #[.int .i64 e.id,.int .i64 e.ver,s]∧BitsVec w S s e.fields
def EncPost (x:EncL) (w:World) (e:Ending) (w':World):Prop:=∃ v,e = .returned (.tuple #[v,.int .i64 0])∧EncVal w' (fun b=>w.heap.size≤b) v x∧Below w.heap.size w w'
structure EncIn (s:SchemaL) (P:List ParL) (vals:List (List UInt8)):Prop where
 len:P.length = vals.length
 five:P.length≤5
 fld:∀ i,i < P.length→FieldIn s (P.getD i default) vals i
def ziz (s:SchemaL) (P:List ParL) (k:Int × Int) (r:RecL):EncL:=⟨r.id,r.ver,zeg s P k r.vals P.length⟩
theorem encoded_yes (S:Nat→Prop) (vf vt vn vs:Value) (s:SchemaL) (P:List ParL) (pv:Value) (k:Int × Int) (r:RecL) (sv:Value) (w:World) (h:SchemaAt w S vf vt vn vs s) (hp:Vec w zaw 3 zbc pv P) (hv:Vec w zaw 1 za2 sv r.vals) (hf:EncIn s P r.vals) :
  Calls prog 63 #[.agg #[vf,vt,vn,vs],pv,.agg #[.int .u64 k.1,.int .u64 k.2],.agg #[.int .i64 r.id,.int .i64 r.ver,sv]] w (EncPost (ziz s P k r) w):=by
 obtain ⟨a,cap,rfl⟩:=hp.slice;obtain ⟨rid,rver,vals⟩:=r;dsimp only at hv hf ⊢;obtain ⟨L,hL⟩:∃ L,zeg s P k vals P.length = L:=⟨_,rfl⟩;have he:ziz s P k ⟨rid,rver,vals⟩ = ⟨rid,rver,L⟩:=by unfold ziz; rw [hL]
 rw [he];have HLL:=zi5 hL; have HP:=zi5 hp; have HV:=zi5 hv; have HF:=zi5 hf; have HS:=zi5 h.any;clear he hL hp hv hf h;go_enter func63,ntmps63
 go_wp2_with fail
 refine zae (fun W hW=>?_)
 have hb0:Below w.heap.size w W:=by rw [hW]; exact ((((Below.refl w.heap.size w).alloc xnl _).alloc (by simp) _).alloc (by simp; omega) _).alloc (by simp; omega) _
 have hs0:W.heap[w.heap.size]? = some (.cells #[vf,vt,vn,vs] 44 (0,0)):=by rw [hW]; exact zaf (zaf (zaf (zac rfl)))
 have hk0:W.heap[w.heap.size + 1]? = some (.cells #[.int .u64 k.1,.int .u64 k.2] 26 (0,0)):=by rw [hW]; exact zaf (zaf (zac (by simp)))
 have hr0:W.heap[w.heap.size + 2]? = some (.cells #[.int .i64 rid,.int .i64 rver,sv] 29 (0,0)):=by rw [hW]; exact zaf (zac (by simp))
 have hz0:W.heap[w.heap.size + 3]? = some (.cells #[.int .i64 0,.int .i64 0,.slice none 0 0] 32 (0,0)):=by rw [hW]; exact zac (by simp)
 clear hW;have HC:=zi5 (show CapAt w.heap.size (w.heap.size + 1) (w.heap.size + 2) vf vt vn vs s k rid rver sv vals W from ⟨hs0,hk0,hr0,HS.out.below hb0,HV.out.below hb0⟩);have HB0:=zi5 hb0; have HZ0:=zi5 hz0; have HR0:=zi5 hr0;clear hs0 hk0 hr0 hz0 hb0;refine (each_yes zaw _ _ _ vf vt vn vs s P _ k rid rver sv vals W HC.out (HP.out.below HB0.out) HF.out.fld HF.out.five).mono ?_;rw [HLL.out];rintro e w1 ⟨v1,rfl,hv1,hb1⟩;have HV1:=zi5 hv1;obtain ⟨a1,c1,rfl⟩:=hv1.slice;have hz1:=zab hb1 (zaa HZ0.out) HZ0.out;have hr1:=zab hb1 (zaa HR0.out) HR0.out;have HB1:=zi5 (HB0.out.trans (hb1.mono HB0.out.size)); have HZ1:=zi5 hz1;have hWz:=HB0.out.size; have hWz2:=hb1.size; have hWz3:=zaa HZ0.out;obtain ⟨z0,z1,z2⟩:=zai hz1;obtain ⟨r0,r1,r2⟩:=zai hr1;have f0:=frozen_of_row _ _ 0 _ _ hz1; have f1:=frozen_of_row _ _ 1 _ _ hz1; have f2:=frozen_of_row _ _ 2 _ _ hz1;have y1:=zaa hz1; have y2:=zaa hr1;clear hv1 hz1 hr1 hb1;go_wp2_with fail
 refine zag rfl rfl (zad (i:=2) (v:=.slice a1 L.length c1) (zad (i:=1) (v:=.int .i64 rver) (zad (i:=0) (v:=.int .i64 rid) HZ1.out))) underlying32 rfl (by kernel_rfl)
  ⟨_,rfl,⟨_,rfl,?_⟩,((HB1.out.setCell (p:=⟨w.heap.size + 3,0,none⟩) (by show w.heap.size≤w.heap.size + 3; omega) _).setCell (p:=⟨w.heap.size + 3,1,none⟩) (by show w.heap.size≤w.heap.size + 3; omega) _).setCell (p:=⟨w.heap.size + 3,2,none⟩) (by show w.heap.size≤w.heap.size + 3; omega) _⟩
 refine HV1.out.move (by simp [World.setCell]) fun b hb hs=>?_
 have hs':W.heap.size≤b:=hs;exact ⟨((heap_setCell_other _ _ _ _ (by show b≠w.heap.size + 3; omega)).trans (heap_setCell_other _ _ _ _ (by show b≠w.heap.size + 3; omega))).trans (heap_setCell_other _ _ _ _ (by show b≠w.heap.size + 3; omega)),by show w.heap.size≤b; omega⟩
end
section
open Go.RowKit Cal
attribute [local go_sem] zah zaj zaq
theorem zg6 (i v:Int) (w:World) :
  Calls prog 178 #[.int .i64 i,.int .i64 v] w fun e w'=>e = .returned (.bool (zbo i v))∧w = w':=by
 unfold zbo;cases e1:decide ((1:Int)≤i)
 ·go_enter func178,ntmps178
  go_wp2_with fail
  go_ret;exact ⟨rfl,rfl⟩
 ·cases e2:decide (i≤(1048576:Int))
  ·go_enter func178,ntmps178
   go_wp2_with fail
   go_ret;exact ⟨rfl,rfl⟩
  ·cases e3:decide ((1:Int)≤v)
   ·go_enter func178,ntmps178
    go_wp2_with fail
    go_ret;exact ⟨rfl,rfl⟩
   ·go_enter func178,ntmps178
    go_wp2_with fail
    go_ret;exact ⟨rfl,rfl⟩
theorem rchk_any (S:Nat→Prop) (vf vt vn vs:Value) (s:SchemaL) (r:RecL) (sv:Value) (w:World) (h:SchemaAt w S vf vt vn vs s) (hv:Vec w zaw 1 za2 sv r.vals) (hs:∀ x∈r.vals,x.length≤1000000) (hn:r.vals.length≤1000000) :
  Calls prog 124 #[.agg #[vf,vt,vn,vs],.agg #[.int .i64 r.id,.int .i64 r.ver,sv]] w fun e w'=>e = .returned (.int .i64 (zd0 s r))∧Below w.heap.size w w':=by
 obtain ⟨a,cap,rfl⟩:=hv.slice;obtain ⟨af,cf,rfl⟩:=h.1.slice;obtain ⟨id,ver,vals⟩:=r;dsimp only at hv hs hn ⊢;have hval:zd0 s ⟨id,ver,vals⟩ = if (zbo id ver && (vals.length == s.fields.length) && zex s 0 vals) = true then 0 else 7:=rfl
 obtain ⟨c,hc⟩:∃ c,zd0 s ⟨id,ver,vals⟩ = c:=⟨_,rfl⟩;rw [hc] at hval ⊢;have HV:=zi5 hv; have HSh:=zi5 hs; have HS:=zi5 h.any; have HVal:=zi5 hval;clear hv hs h hval hc;cases hnum:zbo id ver
 ·have h7:c = 7:=by rw [HVal.out,hnum]; rfl
  subst h7;have HN:=zi5 hnum; clear hnum HVal;go_enter func124,ntmps124
  go_wp2_with fail
  refine (zg6 _ _ _).mono ?_;rw [HN.out];rintro e w1 ⟨rfl,rfl⟩;go_wp2_with fail
  go_ret;exact ⟨rfl,((Below.refl w.heap.size w).alloc xnl _).alloc (by simp) _⟩
 ·have HN:=zi5 hnum
  by_cases hlen:vals.length = s.fields.length
  ·have HVal2:=zi5 (show c = if zex s 0 vals = true then 0 else 7 by rw [HVal.out,hnum,hlen]; simp)
   have hne:((vals.length:Int) != (s.fields.length:Int)) = false:=by rw [hlen]; simp
   have HL:=zi5 hlen;clear hnum HVal hlen;go_enter func124,ntmps124
   go_wp2_with fail
   refine (zg6 _ _ _).mono ?_;rw [HN.out];rintro e w1 ⟨rfl,rfl⟩;go_wp2_with fail
   refine zao (fun W hW=>?_)
   have hb0:=xam hW
   have hs0:W.heap[w.heap.size]? = some (.cells #[.slice af s.fields.length cf,vt,vn,vs] 44 (0,0)):=by rw [hW]; exact zaf (zac rfl)
   clear hW;have HB0:=zi5 hb0; have HS0:=zi5 hs0; clear hb0 hs0;go_loopw [5,6,25] (fun _ _ i wr=>∃ j:Nat,i = .int .i64 j∧j≤vals.length∧Hid (zex s j (vals.drop j) = zex s 0 vals)∧Below W.heap.size W wr) (fun _ _ i _=>vals.length - (intOf i).toNat)
   case atStart=>exact ⟨0,rfl,by omega,zi5 rfl,Below.refl _ _⟩
   case round =>
    obtain ⟨j,rfl,hj,HT,hb⟩:=hrel;have HBr:=zi5 hb; clear hb;by_cases hlt:j < vals.length
    ·have hq:decide ((j:Int) < vals.length) = true:=by simp; omega
     obtain ⟨x,hx⟩:∃ x,vals[j] = x:=⟨_,rfl⟩;have hxl:x.length≤1000000:=HSh.out x (by rw [← hx]; exact List.getElem_mem _);have hT:=HT.out;rw [List.drop_eq_getElem_cons hlt,hx,zex] at hT;obtain ⟨b,off,rfl,hb,hc⟩:=(HV.out.below (HB0.out.trans (HBr.out.mono HB0.out.size))).get j hlt;have c0:=hc 0 _ rfl;rw [Nat.mul_one,Nat.add_zero,hx] at c0;have hsr:=zab HBr.out (zaa HS0.out) HS0.out;obtain ⟨s0,s1,s2,s3⟩:=zan hsr;have HT2:=zi5 hT;clear hc hT hx hsr HT;go_wp2_with fail
     refine (zgm zaw _ vt vn vs s j ⟨x.toArray⟩ _ (HS.out.below (HB0.out.trans (HBr.out.mono HB0.out.size))) (by rw [zaj]; omega)).mono ?_;rw [show (⟨x.toArray⟩:ByteArray).data.toList = x by simp];obtain ⟨nb,hnb⟩:∃ nb,zau s j x = nb:=⟨_,rfl⟩;rw [hnb] at HT2 ⊢;rintro e w2 ⟨rfl,hb2⟩;have HB2:=zi5 (HBr.out.trans (hb2.mono HBr.out.size));clear hb2 hnb s0 s1 s2 s3 c0;cases nb
     ·have h7:c = 7:=by rw [HVal2.out,← HT2.out]; rfl
      subst h7;go_wp2_with fail
      go_ret;exact ⟨rfl,HB0.out.trans (HB2.out.mono HB0.out.size)⟩
     ·go_wp2_with fail
      go_roundw
      case rel=>exact ⟨j + 1,by go_num,by omega,zi5 (by rw [← HT2.out,Bool.true_and]),HB2.out⟩
      case measure=>simp [intOf]; omega
    ·have hq:decide ((j:Int) < vals.length) = false:=by simp; omega
     obtain rfl:j = vals.length:=by omega
     have h0:c = 0:=by rw [HVal2.out,← HT.out,List.drop_length]; rfl
     subst h0;go_wp2_with fail
     go_ret;exact ⟨rfl,HB0.out.trans (HBr.out.mono HB0.out.size)⟩
  ·have h7:c = 7:=by rw [HVal.out,hnum]; simp [hlen]
   have hne:((vals.length:Int) != (s.fields.length:Int)) = true:=by simp; omega
   subst h7;clear hnum HVal hlen;go_enter func124,ntmps124
   go_wp2_with fail
   refine (zg6 _ _ _).mono ?_;rw [HN.out];rintro e w1 ⟨rfl,rfl⟩;go_wp2_with fail
   go_ret;exact ⟨rfl,((Below.refl w.heap.size w).alloc xnl _).alloc (by simp) _⟩
theorem rcheck_all (S:Nat→Prop) (vf vt vn vs:Value) (s:SchemaL) (r:RecL) (sv:Value) (w:World) (h:SchemaAt w S vf vt vn vs s) (hv:Vec w zaw 1 za2 sv r.vals) (hs:∀ x∈r.vals,x.length≤1000000) (hn:r.vals.length≤1000000) :
  Calls prog 62 #[.agg #[vf,vt,vn,vs],.agg #[.int .i64 r.id,.int .i64 r.ver,sv]] w fun e w'=>e = .returned (.int .i64 (zb7 s r))∧Below w.heap.size w w':=by
 have hval:zb7 s r = if zax s = 0 then zd0 s r else zax s:=rfl
 obtain ⟨c,hc⟩:∃ c,zb7 s r = c:=⟨_,rfl⟩;obtain ⟨d,hd⟩:∃ d,zax s = d:=⟨_,rfl⟩;rw [hc,hd] at hval;rw [hc];have HV:=zi5 hv; have HS:=zi5 h.any; have HVal:=zi5 hval; have HD:=zi5 hd; have HSh:=zi5 hs;clear hv h hval hc hd hs;have LV:Vec w zaw 1 za2 sv r.vals:=HV.out;obtain ⟨a,cap,rfl⟩:=LV.slice;clear LV;by_cases h0:d = 0
 ·subst h0
  have HV2:=zi5 (show zd0 s r = c by rw [HVal.out,if_pos rfl]);go_enter func62,ntmps62
  go_wp2_with fail
  refine zae (fun W hW=>?_)
  have hb0:=xam hW
  have hs0:W.heap[w.heap.size]? = some (.cells #[vf,vt,vn,vs] 44 (0,0)):=by rw [hW]; exact zaf (zac rfl)
  have hr0:W.heap[w.heap.size + 1]? = some (.cells #[.int .i64 r.id,.int .i64 r.ver,.slice a r.vals.length cap] 29 (0,0)):=by rw [hW]; exact zac (by simp)
  clear hW;refine (zdw zaw _ _ _ _ s _ (HS.out.below hb0)).mono ?_;rw [HD.out];rintro e w1 ⟨rfl,hb⟩;have hs1:=zab hb (zaa hs0) hs0; have hr1:=zab hb (zaa hr0) hr0;have HB1:=zi5 (hb0.trans (hb.mono hb0.size));obtain ⟨s0,s1,s2,s3⟩:=zan hs1; obtain ⟨r0,r1,r2⟩:=zai hr1;clear hb hb0 hs0 hr0 hs1 hr1;go_wp2_with fail
  refine (rchk_any zaw _ _ _ _ s r _ _ (HS.out.below HB1.out) (HV.out.below HB1.out) HSh.out hn).mono ?_;rw [HV2.out];rintro e w2 ⟨rfl,hb⟩;have HB2:=zi5 (HB1.out.trans (hb.mono HB1.out.size));clear hb s0 s1 s2 s3 r0 r1 r2;go_wp2_with fail
  go_ret;exact ⟨rfl,HB2.out⟩
 ·have h1:c = d:=by rw [HVal.out,if_neg h0]
  subst h1;have hne:(c != 0) = true:=by simpa using h0
  clear h0;go_enter func62,ntmps62
  go_wp2_with fail
  refine (zdw zaw _ _ _ _ s _ (HS.out.below (((Below.refl w.heap.size w).alloc xnl _).alloc (by simp) _))).mono ?_;rw [HD.out];rintro e w1 ⟨rfl,hb⟩;have HB1:=zi5 ((((Below.refl w.heap.size w).alloc xnl (.cells #[vf,vt,vn,vs] 44)).alloc (by simp) (.cells #[.int .i64 r.id,.int .i64 r.ver,.slice a r.vals.length cap] 29)).trans (hb.mono (by simp; omega)));clear hb;go_wp2_with fail
  go_ret;exact ⟨rfl,HB1.out⟩
end
section
open Go.RowKit
theorem zbi {α:Type} (l:List α) (d:α) {i:Nat} (h:i < l.length):l.getD i d = l[i]:=by rw [List.getD,List.getElem?_eq_getElem h]; rfl
def zgb (x y:Int):Int:=if x < y then -1 else if y < x then 1 else 0
theorem cmp3_self (x:Int):zgb x x = 0:=by unfold zgb; simp
theorem cmp3_eq {x y:Int} (h:zgb x y = 0):x = y:=by
 unfold zgb at h;split at h
 ·simp at h
 ·split at h
  ·simp at h
  ·omega
def cmpW:List Int→List Int→Int
 | [],[]=>0
 | [],_ :: _=>-1
 | _ :: _,[]=>1
 | x :: a,y :: b=>if zgb x y = 0 then cmpW a b else zgb x y
theorem cmpW_self:∀ a:List Int,cmpW a a = 0
 | []=>rfl
 | x :: a=>by unfold cmpW; rw [if_pos (cmp3_self x)]; exact cmpW_self a
theorem cmpW_eq:∀ a b:List Int,cmpW a b = 0→a = b
 | [],[],_=>rfl
 | [],_ :: _,h=>by simp [cmpW] at h
 | _ :: _,[],h=>by simp [cmpW] at h
 | x :: a,y :: b,h=>by
  unfold cmpW at h;split at h
  next h1=>rw [cmp3_eq h1,cmpW_eq a b h]
  next h1=>exact absurd h h1
theorem cmpW_nilr:∀ a:List Int,cmpW a [] = if a.length = 0 then 0 else 1
 | []=>rfl
 | _ :: _=>rfl
theorem cmpW_nill:∀ b:List Int,cmpW [] b = if b.length = 0 then 0 else -1
 | []=>rfl
 | _ :: _=>rfl
theorem cmpW_drop {a b:List Int} {k:Nat} (h1:k < a.length) (h2:k < b.length):cmpW (a.drop k) (b.drop k) = if zgb (a.getD k 0) (b.getD k 0) = 0 then cmpW (a.drop (k + 1)) (b.drop (k + 1)) else zgb (a.getD k 0) (b.getD k 0):=by
 rw [List.drop_eq_getElem_cons h1,List.drop_eq_getElem_cons h2,zbi _ _ h1,zbi _ _ h2]; rfl
def orN:List Int→Int
 | []=>0
 | x :: l=>if x = 0 then orN l else x
def cmpB (a b:BitsL):Int:=orN [zgb a.len b.len,zgb a.words.length b.words.length,cmpW a.words b.words]
theorem cmpB_self (a:BitsL):cmpB a a = 0:=by simp [cmpB,orN,cmp3_self,cmpW_self]
theorem orN_zero:∀ {l:List Int},orN l = 0→∀ x∈l,x = 0
 | [],_,x,h=>by simp at h
 | y :: l,h,x,hx=>by
  unfold orN at h;split at h
  next h1 =>
   rcases List.mem_cons.1 hx with rfl | hx
   ·exact h1
   ·exact orN_zero h x hx
  next h1=>exact absurd h h1
theorem cmpB_eq {a b:BitsL} (h:cmpB a b = 0):a = b:=by
 obtain ⟨n,u⟩:=a; obtain ⟨m,v⟩:=b;have h1:=orN_zero h (zgb n m) (by simp);have h2:=orN_zero h (cmpW u v) (by simp);rw [cmp3_eq h1,cmpW_eq _ _ h2]
def zf1 (A B:List BitsL) (j:Nat):Bool:=decide (cmpB (A.getD j zba) (B.getD j zba) = 0)
def sameF (A B:List BitsL):Bool:=decide (A.length = B.length) && (List.range A.length).all (zf1 A B)
def zif (a b:EncL):Bool:=decide (a.id = b.id) && (decide (a.ver = b.ver) && sameF a.fields b.fields)
theorem sameF_self (A:List BitsL):sameF A A = true:=by simp [sameF,zf1,cmpB_self]
theorem sameE_self (a:EncL):zif a a = true:=by simp [zif,sameF_self]
def zgu (b:BitsL):Bool:=decide (b.len = 0) && decide (b.words.length = 0)
def badB (b:BitsL):Bool:=!zgu b && !zbv b
def zbd (e:EncL):Bool:=decide (1≤e.id) && decide (e.id≤1048576) && decide (1≤e.ver) && decide (e.ver≤1048576) && decide (1≤e.fields.length) && decide (e.fields.length≤5) && !(e.fields.any badB)
end
section
open Go.RowKit
structure RV where
 id:Int
 ver:Int
 a:Option Addr
 n:Nat
 c:Nat
 vals:List (List UInt8)
abbrev zdj (x:RV):List Value:=[.int .i64 x.id,.int .i64 x.ver,.slice x.a x.n x.c]
def pR (x:RV):RecL:=⟨x.id,x.ver,x.vals⟩
def RecsVec (w:World) (S:Nat→Prop) (v:Value) (R:List RecL):Prop:=∃ C:List RV,Vec w S 3 zdj v C∧C.map pR = R∧∀ x∈C,Vec w S 1 za2 (.slice x.a x.n x.c) x.vals
theorem RecsVec.move {w w':World} {S T:Nat→Prop} {v:Value} {R:List RecL} (h:RecsVec w S v R) (hz:w.heap.size≤w'.heap.size) (hS:∀ x,x < w.heap.size→S x→w'.heap[x]? = w.heap[x]?∧T x):RecsVec w' T v R:=by
 obtain ⟨C,h1,h2,h3⟩:=h;exact ⟨C,h1.move hz hS,h2,fun x hx=>(h3 x hx).move hz hS⟩
theorem RecsVec.below {w w':World} {S:Nat→Prop} {v:Value} {R:List RecL} (h:RecsVec w S v R) (hb:Below w.heap.size w w'):RecsVec w' S v R:=h.move hb.size fun x hx hs=>⟨hb.block x hx,hs⟩
theorem RecsVec.any {w:World} {S:Nat→Prop} {v:Value} {R:List RecL} (h:RecsVec w S v R):RecsVec w zaw v R:=h.move xnl fun x hx hs=>⟨rfl,trivial⟩
theorem RecsVec.slice {w:World} {S:Nat→Prop} {v:Value} {R:List RecL} (h:RecsVec w S v R):∃ a cap,v = .slice a R.length cap:=by
 obtain ⟨C,h1,h2,_⟩:=h;obtain ⟨a,cap,rfl⟩:=h1.slice;exact ⟨a,cap,by rw [← h2,List.length_map]⟩
theorem RecsVec.at {w:World} {S:Nat→Prop} {a:Option Addr} {n cap:Nat} {R:List RecL} (h:RecsVec w S (.slice a n cap) R) (j:Nat) (hj:j < R.length) :
  ∃ (b off:Nat) (id ver:Int) (aa:Option Addr) (nn cc:Nat) (vals:List (List UInt8)),a = some ⟨b,off,none⟩∧b < w.heap.size∧w.cell? ⟨b,off + j * 3,none⟩ = some (.int .i64 id)∧w.cell? ⟨b,off + j * 3 + 1,none⟩ = some (.int .i64 ver)∧w.cell? ⟨b,off + j * 3 + 2,none⟩ = some (.slice aa nn cc)∧R[j] = ⟨id,ver,vals⟩∧Vec w S 1 za2 (.slice aa nn cc) vals:=by
 obtain ⟨C,h1,h2,h3⟩:=h;have hj2:j < C.length:=by rw [← h2,List.length_map] at hj; exact hj
 obtain ⟨b,off,e,hb,hc⟩:=h1.get j hj2;refine ⟨b,off,C[j].id,C[j].ver,C[j].a,C[j].n,C[j].c,C[j].vals,e,hb,hc 0 _ rfl,hc 1 _ rfl,hc 2 _ rfl,?_,h3 _ (List.getElem_mem hj2)⟩;subst h2;rw [List.getElem_map]; rfl
def notB:Option Int→Int→Bool
 | some q,x=>decide (x≤q)
 | none,_=>false
def allA (s:SchemaL):Option Int→List RecL→Int
 | _,[]=>0
 | p,r :: R=>if zd0 s r = 0 then (if notB p r.id = true then 12 else allA s (some r.id) R) else zd0 s r
theorem allA_cons (s:SchemaL) (p:Option Int) (r:RecL) (R:List RecL):allA s p (r :: R) = if zd0 s r = 0 then (if notB p r.id = true then 12 else allA s (some r.id) R) else zd0 s r:=rfl
def allN (s:SchemaL) (R:List RecL):Int:=if zax s = 0 then (if R.length≤64 then allA s none R else 1) else zax s
def zgt (R:List RecL) (j:Nat):Option Int:=if j = 0 then none else some (R.getD (j - 1) noRec).id
theorem allA_yes {s:SchemaL}:∀ (R:List RecL) (p:Option Int),(∀ r∈R,zd0 s r = 0)→(∀ q r,p = some q→R.head? = some r→q < r.id)→(∀ j (h:j + 1 < R.length),(R[j]'(by omega)).id < R[j + 1].id)→allA s p R = 0
 | [],p,_,_,_=>rfl
 | r :: R,p,h1,h2,h3=>by
  unfold allA;rw [if_pos (h1 r List.mem_cons_self),if_neg]
  ·refine allA_yes R (some r.id) (fun x hx=>h1 x (List.mem_cons_of_mem _ hx)) (fun q x hq hx=>?_) (fun j h=>h3 (j + 1) (by simpa using h))
   cases hq;cases R with
   | nil=>cases hx
   | cons y R=>cases hx; exact h3 0 (by simp)
  ·cases p with
   | none=>simp [notB]
   | some q =>
    have:=h2 q r rfl rfl;simp [notB]; omega
theorem rall_any (S T:Nat→Prop) (vf vt vn vs rv:Value) (s:SchemaL) (R:List RecL) (w:World) (h:SchemaAt w S vf vt vn vs s) (hr:RecsVec w T rv R) (hl:∀ r∈R,∀ x∈r.vals,x.length≤1000000) (hn:∀ r∈R,r.vals.length≤1000000) (hR:R.length≤1000000) :
  Calls prog 73 #[.agg #[vf,vt,vn,vs],rv] w fun e w'=>e = .returned (.int .i64 (allN s R))∧Below w.heap.size w w':=by
 obtain ⟨ar,cr,rfl⟩:=hr.slice;have HS:=zi5 h; have HR:=zi5 hr.any; have HL:=zi5 hl; have HN:=zi5 hn;obtain ⟨E,hE⟩:∃ E,allN s R = E:=⟨_,rfl⟩;rw [hE];have HE:=zi5 hE;clear h hr hl hn hE;go_enter func73,ntmps73
 go_wp2_with fail
 refine zae (fun W hW=>?_)
 have hb0:=xal hW
 have hs0:W.heap[w.heap.size]? = some (.cells #[vf,vt,vn,vs] 44 (0,0)):=by rw [hW]; exact zac rfl
 clear hW;refine (zdw S _ _ _ _ s W (HS.out.below hb0)).mono ?_;rintro e w1 ⟨rfl,hb⟩;have hs1:=zab hb (zaa hs0) hs0;have HB1:=zi5 (hb0.trans (hb.mono hb0.size)); have HS1:=zi5 hs1;clear hb hb0 hs0 hs1;obtain ⟨c,hc⟩:∃ c,zax s = c:=⟨_,rfl⟩;rw [hc];by_cases hc0:c = 0
 ·subst hc0
  have dz:((0:Int) != 0) = false:=rfl;by_cases h64:R.length≤64
  ·have d64:decide ((64:Int) < (R.length:Int)) = false:=by simp; omega
   have HE2:=zi5 (show allA s none R = E by rw [← HE.out]; unfold allN; rw [if_pos hc,if_pos h64]);clear hc HE;go_wp2_with fail
   go_loopw [19] (fun t wr=>∃ j:Nat,t = .int .i64 j∧j≤R.length∧Hid (allA s (zgt R j) (R.drop j) = E)∧Below w1.heap.size w1 wr) (fun t _=>R.length - (intOf t).toNat)
   case atStart=>exact ⟨0,rfl,by omega,HE2,Below.refl _ _⟩
   case round =>
    obtain ⟨j,rfl,hj,HT,hbw⟩:=hrel;have HBW:=zi5 hbw;by_cases hlt:j < R.length
    ·have hq:decide ((j:Int) < (R.length:Int)) = true:=by simp; omega
     have hji:(j:Int) < (R.length:Int):=by omega
     have hbw0:=HB1.out.trans (hbw.mono HB1.out.size);obtain ⟨b,off,id,ver,aa,nn,cc,vals,rfl,lb,c0,c1,c2,hRj,hvv⟩:=(HR.out.below hbw0).at j hlt;obtain ⟨s0,s1,s2,s3⟩:=zan (zab hbw (zaa HS1.out) HS1.out);have lsr:w.heap.size < wr.heap.size:=by have:=zaa HS1.out; have:=hbw.size; omega
     have hT:=HT.out;rw [List.drop_eq_getElem_cons hlt,allA_cons] at hT;have hmem:R[j]∈R:=List.getElem_mem hlt;have HLv:=zi5 (HL.out _ hmem); have HNv:=HN.out _ hmem
     have HP:=zi5 (show j≠0→∃ pid:Int,zgt R j = some pid∧wr.cell? ⟨b,off + (j - 1) * 3,none⟩ = some (.int .i64 pid) from fun h0=>by
      obtain ⟨b',off',id',ver',aa',nn',cc',vals',he,_,d0,_,_,hR',_⟩:=(HR.out.below hbw0).at (j - 1) (by omega);cases he;refine ⟨id',?_,d0⟩;unfold zgt
      rw [if_neg h0,zbi _ _ (by omega),hR'])
     rw [hRj] at hT HLv HNv;have HRJ:=zi5 hRj; have HV:=zi5 hvv; have HT2:=zi5 hT;clear hT hmem hRj hvv HT hbw;dsimp only at HLv HNv;have hvl:=HV.out.len.1;subst hvl;obtain ⟨ci,hci⟩:∃ ci,zd0 s ⟨id,ver,vals⟩ = ci:=⟨_,rfl⟩;go_wp2_with fail
     refine zae (fun Wc hWc=>?_)
     have hbc:=xal hWc
     have hy:Wc.heap[wr.heap.size]? = some (.cells #[.int .i64 id,.int .i64 ver,.slice aa vals.length cc] 29 (0,0)):=by rw [hWc]; exact zac rfl
     clear hWc;refine (rchk_any S _ _ _ _ s ⟨id,ver,vals⟩ _ Wc ((HS.out.below hbw0).below hbc) (HV.out.below hbc) HLv.out HNv).mono ?_;rw [hci];rintro e w2 ⟨rfl,hb⟩;have hbr:=hbc.trans (hb.mono hbc.size);have hy2:=zab hb (zaa hy) hy;have HB2:=zi5 (HBW.out.trans (hbr.mono HBW.out.size));obtain ⟨r0,r1,r2⟩:=zai hy2;have ly:=zaa hy2;have HBR:=zi5 hbr;clear hb hbc hy hy2 hbr s0 s1 s2 s3 c0 c1 c2;by_cases hci0:ci = 0
     ·subst hci0
      have hT3:=HT2.out;rw [hci,if_pos rfl] at hT3;have HT3:=zi5 hT3;clear hT3 HT2 hci;by_cases hj0:j = 0
      ·have dj:decide (0 < j) = false:=by simp; omega
       have HT4:=zi5 (show allA s (zgt R (j + 1)) (R.drop (j + 1)) = E by
        have:=HT3.out;rw [show zgt R j = none by unfold zgt; rw [if_pos hj0]] at this;rw [← this];unfold zgt
        rw [if_neg (by omega),show j + 1 - 1 = j by omega,zbi _ _ hlt,HRJ.out]; rfl)
       clear HT3 HP;go_upto_region 12 with fail
       refine wp_region_noPanic ?_
       refine wp_region_held_drew (S:=(fun w'=>True)) (by kernel_rfl) (trivial) (fun hHeld=>?_)
       refine tH 0 (h:=?_);refine tH 1 (h:=?_);refine tH 2 (h:=?_);refine sH 3 (h:=?_);refine sH 4 (h:=?_);refine sH 5 (h:=?_);refine sH 6 (h:=?_);refine sH 7 (h:=?_);refine sH 8 (h:=?_);refine sH 9 (h:=?_);refine sH 10 (h:=?_);refine sH 11 (h:=?_);refine tH 12 (h:=?_);refine wpAnyH_done (by kernel_rfl) ?_ _;refine NoPanic.normal ?_;go_wp2_with fail
       go_roundw
       case rel=>exact ⟨j + 1,by go_num,by omega,HT4,HB2.out.drew⟩
       case measure=>simp [intOf]; omega
      ·have dj:decide (0 < j) = true:=by simp; omega
       obtain ⟨pid,hpr,hpc⟩:=HP.out hj0;have hpc2:=(HBR.out.cell (p:=⟨b,off + (j - 1) * 3,none⟩) lb).trans hpc;have hj1:(j:Int) - 1 < (R.length:Int):=by omega
       have hj2:(1:Int)≤(j:Int):=by omega
       have hj3:((j:Int) - 1).toNat = j - 1:=by omega
       have hwr:IntKind.i64.wrap ((j:Int) - 1) = (j:Int) - 1:=by rw [IntKind.wrap_i64]; omega
       have hT4:=HT3.out;rw [hpr] at hT4;clear HP hpc HT3;by_cases hle:id≤pid
       ·have dle:decide (id≤pid) = true:=by simpa using hle
        have hE12:E = 12:=by rw [← hT4]; unfold notB; dsimp only; rw [if_pos dle]
        subst hE12;clear hT4;go_upto_region 12 with fail
        refine wp_region_noPanic ?_
        refine wp_region_held_drew (S:=(fun w'=>w'.cell? ⟨b,off + (j - 1) * 3,none⟩ = some (.int .i64 pid)∧w'.cell? ⟨wr.heap.size,0,none⟩ = some (.int .i64 id))) (by kernel_rfl) (⟨hpc2,r0⟩) (fun hHeld=>?_)
        refine tH 0 (h:=?_);refine tH 1 (h:=?_);refine tH 2 (h:=?_);refine tH 3 (h:=?_);refine tH 4 (h:=?_);refine tH 5 (h:=?_);refine tH 6 (h:=?_);refine tH 7 (h:=?_);refine tH 8 (h:=?_);refine tH 9 (h:=?_);refine tH 10 (h:=?_);refine tH 11 (h:=?_);refine tH 12 (h:=?_);refine wpAnyH_done (by kernel_rfl) ?_ _;refine NoPanic.normal ?_;go_wp2_with fail
        go_ret;exact ⟨rfl,HB1.out.trans (HB2.out.drew.mono HB1.out.size)⟩
       ·have dle:decide (id≤pid) = false:=by simpa using hle
        have HT5:=zi5 (show allA s (zgt R (j + 1)) (R.drop (j + 1)) = E by
         rw [← hT4];unfold notB; dsimp only;rw [if_neg (by rw [dle]; decide)];unfold zgt
         rw [if_neg (by omega),show j + 1 - 1 = j by omega,zbi _ _ hlt,HRJ.out])
        clear hT4;go_upto_region 12 with fail
        refine wp_region_noPanic ?_
        refine wp_region_held_drew (S:=(fun w'=>w'.cell? ⟨b,off + (j - 1) * 3,none⟩ = some (.int .i64 pid)∧w'.cell? ⟨wr.heap.size,0,none⟩ = some (.int .i64 id))) (by kernel_rfl) (⟨hpc2,r0⟩) (fun hHeld=>?_)
        refine tH 0 (h:=?_);refine tH 1 (h:=?_);refine tH 2 (h:=?_);refine tH 3 (h:=?_);refine tH 4 (h:=?_);refine tH 5 (h:=?_);refine tH 6 (h:=?_);refine tH 7 (h:=?_);refine tH 8 (h:=?_);refine tH 9 (h:=?_);refine tH 10 (h:=?_);refine tH 11 (h:=?_);refine tH 12 (h:=?_);refine wpAnyH_done (by kernel_rfl) ?_ _;refine NoPanic.normal ?_;go_wp2_with fail
        go_roundw
        case rel=>exact ⟨j + 1,by go_num,by omega,HT5,HB2.out.drew⟩
        case measure=>simp [intOf]; omega
     ·have hE3:E = ci:=by rw [← HT2.out,hci,if_neg hci0]
      have dne:(ci != (0:Int)) = true:=by simpa using hci0
      subst hE3;clear HT2 hci HE2 HP;go_wp2_with fail
      go_ret;exact ⟨rfl,HB1.out.trans (HB2.out.mono HB1.out.size)⟩
    ·have hq:decide ((j:Int) < (R.length:Int)) = false:=by simp; omega
     obtain rfl:j = R.length:=by omega
     have hE0:E = 0:=by rw [← HT.out,List.drop_length]; rfl
     subst hE0;go_wp2_with fail
     go_ret;exact ⟨rfl,HB1.out.trans (hbw.mono HB1.out.size)⟩
  ·have d64:decide ((64:Int) < (R.length:Int)) = true:=decide_eq_true (by omega)
   have hE1:E = 1:=by rw [← HE.out]; unfold allN; rw [if_pos hc,if_neg h64]
   subst hE1;clear hc HE;go_wp2_with fail
   go_ret;exact ⟨rfl,HB1.out⟩
 ·have dne:(c != (0:Int)) = true:=by simpa using hc0
  have hE1:E = c:=by rw [← HE.out]; unfold allN; rw [hc,if_neg hc0]
  subst hE1;clear HE;go_wp2_with fail
  go_ret;exact ⟨rfl,HB1.out⟩
end
section
open Go.RowKit Go.WideShapes Go.ChangeShapes Go.Joins
instance:Inhabited RV:=⟨⟨0,0,none,0,0,[]⟩⟩
section
variable {H:Type} {enc:TypeId × Value→H} {W:World} {base:Nat} {spare:Nat→Bool} {held:Bool}
theorem open_record {r:Reach} {b0:Nat} {v:Value} {d:DataW H} {ps:List MemPlace} (hv:Value.okWide prog W r b0 29 v) (h:DataW.Trod enc prog W base spare held 29 v d ps) :
  ∃ (id ver:Int) (sv:Value) (vals:List (List UInt8)),v = .agg #[.int .i64 id,.int .i64 ver,sv]∧Vec W zaw 1 za2 sv vals:=by
 obtain ⟨cs,rfl,hsz⟩:=okWide_struct underlying29 hv;obtain ⟨c0,c1,c2,rfl⟩:=array3 (hsz.trans (by kernel_rfl));obtain ⟨fuel,hf⟩:=h;obtain ⟨xs,n,_,_,_,hlen,hx⟩:=DataW.trod_struct underlying29 hf;have h0:=hx 0 _ rfl;have h1:=hx 1 _ rfl;have h2:=hx 2 _ rfl;rw [List.getElem?_eq_getElem (by rw [hlen]; decide)] at h0 h1 h2;simp only [Value.cells] at h0 h1 h2;obtain ⟨s0,e0,_⟩:=DataW.trod_int underlying3 h0;obtain ⟨s1,e1,_⟩:=DataW.trod_int underlying3 h1;obtain ⟨xs2,L,e2,hL⟩:=in_strs h2;have k3:prog.cellsOf 3 = 1:=by kernel_rfl
 have k28:prog.cellsOf 27 = 1:=by kernel_rfl
 simp [k3,k28] at e0 e1 e2;exact ⟨s0,s1,c2,L,by rw [e0,e1],by rw [e2]; exact hL⟩
theorem open_key2 {r:Reach} {b0:Nat} {v:Value} {d:DataW H} {ps:List MemPlace} (hv:Value.okWide prog W r b0 26 v) (h:DataW.Trod enc prog W base spare held 26 v d ps) :
  ∃ x y:Int,v = .agg #[.int .u64 x,.int .u64 y]:=by
 obtain ⟨cs,rfl,hsz⟩:=okWide_struct underlying26 hv;obtain ⟨c0,c1,rfl⟩:=array2 (hsz.trans (by kernel_rfl));obtain ⟨fuel,hf⟩:=h;obtain ⟨xs,n,_,_,_,hlen,hx⟩:=DataW.trod_struct underlying26 hf;have h0:=hx 0 _ rfl;have h1:=hx 1 _ rfl;rw [List.getElem?_eq_getElem (by rw [hlen]; decide)] at h0 h1;simp only [Value.cells] at h0 h1;obtain ⟨s0,e0,_⟩:=DataW.trod_int underlying24 h0;obtain ⟨s1,e1,_⟩:=DataW.trod_int underlying24 h1;have k3:prog.cellsOf 24 = 1:=by kernel_rfl
 simp [k3] at e0 e1;exact ⟨s0,s1,by rw [e0,e1]⟩
end
end
section
open Go.RowKit
theorem nanU_any (x:Int) (w:World):Calls prog 238 #[.int .u64 x] w fun e w'=>e = .returned (.bool false)∧w = w':=by
 have h1:(x != x) = false:=by simp
 go_enter func238,ntmps238
 go_wp2_with fail
 go_ret;exact ⟨by simp,rfl⟩
theorem nanI_any (x:Int) (w:World):Calls prog 190 #[.int .i64 x] w fun e w'=>e = .returned (.bool false)∧w = w':=by
 have h1:(x != x) = false:=by simp
 go_enter func190,ntmps190
 go_wp2_with fail
 go_ret;exact ⟨by simp,rfl⟩
theorem cmpU_any (x y:Int) (w:World):Calls prog 191 #[.int .u64 x,.int .u64 y] w fun e w'=>e = .returned (.int .i64 (zgb x y))∧w = w':=by
 obtain ⟨c,hc⟩:∃ c,zgb x y = c:=⟨_,rfl⟩;rw [hc];unfold zgb at hc;go_enter func191,ntmps191
 go_wp2_with fail
 refine (nanU_any x _).mono ?_;rintro e w1 ⟨rfl,rfl⟩;go_wp2_with fail
 refine (nanU_any y _).mono ?_;rintro e w1 ⟨rfl,rfl⟩;by_cases h1:x < y
 ·have d1:decide (x < y) = true:=by simpa using h1
  rw [if_pos h1] at hc; subst hc;go_wp2_with fail
  go_ret;exact ⟨rfl,rfl⟩
 ·have d1:decide (x < y) = false:=by simpa using h1
  rw [if_neg h1] at hc;by_cases h2:y < x
  ·have d2:decide (y < x) = true:=by simpa using h2
   rw [if_pos h2] at hc; subst hc;go_wp2_with fail
   go_ret;exact ⟨rfl,rfl⟩
  ·have d2:decide (y < x) = false:=by simpa using h2
   rw [if_neg h2] at hc; subst hc;go_wp2_with fail
   go_ret;exact ⟨rfl,rfl⟩
theorem cmpI_any (x y:Int) (w:World):Calls prog 142 #[.int .i64 x,.int .i64 y] w fun e w'=>e = .returned (.int .i64 (zgb x y))∧w = w':=by
 obtain ⟨c,hc⟩:∃ c,zgb x y = c:=⟨_,rfl⟩;rw [hc];unfold zgb at hc;go_enter func142,ntmps142
 go_wp2_with fail
 refine (nanI_any x _).mono ?_;rintro e w1 ⟨rfl,rfl⟩;go_wp2_with fail
 refine (nanI_any y _).mono ?_;rintro e w1 ⟨rfl,rfl⟩;by_cases h1:x < y
 ·have d1:decide (x < y) = true:=by simpa using h1
  rw [if_pos h1] at hc; subst hc;go_wp2_with fail
  go_ret;exact ⟨rfl,rfl⟩
 ·have d1:decide (x < y) = false:=by simpa using h1
  rw [if_neg h1] at hc;by_cases h2:y < x
  ·have d2:decide (y < x) = true:=by simpa using h2
   rw [if_pos h2] at hc; subst hc;go_wp2_with fail
   go_ret;exact ⟨rfl,rfl⟩
  ·have d2:decide (y < x) = false:=by simpa using h2
   rw [if_neg h2] at hc; subst hc;go_wp2_with fail
   go_ret;exact ⟨rfl,rfl⟩
abbrev encZ (x:Int):List Value:=[.int .i64 x]
theorem orI_any (v:Value) (L:List Int) (w:World) (h:Vec w zaw 1 encZ v L) (hn:L.length≤1000000) :
  Calls prog 141 #[v] w fun e w'=>e = .returned (.int .i64 (orN L))∧w = w':=by
 obtain ⟨a,cap,rfl⟩:=h.slice;have HV:=zi5 h; clear h;obtain ⟨r,hr⟩:∃ r,orN L = r:=⟨_,rfl⟩;rw [hr];have HR:=zi5 hr; clear hr;go_enter func141,ntmps141
 go_wp2_with fail
 go_loopw [8] (fun i wr=>wr = w∧∃ k:Nat,i = .int .i64 k∧k≤L.length∧Hid (orN (L.drop k) = r)) (fun i _=>L.length - (intOf i).toNat)
 case atStart=>exact ⟨rfl,0,rfl,by omega,zi5 HR.out⟩
 case round =>
  obtain ⟨rfl,k,rfl,hk,HT⟩:=hrel;by_cases hlt:k < L.length
  ·have hq:decide ((k:Int) < L.length) = true:=by simp; omega
   obtain ⟨b,off,rfl,hb,hc⟩:=HV.out.get k hlt;have c0:=hc 0 _ rfl;rw [Nat.mul_one,Nat.add_zero] at c0;have hd:=List.drop_eq_getElem_cons hlt;have ht:=HT.out;rw [hd] at ht;obtain ⟨x,hx⟩:∃ x,L[k] = x:=⟨_,rfl⟩;rw [hx] at c0 ht;clear HT hd hx hc;by_cases h0:x = 0
   ·subst h0
    unfold orN at ht;rw [if_pos rfl] at ht;have HT:=zi5 ht; clear ht;have d0:((0:Int) != 0) = false:=rfl;go_wp2_with fail
    go_roundw
    case rel=>exact ⟨trivial,k + 1,by go_num,by omega,HT⟩
    case measure=>simp [intOf]; omega
   ·have d0:(x != (0:Int)) = true:=by simpa using h0
    unfold orN at ht;rw [if_neg h0] at ht;subst ht;go_wp2_with fail
    go_ret;exact ⟨rfl,rfl⟩
  ·have hq:decide ((k:Int) < L.length) = false:=by simp; omega
   have ht:=HT.out;rw [List.drop_eq_nil_of_le (by omega)] at ht;unfold orN at ht;subst ht;clear HT;go_wp2_with fail
   go_ret;exact ⟨rfl,rfl⟩
theorem cmpW_any (S T:Nat→Prop) (u v:Value) (A B:List Int) (w:World) (hu:Vec w S 1 zfx u A) (hv:Vec w T 1 zfx v B) (hn:A.length≤1000000) :
  Calls prog 143 #[u,v] w fun e w'=>e = .returned (.int .i64 (cmpW A B))∧w = w':=by
 obtain ⟨a,ca,rfl⟩:=hu.slice;obtain ⟨b,cb,rfl⟩:=hv.slice;have HU:=zi5 hu; have HV:=zi5 hv; clear hu hv;obtain ⟨r,hr⟩:∃ r,cmpW A B = r:=⟨_,rfl⟩;rw [hr];have HR:=zi5 hr; clear hr;go_enter func143,ntmps143
 go_wp2_with fail
 go_loopw [11] (fun i wr=>wr = w∧∃ k:Nat,i = .int .i64 k∧k≤A.length∧k≤B.length∧Hid (cmpW (A.drop k) (B.drop k) = r)) (fun i _=>A.length - (intOf i).toNat)
 case atStart=>exact ⟨rfl,0,rfl,by omega,by omega,zi5 HR.out⟩
 case round =>
  obtain ⟨rfl,k,rfl,hk,hk2,HT⟩:=hrel;by_cases hlt:k < A.length
  ·have hq:decide ((k:Int) < A.length) = true:=by simp; omega
   obtain ⟨ba,oa,rfl,hba,hca⟩:=HU.out.get k hlt;have c0:=hca 0 _ rfl;rw [Nat.mul_one,Nat.add_zero] at c0;by_cases hl2:k < B.length
   ·have hq2:decide ((B.length:Int)≤k) = false:=by simp; omega
    obtain ⟨bb,ob,rfl,hbb,hcb⟩:=HV.out.get k hl2;have e0:=hcb 0 _ rfl;rw [Nat.mul_one,Nat.add_zero] at e0;have ht:=HT.out;rw [cmpW_drop hlt hl2,zbi _ _ hlt,zbi _ _ hl2] at ht;obtain ⟨x,hx⟩:∃ x,A[k] = x:=⟨_,rfl⟩;obtain ⟨y,hy⟩:∃ y,B[k] = y:=⟨_,rfl⟩;rw [hx] at c0 ht; rw [hy] at e0 ht;obtain ⟨c,hc⟩:∃ c,zgb x y = c:=⟨_,rfl⟩;rw [hc] at ht;have HC:=zi5 hc; have HT:=zi5 ht;clear hx hy hca hcb hc ht;go_wp2_with fail
    refine (cmpU_any x y _).mono ?_;rw [HC.out];rintro e w1 ⟨rfl,rfl⟩;have ht:=HT.out;clear HT;by_cases h0:c = 0
    ·subst h0
     rw [if_pos rfl] at ht;have HT:=zi5 ht; clear ht;have d0:((0:Int) != 0) = false:=rfl;go_wp2_with fail
     go_roundw
     case rel=>exact ⟨trivial,k + 1,by go_num,by omega,by omega,HT⟩
     case measure=>simp [intOf]; omega
    ·have d0:(c != (0:Int)) = true:=by simpa using h0
     rw [if_neg h0] at ht;subst ht;go_wp2_with fail
     go_ret;exact ⟨rfl,rfl⟩
   ·have hq2:decide ((B.length:Int)≤k) = true:=by simp; omega
    have ht:=HT.out;rw [show B.drop k = [] from List.drop_eq_nil_of_le (by omega),cmpW_nilr,if_neg (by rw [List.length_drop]; omega)] at ht;subst ht;clear HT hca;go_wp2_with fail
    go_ret;exact ⟨rfl,rfl⟩
  ·have hq:decide ((k:Int) < A.length) = false:=by simp; omega
   have ht:=HT.out;rw [show A.drop k = [] from List.drop_eq_nil_of_le (by omega),cmpW_nill,List.length_drop] at ht;clear HT;by_cases h1:A.length < B.length
   ·have d1:decide ((A.length:Int) < B.length) = true:=by simp; omega
    rw [if_neg (by omega)] at ht;subst ht;go_wp2_with fail
    go_ret;exact ⟨rfl,rfl⟩
   ·have d1:decide ((A.length:Int) < B.length) = false:=by simp; omega
    rw [if_pos (by omega)] at ht;subst ht;go_wp2_with fail
    go_ret;exact ⟨rfl,rfl⟩
theorem cmpB_any (S T:Nat→Prop) (u v:Value) (a b:BitsL) (w:World) (hu:BitsAt w S u a) (hv:BitsAt w T v b) (hn:a.words.length≤1000000) :
  Calls prog 84 #[u,v] w fun e w'=>e = .returned (.int .i64 (cmpB a b))∧Below w.heap.size w w':=by
 obtain ⟨su,rfl,hu⟩:=hu;obtain ⟨sv,rfl,hv⟩:=hv;obtain ⟨aa,ca,rfl⟩:=hu.slice;obtain ⟨ab,cb,rfl⟩:=hv.slice;have HU:=zi5 hu; have HV:=zi5 hv; clear hu hv;obtain ⟨x,hx⟩:∃ x,zgb a.len b.len = x:=⟨_,rfl⟩;obtain ⟨y,hy⟩:∃ y,zgb a.words.length b.words.length = y:=⟨_,rfl⟩;obtain ⟨z,hz⟩:∃ z,cmpW a.words b.words = z:=⟨_,rfl⟩;obtain ⟨r,hr⟩:∃ r,cmpB a b = r:=⟨_,rfl⟩;have hr2:orN [x,y,z] = r:=by rw [← hr,← hx,← hy,← hz]; rfl
 rw [hr];have HX:=zi5 hx; have HY:=zi5 hy; have HZ:=zi5 hz; have HR:=zi5 hr2;clear hx hy hz hr hr2;go_enter func84,ntmps84
 go_wp2_with fail
 refine zao (fun W hW=>?_)
 have hb0:=xam hW
 have ha0:W.heap[w.heap.size]? = some (.cells #[.int .i64 a.len,.slice aa a.words.length ca] 78 (0,0)):=by rw [hW]; exact zaf (zac rfl)
 have he0:W.heap[w.heap.size + 1]? = some (.cells #[.int .i64 b.len,.slice ab b.words.length cb] 78 (0,0)):=by rw [hW]; exact zac (by simp)
 clear hW;have HB0:=zi5 hb0;obtain ⟨a0,a1⟩:=zak ha0; obtain ⟨b0,b1⟩:=zak he0;have hwz:=zaa he0;clear ha0 he0 hb0;refine wp_region_noPanic ?_
 refine wp_region_held_drew (S:=(fun w'=>w'.cell? ⟨w.heap.size,0,none⟩ = some (.int .i64 a.len)∧w'.cell? ⟨w.heap.size,1,none⟩ = some (.slice aa a.words.length ca)∧w'.cell? ⟨w.heap.size + 1,0,none⟩ = some (.int .i64 b.len)∧w'.cell? ⟨w.heap.size + 1,1,none⟩ = some (.slice ab b.words.length cb))) (by kernel_rfl) (⟨a0,a1,b0,b1⟩) (fun hHeld=>?_)
 refine tH 0 (h:=?_);refine tH 1 (h:=?_);refine tH 2 (h:=?_);refine tH 3 (h:=?_);refine tH 5 (h:=?_);refine tH 6 (h:=?_);refine tH 7 (h:=?_);refine tH 8 (h:=?_);refine tH 9 (h:=?_);refine tH 10 (h:=?_);refine tH 12 (h:=?_);refine tH 13 (h:=?_);refine tH 14 (h:=?_);refine tH 15 (h:=?_);refine wpAnyH_ready (rs:=[4]) (by kernel_rfl) (by simp) ?_
 refine AllReadyH.cons rfl (fun K hK=>?_) AllReadyH.nil
 go_simp;refine (cmpI_any _ _ _).mono ?_; rw [HX.out]; rintro e w1 ⟨rfl,rfl⟩
 refine hK.out _ _ (⟨a0,a1,b0,b1⟩) (fun hHeld=>?_)
 clear hK K;refine wpAnyH_ready (rs:=[11]) (by kernel_rfl) (by simp) ?_
 refine AllReadyH.cons rfl (fun K hK=>?_) AllReadyH.nil
 go_simp;refine (cmpI_any _ _ _).mono ?_; rw [HY.out]; rintro e w1 ⟨rfl,rfl⟩
 refine hK.out _ _ (⟨a0,a1,b0,b1⟩) (fun hHeld=>?_)
 clear hK K;refine wpAnyH_ready (rs:=[16]) (by kernel_rfl) (by simp) ?_
 refine AllReadyH.cons rfl (fun K hK=>?_) AllReadyH.nil
 go_simp;refine (cmpW_any S T _ _ a.words b.words _ (HU.out.below HB0.out.drew) (HV.out.below HB0.out.drew) hn).mono ?_; rw [HZ.out]; rintro e w1 ⟨rfl,rfl⟩
 refine hK.out _ _ (⟨a0,a1,b0,b1⟩) (fun hHeld=>?_)
 clear hK K;refine wpAnyH_ready (rs:=[17]) (by kernel_rfl) (by simp) ?_
 refine AllReadyH.cons rfl (fun K hK=>?_) AllReadyH.nil
 go_simp
 refine hK.out _ _ (⟨((Below.refl W.heap.size W).drew.alloc xnl _).cell (p:=⟨w.heap.size,0,none⟩) (by show w.heap.size < _; omega) |>.trans a0,((Below.refl W.heap.size W).drew.alloc xnl _).cell (p:=⟨w.heap.size,1,none⟩) (by show w.heap.size < _; omega) |>.trans a1,((Below.refl W.heap.size W).drew.alloc xnl _).cell (p:=⟨w.heap.size + 1,0,none⟩) hwz |>.trans b0,((Below.refl W.heap.size W).drew.alloc xnl _).cell (p:=⟨w.heap.size + 1,1,none⟩) hwz |>.trans b1⟩) (fun hHeld=>?_)
 clear hK K
 refine zcw (fun W1 hW1=>?_)
 have hb1:Below w.heap.size w W1:=by rw [hW1]; exact HB0.out.drew.alloc (by have:=HB0.out.size; simpa using this) _
 have hv1:Vec W1 zaw 1 encZ (.slice (some ⟨W.heap.size,0,none⟩) 3 3) [x,y,z]:=by rw [hW1]; exact zcn (k:=1) (enc:=encZ) (L:=[x,y,z]) (S:=zaw) (A:=W.heap.size) (fun _=>rfl) (zac rfl) trivial 3 rfl
 have hHeld2:=hHeld;rw [← hW1] at hHeld2;clear hHeld hW1;have hHeld:=hHeld2; clear hHeld2;have HV1:=zi5 hv1; have HB1:=zi5 hb1;clear hv1 hb1;refine wpAnyH_ready (rs:=[18]) (by kernel_rfl) (by simp) ?_
 refine AllReadyH.cons rfl (fun K hK=>?_) AllReadyH.nil
 go_simp;refine (orI_any _ [x,y,z] _ HV1.out (by simp)).mono ?_; rw [HR.out]; rintro e w1 ⟨rfl,rfl⟩
 refine hK.out _ _ (hHeld) (fun hHeld=>?_)
 clear hK K;refine tH 19 (h:=?_);refine wpAnyH_done (by kernel_rfl) ?_ _;refine NoPanic.normal ?_;go_wp2_with fail
 go_ret;exact ⟨rfl,HB1.out⟩
end
section
open Go.RowKit
def InI (n:Int):Prop:=-9223372036854775808≤n∧n≤9223372036854775807
theorem noneB_any (S:Nat→Prop) (v:Value) (b:BitsL) (w:World) (h:BitsAt w S v b) :
  Calls prog 69 #[v] w fun e w'=>e = .returned (.bool (zgu b))∧Below w.heap.size w w':=by
 obtain ⟨s,rfl,hv⟩:=h;obtain ⟨a,cap,rfl⟩:=hv.slice;clear hv;obtain ⟨n,ws⟩:=b;unfold zgu;dsimp only;by_cases h1:n = 0
 ·subst h1
  have d1:((0:Int) == 0) = true:=rfl;by_cases h2:ws.length = 0
  ·have d2:((ws.length:Int) == 0) = true:=by simp; exact List.eq_nil_of_length_eq_zero h2
   rw [decide_eq_true h2];go_enter func69,ntmps69
   go_wp2_with fail
   go_ret;exact ⟨rfl,(Below.refl _ _).alloc xnl _⟩
  ·have d2:((ws.length:Int) == 0) = false:=by simp; intro h; rw [h] at h2; exact h2 rfl
   rw [decide_eq_false h2];go_enter func69,ntmps69
   go_wp2_with fail
   go_ret;exact ⟨rfl,(Below.refl _ _).alloc xnl _⟩
 ·have d1:(n == 0) = false:=by simpa using h1
  rw [decide_eq_false h1];go_enter func69,ntmps69
  go_wp2_with fail
  go_ret;exact ⟨rfl,(Below.refl _ _).alloc xnl _⟩
theorem bad_any (S:Nat→Prop) (v:Value) (b:BitsL) (w:World) (h:BitsAt w S v b) (hi:InI b.len) :
  Calls prog 68 #[v] w fun e w'=>e = .returned (.bool (badB b))∧Below w.heap.size w w':=by
 obtain ⟨s,rfl,hv⟩:=h;obtain ⟨a,cap,rfl⟩:=hv.slice;have HV:=zi5 hv; clear hv;obtain ⟨bl,ws⟩:=b;dsimp only at HV hi ⊢;have hh:BitsAt w S (.agg #[.int .i64 bl,.slice a ws.length cap]) ⟨bl,ws⟩:=⟨_,rfl,HV.out⟩;have HH:=zi5 hh; clear hh;unfold badB;cases h1:zgu ⟨bl,ws⟩
 ·have HN:=zi5 h1; clear h1
  go_enter func68,ntmps68
  go_wp2_with fail
  have hb0:Below w.heap.size w (w.alloc (.cells #[.int .i64 bl,.slice a ws.length cap] 78)):=(Below.refl _ _).alloc xnl _;refine (noneB_any S _ ⟨bl,ws⟩ _ (HH.out.below hb0)).mono ?_;rw [HN.out];rintro e w1 ⟨rfl,hb⟩;have hx:=xbn hb;have HB1:=zi5 (hb0.trans (hb.mono (by simp)));obtain ⟨x0,x1⟩:=zak hx;clear hb hb0 hx;go_wp2_with fail
  refine (bvalid_any S _ ⟨bl,ws⟩ _ (HH.out.below HB1.out) hi.1 hi.2).mono ?_;rintro e w2 ⟨rfl,hb⟩;go_wp2_with fail
  go_ret;exact ⟨by simp,HB1.out.trans (hb.mono HB1.out.size)⟩
 ·have HN:=zi5 h1; clear h1
  go_enter func68,ntmps68
  go_wp2_with fail
  have hb0:Below w.heap.size w (w.alloc (.cells #[.int .i64 bl,.slice a ws.length cap] 78)):=(Below.refl _ _).alloc xnl _;refine (noneB_any S _ ⟨bl,ws⟩ _ (HH.out.below hb0)).mono ?_;rw [HN.out];rintro e w1 ⟨rfl,hb⟩;have HB1:=zi5 (hb0.trans (hb.mono (by simp)));clear hb hb0;go_wp2_with fail
  go_ret;exact ⟨by simp,HB1.out⟩
theorem BitsVec.at {w:World} {S:Nat→Prop} {a:Option Addr} {n cap:Nat} {L:List BitsL} (h:BitsVec w S (.slice a n cap) L) (j:Nat) (hj:j < L.length) :
  ∃ (b off:Nat) (c:BV),a = some ⟨b,off,none⟩∧b < w.heap.size∧w.cell? ⟨b,off + j * 2,none⟩ = some (.int .i64 c.len)∧w.cell? ⟨b,off + j * 2 + 1,none⟩ = some (.slice c.a c.n c.c)∧BitsAt w S (.agg (zbp c).toArray) (L.getD j zba):=by
 obtain ⟨C,hC,hA⟩:=h;have hj2:j < C.length:=by rw [hA.1]; exact hj
 obtain ⟨b,off,e,hb,hc⟩:=hC.get j hj2;refine ⟨b,off,C[j],e,hb,by have:=hc 0 _ rfl; simpa using this,by have:=hc 1 _ rfl; simpa using this,?_⟩;rw [zbi _ _ hj];exact hA.2 j hj2 hj
def idxB (p:BitsL→Bool):Nat→List BitsL→Int
 | _,[]=>-1
 | i,x :: l=>bif p x then (i:Int) else idxB p (i + 1) l
theorem idxB_any (p:BitsL→Bool) (L:List BitsL):∀ i:Nat,decide (0≤idxB p i L) = L.any p:=by
 induction L with
 | nil=>intro i; rfl
 | cons x l ih =>
  intro i;unfold idxB;rw [List.any_cons];cases p x
  ·simpa using ih (i + 1)
  ·simp
theorem bidx_any (S:Nat→Prop) (v:Value) (L:List BitsL) (w:World) (h:BitsVec w S v L) (hi:∀ b∈L,InI b.len) (hn:L.length≤1000000) :
  Calls prog 133 #[v,.func (.func 68) #[] #[]] w fun e w'=>e = .returned (.int .i64 (idxB badB 0 L))∧Below w.heap.size w w':=by
 obtain ⟨a,cap,rfl⟩:=h.slice;have HV:=zi5 h; have HI:=zi5 hi; clear h hi;obtain ⟨r,hr⟩:∃ r,idxB badB 0 L = r:=⟨_,rfl⟩;rw [hr];have HR:=zi5 hr; clear hr;go_enter func133,ntmps133
 go_wp2_with fail
 go_loopw [8] (fun i wr=>∃ k:Nat,i = .int .i64 k∧k≤L.length∧Hid (idxB badB k (L.drop k) = r)∧Below w.heap.size w wr) (fun i _=>L.length - (intOf i).toNat)
 case atStart=>exact ⟨0,rfl,by omega,zi5 HR.out,Below.refl _ _⟩
 case round =>
  obtain ⟨k,rfl,hk,HT,hbw⟩:=hrel;have HB:=zi5 hbw; clear hbw;by_cases hlt:k < L.length
  ·have hq:decide ((k:Int) < L.length) = true:=by simp; omega
   have hklen:(k:Int) < (L.length:Int):=by omega
   have HW:=zi5 (HV.out.below HB.out);obtain ⟨b,off,c,rfl,lb,c0,c1,hat⟩:=HW.out.at k hlt;have ht:=HT.out;rw [List.drop_eq_getElem_cons hlt] at ht;have hin:=HI.out _ (List.getElem_mem hlt);rw [zbi _ _ hlt] at hat;obtain ⟨x,hx⟩:∃ x,L[k] = x:=⟨_,rfl⟩;rw [hx] at hat ht hin;obtain ⟨cl,cA,cn,cc⟩:=c;have HAt:=zi5 hat; have HIn:=zi5 hin;dsimp only at c0 c1;clear HT hx hat hin;unfold idxB at ht;cases hp:badB x
   ·rw [hp] at ht
    have HT:=zi5 (show idxB badB (k + 1) (L.drop (k + 1)) = r from ht);have HP:=zi5 hp;clear ht hp;go_wp2_with fail
    refine (bad_any S _ x _ HAt.out HIn.out).mono ?_;rw [HP.out];rintro e w1 ⟨rfl,hb⟩;have HB1:=zi5 (HB.out.trans (hb.mono HB.out.size));clear hb;go_wp2_with fail
    go_roundw
    case rel=>exact ⟨k + 1,by go_num,by omega,HT,HB1.out⟩
    case measure=>simp [intOf]; omega
   ·rw [hp] at ht
    have HT2:=zi5 (show Ending.returned (.int .i64 (k:Int)) = Ending.returned (.int .i64 r) by rw [show (k:Int) = r from ht]);have HP:=zi5 hp;clear ht hp;go_wp2_with fail
    refine (bad_any S _ x _ HAt.out HIn.out).mono ?_;rw [HP.out];rintro e w1 ⟨rfl,hb⟩;have HB1:=zi5 (HB.out.trans (hb.mono HB.out.size));clear hb;go_wp2_with fail
    go_ret;exact ⟨HT2.out,HB1.out⟩
  ·have hq:decide ((k:Int) < L.length) = false:=by simp; omega
   have ht:=HT.out;rw [List.drop_eq_nil_of_le (by omega)] at ht;have HT2:=zi5 (show Ending.returned (.int .i64 (-1:Int)) = Ending.returned (.int .i64 r) by rw [show (-1:Int) = r from ht]);clear HT ht;go_wp2_with fail
   go_ret;exact ⟨HT2.out,HB.out⟩
theorem bcont_any (S:Nat→Prop) (v:Value) (L:List BitsL) (w:World) (h:BitsVec w S v L) (hi:∀ b∈L,InI b.len) (hn:L.length≤1000000) :
  Calls prog 67 #[v,.func (.func 68) #[] #[]] w fun e w'=>e = .returned (.bool (L.any badB))∧Below w.heap.size w w':=by
 rw [← idxB_any badB L 0];obtain ⟨a,cap,rfl⟩:=h.slice;have HV:=zi5 h; have HI:=zi5 hi; clear h hi;go_enter func67,ntmps67
 go_wp2_with fail
 refine (bidx_any S _ L _ HV.out HI.out hn).mono ?_;rintro e w1 ⟨rfl,hb⟩;have HB:=zi5 hb; clear hb;go_wp2_with fail
 go_ret;exact ⟨rfl,HB.out⟩
theorem zfc (S:Nat→Prop) (v:Value) (x:EncL) (w:World) (h:EncVal w S v x) (hi:∀ b∈x.fields,InI b.len) (hn:x.fields.length≤1000000) :
  Calls prog 22 #[v] w fun e w'=>e = .returned (.bool (zbd x))∧Below w.heap.size w w':=by
 obtain ⟨s,rfl,h⟩:=h;obtain ⟨a,cap,rfl⟩:=h.slice;obtain ⟨id,ver,F⟩:=x;dsimp only at h hi hn ⊢;have HV:=zi5 h; have HI:=zi5 hi; clear h hi;obtain ⟨r,hr⟩:∃ r,zbd ⟨id,ver,F⟩ = r:=⟨_,rfl⟩;rw [hr];unfold zbd at hr;dsimp only at hr;have t1:decide ((1:Int)≤(F.length:Int)) = decide (1≤F.length):=by apply decide_eq_decide.2; omega
 have t2:decide ((F.length:Int)≤5) = decide (F.length≤5):=by apply decide_eq_decide.2; omega
 cases e1:decide ((1:Int)≤id)
 ·rw [e1] at hr
  have hr2:false = r:=by simpa using hr
  subst hr2; clear hr t1 t2;go_enter func22,ntmps22
  go_wp2_with fail
  go_ret;exact ⟨rfl,(Below.refl _ _).alloc xnl _⟩
 cases e2:decide (id≤(1048576:Int))
 ·rw [e1,e2] at hr
  have hr2:false = r:=by simpa using hr
  subst hr2; clear hr t1 t2;go_enter func22,ntmps22
  go_wp2_with fail
  go_ret;exact ⟨rfl,(Below.refl _ _).alloc xnl _⟩
 cases e3:decide ((1:Int)≤ver)
 ·rw [e1,e2,e3] at hr
  have hr2:false = r:=by simpa using hr
  subst hr2; clear hr t1 t2;go_enter func22,ntmps22
  go_wp2_with fail
  go_ret;exact ⟨rfl,(Below.refl _ _).alloc xnl _⟩
 cases e4:decide (ver≤(1048576:Int))
 ·rw [e1,e2,e3,e4] at hr
  have hr2:false = r:=by simpa using hr
  subst hr2; clear hr t1 t2;go_enter func22,ntmps22
  go_wp2_with fail
  go_ret;exact ⟨rfl,(Below.refl _ _).alloc xnl _⟩
 cases e5:decide (1≤F.length)
 ·rw [e1,e2,e3,e4,e5] at hr
  have hr2:false = r:=by simpa using hr
  rw [e5] at t1;subst hr2; clear hr t2 e5;go_enter func22,ntmps22
  go_wp2_with fail
  go_ret;exact ⟨rfl,(Below.refl _ _).alloc xnl _⟩
 cases e6:decide (F.length≤5)
 ·rw [e1,e2,e3,e4,e5,e6] at hr
  have hr2:false = r:=by simpa using hr
  rw [e5] at t1; rw [e6] at t2;subst hr2; clear hr e5 e6;go_enter func22,ntmps22
  go_wp2_with fail
  go_ret;exact ⟨rfl,(Below.refl _ _).alloc xnl _⟩
 rw [e1,e2,e3,e4,e5,e6] at hr;have hr2:(!(F.any badB)) = r:=by simpa using hr
 rw [e5] at t1; rw [e6] at t2;have HR:=zi5 (show Ending.returned (.bool (!(F.any badB))) = Ending.returned (.bool r) by rw [hr2]);clear hr hr2 e5 e6;go_enter func22,ntmps22
 go_wp2_with fail
 have hb0:Below w.heap.size w (w.alloc (.cells #[.int .i64 id,.int .i64 ver,.slice a F.length cap] 32)):=(Below.refl _ _).alloc xnl _;have HB0:=zi5 hb0;refine (bcont_any S _ F _ (HV.out.below hb0) HI.out hn).mono ?_;rintro e w1 ⟨rfl,hb⟩;have HB1:=zi5 (HB0.out.trans (hb.mono HB0.out.size));clear hb hb0;go_wp2_with fail
 go_ret;exact ⟨HR.out,HB1.out⟩
theorem same1_any (S T:Nat→Prop) (u v:Value) (a b:BitsL) (w:World) (hu:BitsAt w S u a) (hv:BitsAt w T v b) (hn:a.words.length≤1000000) :
  Calls prog 83 #[u,v] w fun e w'=>e = .returned (.bool (decide (cmpB a b = 0)))∧Below w.heap.size w w':=by
 obtain ⟨ca,rfl,hA⟩:=hu.form;obtain ⟨cb,rfl,hB⟩:=hv.form;have HA:=zi5 hA; have HB:=zi5 hB;clear hu hv hA hB;obtain ⟨al,aa,an,ac⟩:=ca;obtain ⟨bl,ba,bn,bc⟩:=cb;dsimp only [zbp] at HA HB ⊢;obtain ⟨r,hr⟩:∃ r,cmpB a b = r:=⟨_,rfl⟩;have hd:(r == (0:Int)) = decide (r = 0):=rfl;rw [hr];have HR:=zi5 hr; clear hr;go_enter func83,ntmps83
 go_wp2_with fail
 refine zae (fun W hW=>?_)
 have hb0:=xam hW
 clear hW;refine (cmpB_any S T _ _ a b _ (HA.out.below hb0) (HB.out.below hb0) hn).mono ?_;rw [HR.out];rintro e w1 ⟨rfl,hb⟩;have HB1:=zi5 (hb0.trans (hb.mono hb0.size));clear hb hb0;go_wp2_with fail
 go_ret;exact ⟨rfl,HB1.out⟩
theorem beqf_any (S T:Nat→Prop) (u v:Value) (A B:List BitsL) (w:World) (hu:BitsVec w S u A) (hv:BitsVec w T v B) (hn:A.length≤1000000) (hww:∀ b∈A,b.words.length≤1000000) :
  Calls prog 82 #[u,v,.func (.func 83) #[] #[]] w fun e w'=>e = .returned (.bool (sameF A B))∧Below w.heap.size w w':=by
 obtain ⟨aa,ca,rfl⟩:=hu.slice;obtain ⟨ab,cb,rfl⟩:=hv.slice;have HU:=zi5 hu; have HV:=zi5 hv; have HWW:=zi5 hww; clear hu hv hww;by_cases hl:A.length = B.length
 ·have hne:((A.length:Int) != (B.length:Int)) = false:=by rw [hl]; simp
  have HL:=zi5 hl; clear hl;have hfin:∀ n:Bool,sameF A B = n→Ending.returned (.bool n) = .returned (.bool (sameF A B)):=fun n h=>by rw [h]
  have HF:=zi5 hfin; clear hfin;go_enter func82,ntmps82
  go_wp2_with fail
  go_loopw [17] (fun i wr=>∃ k:Nat,i = .int .i64 k∧k≤A.length∧Hid (∀ j,j < k→zf1 A B j = true)∧Below w.heap.size w wr) (fun i _=>A.length - (intOf i).toNat)
  case atStart=>exact ⟨0,rfl,by omega,zi5 (fun j hj=>by omega),Below.refl _ _⟩
  case round =>
   obtain ⟨k,rfl,hk,HT,hbw⟩:=hrel;have HB:=zi5 hbw; clear hbw;by_cases hlt:k < A.length
   ·have hq:decide ((k:Int) < A.length) = true:=by simp; omega
    have hklen:(k:Int) < (A.length:Int):=by omega
    have hklen2:(k:Int) < (B.length:Int):=by rw [← HL.out]; omega
    have HWu:=zi5 (HU.out.below HB.out); have HWv:=zi5 (HV.out.below HB.out);obtain ⟨b1,o1,x,rfl,lx,x0,x1,hx⟩:=HWu.out.at k hlt;obtain ⟨b2,o2,y,rfl,ly,y0,y1,hy⟩:=HWv.out.at k (by rw [← HL.out]; exact hlt);obtain ⟨xl,xa,xn,xc⟩:=x;obtain ⟨yl,ya,yn,yc⟩:=y;have HX:=zi5 hx; have HY:=zi5 hy;dsimp only at x0 x1 y0 y1;clear hx hy;obtain ⟨c,hc⟩:∃ c,zf1 A B k = c:=⟨_,rfl⟩;have hcd:decide (cmpB (A.getD k zba) (B.getD k zba) = 0) = c:=hc;have HC:=zi5 hcd; have HC2:=zi5 hc;clear hc hcd;go_wp2_with fail
    refine zae (fun W hW=>?_)
    have hb1:=xam hW
    clear hW;refine (same1_any S T _ _ _ _ _ (HX.out.below hb1) (HY.out.below hb1) (by rw [zbi _ _ hlt]; exact HWW.out _ (List.getElem_mem hlt))).mono ?_;rw [HC.out];rintro e w1 ⟨rfl,hb⟩;have HB1:=zi5 (HB.out.trans ((hb1.trans (hb.mono hb1.size)).mono HB.out.size));clear hb hb1;cases c
    ·go_wp2_with fail
     go_ret;refine ⟨HF.out false ?_,HB1.out⟩;unfold sameF
     have:((List.range A.length).all (zf1 A B)) = false:=by
      rw [List.all_eq_false];exact ⟨k,List.mem_range.2 hlt,by rw [HC2.out]; simp⟩
     rw [this,Bool.and_false]
    ·have HT1:=zi5 (show ∀ j,j < k + 1→zf1 A B j = true from fun j hj=>by
      rcases Nat.lt_or_ge j k with h | h
      ·exact HT.out j h
      ·have:j = k:=by omega
       rw [this]; exact HC2.out)
     go_wp2_with fail
     go_roundw
     case rel=>exact ⟨k + 1,by go_num,by omega,HT1,HB1.out⟩
     case measure=>simp [intOf]; omega
   ·have hq:decide ((k:Int) < A.length) = false:=by simp; omega
    have hkk:k = A.length:=by omega
    have HKK:=zi5 hkk; clear hkk;go_wp2_with fail
    go_ret;refine ⟨HF.out true ?_,HB.out⟩;unfold sameF;rw [decide_eq_true HL.out,Bool.true_and,List.all_eq_true];intro j hj;exact HT.out j (by rw [HKK.out]; exact List.mem_range.1 hj)
 ·have hne:((A.length:Int) != (B.length:Int)) = true:=by simp; omega
  have hs:sameF A B = false:=by unfold sameF; rw [decide_eq_false hl,Bool.false_and]
  rw [hs];clear hl hs;go_enter func82,ntmps82
  go_wp2_with fail
  go_ret;exact ⟨rfl,Below.refl _ _⟩
theorem esame_any (S T:Nat→Prop) (u v:Value) (a b:EncL) (w:World) (hu:EncVal w S u a) (hv:EncVal w T v b) (hn:a.fields.length≤1000000) (hww:∀ b∈a.fields,b.words.length≤1000000) :
  Calls prog 29 #[u,v] w fun e w'=>e = .returned (.bool (zif a b))∧Below w.heap.size w w':=by
 obtain ⟨s,rfl,hu⟩:=hu;obtain ⟨t,rfl,hv⟩:=hv;obtain ⟨aa,ca,rfl⟩:=hu.slice;obtain ⟨ab,cb,rfl⟩:=hv.slice;obtain ⟨i,n,F⟩:=a;obtain ⟨j,m,G⟩:=b;dsimp only at hu hv hn hww ⊢;have HU:=zi5 hu; have HV:=zi5 hv; have HWW:=zi5 hww; clear hu hv hww;unfold zif;dsimp only;by_cases h1:i = j
 ·have d1:(i == j) = true:=by simpa using h1
  by_cases h2:n = m
  ·have d2:(n == m) = true:=by simpa using h2
   rw [decide_eq_true h1,decide_eq_true h2,Bool.true_and,Bool.true_and];clear h1 h2;go_enter func29,ntmps29
   go_wp2_with fail
   refine zae (fun W hW=>?_)
   have hb0:=xam hW
   clear hW;refine (beqf_any S T _ _ F G _ (HU.out.below hb0) (HV.out.below hb0) hn HWW.out).mono ?_;rintro e w1 ⟨rfl,hb⟩;have HB1:=zi5 (hb0.trans (hb.mono hb0.size));clear hb hb0;go_wp2_with fail
   go_ret;exact ⟨rfl,HB1.out⟩
  ·have d2:(n == m) = false:=by simpa using h2
   rw [decide_eq_false h2,Bool.false_and,Bool.and_false];clear h2;go_enter func29,ntmps29
   go_wp2_with fail
   go_ret;exact ⟨rfl,((Below.refl w.heap.size w).alloc xnl _).alloc (by simp) _⟩
 ·have d1:(i == j) = false:=by simpa using h1
  rw [decide_eq_false h1,Bool.false_and];clear h1;go_enter func29,ntmps29
  go_wp2_with fail
  go_ret;exact ⟨rfl,((Below.refl w.heap.size w).alloc xnl _).alloc (by simp) _⟩
end
section
open Go.RowKit Cal
attribute [local go_sem] zah zaj zaq
structure ParsOk (P:List ParL):Prop where
 par:∀ i,i < P.length→ParOk (P.getD i default)
 salt:∀ i,i < P.length→(P.getD i default).salt < P.length∧(P.getD i default).salt≠i
theorem echeck_yes (S:Nat→Prop) (vf vt vn vs:Value) (s:SchemaL) (P:List ParL) (pv:Value) (w:World) (h:SchemaAt w S vf vt vn vs s) (hp:Vec w zaw 3 zbc pv P) (hc:zax s = 0) (hl:P.length = s.fields.length) (hP:ParsOk P) (h5:P.length≤5) :
  Calls prog 16 #[.agg #[vf,vt,vn,vs],pv] w fun e w'=>e = .returned (.int .i64 0)∧Below w.heap.size w w':=by
 obtain ⟨a,cap,rfl⟩:=hp.slice;obtain ⟨af,cf,rfl⟩:=h.1.slice;have HP:=zi5 hp; have HS:=zi5 h.any; have HC:=zi5 hc; have HO:=zi5 hP;have hne:((P.length:Int) != (s.fields.length:Int)) = false:=by rw [hl]; simp
 have HL:=zi5 hl;clear hp h hc hP hl;go_enter func16,ntmps16
 go_wp2_with fail
 refine zae (fun W hW=>?_)
 have hb0:=xal hW
 have hs0:W.heap[w.heap.size]? = some (.cells #[.slice af s.fields.length cf,vt,vn,vs] 44 (0,0)):=by rw [hW]; exact zac rfl
 clear hW;refine (zdw zaw _ _ _ _ s _ (HS.out.below hb0)).mono ?_;rw [HC.out];rintro e w1 ⟨rfl,hb⟩;have hs1:=zab hb (zaa hs0) hs0;have HB1:=zi5 (hb0.trans (hb.mono hb0.size));obtain ⟨s0,s1,s2,s3⟩:=zan hs1;clear hb hb0 hs0 hs1;go_wp2_with fail
 clear s0 s1 s2 s3;go_loopw [6,7,21] (fun _ _ i wr=>∃ j:Nat,i = .int .i64 j∧j≤P.length∧Below w1.heap.size w1 wr) (fun _ _ i _=>P.length - (intOf i).toNat)
 case atStart=>exact ⟨0,rfl,by omega,Below.refl _ _⟩
 case round =>
  obtain ⟨j,rfl,hj,hb⟩:=hrel;have HBr:=zi5 hb; clear hb;by_cases hlt:j < P.length
  ·have hq:decide ((j:Int) < P.length) = true:=by simp; omega
   have hbw:=HB1.out.trans (HBr.out.mono HB1.out.size);have hpo:=HO.out.par j hlt;obtain ⟨hs1,hs2⟩:=HO.out.salt j hlt;obtain ⟨p,hpj⟩:∃ p,P[j] = p:=⟨_,rfl⟩;have hgd:P.getD j default = p:=by rw [List.getD,List.getElem?_eq_getElem hlt]; exact hpj
   rw [hgd] at hpo hs1 hs2;obtain ⟨b,off,rfl,hb,hc⟩:=(HP.out.below hbw).get j hlt;rw [hpj] at hc;have c0:=hc 0 _ rfl; have c1:=hc 1 _ rfl; have c2:=hc 2 _ rfl;rw [Nat.add_zero] at c0;have e1:decide ((P.length:Int)≤p.salt) = false:=by simp; omega
   have e2:(p.salt == (j:Int)) = false:=by simpa using hs2
   have HPO:=zi5 hpo;clear hc hpo hgd hpj hs1 hs2 hbw;go_wp2_with fail
   refine (bcheck_yes p _ HPO.out).mono ?_;rintro e w2 ⟨rfl,hb2⟩;have hx:=zab (b:=wr.heap.size) (o:=.cells (zbc p).toArray 49 (0,0)) hb2 (by simp) (zac rfl);have HB2:=zi5 ((HBr.out.alloc HBr.out.size (.cells (zbc p).toArray 49)).trans (hb2.mono (by have:=HBr.out.size; simp; omega)));obtain ⟨x0,x1,x2⟩:=zai hx;have hxl:=zaa hx;clear hb2 hx c0 c1 c2;go_wp2_with fail
   go_roundw
   case rel=>exact ⟨j + 1,by go_num,by omega,HB2.out⟩
   case measure=>simp [intOf]; omega
  ·have hq:decide ((j:Int) < P.length) = false:=by simp; omega
   go_wp2_with fail
   go_ret;exact ⟨rfl,HB1.out.trans (HBr.out.mono HB1.out.size)⟩
structure RecIn (s:SchemaL) (P:List ParL) (r:RecL):Prop where
 chk:zax s = 0
 rec_:zb7 s r = 0
 len:P.length = s.fields.length
 pars:ParsOk P
 short:∀ v∈r.vals,v.length≤64
theorem RecIn.enc {s:SchemaL} {P:List ParL} {r:RecL} (h:RecIn s P r):EncIn s P r.vals:=by
 obtain ⟨_,hnum,hl,hno⟩:=zhe h.rec_;have h5:=(zcf h.chk).1.2;have hl2:=h.len
 refine ⟨by omega,by omega,fun i hi=>⟨h.pars.par i hi,by have:=(h.pars.salt i hi).1; omega,by omega,by omega,?_,?_,h.short⟩⟩
 ·rw [findN_in h.chk (by omega)]
 ·have:=ziq s r.vals 0 hno i (by omega)
  rwa [Nat.zero_add] at this
theorem zia (S:Nat→Prop) (vf vt vn vs:Value) (s:SchemaL) (P:List ParL) (pv:Value) (k:Int × Int) (r:RecL) (sv:Value) (w:World) (h:SchemaAt w S vf vt vn vs s) (hp:Vec w zaw 3 zbc pv P) (hv:Vec w zaw 1 za2 sv r.vals) (hr:RecIn s P r) :
  Calls prog 19 #[.agg #[vf,vt,vn,vs],pv,.agg #[.int .u64 k.1,.int .u64 k.2],.agg #[.int .i64 r.id,.int .i64 r.ver,sv]] w (EncPost (ziz s P k r) w):=by
 obtain ⟨a,cap,rfl⟩:=hp.slice;obtain ⟨av,cv,rfl⟩:=hv.slice;have hsh:=hr.short; have hl5:=(zcf hr.chk).1.2; have hrl:=hr.len; have hvl:=(zhe hr.rec_).2.2.1;obtain ⟨X,hX⟩:∃ X,ziz s P k r = X:=⟨_,rfl⟩;obtain ⟨rid,rver,vals⟩:=r;dsimp only at hv hsh hvl ⊢;rw [hX];have hP5:P.length≤5:=by omega
 have hv5:vals.length≤5:=by omega
 clear hrl hvl hl5;have HX:=zi5 hX; have HP:=zi5 hp; have HV:=zi5 hv; have HR:=zi5 hr; have HS:=zi5 h.any; have HSh:=zi5 hsh;clear hX hp hv hr h hsh;go_enter func19,ntmps19
 go_wp2_with fail
 refine zae (fun W hW=>?_)
 have hb0:Below w.heap.size w W:=by rw [hW]; exact ((((Below.refl w.heap.size w).alloc xnl _).alloc (by simp) _).alloc (by simp; omega) _).alloc (by simp; omega) _
 have hs0:W.heap[w.heap.size]? = some (.cells #[vf,vt,vn,vs] 44 (0,0)):=by rw [hW]; exact zaf (zaf (zaf (zac rfl)))
 have hk0:W.heap[w.heap.size + 1]? = some (.cells #[.int .u64 k.1,.int .u64 k.2] 26 (0,0)):=by rw [hW]; exact zaf (zaf (zac (by simp)))
 have hr0:W.heap[w.heap.size + 2]? = some (.cells #[.int .i64 rid,.int .i64 rver,.slice av vals.length cv] 29 (0,0)):=by rw [hW]; exact zaf (zac (by simp))
 have hz0:W.heap[w.heap.size + 3]? = some (.cells #[.int .i64 0,.int .i64 0,.slice none 0 0] 32 (0,0)):=by rw [hW]; exact zac (by simp)
 clear hW;refine (echeck_yes zaw _ _ _ _ s P _ _ (HS.out.below hb0) (HP.out.below hb0) HR.out.chk HR.out.len HR.out.pars (by omega)).mono ?_;rintro e w1 ⟨rfl,hb⟩;have hs1:=zab hb (zaa hs0) hs0; have hk1:=zab hb (zaa hk0) hk0; have hr1:=zab hb (zaa hr0) hr0; have hz1:=zab hb (zaa hz0) hz0;have hb1:=hb0.trans (hb.mono hb0.size);clear hb hb0 hs0 hk0 hr0 hz0;have HB1:=zi5 hb1; have HS1:=zi5 hs1; have HK1:=zi5 hk1; have HR1:=zi5 hr1; have HZ1:=zi5 hz1;obtain ⟨s0,s1,s2,s3⟩:=zan hs1; obtain ⟨r0,r1,r2⟩:=zai hr1;clear hb1 hs1 hk1 hr1 hz1;go_wp2_with fail
 refine (rcheck_all zaw _ _ _ _ s ⟨rid,rver,vals⟩ _ _ (HS.out.below HB1.out) (HV.out.below HB1.out) (fun x hx=>by have:=HSh.out x hx; omega) (by show vals.length≤_; omega)).mono ?_
 rw [HR.out.rec_];rintro e w2 ⟨rfl,hb⟩;have hs2:=zab hb (zaa HS1.out) HS1.out; have hk2:=zab hb (zaa HK1.out) HK1.out; have hr2:=zab hb (zaa HR1.out) HR1.out; have hz2:=zab hb (zaa HZ1.out) HZ1.out;have hb2:=HB1.out.trans (hb.mono HB1.out.size);clear hb s0 s1 s2 s3 r0 r1 r2 HB1 HS1 HK1 HR1 HZ1;have HB2:=zi5 hb2; have HZ2:=zi5 hz2;obtain ⟨s0,s1,s2,s3⟩:=zan hs2; obtain ⟨r0,r1,r2⟩:=zai hr2; obtain ⟨k0,k1⟩:=zak hk2;clear hb2 hs2 hk2 hr2 hz2;go_wp2_with fail
 refine (encoded_yes zaw _ _ _ _ s P _ k ⟨rid,rver,vals⟩ _ _ (HS.out.below HB2.out) (HP.out.below HB2.out) (HV.out.below HB2.out) HR.out.enc).mono ?_;rw [HX.out];rintro e w3 ⟨v3,rfl,⟨sf,rfl,hbv⟩,hb⟩;have HBV:=zi5 hbv;obtain ⟨a3,c3,rfl⟩:=hbv.slice;have hz3:=zab hb (zaa HZ2.out) HZ2.out;have HZ3:=zi5 hz3;have HB3:=zi5 (HB2.out.trans (hb.mono HB2.out.size));have hzl:=zaa HZ2.out; have hzz:=HB2.out.size;obtain ⟨z0,z1,z2⟩:=zai hz3;have f0:=frozen_of_row _ _ 0 _ _ hz3; have f1:=frozen_of_row _ _ 1 _ _ hz3; have f2:=frozen_of_row _ _ 2 _ _ hz3;have y1:=zaa hz3;clear hbv hb hz3 s0 s1 s2 s3 r0 r1 r2 k0 k1;go_wp2_with fail
 refine zag rfl rfl (zad (i:=2) (v:=.slice a3 X.fields.length c3) (zad (i:=1) (v:=.int .i64 X.ver) (zad (i:=0) (v:=.int .i64 X.id) HZ3.out))) underlying32 rfl (by kernel_rfl)
  ⟨_,rfl,⟨_,rfl,?_⟩,((HB3.out.setCell (p:=⟨w.heap.size + 3,0,none⟩) (by show w.heap.size≤w.heap.size + 3; omega) _).setCell (p:=⟨w.heap.size + 3,1,none⟩) (by show w.heap.size≤w.heap.size + 3; omega) _).setCell (p:=⟨w.heap.size + 3,2,none⟩) (by show w.heap.size≤w.heap.size + 3; omega) _⟩
 refine HBV.out.move (by simp [World.setCell]) fun b hb hs=>?_
 have hs':w2.heap.size≤b:=hs;exact ⟨((heap_setCell_other _ _ _ _ (by show b≠w.heap.size + 3; omega)).trans (heap_setCell_other _ _ _ _ (by show b≠w.heap.size + 3; omega))).trans (heap_setCell_other _ _ _ _ (by show b≠w.heap.size + 3; omega)),by show w.heap.size≤b; omega⟩
end
section
open Go.RowKit
attribute [local go_sem] zah zaj zaq
theorem sjoin_any (S:Nat→Prop) (v:Value) (L:List (List UInt8)) (w:World) (h:Vec w S 1 za2 v L) (hn:L.length≤1000000) (hj:(zay L).length≤1000000000) :
  Calls prog 79 #[v,.string ⟨#[32]⟩] w fun e w'=>e = .returned (zal (zay L))∧Below w.heap.size w w':=by
 obtain ⟨a,cap,rfl,hcap,h0⟩:=h
 have hjj:Lib.join ((L.map mkS).map (·.data.toList)) [32] = zay L:=by
  rw [List.map_map,← join_toks]; congr 1; conv=>rhs; rw [← List.map_id L]
  exact List.map_congr_left fun x _=>by simp [mkS]
 by_cases hz:L = []
 ·subst hz
  exact (Tryz.strings_Join_none a cap ⟨#[32]⟩ w).mono fun e w' ⟨he,hw⟩=>⟨he,by rw [hw]; exact Below.refl _ _⟩
 ·obtain ⟨b,off,rfl,_,hb,hc⟩:=h0 (List.length_pos_iff.2 hz)
  have:=Tryz.strings_Join b off cap (L.map mkS) ⟨#[32]⟩ w (fun j x hx=>by
   rw [List.getElem?_map] at hx;obtain ⟨y,hy,rfl⟩:=Option.map_eq_some_iff.1 hx;have:=hc j y hy 0 _ rfl
   simpa [mkS] using this) hb (by simp; omega) (by simpa using hcap) (by rw [show (⟨#[32]⟩:ByteArray).data.toList = [32] from rfl,hjj]; omega)
  rw [show (⟨#[32]⟩:ByteArray).data.toList = [32] from rfl,hjj,List.length_map] at this;exact this
theorem EncVal.below {w w':World} {S:Nat→Prop} {v:Value} {e:EncL} (h:EncVal w S v e) (hb:Below w.heap.size w w'):EncVal w' S v e:=by
 obtain ⟨s,rfl,h⟩:=h; exact ⟨s,rfl,h.below hb⟩
theorem own_new {α:Type} {w0 w:World} {e:TypeId} {enc:α→List Value} {L:List α} {g size n:Nat} (hb:Below w0.heap.size w0 w) (hg:w0.heap.size≤g) (h:w.heap[g]? = some (.cells (L.flatMap enc).toArray e (0,0))) (hl:(L.flatMap enc).length = L.length * size) (hm:L.length≤1000000) (hn:n = L.length) :
  OwnV e size enc w0 (.slice (some ⟨g,0,none⟩) n n) L w:=by
 subst hn;exact ⟨⟨hl,.inr ⟨g,L.length,_,rfl,hg,h,Nat.le_refl _,by unfold maxLen; omega,by simpa using hl,by rw [← hl]; show List.take _ (L.flatMap enc) = _; exact List.take_length⟩⟩,hb⟩
theorem hex_no (S:Nat→Prop) (v:Value) (b:BitsL) (w:World) (h:BitsAt w S v b) (hi:InI b.len) (hv:zbv b = false) :
  Calls prog 78 #[v] w fun e w'=>e = .returned (.tuple #[zal [],.int .i64 8])∧Below w.heap.size w w':=by
 obtain ⟨c,rfl,hA⟩:=h.form;have HA:=zi5 hA; have HV:=zi5 hv;clear h hA hv;obtain ⟨bl,ba,bn,bc⟩:=c;dsimp only [zbp] at HA ⊢;go_enter func78,ntmps78
 go_wp2_with fail
 refine zae (fun W hW=>?_)
 have hb0:=xal hW
 clear hW;refine (bvalid_any S _ b _ (HA.out.below hb0) hi.1 hi.2).mono ?_;rw [HV.out];rintro e w1 ⟨rfl,hb⟩;have HB1:=zi5 (hb0.trans (hb.mono hb0.size));clear hb hb0;go_wp2_with fail
 go_ret2;exact ⟨rfl,HB1.out⟩
theorem oneG:∀ x:List UInt8,∀ u∈za2 x,u.oneCell' = true:=by intro x u hu; simp [za2] at hu; subst hu; rfl
theorem joinDash (x y:List UInt8):zay [x,y,[45]] = x ++ [32] ++ y ++ [32,45]:=by simp [zay]
theorem eline_none (S:Nat→Prop) (v:Value) (i j:Nat) (w:World) (h:EncVal w S v ⟨i,j,[zba]⟩) (hi1:1≤i) (hj1:1≤j) (hi:i < 100) (hj:j < 100) :
  Calls prog 27 #[v] w fun e w'=>e = .returned (.tuple #[zal (Lib.decDigits i ++ [32] ++ Lib.decDigits j ++ [32,45]),.int .i64 0])∧Below w.heap.size w w':=by
 obtain ⟨s,rfl,hF⟩:=h;dsimp only at hF;obtain ⟨a,cap,rfl⟩:=hF.slice;have hit1:=fun w=>Tryz.strconv_Itoa_small i hi w
 have hit2:=fun w=>Tryz.strconv_Itoa_small j hj w
 have d1:=digs_len i hi; have d2:=digs_len j hj;obtain ⟨x,hx⟩:∃ x,Lib.decDigits i = x:=⟨_,rfl⟩;obtain ⟨y,hy⟩:∃ y,Lib.decDigits j = y:=⟨_,rfl⟩;rw [hx] at hit1 d1 ⊢; rw [hy] at hit2 d2 ⊢;obtain ⟨z,hz⟩:∃ z,x ++ [32] ++ y ++ [32,45] = z:=⟨_,rfl⟩;have hzl:z.length≤10:=by rw [← hz]; simp; omega
 have hjn:=joinDash x y;rw [hz] at hjn ⊢;have HJ:=zi5 hjn;clear hz hjn
 have hev:zbd ⟨i,j,[zba]⟩ = true:=by
  simp [zbd,badB,zgu,zba]; omega
 have HF:=zi5 hF; have HI1:=zi5 hit1; have HI2:=zi5 hit2; have HEv:=zi5 hev;clear hF hit1 hit2 hx hy hev;have e1:([zba]:List BitsL).length = 1:=rfl;rw [e1] at HF ⊢;go_enter func27,ntmps27
 go_wp2_with fail
 refine zae (fun W hW=>?_)
 have hb0:=xal hW
 have hx0:W.heap[w.heap.size]? = some (.cells #[.int .i64 i,.int .i64 j,.slice a 1 cap] 32 (0,0)):=by rw [hW]; exact zac rfl
 clear hW;refine (zfc S _ ⟨i,j,[zba]⟩ _ ⟨_,rfl,HF.out.below hb0⟩ (by intro b hb; simp at hb; subst hb; exact ⟨by decide,by decide⟩) (by simp)).mono ?_;rw [HEv.out];rintro e w1 ⟨rfl,hb⟩;have hx1:=zab hb (zaa hx0) hx0;have HB1:=zi5 (hb0.trans (hb.mono hb0.size)); have HX1:=zi5 hx1;obtain ⟨x0,x1,x2⟩:=zai hx1;have lx:=zaa hx1;clear hb hb0 hx0 hx1;go_wp2_with fail
 have bD:Below w1.heap.size w1 w1.drew:=(Below.refl _ _).drew;refine wp_region_noPanic ?_
 refine wp_region_held_drew (S:=(fun w'=>w'.cell? ⟨w.heap.size,0,none⟩ = some (.int .i64 i)∧w'.cell? ⟨w.heap.size,1,none⟩ = some (.int .i64 j))) (by kernel_rfl) (⟨x0,x1⟩) (fun hHeld=>?_)
 refine tH 0 (h:=?_);refine tH 1 (h:=?_);refine tH 3 (h:=?_);refine tH 4 (h:=?_);refine wpAnyH_ready (rs:=[2]) (by kernel_rfl) (by simp) ?_
 refine AllReadyH.cons rfl (fun K hK=>?_) AllReadyH.nil
 go_simp;refine (HI1.out _).mono ?_; rintro e wq ⟨rfl,rfl⟩
 refine hK.out _ _ (⟨x0,x1⟩) (fun hHeld=>?_)
 clear hK K;refine wpAnyH_ready (rs:=[5]) (by kernel_rfl) (by simp) ?_
 refine AllReadyH.cons rfl (fun K hK=>?_) AllReadyH.nil
 go_simp;refine (HI2.out _).mono ?_; rintro e wq ⟨rfl,rfl⟩
 refine hK.out _ _ (⟨x0,x1⟩) (fun hHeld=>?_)
 clear hK K;refine wpAnyH_ready (rs:=[6]) (by kernel_rfl) (by simp) ?_
 refine AllReadyH.cons rfl (fun K hK=>?_) AllReadyH.nil
 go_simp
 refine hK.out _ _ (⟨((bD.alloc bD.size _).cell (p:=⟨w.heap.size,0,none⟩) lx).trans x0,((bD.alloc bD.size _).cell (p:=⟨w.heap.size,1,none⟩) lx).trans x1⟩) (fun hHeld=>?_)
 clear hK K;refine tH 7 (h:=?_);refine wpAnyH_done (by kernel_rfl) ?_ _;refine NoPanic.normal ?_
 refine zbw (fun W2 hW2=>?_)
 have hb2:Below w1.heap.size w1 W2:=by rw [hW2]; exact bD.alloc bD.size _
 have hg2:W2.heap[w1.heap.size]? = some (.cells ([x,y].flatMap za2).toArray 9 (0,0)):=by rw [hW2]; exact zac rfl
 clear hW2 hHeld;have ho2:OwnV 9 1 za2 w (.slice (some ⟨w1.heap.size,0,none⟩) 2 2) [x,y] W2:=own_new (HB1.out.trans (hb2.mono HB1.out.size)) HB1.out.size hg2 rfl (by simp) rfl;have hx2:=zab hb2 lx HX1.out;obtain ⟨x0',x1',x2'⟩:=zai hx2;have lx2:=zaa hx2;have HO2:=zi5 ho2;clear hg2 ho2 hx2 x0 x1 x2;go_wp2_with fail
 go_loopw [4,22] (fun v k wr=>(k = .int .i64 0∧v = .slice (some ⟨w1.heap.size,0,none⟩) 2 2∧wr = W2)∨(k = .int .i64 1∧OwnV 9 1 za2 w v [x,y,[45]] wr)) (fun _ k _=>1 - (intOf k).toNat)
 case atStart=>exact .inl ⟨rfl,rfl,rfl⟩
 case round =>
  rcases hrel with ⟨rfl,rfl,rfl⟩ | ⟨rfl,ho⟩
  ·have HW:=zi5 (HF.out.below (HB1.out.trans (hb2.mono HB1.out.size)))
   obtain ⟨b,off,c,rfl,lb,c0,c1,hat⟩:=HW.out.at 0 (by simp);rw [Nat.zero_mul,Nat.add_zero] at c0 c1;obtain ⟨cl,cA,cn,cc⟩:=c;dsimp only at c0 c1;have HAt:=zi5 (show BitsAt wr S (.agg #[.int .i64 cl,.slice cA cn cc]) zba from hat);clear hat;go_wp2_with fail
   refine zae (fun W3 hW3=>?_)
   have hb3:=xal hW3
   clear hW3;refine (hex_no S _ zba _ (HAt.out.below hb3) ⟨by decide,by decide⟩ rfl).mono ?_;rintro e w4 ⟨rfl,hb⟩;have hb4:Below wr.heap.size wr w4:=hb3.trans (hb.mono hb3.size);have HO1:=zi5 ((HO2.out.below hb4).below ((Below.refl w4.heap.size w4).alloc xnl (.cells #[zal [45]] 9)));have HR1:=zi5 (show zco (w4.alloc (.cells #[zal [45]] 9)) 1 (.slice (some ⟨w4.heap.size,0,none⟩) 1 1) ([[45]]:List (List UInt8)).length (([[45]]:List (List UInt8)).flatMap za2) from zav (t:=9) (fr:=(0,0)) (zac rfl) rfl);have hcn:[x,y].length + ([[45]]:List (List UInt8)).length≤1000000000:=by simp
   clear hb hb3 c0 c1;have d8:((8:Int) != 0) = true:=rfl;go_wp2_with (at_builtin; refine zch rfl (.tmp 33) (.tmp 35) 27 rfl 9 (.string ⟨#[]⟩) 1 16 za2 (fun _=>rfl) oneG underlying27 zdi rfl (by decide) (by decide) (w0:=w) (v:=.slice (some ⟨w1.heap.size,0,none⟩) 2 2) (A:=[x,y]) (B:=[[45]]) rfl HO1.out rfl HR1.out hcn ?_; intro v5 w5 ho5 hk5 hz5)
   go_roundw
   case rel=>exact .inr ⟨by go_num,ho5⟩
   case measure=>simp [intOf]
  ·have HO:=zi5 ho
   have HV:=zi5 (OwnV.vec (size:=1) (enc:=za2) (fun _=>rfl) ho)
   obtain ⟨av,cv,rfl⟩:=HV.out.slice;clear ho;go_wp2_with fail
   refine (sjoin_any _ _ [x,y,[45]] _ HV.out (by simp) (by rw [HJ.out]; omega)).mono ?_;rw [HJ.out];rintro e w5 ⟨rfl,hb⟩;go_wp2_with fail
   go_ret2;exact ⟨rfl,HO.out.2.trans (hb.mono HO.out.2.size)⟩
end
section
def hexD:List UInt8:=[48,49,50,51,52,53,54,55,56,57,97,98,99,100,101,102]
def digH (n:Nat):UInt8:=hexD.getD n 48
def valH (c:UInt8):Option Nat:=if 48≤c.toNat∧c.toNat≤57 then some (c.toNat - 48) else if 97≤c.toNat∧c.toNat≤102 then some (c.toNat - 87) else none
theorem valH_dig (n:Nat) (h:n < 16):valH (digH n) = some n:=by
 have:∀ k:Fin 16,valH (digH k) = some k.val:=by decide
 exact this ⟨n,h⟩
theorem valH_lt {c:UInt8} {v:Nat} (h:valH c = some v):v < 16:=by
 unfold valH at h;split at h
 ·cases h; omega
 ·split at h
  ·cases h; omega
  ·cases h
def zgv:Nat→Nat→List UInt8
 | 0,_=>[]
 | k + 1,n=>zgv k (n / 16) ++ [digH (n % 16)]
theorem zet (k:Nat):∀ n,(zgv k n).length = k:=by
 induction k with
 | zero=>intro n; rfl
 | succ k ih=>intro n; rw [zgv,List.length_append,ih]; rfl
theorem hexN_get (k:Nat):∀ n i,i < k→(zgv k n)[i]? = some (digH (n / 16 ^ (k - 1 - i) % 16)):=by
 induction k with
 | zero=>intro n i h; omega
 | succ k ih =>
  intro n i h;rw [zgv];by_cases hi:i < k
  ·rw [List.getElem?_append_left (by rw [zet]; exact hi),ih _ _ hi,Nat.div_div_eq_div_mul,← Nat.pow_succ']
   rw [show (k - 1 - i).succ = k + 1 - 1 - i by omega]
  ·have:i = k:=by omega
   subst this;rw [List.getElem?_append_right (by rw [zet]; exact Nat.le_refl _),zet,Nat.sub_self,show i + 1 - 1 - i = 0 by omega,Nat.pow_zero,Nat.div_one];rfl
def zcu (a:Nat) (c:UInt8):Nat:=(a * 16 + (valH c).getD 0) % 18446744073709551616
theorem hexFold (k:Nat):∀ n,k≤16→(zgv k n).foldl zcu 0 = n % 16 ^ k:=by
 induction k with
 | zero=>intro n _; simp [zgv,Nat.mod_one]
 | succ k ih =>
  intro n hk;rw [zgv,List.foldl_append,ih _ (by omega)];show zcu (n / 16 % 16 ^ k) (digH (n % 16)) = _;unfold zcu;rw [valH_dig _ (Nat.mod_lt _ (by decide))];show (n / 16 % 16 ^ k * 16 + n % 16) % 18446744073709551616 = _;have h1:n / 16 % 16 ^ k < 16 ^ k:=Nat.mod_lt _ (Nat.pow_pos (by decide));have h2:16 ^ (k + 1) = 16 ^ k * 16:=Nat.pow_succ 16 k;have h3:16 ^ (k + 1)≤16 ^ 16:=Nat.pow_le_pow_right (by decide) hk;have h4:(16:Nat) ^ 16 = 18446744073709551616:=by decide
  have h5:n % 16 < 16:=Nat.mod_lt _ (by decide)
  have h6:n % 16 ^ (k + 1) = n / 16 % 16 ^ k * 16 + n % 16:=by
   rw [h2,Nat.mul_comm (16 ^ k) 16,Nat.mod_mul];omega
  rw [h6];exact Nat.mod_eq_of_lt (by omega)
theorem hexFold_word {n:Nat} (h:n < 18446744073709551616):(zgv 16 n).foldl zcu 0 = n:=by
 rw [hexFold 16 n xnl];exact Nat.mod_eq_of_lt (by rw [show (16:Nat) ^ 16 = 18446744073709551616 by decide]; exact h)
def layH (W:List Nat) (i:Nat):List UInt8→List Nat
 | []=>W
 | c :: l=>layH (W.set (i / 16) (zcu (W.getD (i / 16) 0) c)) (i + 1) l
theorem zh8 (l m:List UInt8):∀ (W:List Nat) (i:Nat),layH W i (l ++ m) = layH (layH W i l) (i + l.length) m:=by
 induction l with
 | nil=>intro W i; rfl
 | cons c l ih=>intro W i; rw [List.cons_append,layH,layH,ih,List.length_cons,show i + 1 + l.length = i + (l.length + 1) by omega]
theorem layH_one (l:List UInt8):∀ (W:List Nat) (k j:Nat),k < W.length→j + l.length≤16→layH W (k * 16 + j) l = W.set k (l.foldl zcu (W.getD k 0)):=by
 induction l with
 | nil =>
  intro W k j hk _;rw [layH,List.foldl_nil];apply List.ext_getElem?;intro t;rw [List.getElem?_set];by_cases h:k = t
  ·subst h; rw [if_pos rfl,if_pos hk,List.getD,List.getElem?_eq_getElem hk]; rfl
  ·rw [if_neg h]
 | cons c l ih =>
  intro W k j hk hj;rw [List.length_cons] at hj;have hd:(k * 16 + j) / 16 = k:=by omega
  rw [layH,hd,show k * 16 + j + 1 = k * 16 + (j + 1) by omega,ih _ k (j + 1) (by rw [List.length_set]; exact hk) (by omega),List.foldl_cons,List.set_set];congr 2;rw [List.getD,List.getElem?_set_self hk]; rfl
theorem layH_words (N:List Nat) (hN:∀ n∈N,n < 18446744073709551616):∀ (M:List Nat),layH (M ++ List.replicate N.length 0) (M.length * 16) (N.flatMap (zgv 16)) = M ++ N:=by
 induction N with
 | nil=>intro M; simp [layH]
 | cons n N ih =>
  intro M;rw [List.flatMap_cons,zh8,zet];have hl:M.length < (M ++ List.replicate (n :: N).length 0).length:=by simp
  have h1:=layH_one (zgv 16 n) (M ++ List.replicate (n :: N).length 0) M.length 0 hl (by rw [zet]; omega);rw [Nat.add_zero] at h1;have h0:(M ++ List.replicate (n :: N).length 0).getD M.length 0 = 0:=by simp [List.getD]
  rw [h1,h0,hexFold_word (hN n List.mem_cons_self)]
  have h2:(M ++ List.replicate (n :: N).length 0).set M.length n = (M ++ [n]) ++ List.replicate N.length 0:=by
   rw [List.set_append_right _ _ xnl,Nat.sub_self,List.length_cons,List.replicate_succ,List.set_cons_zero]; simp
  rw [h2];have:=ih (fun x hx=>hN x (List.mem_cons_of_mem _ hx)) (M ++ [n])
  rw [show (M ++ [n]).length * 16 = M.length * 16 + 16 by simp; omega] at this;rw [this]; simp
end
section
def hexB (b:BitsL):List UInt8:=(b.words.map Int.toNat).flatMap (zgv 16)
def zfw (c:UInt8):Bool:=(valH c).isSome
def zc0 (t:List UInt8):Option BitsL :=
 if zb6 (4 * (t.length:Int)) = true then (if t.all zfw = true then some ⟨4 * (t.length:Int),(layH (List.replicate (t.length / 16) 0) 0 t).map fun n:Nat=>(n:Int)⟩ else none) else none
theorem hexN_all (k:Nat):∀ n,(zgv k n).all zfw = true:=by
 induction k with
 | zero=>intro n; rfl
 | succ k ih =>
  intro n;rw [zgv,List.all_append,ih,Bool.true_and,List.all_cons,List.all_nil,Bool.and_true];unfold zfw;rw [valH_dig _ (Nat.mod_lt _ (by decide))]; rfl
theorem flat_all (N:List Nat):(N.flatMap (zgv 16)).all zfw = true:=by
 induction N with
 | nil=>rfl
 | cons n N ih=>rw [List.flatMap_cons,List.all_append,hexN_all,ih]; rfl
theorem flat16 (N:List Nat):(N.flatMap (zgv 16)).length = N.length * 16:=by
 induction N with
 | nil=>rfl
 | cons n N ih=>rw [List.flatMap_cons,List.length_append,zet,ih,List.length_cons]; omega
theorem zhr (b:BitsL):(hexB b).length = b.words.length * 16:=by unfold hexB; rw [flat16,List.length_map]
theorem hexB_back (b:BitsL) (hv:zbv b = true) (hw:∀ w∈b.words,0≤w∧w < 18446744073709551616):zc0 (hexB b) = some b:=by
 unfold zbv at hv;simp only [Bool.and_eq_true,beq_iff_eq] at hv;obtain ⟨h1,h2⟩:=hv;have h1':=h1;unfold zb6 at h1';simp only [Bool.and_eq_true,decide_eq_true_eq,beq_iff_eq] at h1';obtain ⟨⟨g1,g2⟩,g3⟩:=h1';have hl:=zhr b;have hlen:4 * ((hexB b).length:Int) = b.len:=by rw [hl]; omega
 unfold zc0;rw [hlen,if_pos h1,if_pos (by unfold hexB; exact flat_all _)];have hd:(hexB b).length / 16 = (b.words.map Int.toNat).length:=by rw [hl,List.length_map]; omega
 rw [hd]
 have hN:∀ n∈b.words.map Int.toNat,n < 18446744073709551616:=by
  intro n hn;obtain ⟨w,hw',rfl⟩:=List.mem_map.1 hn;have:=hw w hw';omega
 have:=layH_words (b.words.map Int.toNat) hN [];rw [List.nil_append,List.length_nil,Nat.zero_mul,List.nil_append] at this;show some (BitsL.mk b.len ((layH _ 0 ((b.words.map Int.toNat).flatMap (zgv 16))).map fun n:Nat=>(n:Int))) = _
 rw [this,List.map_map]
 have he:b.words.map ((fun n:Nat=>(n:Int)) ∘ Int.toNat) = b.words:=by
  conv=>rhs; rw [← List.map_id b.words]
  refine List.map_congr_left fun w hw'=>?_
  have:=hw w hw';show ((w.toNat:Nat):Int) = w;omega
 rw [he]
end
section
open Go.RowKit
attribute [local go_sem] zah zaj zaq
theorem infoF:(prog.info? 95).map (fun i=>(i.zero,i.size,i.bytes)) = some (some (.agg #[.string ⟨#[]⟩,.int .i64 0]),2,24):=by kernel_rfl
structure SchemaD (s:SchemaL):Prop where
 fields:FieldsD s.fields
 some:1≤s.fields.length
 rules:RulesD s.rules
theorem SchemaD.check {s:SchemaL} (h:SchemaD s):zax s = 0:=h.fields.check h.some h.rules.check
def nil4:Array Value:=#[.slice none 0 0,.slice none 0 0,.slice none 0 0,.slice none 0 0]
structure SMid (D:Nat) (w:World) (y:Nat) (vt vn vs:Value) (r:RulesL) (vf:Value) (F:List F2) (wr:World):Prop where
 z:wr.heap[w.heap.size]? = some (.cells nil4 44 (0,0))
 s:wr.heap[y]? = some (.cells #[vf,vt,vn,vs] 44 (0,0))
 n:RowB wr (y + 1) namesD
 own:wr.ownsRow (y + 2) 95 2 vf F.length (F.flatMap encF)
 rules:RulesAt wr (fun b=>w.heap.size < b∧b < y) vt vn vs r
 fields:FieldsD F
 moved:Moved D w wr
 lt:w.heap.size < y
theorem own_same {w w':World} {B e size n:Nat} {v:Value} {xs:List Value} (h:w.ownsRow B e size v n xs) (hs:∀ g,B≤g→g < w.heap.size→w'.heap[g]? = w.heap[g]?):w'.ownsRow B e size v n xs:=by
 refine ⟨h.1,?_⟩
 rcases h.2 with h0 | ⟨g,cap,cur,hv,hg,hh,rest⟩
 ·exact .inl h0
 ·exact .inr ⟨g,cap,cur,hv,hg,(hs g hg (zaa hh)).trans hh,rest⟩
theorem za1 {w:World} {B e size n:Nat} {v:Value} {xs:List Value} (h:w.ownsRow B e size v n xs):∃ a c,v = .slice a n c:=by
 rcases h.2 with ⟨rfl,rfl⟩ | ⟨g,cap,cur,hv,_⟩
 ·exact ⟨none,0,rfl⟩
 ·exact ⟨_,_,hv⟩
theorem own_far {w:World} {B e size n:Nat} {v:Value} {xs:List Value} (h:w.ownsRow B e size v n xs) {k:Nat} (hk:k < B):some k≠v.ownBlock:=by
 rcases h.2 with ⟨rfl,rfl⟩ | ⟨g,cap,cur,rfl,hg,_⟩
 ·simp [Value.ownBlock]
 ·simp [Value.ownBlock]; omega
theorem SMid.gone {D:Nat} {w:World} {y:Nat} {vt vn vs:Value} {r:RulesL} {vf:Value} {F:List F2} {wr wd:World} (h:SMid D w y vt vn vs r vf F wr) (hD:D < w.heap.size) (m:Moved D wr wd):SMid D w y vt vn vs r vf F wd:=by
 have hy:=h.lt;have hb:∀ b,b < wr.heap.size→w.heap.size≤b→wd.heap[b]? = wr.heap[b]?:=fun b hb hS=>m.grown.block b hb (by simp; omega)
 refine ⟨m.blk (by omega) h.z,m.blk (by omega) h.s,m.blk (by omega) h.n,own_same h.own fun g h1 h2=>hb g h2 (by omega),?_,h.fields,h.moved.trans m,h.lt⟩
 exact ⟨h.rules.1.move m.size fun b hb' hS=>⟨hb b hb' (by have:=hS.1; omega),hS⟩,h.rules.2.1.move m.size fun b hb' hS=>⟨hb b hb' (by have:=hS.1; omega),hS⟩,h.rules.2.2.move m.size fun b hb' hS=>⟨hb b hb' (by have:=hS.1; omega),hS⟩⟩
theorem SMid.step {D:Nat} {w:World} {y:Nat} {vt vn vs:Value} {r:RulesL} {vf v:Value} {F:List F2} {x:F2} {wr wA w2:World} (h:SMid D w y vt vn vs r vf F wr) (hD:D < w.heap.size) (hb:Below wr.heap.size wr wA) (hg:wA.grownBy w2 vf.ownBlock)
  (hown:w2.ownsRow (y + 2) 95 2 v (F.length + 1) (F.flatMap encF ++ encF x)) (hx:FieldsD (F ++ [x])):SMid D w y vt vn vs r v (F ++ [x]) (w2.setCell ⟨y,0,none⟩ v):=by
 have hy:=h.lt;have zn:y + 1 < wr.heap.size:=zaa h.n;have hz:=hb.size; have hz2:=hg.size;have k1:∀ k,k < y + 2→w2.heap[k]? = wr.heap[k]?:=fun k hk=>(hg.block k (by omega) (own_far h.own hk)).trans (hb.block k (by omega))
 have k2:∀ k,k < y + 2→k≠y→(w2.setCell ⟨y,0,none⟩ v).heap[k]? = wr.heap[k]?:=fun k hk hne=>(heap_setCell_other _ _ _ _ hne).trans (k1 k hk)
 have hs:(w2.setCell ⟨y,0,none⟩ v).heap.size = w2.heap.size:=by simp [World.setCell]
 refine ⟨(k2 _ (by omega) (by omega)).trans h.z,zad (i:=0) (v:=v) ((k1 y (by omega)).trans h.s),(k2 _ (by omega) (by omega)).trans h.n,?_,?_,hx,?_,hy⟩
 ·rw [List.length_append,List.flatMap_append,show [x].flatMap encF = encF x by simp]
  exact own_same hown fun g h1 h2=>heap_setCell_other _ _ _ _ (by simp; omega)
 ·have mv:∀ b,b < wr.heap.size→(w.heap.size < b∧b < y)→(w2.setCell ⟨y,0,none⟩ v).heap[b]? = wr.heap[b]?∧(w.heap.size < b∧b < y):=fun b _ hS=>⟨k2 b (by omega) (by omega),hS⟩
  exact ⟨h.rules.1.move (by omega) mv,h.rules.2.1.move (by omega) mv,h.rules.2.2.move (by omega) mv⟩
 ·have m:=h.moved
  refine ⟨⟨hg.os.trans (hb.os.trans m.grown.os),hg.tape.trans (hb.tape.trans m.grown.tape),hg.output.trans (hb.output.trans m.grown.output),by have:=m.size; omega,fun k hk hr=>?_⟩,m.deck.same fun k hk=>k2 k (by omega) (by omega),m.lt⟩
  exact (k2 k (by omega) (by omega)).trans (m.grown.block k hk hr)
def SchemaPost (D:Nat) (w:World) (e:Ending) (w':World):Prop:=∃ vf vt vn vs s,e = .returned (.agg #[vf,vt,vn,vs])∧SchemaAt w' (fun b=>w.heap.size≤b) vf vt vn vs s∧SchemaD s∧Moved D w w'
end
section
open Go.RowKit
attribute [local go_sem] zah zaj
@[local go_sem] theorem get_zeroP (c:UInt8) (l:List UInt8) (h:0 < (⟨(c :: l).toArray⟩:ByteArray).size):(⟨(c :: l).toArray⟩:ByteArray)[0]'h = c:=rfl
end
section
open Go.RowKit
attribute [local go_sem] zah zaj
theorem hexD_get (n:Nat) (h:n < hexD.length) (h':n < (⟨hexD.toArray⟩:ByteArray).size):(⟨hexD.toArray⟩:ByteArray)[n]'h' = digH n:=by
 show hexD.toArray[n] = _;unfold digH;rw [List.getElem_toArray,List.getD,List.getElem?_eq_getElem h]; rfl
theorem hexN_more {k n:Nat} (h:k < 16):(zgv 16 n).take (k + 1) = (zgv 16 n).take k ++ [digH (n / 16 ^ (15 - k) % 16)]:=by
 rw [List.take_add_one,hexN_get 16 n k h]; rfl
theorem valid_len {b:BitsL} (h:zbv b = true):b.words.length≤8:=by
 unfold zbv zb6 at h;simp only [Bool.and_eq_true,beq_iff_eq,decide_eq_true_eq] at h;omega
theorem valid_in {b:BitsL} (h:zbv b = true):InI b.len:=by
 unfold zbv zb6 at h;simp only [Bool.and_eq_true,beq_iff_eq,decide_eq_true_eq] at h;exact ⟨by omega,by omega⟩
theorem bits_range (op:BinOp) (x y:Int):0≤bits op .u64 x y∧bits op .u64 x y < 18446744073709551616:=by
 unfold bits;rw [IntKind.wrap_u64];constructor <;> omega
theorem and_15 (m:Nat) (h:m < 18446744073709551616):bits .and .u64 (m:Int) 15 = ((m % 16:Nat):Int):=by
 unfold bits;rw [IntKind.wrap_u64];have e1:(BitVec.ofInt 64 (m:Int)).toNat = m:=by rw [BitVec.toNat_ofInt]; simp; omega
 have e2:(BitVec.ofInt 64 15).toNat = 15:=by decide
 have e3:((BitVec.ofInt 64 (m:Int)) &&& (BitVec.ofInt 64 15)).toNat = m % 16:=by
  rw [BitVec.toNat_and,e1,e2];exact Nat.and_two_pow_sub_one_eq_mod m 4
 show ((((BitVec.ofInt 64 (m:Int)) &&& (BitVec.ofInt 64 15)).toNat:Nat):Int) % _ = _;rw [e3]; omega
theorem nib_at (n k:Nat) (h:n < 18446744073709551616) (hk:k < 16):bits .and .u64 ((n:Int) / 2 ^ (60 - 4 * k)) 15 = ((n / 16 ^ (15 - k) % 16:Nat):Int):=by
 have e:((n:Int) / 2 ^ (60 - 4 * k)) = ((n / 2 ^ (60 - 4 * k):Nat):Int):=by simp
 rw [e,and_15 _ (Nat.lt_of_le_of_lt (Nat.div_le_self _ _) h)]
 have e2:2 ^ (60 - 4 * k) = 16 ^ (15 - k):=by
  rw [show 60 - 4 * k = 4 * (15 - k) by omega,Nat.pow_mul]
 rw [e2]
theorem hex_yes (S:Nat→Prop) (v:Value) (b:BitsL) (w:World) (h:BitsAt w S v b) (hv:zbv b = true) (hw:∀ x∈b.words,0≤x∧x < 18446744073709551616) :
  Calls prog 78 #[v] w fun e w'=>e = .returned (.tuple #[zal (hexB b),.int .i64 0])∧Below w.heap.size w w':=by
 have hl8:=valid_len hv;have hi:=valid_in hv;obtain ⟨c,rfl,hA⟩:=h.form;obtain ⟨sv,esv,hvec⟩:=hA;obtain ⟨bl,ba,bn,bc⟩:=c;dsimp only [zbp] at esv ⊢
 have e0:bl = b.len:=by
  have:=congrArg (fun v=>match v with | Value.agg cs=>cs.getD 0 undef | _=>undef) esv
  simpa using this
 have e1:sv = .slice ba bn bc:=by
  have:=congrArg (fun v=>match v with | Value.agg cs=>cs.getD 1 undef | _=>undef) esv
  simpa using this.symm
 subst e0 e1;have hn:=hvec.len;obtain ⟨hn1,hn2⟩:=hn;subst hn1;have HA:=zi5 (show BitsAt w S (.agg #[.int .i64 b.len,.slice ba b.words.length bc]) b from ⟨_,rfl,hvec⟩);have HVc:=zi5 hvec; have HV:=zi5 hv; have HW:=zi5 hw;clear h hv hw esv hvec hn2;go_enter func78,ntmps78
 go_wp2_with fail
 refine zae (fun W hW=>?_)
 have hb0:=xal hW
 have hx0:W.heap[w.heap.size]? = some (.cells #[.int .i64 b.len,.slice ba b.words.length bc] 78 (0,0)):=by rw [hW]; exact zac rfl
 clear hW;refine (bvalid_any S _ b _ (HA.out.below hb0) hi.1 hi.2).mono ?_;rw [HV.out];rintro e w1 ⟨rfl,hb⟩;have hx1:=zab hb (zaa hx0) hx0;have HB1:=zi5 (hb0.trans (hb.mono hb0.size));obtain ⟨x0,x1⟩:=zak hx1;clear hb hb0 hx0 hx1;go_wp2_with fail
 go_loopw [4,6,7,14] (fun v _ _ i wr=>∃ (j:Nat) (out:List UInt8),i = .int .i64 j∧j≤b.words.length∧OwnV 5 1 encB w v out wr∧out.length = 16 * j∧Hid (out ++ ((b.words.drop j).map Int.toNat).flatMap (zgv 16) = hexB b)) (fun _ _ _ i _=>b.words.length - (intOf i).toNat)
 case atStart=>exact ⟨0,[],rfl,by omega,OwnV.nil HB1.out,rfl,zi5 rfl⟩
 case round =>
  obtain ⟨j,out,rfl,hj,ho,hol,HT⟩:=hrel;by_cases hlt:j < b.words.length
  ·have hq:decide ((j:Int) < b.words.length) = true:=by simp; omega
   have hji:(j:Int) < (b.words.length:Int):=by omega
   obtain ⟨x,hx⟩:∃ x,b.words[j] = x:=⟨_,rfl⟩;have hxr:=HW.out x (by rw [← hx]; exact List.getElem_mem _);obtain ⟨n,rfl⟩:=Int.eq_ofNat_of_zero_le hxr.1;have hn64:n < 18446744073709551616:=by omega
   obtain ⟨bb,oo,rfl,lb,gc⟩:=(HVc.out.below ho.2).get j hlt;have c0:=gc 0 _ rfl;rw [Nat.mul_one,Nat.add_zero,hx] at c0;have hT:=HT.out;rw [List.drop_eq_getElem_cons hlt,hx,List.map_cons,List.flatMap_cons,Int.toNat_natCast,← List.append_assoc] at hT;have HT2:=zi5 hT;have HO:=zi5 ho;clear gc hT ho hx hxr HT x0 x1;go_wp2_with fail
   go_loopw [4,7] (fun v sh wr=>∃ k:Nat,k≤16∧sh = .int .i64 (60 - 4 * (k:Int))∧OwnV 5 1 encB w v (out ++ (zgv 16 n).take k) wr) (fun _ sh _=>(intOf sh + 4).toNat)
   case atStart=>exact ⟨0,by omega,rfl,by simpa using HO.out⟩
   case round =>
    obtain ⟨k,hk,rfl,ho⟩:=hrel;by_cases hk16:k < 16
    ·have hq1:decide ((0:Int)≤60 - 4 * (k:Int)) = true:=by simp only [decide_eq_true_eq]; omega
     obtain ⟨d,hd⟩:∃ d,n / 16 ^ (15 - k) % 16 = d:=⟨_,rfl⟩;have hd16:d < 16:=by rw [← hd]; exact Nat.mod_lt _ (by decide)
     have hnib:bits .and .u64 ((n:Int) / 2 ^ (60 - 4 * k)) 15 = (d:Int):=by rw [nib_at n k hn64 hk16,hd]
     have hmore:=hexN_more (n:=n) hk16;rw [hd] at hmore;have hdl:d < hexD.length:=hd16;have hgd:∀ h:d < (⟨#[48,49,50,51,52,53,54,55,56,57,97,98,99,100,101,102]⟩:ByteArray).size,(⟨#[48,49,50,51,52,53,54,55,56,57,97,98,99,100,101,102]⟩:ByteArray)[d]'h = digH d:=fun h=>hexD_get d hdl h
     have hcn:(out ++ (zgv 16 n).take k).length + ([digH d]:List UInt8).length≤1000000000:=by simp; omega
     have HO1:=zi5 (ho.below ((Below.refl wr.heap.size wr).alloc xnl (.cells #[ze1 (digH d)] 5)));have HR1:=zi5 (show zco (wr.alloc (.cells #[ze1 (digH d)] 5)) 1 (.slice (some ⟨wr.heap.size,0,none⟩) 1 1) ([digH d]:List UInt8).length (([digH d]:List UInt8).flatMap encB) from zav (t:=5) (fr:=(0,0)) (zac rfl) rfl);have HMr:=zi5 hmore;obtain ⟨av,cv,rfl⟩:=za1 ho.1;clear hd hmore ho;go_wp2_with (at_builtin; refine zch rfl (.tmp 22) (.tmp 28) 181 rfl 5 (.int .u8 0) 1 1 encB (fun _=>rfl) one_encB underlying181 infoBy rfl (by decide) (by decide) (w0:=w) (v:=.slice av (out ++ (zgv 16 n).take k).length cv) (A:=out ++ (zgv 16 n).take k) (B:=[digH d]) rfl HO1.out rfl HR1.out hcn ?_; intro v2 w2 ho2 hk2 hz2)
     go_roundw
     case rel=>exact ⟨k + 1,by omega,by congr 1; omega,by rw [HMr.out,← List.append_assoc]; exact ho2⟩
     case measure=>simp [intOf]; omega
    ·obtain rfl:k = 16:=by omega
     have hq1:decide ((0:Int)≤60 - 4 * ((16:Nat):Int)) = false:=by decide
     rw [List.take_of_length_le (by rw [zet]; omega)] at ho;have HO1:=zi5 ho;obtain ⟨av,cv,rfl⟩:=za1 ho.1;clear ho;go_wp2_with fail
     go_roundw
     case rel=>exact ⟨j + 1,out ++ zgv 16 n,by go_num,by omega,HO1.out,by rw [List.length_append,zet]; omega,HT2⟩
     case measure=>simp [intOf]; omega
  ·have hq:decide ((j:Int) < b.words.length) = false:=by simp; omega
   obtain rfl:j = b.words.length:=by omega
   have hT:=HT.out;rw [List.drop_length,List.map_nil,List.flatMap_nil,List.append_nil] at hT;subst hT;obtain ⟨av,cv,rfl⟩:=za1 ho.1;have HOw:=zi5 ho;have hown:=ho.1;rw [flatB] at hown;have hconv:=zb1 (P:=prog) (hexB b) hown underlying181 underlying5 underlying9;clear ho hown hol;go_wp2_with fail
   go_ret2;exact ⟨rfl,HOw.out.2⟩
end
end Go.Proofs.YtpmpdonccgcehaaGreatDoor
section
namespace Go.Proofs
open Go.Shelf
def Tryz.laysM171_ren:Go.Shelf.Ren:=⟨fun | 171=>77 | 243=>136 | 246=>187 | 283=>232 | 284=>233 | 285=>234 | 286=>235 | 129=>265 | 317=>264 | 318=>266 | 319=>267 | 320=>268 | 337=>305 | 338=>306 | n=>n,fun | 3=>3 | 9=>9 | 2=>2 | 4=>4 | 171=>253 | 0=>0 | 53=>24 | 37=>181 | 5=>5 | 173=>256 | 212=>286 | 51=>287 | 20=>20 | 213=>288 | 46=>101 | 232=>320 | 233=>321 | n=>n,fun | 17=>2 | 18=>6 | 19=>7 | n=>n⟩
theorem Tryz.laysM171:Go.Proofs.LaysM.n171 prog Tryz.laysM171_ren:={
 mixed:=by kernel_rfl
 f129:=func265.trans (congrArg some (by kernel_rfl))
 f171:=func77.trans (congrArg some (by kernel_rfl))
 f243:=func136.trans (congrArg some (by kernel_rfl))
 f246:=func187.trans (congrArg some (by kernel_rfl))
 f283:=func232.trans (congrArg some (by kernel_rfl))
 f284:=func233.trans (congrArg some (by kernel_rfl))
 f285:=func234.trans (congrArg some (by kernel_rfl))
 f286:=func235.trans (congrArg some (by kernel_rfl))
 f317:=func264.trans (congrArg some (by kernel_rfl))
 f318:=func266.trans (congrArg some (by kernel_rfl))
 f319:=func267.trans (congrArg some (by kernel_rfl))
 f320:=func268.trans (congrArg some (by kernel_rfl))
 f337:=func305.trans (congrArg some (by kernel_rfl))
 f338:=func306.trans (congrArg some (by kernel_rfl))
 t0:=underlying0
 a0:=Tryz.isAgg0
 z0:=Tryz.sizeOf0
 v0:=Tryz.zeroValue0
 t2:=underlying2
 a2:=Tryz.isAgg2
 z2:=Tryz.sizeOf2
 v2:=Tryz.zeroValue2
 t3:=underlying3
 a3:=Tryz.isAgg3
 z3:=Tryz.sizeOf3
 v3:=Tryz.zeroValue3
 t4:=underlying4
 a4:=Tryz.isAgg4
 z4:=Tryz.sizeOf4
 v4:=Tryz.zeroValue4
 t5:=underlying5
 a5:=Tryz.isAgg5
 z5:=Tryz.sizeOf5
 v5:=Tryz.zeroValue5
 t9:=underlying9
 a9:=Tryz.isAgg9
 z9:=Tryz.sizeOf9
 v9:=Tryz.zeroValue9
 t20:=underlying20
 a20:=Tryz.isAgg20
 z20:=Tryz.sizeOf20
 v20:=Tryz.zeroValue20
 t37:=underlying181
 a37:=Tryz.isAgg181
 z37:=Tryz.sizeOf181
 v37:=Tryz.zeroValue181
 t46:=underlying101
 a46:=Tryz.isAgg101
 z46:=Tryz.sizeOf101
 v46:=Tryz.zeroValue101
 t51:=underlying287
 a51:=Tryz.isAgg287
 z51:=Tryz.sizeOf287
 v51:=Tryz.zeroValue287
 t53:=underlying24
 a53:=Tryz.isAgg24
 z53:=Tryz.sizeOf24
 v53:=Tryz.zeroValue24
 t171:=underlying253
 a171:=Tryz.isAgg253
 z171:=Tryz.sizeOf253
 v171:=Tryz.zeroValue253
 t173:=underlying256
 a173:=Tryz.isAgg256
 z173:=Tryz.sizeOf256
 v173:=Tryz.zeroValue256
 t212:=underlying286
 a212:=Tryz.isAgg286
 z212:=Tryz.sizeOf286
 v212:=Tryz.zeroValue286
 t213:=underlying288
 a213:=Tryz.isAgg288
 z213:=Tryz.sizeOf288
 t232:=underlying320
 a232:=Tryz.isAgg320
 z232:=Tryz.sizeOf320
 v232:=Tryz.zeroValue320
 t233:=underlying321
 a233:=Tryz.isAgg321
 z233:=Tryz.sizeOf321
 v233:=Tryz.zeroValue321
 g17:=by kernel_rfl
 g18:=by kernel_rfl
 g19:=by kernel_rfl
 i0:=by kernel_rfl
 i2:=by kernel_rfl
 i3:=by kernel_rfl
 i4:=by kernel_rfl
 i5:=by kernel_rfl
 i9:=by kernel_rfl
 i20:=by kernel_rfl
 i37:=by kernel_rfl
 i46:=by kernel_rfl
 i51:=by kernel_rfl
 i53:=by kernel_rfl
 i171:=by kernel_rfl
 i173:=by kernel_rfl
 i212:=by kernel_rfl
 i232:=by kernel_rfl
 i233:=by kernel_rfl
 m17:=by kernel_rfl
 m18:=by kernel_rfl
 m19:=by kernel_rfl }
open Go.RowKit Go.Sort Go.Lib in
theorem Tryz.strconv_Itoa (n : Int) (h0 : -9223372036854775808 ≤ n) (h1 : n ≤ 9223372036854775807) (w : World) (htab : Lib.TabIs prog w "internal/strconv.uint64pow10" .u64 Lib.pow10Tab) :
  Calls prog 77 #[.int .i64 n] w fun e w'=>e = .returned (.string ⟨(Lib.itoa n).toArray⟩)∧∃ k os,w' = grow (w.drewN k) os:=Any.strconv_Itoa Tryz.laysM171 n h0 h1 w htab
def Tryz.laysC172_ren:Go.Shelf.Ren:=⟨fun | 172=>86 | 244=>145 | 245=>146 | 247=>195 | 279=>196 | 280=>197 | 281=>198 | 282=>199 | 287=>243 | 316=>244 | 171=>77 | 205=>245 | 321=>274 | 322=>275 | 243=>136 | 246=>187 | 283=>232 | 284=>233 | 285=>234 | 286=>235 | 129=>265 | 317=>264 | 318=>266 | 319=>267 | 320=>268 | 337=>305 | 338=>306 | n=>n,fun | 9=>9 | 3=>3 | 75=>123 | 76=>124 | 4=>4 | 5=>5 | 167=>219 | 37=>181 | 0=>0 | 85=>220 | 2=>2 | 168=>222 | 53=>24 | 175=>265 | 46=>101 | 210=>268 | 127=>215 | 145=>292 | 143=>290 | 21=>21 | 171=>253 | 173=>256 | 212=>286 | 51=>287 | 20=>20 | 213=>288 | 232=>320 | 233=>321 | 80=>186 | n=>n,fun | 15=>0 | 16=>1 | 17=>2 | 18=>6 | 19=>7 | n=>n⟩
theorem Tryz.laysC172:Go.Proofs.LaysC.n172 prog Tryz.laysC172_ren:={
 mixed:=by kernel_rfl
 f129:=func265.trans (congrArg some (by kernel_rfl))
 f171:=func77.trans (congrArg some (by kernel_rfl))
 f172:=func86.trans (congrArg some (by kernel_rfl))
 f205:=func245.trans (congrArg some (by kernel_rfl))
 f243:=func136.trans (congrArg some (by kernel_rfl))
 f244:=func145.trans (congrArg some (by kernel_rfl))
 f245:=func146.trans (congrArg some (by kernel_rfl))
 f246:=func187.trans (congrArg some (by kernel_rfl))
 f247:=func195.trans (congrArg some (by kernel_rfl))
 f279:=func196.trans (congrArg some (by kernel_rfl))
 f280:=func197.trans (congrArg some (by kernel_rfl))
 f281:=func198.trans (congrArg some (by kernel_rfl))
 f282:=func199.trans (congrArg some (by kernel_rfl))
 f283:=func232.trans (congrArg some (by kernel_rfl))
 f284:=func233.trans (congrArg some (by kernel_rfl))
 f285:=func234.trans (congrArg some (by kernel_rfl))
 f286:=func235.trans (congrArg some (by kernel_rfl))
 f287:=func243.trans (congrArg some (by kernel_rfl))
 f316:=func244.trans (congrArg some (by kernel_rfl))
 f317:=func264.trans (congrArg some (by kernel_rfl))
 f318:=func266.trans (congrArg some (by kernel_rfl))
 f319:=func267.trans (congrArg some (by kernel_rfl))
 f320:=func268.trans (congrArg some (by kernel_rfl))
 f321:=func274.trans (congrArg some (by kernel_rfl))
 f322:=func275.trans (congrArg some (by kernel_rfl))
 f337:=func305.trans (congrArg some (by kernel_rfl))
 f338:=func306.trans (congrArg some (by kernel_rfl))
 t0:=underlying0
 a0:=Tryz.isAgg0
 z0:=Tryz.sizeOf0
 v0:=Tryz.zeroValue0
 t2:=underlying2
 a2:=Tryz.isAgg2
 z2:=Tryz.sizeOf2
 v2:=Tryz.zeroValue2
 t3:=underlying3
 a3:=Tryz.isAgg3
 z3:=Tryz.sizeOf3
 v3:=Tryz.zeroValue3
 t4:=underlying4
 a4:=Tryz.isAgg4
 z4:=Tryz.sizeOf4
 v4:=Tryz.zeroValue4
 t5:=underlying5
 a5:=Tryz.isAgg5
 z5:=Tryz.sizeOf5
 v5:=Tryz.zeroValue5
 t9:=underlying9
 a9:=Tryz.isAgg9
 z9:=Tryz.sizeOf9
 v9:=Tryz.zeroValue9
 t20:=underlying20
 a20:=Tryz.isAgg20
 z20:=Tryz.sizeOf20
 v20:=Tryz.zeroValue20
 t21:=underlying21
 a21:=Tryz.isAgg21
 z21:=Tryz.sizeOf21
 v21:=Tryz.zeroValue21
 t37:=underlying181
 a37:=Tryz.isAgg181
 z37:=Tryz.sizeOf181
 v37:=Tryz.zeroValue181
 t46:=underlying101
 a46:=Tryz.isAgg101
 z46:=Tryz.sizeOf101
 v46:=Tryz.zeroValue101
 t51:=underlying287
 a51:=Tryz.isAgg287
 z51:=Tryz.sizeOf287
 v51:=Tryz.zeroValue287
 t53:=underlying24
 a53:=Tryz.isAgg24
 z53:=Tryz.sizeOf24
 v53:=Tryz.zeroValue24
 t75:=underlying123
 a75:=Tryz.isAgg123
 z75:=Tryz.sizeOf123
 v75:=Tryz.zeroValue123
 t76:=underlying124
 a76:=Tryz.isAgg124
 z76:=Tryz.sizeOf124
 v76:=Tryz.zeroValue124
 t85:=underlying220
 a85:=Tryz.isAgg220
 z85:=Tryz.sizeOf220
 v85:=Tryz.zeroValue220
 t127:=underlying215
 a127:=Tryz.isAgg215
 z127:=Tryz.sizeOf215
 v127:=Tryz.zeroValue215
 t143:=underlying290
 a143:=Tryz.isAgg290
 z143:=Tryz.sizeOf290
 v143:=Tryz.zeroValue290
 t145:=underlying292
 a145:=Tryz.isAgg292
 z145:=Tryz.sizeOf292
 v145:=Tryz.zeroValue292
 t167:=underlying219
 a167:=Tryz.isAgg219
 z167:=Tryz.sizeOf219
 v167:=Tryz.zeroValue219
 t168:=underlying222
 a168:=Tryz.isAgg222
 z168:=Tryz.sizeOf222
 v168:=Tryz.zeroValue222
 t171:=underlying253
 a171:=Tryz.isAgg253
 z171:=Tryz.sizeOf253
 v171:=Tryz.zeroValue253
 t173:=underlying256
 a173:=Tryz.isAgg256
 z173:=Tryz.sizeOf256
 v173:=Tryz.zeroValue256
 t175:=underlying265
 a175:=Tryz.isAgg265
 z175:=Tryz.sizeOf265
 v175:=Tryz.zeroValue265
 t210:=underlying268
 a210:=Tryz.isAgg268
 z210:=Tryz.sizeOf268
 v210:=Tryz.zeroValue268
 t212:=underlying286
 a212:=Tryz.isAgg286
 z212:=Tryz.sizeOf286
 v212:=Tryz.zeroValue286
 t213:=underlying288
 a213:=Tryz.isAgg288
 z213:=Tryz.sizeOf288
 t232:=underlying320
 a232:=Tryz.isAgg320
 z232:=Tryz.sizeOf320
 v232:=Tryz.zeroValue320
 t233:=underlying321
 a233:=Tryz.isAgg321
 z233:=Tryz.sizeOf321
 v233:=Tryz.zeroValue321
 g15:=by kernel_rfl
 g16:=by kernel_rfl
 g17:=by kernel_rfl
 g18:=by kernel_rfl
 g19:=by kernel_rfl
 t80:=underlying186
 a80:=Tryz.isAgg186
 z80:=Tryz.sizeOf186
 v80:=Tryz.zeroValue186
 i0:=by kernel_rfl
 i2:=by kernel_rfl
 i3:=by kernel_rfl
 i4:=by kernel_rfl
 i5:=by kernel_rfl
 i9:=by kernel_rfl
 i20:=by kernel_rfl
 i21:=by kernel_rfl
 i37:=by kernel_rfl
 i46:=by kernel_rfl
 i51:=by kernel_rfl
 i53:=by kernel_rfl
 i75:=by kernel_rfl
 i76:=by kernel_rfl
 i80:=by kernel_rfl
 i85:=by kernel_rfl
 i127:=by kernel_rfl
 i143:=by kernel_rfl
 i145:=by kernel_rfl
 i167:=by kernel_rfl
 i168:=by kernel_rfl
 i171:=by kernel_rfl
 i173:=by kernel_rfl
 i175:=by kernel_rfl
 i210:=by kernel_rfl
 i212:=by kernel_rfl
 i232:=by kernel_rfl
 i233:=by kernel_rfl
 m15:=by kernel_rfl
 m16:=by kernel_rfl
 m17:=by kernel_rfl
 m18:=by kernel_rfl
 m19:=by kernel_rfl
 c0:=by kernel_rfl
 c2:=by kernel_rfl
 c3:=by kernel_rfl
 c4:=by kernel_rfl
 c5:=by kernel_rfl
 c9:=by kernel_rfl
 c20:=by kernel_rfl
 c21:=by kernel_rfl
 c37:=by kernel_rfl
 c46:=by kernel_rfl
 c51:=by kernel_rfl
 c53:=by kernel_rfl
 c75:=by kernel_rfl
 c76:=by kernel_rfl
 c80:=by kernel_rfl
 c85:=by kernel_rfl
 c127:=by kernel_rfl
 c143:=by kernel_rfl
 c145:=by kernel_rfl
 c167:=by kernel_rfl
 c168:=by kernel_rfl
 c171:=by kernel_rfl
 c173:=by kernel_rfl
 c175:=by kernel_rfl
 c210:=by kernel_rfl
 c212:=by kernel_rfl
 c213:=by kernel_rfl
 c232:=by kernel_rfl
 c233:=by kernel_rfl }
open Go.RowKit in
theorem Tryz.strconv_Atoi_ok (s:ByteArray) (hmax:s.size≤9223372036854775806) (v:Int) (h:Lib.atoiAll s.data.toList = .ok v) (w:World) :
  Calls prog 86 #[.string s] w fun e w'=>e = .returned (.tuple #[.int .i64 v,.nilIface])∧(w' = w∨∃ t,w' = Lib.bytesWorld w 5 t):=Any.strconv_Atoi_ok Tryz.laysC172 s hmax v h w
open Go.RowKit in
theorem Tryz.strconv_Atoi_syntax (s:ByteArray) (hlim:s.size≤281474976710656) (h:Lib.atoiAll s.data.toList = .«syntax») (ev:Value) (w:World) (hv:w.cell? ⟨0,0,none⟩ = some ev) (hev:ev = .nilIface∨∃ te pe,ev = .iface te pe) :
  Calls prog 86 #[.string s] w fun e w'=>∃ N,e = .returned (.tuple #[.int .i64 (0),.iface 222 (.pointer (some ⟨N,0,none⟩))])∧w.heap.size≤N∧w'.heap[N]? = some (.cells #[.string ⟨#[65,116,111,105]⟩,.string s,ev] 268 (0,0))∧Below w.heap.size w w':=Any.strconv_Atoi_syntax Tryz.laysC172 s hlim h ev w hv hev
open Go.RowKit in
theorem Tryz.strconv_Atoi_range (s:ByteArray) (hlim:s.size≤281474976710656) (h:Lib.atoiAll s.data.toList = .range) (ev:Value) (w:World) (hv:w.cell? ⟨1,0,none⟩ = some ev) (hev:ev = .nilIface∨∃ te pe,ev = .iface te pe) :
  Calls prog 86 #[.string s] w fun e w'=>∃ N,e = .returned (.tuple #[.int .i64 (Lib.atoiSat s.data.toList),.iface 222 (.pointer (some ⟨N,0,none⟩))])∧w.heap.size≤N∧w'.heap[N]? = some (.cells #[.string ⟨#[65,116,111,105]⟩,.string s,ev] 268 (0,0))∧Below w.heap.size w w':=Any.strconv_Atoi_range Tryz.laysC172 s hlim h ev w hv hev
end Go.Proofs
end
namespace Go.Proofs.YtpmpdonccgcehaaGreatDoor
section
def zgx (c:UInt8):List UInt8→List UInt8→List (List UInt8)
 | p,[]=>[p]
 | p,x :: r=>if x == c then p :: zgx c [] r else zgx c (p ++ [x]) r
theorem splC_run (c:UInt8) (t:List UInt8) (h:c ∉ t):∀ p r,zgx c p (t ++ r) = zgx c (p ++ t) r:=by
 induction t with
 | nil=>intro p r; simp
 | cons x t ih =>
  intro p r
  have hx:(x == c) = false:=by
   have:c≠x:=fun e=>h (by simp [e])
   simpa using fun e=>this e.symm
  rw [List.cons_append,zgx,hx,if_neg (by simp),ih (fun hb=>h (List.mem_cons_of_mem _ hb)),List.append_assoc]
  rfl
theorem splC_no (c:UInt8) (t:List UInt8) (h:c ∉ t) (p:List UInt8):zgx c p t = [p ++ t]:=by
 have:=splC_run c t h p [];rw [List.append_nil] at this;rw [this]; rfl
theorem splC_at (c:UInt8) (a b:List UInt8) (h:c ∉ a) (p:List UInt8):zgx c p (a ++ c :: b) = (p ++ a) :: zgx c [] b:=by
 rw [splC_run c a h]; simp [zgx]
theorem byte_cases (c:UInt8) (l:List UInt8):c ∉ l∨∃ a b,l = a ++ c :: b∧c ∉ a:=by
 by_cases h:c∈l
 ·right
  induction l with
  | nil=>simp at h
  | cons x l ih =>
   by_cases e:x = c
   ·exact ⟨[],l,by rw [e]; rfl,by simp⟩
   ·have h':c∈l:=by
     rcases List.mem_cons.1 h with h1 | h1
     ·exact absurd h1.symm e
     ·exact h1
    obtain ⟨a,b,e1,e2⟩:=ih h'
    exact ⟨x :: a,b,by rw [e1]; rfl,by
     intro hm
     rcases List.mem_cons.1 hm with h1 | h1
     ·exact e h1.symm
     ·exact e2 h1⟩
 ·exact .inl h
theorem index_not (c:UInt8) (l:List UInt8) (h:c ∉ l):Lib.index l [c] = -1:=by
 induction l with
 | nil=>rfl
 | cons x l ih =>
  have hx:c≠x:=fun e=>h (by simp [e])
  have h1:=ih fun hb=>h (List.mem_cons_of_mem _ hb)
  unfold Lib.index;rw [if_neg (by simp [List.isPrefixOf,hx]),if_pos (by rw [h1]; rfl)]
theorem index_at (c:UInt8) (a b:List UInt8) (h:c ∉ a):Lib.index (a ++ c :: b) [c] = a.length:=by
 induction a with
 | nil=>simp [Lib.index,List.isPrefixOf]
 | cons x a ih =>
  have hx:c≠x:=fun e=>h (by simp [e])
  have h1:=ih fun hb=>h (List.mem_cons_of_mem _ hb)
  rw [List.cons_append];unfold Lib.index;rw [if_neg (by simp [List.isPrefixOf,hx]),h1,if_neg (by simp)];simp
theorem count_not (c:UInt8) (l:List UInt8) (h:c ∉ l) (f:Nat):Lib.countFrom [c] f l = 0:=by
 cases f with
 | zero=>rfl
 | succ f=>unfold Lib.countFrom; rw [index_not c l h]; rfl
theorem count_at (c:UInt8) (a b:List UInt8) (h:c ∉ a) (f:Nat):Lib.countFrom [c] (f + 1) (a ++ c :: b) = 1 + Lib.countFrom [c] f b:=by
 rw [Lib.countFrom,index_at c a b h,if_neg (by simp)];congr 2;simp
theorem splitK_spl (c:UInt8):∀ (n:Nat) (l:List UInt8),l.length≤n→∀ f,l.length < f→Lib.splitK [c] 0 (Lib.countFrom [c] f l) l = zgx c [] l∧Lib.countFrom [c] f l + 1 = (zgx c [] l).length:=by
 intro n;induction n with
 | zero =>
  intro l hl f hf;have:l = []:=List.length_eq_zero_iff.1 (by omega);subst this;rw [count_not c [] (by simp)];exact ⟨rfl,rfl⟩
 | succ n ih =>
  intro l hl f hf
  rcases byte_cases c l with h | ⟨a,b,rfl,h⟩
  ·rw [count_not c l h,splC_no c l h]
   exact ⟨rfl,rfl⟩
  ·obtain ⟨g,rfl⟩:∃ g,f = g + 1:=⟨f - 1,by omega⟩
   rw [List.length_append,List.length_cons] at hl hf;obtain ⟨h1,h2⟩:=ih b (by omega) g (by omega);rw [count_at c a b h,splC_at c a b h,show 1 + Lib.countFrom [c] g b = Lib.countFrom [c] g b + 1 by omega];refine ⟨?_,by rw [List.length_cons,← h2]⟩;rw [Lib.splitK,index_at c a b h,if_neg (by simp)];rw [show (a ++ c :: b).take (((a.length:Int)).toNat + 0) = a by simp];rw [show (a ++ c :: b).drop (((a.length:Int)).toNat + [c].length) = b by simp];rw [h1]; rfl
end
section
open Go.RowKit
attribute [local go_sem] zah zaj
def MaxAt (w:World):Prop:=∃ m:Int,w.cell? ⟨Tryz.laysM146_ren.g 1,0,none⟩ = some (.int .i64 m)
theorem MaxAt.lt {w:World} (h:MaxAt w):Tryz.laysM146_ren.g 1 < w.heap.size:=by
 obtain ⟨m,hm⟩:=h; exact World.block_lt_of_cell? _ ⟨_,0,none⟩ hm
theorem MaxAt.below {w w':World} {B:Nat} (h:MaxAt w) (hb:Below B w w') (hB:Tryz.laysM146_ren.g 1 < B):MaxAt w':=by
 obtain ⟨m,hm⟩:=h;exact ⟨m,(hb.cell (p:=⟨_,0,none⟩) hB).trans hm⟩
theorem MaxAt.old {w w':World} (h:MaxAt w) (hb:Below w.heap.size w w'):MaxAt w':=h.below hb h.lt
theorem split_any (c:UInt8) (l:List UInt8) (w:World) (hm:MaxAt w) (hl:l.length≤4294967200) :
  Calls prog 85 #[zal l,zal [c]] w fun e w'=>e = .returned (.slice (some ⟨w.heap.size,0,none⟩) (zgx c [] l).length (zgx c [] l).length)∧RowB w' w.heap.size (zgx c [] l)∧Below w.heap.size w w':=by
 obtain ⟨m,hm⟩:=hm;have h:=Any.strings_Split { Tryz.laysM146 with } Tryz.laysM146.i9 ⟨l.toArray⟩ ⟨#[c]⟩ m w (by rw [zaj]; omega) hm (by simp [ByteArray.size]);obtain ⟨k1,k2⟩:=splitK_spl c l.length l xnl (l.length + 1) (by omega);have hd:=Lib.splitB_data ⟨#[c]⟩ 0 (Lib.countB ⟨l.toArray⟩ ⟨#[c]⟩) ⟨l.toArray⟩;have hc:Lib.countB ⟨l.toArray⟩ ⟨#[c]⟩ = Lib.countFrom [c] (l.length + 1) l:=by unfold Lib.countB Lib.count; rfl
 have hd2:(Lib.splitB ⟨#[c]⟩ 0 (Lib.countB ⟨l.toArray⟩ ⟨#[c]⟩) ⟨l.toArray⟩).map (·.data.toList) = zgx c [] l:=by
  rw [hd,hc]; exact k1
 have hv:(Lib.splitB ⟨#[c]⟩ 0 (Lib.countB ⟨l.toArray⟩ ⟨#[c]⟩) ⟨l.toArray⟩).map Value.string = (zgx c [] l).flatMap za2:=by
  rw [← hd2];induction Lib.splitB ⟨#[c]⟩ 0 (Lib.countB ⟨l.toArray⟩ ⟨#[c]⟩) ⟨l.toArray⟩ with
  | nil=>rfl
  | cons x L ih=>rw [List.map_cons,List.map_cons,List.flatMap_cons,ih]; rfl
 refine h.mono ?_;rintro e w' ⟨rfl,rfl⟩;rw [hv,hc,k2];exact ⟨rfl,zac rfl,(Below.refl _ _).alloc xnl _⟩
end
section
theorem dec_digit {c:UInt8} {n:Nat} (h:c∈Lib.decDigits n):48≤c.toNat∧c.toNat≤57:=by
 induction n using Nat.strongRecOn with
 | _ n ih =>
  rw [Lib.decDigits] at h;split at h
  ·next hlt =>
   simp only [List.mem_singleton] at h;subst h;rw [UInt8.toNat_ofNat']; omega
  ·next hge =>
   rcases List.mem_append.1 h with h1 | h1
   ·exact ih (n / 10) (by omega) h1
   ·simp only [List.mem_singleton] at h1
    subst h1;rw [UInt8.toNat_ofNat']; omega
theorem dec_ne (n:Nat):Lib.decDigits n≠[]:=by
 intro h;have:=Lib.decDigits_length n;rw [h] at this;have h1:=Lib.nDigits_pos n;simp at this; omega
theorem decFrom_append (l m:List UInt8):∀ acc,Lib.decFrom acc (l ++ m) = match Lib.decFrom acc l with | some a=>Lib.decFrom a m | none=>none:=by
 induction l with
 | nil=>intro acc; rfl
 | cons c l ih =>
  intro acc;rw [List.cons_append,Lib.decFrom,Lib.decFrom];cases Lib.digitVal c with
  | none=>rfl
  | some d=>exact ih _
theorem dval (d:Nat) (h:d < 10):Lib.digitVal (UInt8.ofNat (48 + d)) = some d:=by
 have:∀ k:Fin 10,Lib.digitVal (UInt8.ofNat (48 + k.val)) = some k.val:=by decide
 exact this ⟨d,h⟩
theorem decFrom_digits (n:Nat):Lib.decFrom 0 (Lib.decDigits n) = some n:=by
 induction n using Nat.strongRecOn with
 | _ n ih =>
  rw [Lib.decDigits];split
  ·next hlt =>
   rw [Lib.decFrom,dval n hlt];show Lib.decFrom (0 * 10 + n) [] = _;rw [Lib.decFrom]; simp
  ·next hge =>
   rw [decFrom_append,ih (n / 10) (by omega)];show Lib.decFrom (n / 10) [UInt8.ofNat (48 + n % 10)] = _;rw [Lib.decFrom,dval (n % 10) (Nat.mod_lt _ (by decide))];show Lib.decFrom (n / 10 * 10 + n % 10) [] = _;rw [Lib.decFrom];congr 1; omega
theorem atoi_digits (n:Nat):Lib.atoi (Lib.decDigits n) = some (n:Int):=by
 cases h:Lib.decDigits n with
 | nil=>exact absurd h (dec_ne n)
 | cons b r =>
  have hb:=dec_digit (c:=b) (n:=n) (by rw [h]; exact List.mem_cons_self)
  have h1:(b == 45) = false:=by
   rw [beq_eq_false_iff_ne];intro e; rw [e] at hb; simp at hb
  have h2:(b == 43) = false:=by
   rw [beq_eq_false_iff_ne];intro e; rw [e] at hb; simp at hb
  unfold Lib.atoi;dsimp only;rw [h1,h2,if_neg (by decide),if_neg (by decide)];unfold Lib.decNat;rw [← h,decFrom_digits];simp [h]
theorem zdd {n k:Nat} (hk:1≤k) (h:n < 10 ^ k):(Lib.decDigits n).length≤k:=by
 rw [Lib.decDigits_length];induction k generalizing n with
 | zero=>omega
 | succ k ih =>
  by_cases hn:n < 10
  ·rw [Lib.nDigits_small hn]; omega
  ·rw [Lib.nDigits_big hn]
   have hk1:1≤k:=by
    rcases Nat.eq_zero_or_pos k with h0 | h0
    ·subst h0; simp at h; omega
    ·exact h0
   have:=ih (n:=n / 10) hk1 (by rw [Nat.pow_succ] at h; omega);omega
end
section
open Go.RowKit
def IfaceAt (w:World) (g:Nat):Prop:=∃ ev,w.cell? ⟨g,0,none⟩ = some ev∧(ev = .nilIface∨∃ te pe,ev = .iface te pe)
theorem IfaceAt.old {w w':World} {g:Nat} (h:IfaceAt w g) (hb:Below w.heap.size w w'):IfaceAt w' g:=by
 obtain ⟨ev,h1,h2⟩:=h;exact ⟨ev,(hb.cell (p:=⟨g,0,none⟩) (World.block_lt_of_cell? _ ⟨_,0,none⟩ h1)).trans h1,h2⟩
structure VarsAt (w:World):Prop where
 tab : Lib.TabIs prog w "internal/strconv.uint64pow10" .u64 Lib.pow10Tab
 e0:IfaceAt w (Tryz.laysC172_ren.g 15)
 e1:IfaceAt w (Tryz.laysC172_ren.g 16)
 m:MaxAt w
theorem tab_old {w w':World} {n:String} {k:IntKind} {zs:List Int} (h:Lib.TabIs prog w n k zs) (hb:Below w.heap.size w w'):Lib.TabIs prog w' n k zs:=by
 unfold Lib.TabIs World.var? at h ⊢;cases hg:prog.globalNamed n with
 | none=>simp [hg] at h
 | some g =>
  simp only [hg,Option.bind_some] at h ⊢;rw [← h]
  have hlt:g < w.heap.size:=by
   rcases Nat.lt_or_ge g w.heap.size with h' | h'
   ·exact h'
   ·simp [Array.getElem?_eq_none h'] at h
  rw [hb.block g hlt]
theorem VarsAt.old {w w':World} (h:VarsAt w) (hb:Below w.heap.size w w'):VarsAt w':=⟨tab_old h.tab hb,h.e0.old hb,h.e1.old hb,h.m.old hb⟩
theorem below_growR (w:World) (k:Nat) (os:Array Obj):Below w.heap.size w (Sort.grow (w.drewN k) os):=by
 refine ((below_drewN (Below.refl _ w) k).trans ?_)
 exact ⟨rfl,rfl,rfl,by simp [Sort.grow,World.drewN],fun i hi=>by
  have hi':i < (w.drewN k).heap.size:=by simpa [World.drewN] using hi
  simp only [Sort.grow]
  rw [Array.getElem?_append_left hi']⟩
theorem itoa_any (n:Nat) (hn:n≤9223372036854775807) (w:World) (hv:VarsAt w):Calls prog 77 #[.int .i64 n] w fun e w'=>e = .returned (zal (Lib.decDigits n))∧Below w.heap.size w w':=by
 refine (Tryz.strconv_Itoa (n:Int) (by omega) (by omega) w hv.tab).mono ?_;rintro e w' ⟨rfl,k,os,rfl⟩;refine ⟨by rw [Lib.itoa_nonneg],below_growR _ _ _⟩
def zfm (t:List UInt8):Int:=match Lib.atoiAll t with
 | .ok v=>v
 | .range=>Lib.atoiSat t
 | _=>0
theorem atoiV_digits {n:Nat} (h:n < 10000000):zfm (Lib.decDigits n) = n:=by
 have hl:(Lib.decDigits n).length≤18:=Nat.le_trans (zdd (k:=7) (by decide) (by simpa using h)) (by decide);unfold zfm;rw [Lib.atoiAll_short _ hl,atoi_digits];rfl
theorem atoi_any (t:List UInt8) (ht:t.length≤1000000000) (w:World) (hv:VarsAt w):Calls prog 86 #[zal t] w fun e w'=>(∃ er,e = .returned (.tuple #[.int .i64 (zfm t),er]))∧Below w.heap.size w w':=by
 have hsz:(⟨t.toArray⟩:ByteArray).size = t.length:=by simp [ByteArray.size]
 have hd:(⟨t.toArray⟩:ByteArray).data.toList = t:=by simp
 unfold zfm;cases h:Lib.atoiAll t with
 | ok v =>
  refine (Tryz.strconv_Atoi_ok ⟨t.toArray⟩ (by rw [hsz]; omega) v (by rw [hd]; exact h) w).mono ?_;rintro e w' ⟨rfl,hw⟩;refine ⟨⟨_,rfl⟩,?_⟩
  rcases hw with rfl | ⟨t,rfl⟩
  ·exact Below.refl _ _
  ·exact Lib.bytesWorld_below _ _ _
 | range =>
  obtain ⟨ev,h1,h2⟩:=hv.e1;refine (Tryz.strconv_Atoi_range ⟨t.toArray⟩ (by rw [hsz]; omega) (by rw [hd]; exact h) ev w h1 h2).mono ?_;rintro e w' ⟨N,rfl,-,-,hb⟩;rw [hd];exact ⟨⟨_,rfl⟩,hb⟩
 | _ =>
  obtain ⟨ev,h1,h2⟩:=hv.e0;refine (Tryz.strconv_Atoi_syntax ⟨t.toArray⟩ (by rw [hsz]; omega) (by rw [hd]; exact h) ev w h1 h2).mono ?_;rintro e w' ⟨N,rfl,-,-,hb⟩;exact ⟨⟨_,rfl⟩,hb⟩
end
section
def ze8 (c:UInt8):List (List UInt8)→List UInt8
 | []=>[]
 | [a]=>a
 | a :: b :: r=>a ++ c :: ze8 c (b :: r)
theorem splC_join (c:UInt8):∀ (L:List (List UInt8)),L≠[]→(∀ x∈L,c ∉ x)→zgx c [] (ze8 c L) = L
 | [],h,_=>absurd rfl h
 | [a],_,h=>by
  rw [ze8,splC_no c a (h a (by simp))]; simp
 | a :: b :: r,_,h=>by
  rw [ze8,splC_at c a _ (h a (by simp)),splC_join c (b :: r) (by simp) (fun x hx=>h x (List.mem_cons_of_mem _ hx))]; simp
end
section
def zd9 (b:BitsL):List UInt8:=if zbv b = true then hexB b else [45]
def zbg (x:EncL):List (List UInt8):=Lib.decDigits x.id.toNat :: Lib.decDigits x.ver.toNat :: x.fields.map zd9
def zey (x:EncL):List UInt8:=ze8 32 (zbg x)
def zgs (t:List UInt8):Option BitsL:=if t = [45] then some zba else zc0 t
def zhi (b:BitsL):Prop:=b = zba∨(zbv b = true∧∀ w∈b.words,0≤w∧w < 18446744073709551616)
theorem noBits_bad:zbv zba = false:=by decide
theorem hexD_mem {n:Nat} (h:n < 16):digH n∈hexD:=by
 unfold digH;rw [List.getD,List.getElem?_eq_getElem (by show n < 16; exact h)];exact List.getElem_mem _
theorem hexN_mem (k:Nat):∀ n,∀ c∈zgv k n,c∈hexD:=by
 induction k with
 | zero=>intro n c h; simp [zgv] at h
 | succ k ih =>
  intro n c h;rw [zgv] at h
  rcases List.mem_append.1 h with h1 | h1
  ·exact ih _ c h1
  ·simp at h1; subst h1; exact hexD_mem (Nat.mod_lt _ (by decide))
theorem hexB_mem {b:BitsL} {c:UInt8} (h:c∈hexB b):c∈hexD:=by
 unfold hexB at h;obtain ⟨n,_,hn⟩:=List.mem_flatMap.1 h;exact hexN_mem 16 n c hn
theorem word_space (b:BitsL):(32:UInt8) ∉ zd9 b:=by
 unfold zd9;split
 ·intro h; have:=hexB_mem h; revert this; decide
 ·decide
theorem dec_space (n:Nat):(32:UInt8) ∉ Lib.decDigits n:=by
 intro h;have:=dec_digit h;simp at this
theorem line_words (x:EncL):zgx 32 [] (zey x) = zbg x:=by
 unfold zey
 refine splC_join 32 _ (by unfold zbg; simp) fun t ht=>?_
 unfold zbg at ht
 rcases List.mem_cons.1 ht with rfl | h1
 ·exact dec_space _
 ·rcases List.mem_cons.1 h1 with rfl | h2
  ·exact dec_space _
  ·obtain ⟨b,_,rfl⟩:=List.mem_map.1 h2
   exact word_space b
theorem zgd {b:BitsL} (h:zbv b = true):1≤b.words.length:=by
 unfold zbv zb6 at h;simp only [Bool.and_eq_true,beq_iff_eq,decide_eq_true_eq] at h;omega
theorem readE_word {b:BitsL} (h:zhi b):zgs (zd9 b) = some b:=by
 rcases h with rfl | ⟨hv,hw⟩
 ·unfold zd9 zgs
  rw [noBits_bad]; rfl
 ·unfold zd9
  rw [if_pos hv];unfold zgs;rw [if_neg,hexB_back b hv hw];intro e;have h1:=zhr b;have h2:=zgd hv;rw [e] at h1;simp at h1;omega
end
end Go.Proofs.YtpmpdonccgcehaaGreatDoor
