/- Parts of one proof: Ref16D, Ref16I, LawF. -/
import Derived.Test.YtgkaafncfjlooaaGreatDoorPartAd9
set_option maxHeartbeats 16000000
set_option maxRecDepth 100000
open Go.Proofs.Tryz
set_option linter.unusedSimpArgs false
set_option linter.unusedVariables false
namespace Go.Proofs.YtgkaafncfjlooaaGreatDoor
section
open Go.RowKit Cal
attribute [local go_sem] zag zaj za7
structure ReAt (w:World) (vf vt vn vs:Value) (k:Int × Int) (r:RecL) (sv:Value) (xb:Nat) (v:Value) (C:List BV) (L:List BitsL) (wr:World):Prop where
 sb:wr.heap[w.heap.size]? = some (.cells #[vf,vt,vn,vs] 33 (0,0))
 kb:wr.heap[w.heap.size + 1]? = some (.cells #[.int .u64 k.1,.int .u64 k.2] 41 (0,0))
 rb:wr.heap[w.heap.size + 2]? = some (.cells #[.int .i64 r.id,.int .i64 r.ver,sv] 68 (0,0))
 z:wr.heap[w.heap.size + 3]? = some (.cells #[.int .i64 0,.int .i64 0,.slice none 0 0] 59 (0,0))
 x:wr.heap[xb]? = some (.cells #[.int .i64 r.id,.int .i64 r.ver,v] 59 (0,0))
 own:OwnV 56 2 za3 w v C wr
 n:∀ g,v.ownBlock = some g→xb < g
 all:BitsAll wr (fun b=>some b≠v.ownBlock∧xb < b) C L
 xb4:w.heap.size + 3 < xb
theorem ReAt.below {w:World} {vf vt vn vs:Value} {k:Int × Int} {r:RecL} {sv:Value} {xb:Nat} {v:Value} {C:List BV} {L:List BitsL} {wr wy:World} (h:ReAt w vf vt vn vs k r sv xb v C L wr) (hb:Below wr.heap.size wr wy):ReAt w vf vt vn vs k r sv xb v C L wy :=
 ⟨zab hb (zaa h.1) h.1,zab hb (zaa h.2) h.2,zab hb (zaa h.3) h.3,zab hb (zaa h.4) h.4,zab hb (zaa h.5) h.5,h.own.below hb,h.n,h.all.below hb,h.xb4⟩
theorem own_keptB {w w':World} {B e size n:Nat} {v:Value} {xs:List Value} {r:Option Nat} (h:w.ownsRow B e size v n xs) (hk:∀ k o,some k≠r→w.heap[k]? = some o→w'.heap[k]? = some o) (hr:v.ownBlock = none∨v.ownBlock≠r):w'.ownsRow B e size v n xs:=zc7 h hk hr
theorem ReAt.step {w:World} {vf vt vn vs:Value} {k:Int × Int} {r:RecL} {sv:Value} {xb:Nat} {v v':Value} {C:List BV} {L:List BitsL} {c:BV} {bt:BitsL} {wr wy w5:World} (h:ReAt w vf vt vn vs k r sv xb v C L wr) (hb:Below wr.heap.size wr wy) (hc:BitsAt wy (fun b=>wr.heap.size≤b) (.agg (za3 c).toArray) bt)
  (ho:OwnV 56 2 za3 w v' (C ++ [c]) w5) (hk:∀ q o,some q≠v.ownBlock→wy.heap[q]? = some o→w5.heap[q]? = some o) (hz:wy.heap.size≤w5.heap.size) (hat:v'.ownBlock = none∨v.ownBlock = v'.ownBlock∨∃ g,v'.ownBlock = some g∧wy.heap.size≤g) :
  ReAt w vf vt vn vs k r sv xb v' (C ++ [c]) (L ++ [bt]) (w5.setCell ⟨xb,2,none⟩ v'):=by
 have hy:=h.below hb;have l1:=zaa h.x; have l2:=zaa hy.x; have x4:=h.xb4;have hold:∀ q o,q≤xb→wy.heap[q]? = some o→w5.heap[q]? = some o:=fun q o hq ho'=>hk q o (fun e=>by have:=h.n q e.symm; omega) ho'
 have hfar:∀ q o,q < xb→wy.heap[q]? = some o→(w5.setCell ⟨xb,2,none⟩ v').heap[q]? = some o:=fun q o hq ho'=>zan (hold q o (by omega) ho') (by show q≠xb; omega)
 have hown:∀ g,v.ownBlock = some g→g < wr.heap.size:=fun g e=>(World.ownsRow.lt h.own.1 g e).2
 have hn':∀ g,v'.ownBlock = some g→xb < g:=by
  intro g e
  rcases hat with h1 | h1 | ⟨g',h1,h2⟩
  ·rw [h1] at e; cases e
  ·rw [← h1] at e; exact h.n g e
  ·rw [h1] at e; cases e; omega
 have hne':∀ b,b < wy.heap.size→some b≠v.ownBlock→some b≠v'.ownBlock:=by
  intro b hb' hne e
  rcases hat with h1 | h1 | ⟨g',h1,h2⟩
  ·rw [h1] at e; cases e
  ·rw [← h1] at e; exact hne e
  ·rw [h1] at e; cases e; omega
 have hS:∀ b,b < wy.heap.size→(some b≠v.ownBlock∧xb < b)→(w5.setCell ⟨xb,2,none⟩ v').heap[b]? = wy.heap[b]?∧(some b≠v'.ownBlock∧xb < b):=by
  intro b hb' hs;obtain ⟨ob,hob⟩:∃ ob,wy.heap[b]? = some ob:=⟨_,Array.getElem?_eq_getElem hb'⟩;rw [hob];exact ⟨zan (hk b ob hs.1 hob) (by show b≠xb; omega),hne' b hb' hs.1,hs.2⟩
 have hsz:wy.heap.size≤(w5.setCell ⟨xb,2,none⟩ v').heap.size:=by simpa [World.setCell] using hz
 have hwx:w.heap.size≤xb:=by omega
 refine ⟨hfar _ _ (by omega) hy.sb,hfar _ _ (by omega) hy.kb,hfar _ _ (by omega) hy.rb,hfar _ _ (by omega) hy.z,zad (i:=2) (v:=v') (hold xb _ xnl hy.x),⟨?_,ho.2.setCell (p:=⟨xb,2,none⟩) hwx _⟩,hn',?_,x4⟩
 ·refine own_keptB ho.1 (r:=some xb) (fun q o hne ho'=>zan ho' (fun e=>hne (by rw [e]))) ?_
  by_cases h0:v'.ownBlock = none
  ·exact .inl h0
  ·refine .inr fun e=>?_
   have:=hn' xb e; omega
 ·have h1:BitsAll (w5.setCell ⟨xb,2,none⟩ v') (fun b=>some b≠v'.ownBlock∧xb < b) C L:=hy.all.move hsz hS
  have h2:BitsAt (w5.setCell ⟨xb,2,none⟩ v') (fun b=>some b≠v'.ownBlock∧xb < b) (.agg (za3 c).toArray) bt:=by
   have h3:=hc.weaken (T:=fun b=>some b≠v.ownBlock∧xb < b) (fun b hb'=>⟨fun e=>by have:=hown b e.symm; omega,by omega⟩)
   have h4:=BitsAll.move (C:=[c]) (L:=[bt]) ⟨rfl,fun n h1 h2=>by simp at h1; subst h1; exact h3⟩ hsz hS
   exact h4.2 0 (by simp) (by simp)
  exact h1.snoc h2
theorem own_vecG {α:Type} {w:World} {B e k:Nat} {enc:α→List Value} (hk:∀ x,(enc x).length = k) {v:Value} {L:List α} (h:w.ownsRow B e k v L.length (L.flatMap enc)):Vec w (fun b=>B≤b∧v.ownBlock = some b) k enc v L:=by
 have hv:=Vec.owns (k:=k) (enc:=enc) hk h (S:=fun _=>True) fun _ _ _=>trivial
 rcases h.2 with ⟨rfl,h0⟩ | ⟨g,cap,cur,rfl,hg,hh,_⟩
 ·have:L = []:=List.length_eq_zero_iff.1 h0
  subst this;exact Vec.nil _ _ _ _
 ·obtain ⟨a,cap',e1,k1,k2⟩:=hv
  refine ⟨a,cap',e1,k1,fun h0=>?_⟩
  obtain ⟨b,off,q1,_,q3,q4⟩:=k2 h0;cases e1;cases q1;exact ⟨_,_,rfl,⟨hg,rfl⟩,q3,q4⟩
theorem key_false (k:Int × Int) (num a b:List UInt8):keyN k num false a = keyN k num false b:=by unfold keyN; simp only [cond_false]
theorem ziv (S:Nat→Prop) (vf vt vn vs:Value) (s:SchemaL) (P:List ParL) (pv:Value) (k:Int × Int) (r:RecL) (sv:Value) (w:World) (h:SchemaAt w S vf vt vn vs s) (hp:Vec w zav 3 zdi pv P) (hv:Vec w zav 1 zba sv r.vals) (hc:zby s P = 0) (hcr:zdj s r = 0) :
  Calls prog 43 #[.agg #[vf,vt,vn,vs],pv,.agg #[.int .u64 k.1,.int .u64 k.2],.agg #[.int .i64 r.id,.int .i64 r.ver,sv]] w (EncPair (zen s P k r,0) w):=by
 have hin:=zi0 hc hcr;have he:=hin.enc;have h5:=he.five; have hlen:=he.len;obtain ⟨a,cap,rfl⟩:=hp.slice;obtain ⟨av,cv,rfl⟩:=hv.slice;obtain ⟨rid,rver,vals⟩:=r;dsimp only at hv hlen he ⊢
 have hII:∀ p∈P,InI p.len:=by
  intro p hp';obtain ⟨i,hi,rfl⟩:=List.mem_iff_getElem.1 hp';have:=(he.fld i hi).par;rw [za5 _ _ hi] at this;exact ⟨by have:=this.len1; omega,by have:=this.len2; omega⟩
 have HS:=zjp h.any; have HP:=zjp hp; have HV:=zjp hv; have HC:=zjp hc; have HCr:=zjp hcr; have HE:=zjp he; have HII:=zjp hII;have HSh:=zjp (show ∀ x∈vals,x.length≤1000000 from fun x hx=>by have:=hin.short x hx; omega)
 have HLen:=zjp hlen;have hvl:vals.length≤5:=by omega
 clear h hp hv hc hcr he hII hin hlen;go_enter func43,ntmps43
 go_wp2_with fail
 refine zai (fun W hW=>?_)
 have hb0:Below w.heap.size w W:=by rw [hW]; exact ((((Below.refl w.heap.size w).alloc xnl _).alloc (by simp) _).alloc (by simp; omega) _).alloc (by simp; omega) _
 have hs0:W.heap[w.heap.size]? = some (.cells #[vf,vt,vn,vs] 33 (0,0)):=by rw [hW]; exact zaf (zaf (zaf (zac rfl)))
 have hk0:W.heap[w.heap.size + 1]? = some (.cells #[.int .u64 k.1,.int .u64 k.2] 41 (0,0)):=by rw [hW]; exact zaf (zaf (zac (by simp)))
 have hr0:W.heap[w.heap.size + 2]? = some (.cells #[.int .i64 rid,.int .i64 rver,.slice av vals.length cv] 68 (0,0)):=by rw [hW]; exact zaf (zac (by simp))
 have hz0:W.heap[w.heap.size + 3]? = some (.cells #[.int .i64 0,.int .i64 0,.slice none 0 0] 59 (0,0)):=by rw [hW]; exact zac (by simp)
 clear hW;refine (rcheck16_any zav _ _ _ _ s P _ _ (HS.out.below hb0) (HP.out.below hb0) HII.out (by omega)).mono ?_;rw [HC.out];rintro e w1 ⟨rfl,hb⟩;have HB1:=zjp (hb0.trans (hb.mono hb0.size)); have HE1:=zjp (⟨zab hb (zaa hs0) hs0,zab hb (zaa hk0) hk0,zab hb (zaa hr0) hr0,zab hb (zaa hz0) hz0⟩:_∧_∧_∧_);obtain ⟨s0,s1,s2,s3⟩:=zak HE1.out.1; obtain ⟨r0,r1,r2⟩:=zao HE1.out.2.2.1;have ls:=zaa HE1.out.1; have lr:=zaa HE1.out.2.2.1;have d0:((0:Int) != 0) = false:=rfl;clear hb hb0 hs0 hk0 hr0 hz0;go_wp2_with fail
 refine (rrcheck_any zav zav _ _ _ _ s ⟨rid,rver,vals⟩ _ _ (HS.out.below HB1.out) (HV.out.below HB1.out) HSh.out (by dsimp only; omega)).mono ?_;rw [HCr.out];rintro e w2 ⟨rfl,hb⟩;have HB2:=zjp (HB1.out.trans (hb.mono HB1.out.size)); have HE2:=zjp (⟨zab hb (zaa HE1.out.1) HE1.out.1,zab hb (zaa HE1.out.2.1) HE1.out.2.1,zab hb (zaa HE1.out.2.2.1) HE1.out.2.2.1,zab hb (zaa HE1.out.2.2.2) HE1.out.2.2.2⟩:_∧_∧_∧_);clear hb s0 s1 s2 s3 r0 r1 r2 ls lr HE1 HB1;obtain ⟨r0,r1,r2⟩:=zao HE2.out.2.2.1;have lr:=zaa HE2.out.2.2.1; have lz:=zaa HE2.out.2.2.2;go_wp2_with fail
 refine zam (fun W3 hW3=>?_)
 have b3:=xal hW3
 have hx3:W3.heap[w2.heap.size]? = some (.cells #[.int .i64 rid,.int .i64 rver,.slice none 0 0] 59 (0,0)):=by rw [hW3]; exact zac rfl
 have HR0:=zjp (show ReAt w vf vt vn vs k ⟨rid,rver,vals⟩ (.slice av vals.length cv) w2.heap.size (.slice none 0 0) [] [] W3 from
  ⟨zab b3 (zaa HE2.out.1) HE2.out.1,zab b3 (zaa HE2.out.2.1) HE2.out.2.1,zab b3 (zaa HE2.out.2.2.1) HE2.out.2.2.1,zab b3 (zaa HE2.out.2.2.2) HE2.out.2.2.2,hx3,OwnV.nil (HB2.out.trans (b3.mono HB2.out.size)),fun g e=>by simp [Value.ownBlock] at e,⟨rfl,fun n h1 _=>by simp at h1⟩,lz⟩)
 obtain ⟨xb,hxb⟩:∃ xb,w2.heap.size = xb:=⟨_,rfl⟩;rw [hxb] at HR0 ⊢;clear hW3 b3 hx3 hxb r0 r1 r2 lr lz HB2 HE2;go_loopw [13] (fun i wr=>∃ (j:Nat) (C:List BV) (va:Option Addr) (vc:Nat),i = .int .i64 j∧j≤P.length∧C.length = j∧ReAt w vf vt vn vs k ⟨rid,rver,vals⟩ (.slice av vals.length cv) xb (.slice va j vc) C (zci s P k vals j) wr) (fun i _=>P.length - (intOf i).toNat)
 case atStart=>exact ⟨0,[],none,0,rfl,by omega,rfl,HR0.out⟩
 case round =>
  obtain ⟨j,C,va,vc,rfl,hj,hCl,hre⟩:=hrel;have HRe:=zjp hre; have HCl:=zjp hCl;clear hre hCl;obtain ⟨WR,hWR⟩:∃ u,u = wr:=⟨_,rfl⟩;subst hWR;have HBW:=zjp HRe.out.own.2;obtain ⟨r0,r1,r2⟩:=zao HRe.out.rb; obtain ⟨x0,x1,x2⟩:=zao HRe.out.x;have lr:=zaa HRe.out.rb; have lx:=zaa HRe.out.x;by_cases hlt:j < P.length
  ·have hq:decide ((j:Int) < (P.length:Int)) = true:=by simp; omega
   have hjp:(j:Int) < (P.length:Int):=by omega
   have hjv:j < vals.length:=by have:=HLen.out; omega
   have hjvi:(j:Int) < (vals.length:Int):=by omega
   obtain ⟨p,hpe⟩:∃ p,P.getD j default = p:=⟨_,rfl⟩;have hfj:=HE.out.fld j hlt;have hsucc:=fieldsN_succ s P k vals j;rw [hpe] at hfj hsucc;obtain ⟨b,off,rfl,lb,cvx⟩:=vec_str (HV.out.below HBW.out) j hjv;obtain ⟨t,hte⟩:∃ t,vals.getD j [] = t:=⟨_,rfl⟩;have hnorm:=hfj.norm;rw [hte] at cvx hnorm;have HFJ:=zjp hfj; have HSu:=zjp hsucc; have HTe:=zjp hte; have HNo:=zjp hnorm;clear hfj hsucc hte hnorm;by_cases ht0:t = []
   ·have hfn:zdh s p k vals j = zbg:=by unfold zdh; rw [HTe.out,if_pos ht0]
    have HFn:=zjp hfn;subst ht0;clear hfn hpe;have hb1:Below WR.heap.size WR (WR.alloc (.cells (za3 ⟨0,none,0,0⟩).toArray 56)):=(Below.refl _ _).alloc xnl _;have HO1:=zjp (HRe.out.own.below hb1);have HR1:=zjp (show zcn (WR.alloc (.cells (za3 ⟨0,none,0,0⟩).toArray 56)) 2 (.slice (some ⟨WR.heap.size,0,none⟩) 1 1) [(⟨0,none,0,0⟩:BV)].length ([(⟨0,none,0,0⟩:BV)].flatMap za3) from za2 (xs:=[(⟨0,none,0,0⟩:BV)].flatMap za3) (fr:=(0,0)) (t:=56) (zac rfl) rfl);have hcn:C.length + [(⟨0,none,0,0⟩:BV)].length≤1000000000:=by rw [HCl.out]; simp only [List.length_cons,List.length_nil]; omega
    clear hb1;go_wp2_with (at_builtin; refine zc4 rfl (.tmp 51) (.tmp 53) 57 rfl 56 (.agg #[.int .i64 0,.slice none 0 0]) 2 32 za3 (fun _=>rfl) ze4 underlying57 zf6 rfl (by decide) (by decide) (w0:=w) (v:=.slice va j vc) (A:=C) (B:=[⟨0,none,0,0⟩]) rfl HO1.out rfl HR1.out hcn ?_; intro v5 w5 ho5 hk5 hz5 hat5; obtain ⟨a5,c5,e5⟩:=zau ho5.1; have hl5:(C ++ [(⟨0,none,0,0⟩:BV)]).length = j + 1:=(by rw [List.length_append,HCl.out]; rfl); rw [hl5] at e5; subst e5; clear hl5; have hn1:=HRe.out.n; have hx6:=hk5 _ _ (fun e=>absurd (hn1 _ e.symm) (by omega)) (zaf HRe.out.x); have lx5:=zaa hx6; have fo:=frozen_of_row _ _ 2 _ _ hx6; obtain ⟨y0,y1,y2⟩:=zao hx6)
    go_roundw
    case rel =>
     refine ⟨j + 1,C ++ [⟨0,none,0,0⟩],a5,c5,by go_num,by omega,by rw [List.length_append,HCl.out]; rfl,?_⟩;rw [HSu.out,HFn.out]
     exact HRe.out.step (Below.refl _ _) (BitsAt.none _ _) ho5 (fun q o h1 h2=>hk5 q o h1 (zaf h2)) (Nat.le_trans (by simp) hz5) (by
      rcases hat5 with h1 | h1 | h1
      ·exact .inl h1
      ·exact .inr (.inl h1)
      ·exact .inr (.inr ⟨_,h1,by simp⟩))
    case measure=>simp [intOf]; omega
   ·have hex:t.isEmpty = false:=by simpa using ht0
    have hex2:(t == []) = false:=by simpa using ht0
    obtain ⟨G,hG⟩:∃ G,zfq s (j:Int) t = G:=⟨_,rfl⟩;obtain ⟨g1,g2,g3,g4⟩:=zjb HNo.out HFJ.out.kind;rw [hG] at g1 g2 g3;obtain ⟨KX,hK⟩:∃ KX,keyN k (Lib.decDigits j) (decide (0≤p.salt)) (saltOf p vals) = KX:=⟨_,rfl⟩;obtain ⟨B,hBN⟩:∃ B,(zg3 p KX G.1).1 = B:=⟨_,rfl⟩;have hfn:zdh s p k vals j = B:=by unfold zdh; rw [HTe.out,if_neg ht0,hK,hG,hBN]
    have HFn:=zjp hfn; have HG:=zjp hG; have HK:=zjp hK; have HBN:=zjp hBN; have HG1:=zjp g1; have HG2:=zjp g2; have HG3:=zjp g3;obtain ⟨k0,k1⟩:=zae HRe.out.kb;have lk:=zaa HRe.out.kb;clear hfn hG hK hBN g1 g2 g3 ht0;go_wp2_with fail
    obtain ⟨K1,hK1⟩:∃ K1,keyN k (Lib.itoa (j:Int)) false [] = K1:=⟨_,rfl⟩;have HK1:=zjp hK1;refine (ziz k (j:Int) false [] _ ⟨by omega,by omega⟩ (by simp)).mono ?_;rw [hK1];rintro e w4 ⟨rfl,hb⟩;have HB4:=zjp hb; have HRe4:=zjp (HRe.out.below hb);obtain ⟨b2,off2,rfl,lb2,hcp⟩:=(HP.out.below HBW.out).get j hlt;rw [show P[j] = p by rw [← za5 P default hlt]; exact hpe] at hcp;have p0:=hcp 0 _ rfl; have p1:=hcp 1 _ rfl; have p2:=hcp 2 _ rfl;rw [Nat.add_zero] at p0
    have HCells:=zjp (show ∀ w',Below WR.heap.size WR w'→(w'.cell? ⟨b2,off2 + j * 3,none⟩ = some (.int .i64 p.len)∧w'.cell? ⟨b2,off2 + j * 3 + 1,none⟩ = some (.int .i64 p.hashes)∧w'.cell? ⟨b2,off2 + j * 3 + 2,none⟩ = some (.int .i64 p.salt))∧w'.cell? ⟨b,off + j,none⟩ = some (zal t) from fun w' hb =>
     ⟨⟨(hb.cell (p:=⟨b2,off2 + j * 3,none⟩) lb2).trans p0,(hb.cell (p:=⟨b2,off2 + j * 3 + 1,none⟩) lb2).trans p1,(hb.cell (p:=⟨b2,off2 + j * 3 + 2,none⟩) lb2).trans p2⟩,(hb.cell (p:=⟨b,off + j,none⟩) lb).trans cvx⟩)
    have c2:=(HCells.out w4 hb).1.2.2;have lb24:=Nat.lt_of_lt_of_le lb2 hb.size;obtain ⟨sb,hsb⟩:∃ sb,decide (0≤p.salt) = sb:=⟨_,rfl⟩;have HSb:=zjp hsb;clear hb hcp hpe k0 k1 r0 r1 r2 x0 x1 x2 lk lr lx hK1 cvx p0 p1 p2;go_upto_if 64 with (fail)
    refine zam (fun W5 hW5=>?_)
    have b45:=xal hW5
    have hkb:W5.heap[w4.heap.size]? = some (.cells #[.int .u64 K1.1,.int .u64 K1.2] 41 (0,0)):=by rw [hW5]; exact zac rfl
    obtain ⟨kb,hkbe⟩:∃ kb,w4.heap.size = kb:=⟨_,rfl⟩;rw [hkbe] at hkb ⊢;have HKb:=zjp hkb;have B5:=zjp (HB4.out.trans (b45.mono HB4.out.size));have zkb:WR.heap.size≤kb:=by have:=HB4.out.size; omega
    have lkb:=zaa hkb;have HRe5:=zjp (HRe.out.below B5.out);clear hW5 b45 hkb hkbe HB4 HRe4 c2;go_cut [] (fun wx=>wx.heap[kb]? = some (.cells #[.int .u64 KX.1,.int .u64 KX.2] 41 (0,0))∧Below WR.heap.size WR wx)
    case first =>
     cases sb
     ·have hKX:KX = K1:=by rw [← HK.out,HSb.out,← HK1.out,Lib.itoa_nonneg]; exact key_false _ _ _ _
      subst hKX;go_wp2_with fail
      go_meet;exact ⟨HKb.out,B5.out⟩
     ·have hs0:0≤p.salt:=of_decide_eq_true HSb.out
      obtain ⟨q,hqe⟩:∃ q:Nat,p.salt = q:=⟨p.salt.toNat,by omega⟩;have hqv:q < vals.length:=by have h1:=HFJ.out.salt; omega
      have hqvi:(q:Int) < (vals.length:Int):=by omega
      obtain ⟨bq,offq,eq,lbq,hcq⟩:=vec_str (HV.out.below (HBW.out.trans (B5.out.mono HBW.out.size))) q hqv;cases eq;obtain ⟨st,hst⟩:∃ st,vals.getD q [] = st:=⟨_,rfl⟩;have hstl:st.length≤64:=by rw [← hst]; exact HFJ.out.short _ (by rw [List.getD,List.getElem?_eq_getElem hqv]; exact List.getElem_mem _)
      rw [hst] at hcq;have hKX:keyN k (Lib.itoa (j:Int)) true st = KX:=by rw [← HK.out,HSb.out,Lib.itoa_nonneg]; unfold saltOf; rw [if_pos hs0,hqe,Int.toNat_natCast,hst]
      have HKX:=zjp hKX;have lk5:=zaa HRe5.out.kb; have lr5:=zaa HRe5.out.rb
      have HT:=zjp (show ∀ w',Below W5.heap.size W5 w'→(w'.cell? ⟨w.heap.size + 1,0,none⟩ = some (.int .u64 k.1)∧w'.cell? ⟨w.heap.size + 1,1,none⟩ = some (.int .u64 k.2))∧w'.cell? ⟨w.heap.size + 1 + 1,2,none⟩ = some (.slice (some ⟨b,off,none⟩) vals.length cv)∧w'.cell? ⟨b2,off2 + j * 3 + 2,none⟩ = some (.int .i64 (q:Int))∧w'.cell? ⟨b,off + q,none⟩ = some (zal st) from fun w' hb =>
       ⟨zae (zab hb lk5 HRe5.out.kb),(zao (zab hb lr5 HRe5.out.rb)).2.2,by rw [← hqe]; exact (HCells.out w' (B5.out.trans (hb.mono B5.out.size))).1.2.2,(hb.cell (p:=⟨b,off + q,none⟩) lbq).trans hcq⟩)
      have bD:Below W5.heap.size W5 W5.drew:=(Below.refl _ _).drew;clear hst hcq hKX hs0;go_wp2_with fail
      refine wp_region_noPanic ?_
      refine zat (by kernel_rfl) (fun w'=>(w'.cell? ⟨w.heap.size + 1,0,none⟩ = some (.int .u64 k.1)∧w'.cell? ⟨w.heap.size + 1,1,none⟩ = some (.int .u64 k.2))∧w'.cell? ⟨w.heap.size + 1 + 1,2,none⟩ = some (.slice (some ⟨b,off,none⟩) vals.length cv)∧w'.cell? ⟨b2,off2 + j * 3 + 2,none⟩ = some (.int .i64 (q:Int))∧w'.cell? ⟨b,off + q,none⟩ = some (zal st)) 12 (HT.out _ bD) (fun hHeld=>?_)
      refine tK 0 (h:=?_);refine tK 1 (h:=?_);refine tK 2 (h:=?_);refine tK 3 (h:=?_);refine tK 4 (h:=?_);refine tK 5 (h:=?_);refine tK 6 (h:=?_);refine tK 7 (h:=?_);refine tK 8 (h:=?_);refine tK 9 (h:=?_);refine tK 10 (h:=?_)
      refine xrK 11 rfl fun K hK=>?_
      go_simp;refine (ziz k (j:Int) true st _ ⟨by omega,by omega⟩ (by omega)).mono ?_; rw [HKX.out]; rintro e w6 ⟨rfl,hb6⟩; have b6:=bD.trans (hb6.mono bD.size); clear hb6; have hkb6:=zab b6 lkb HKb.out; have g0:=frozen_of_row _ _ 0 _ _ hkb6; have g1:=frozen_of_row _ _ 1 _ _ hkb6; obtain ⟨e0,e1⟩:=zae hkb6; have lkb6:=zaa hkb6
      refine zbe hK (HT.out _ b6) (fun hHeld=>?_)
      clear hK K
      refine xrK 12 rfl fun K hK=>?_
      go_simp;refine zas hK (by decide) ?_;clear hK K;refine zar (by kernel_rfl) ?_ _;refine NoPanic.normal ?_;go_wp2_with fail
      go_meet;exact ⟨zad (i:=1) (v:=.int .u64 KX.2) (zad (i:=0) (v:=.int .u64 KX.1) hkb6),((B5.out.trans (b6.mono B5.out.size)).setCell (p:=⟨kb,0,none⟩) zkb _).setCell (p:=⟨kb,1,none⟩) zkb _⟩
    case rest =>
     obtain ⟨w6,hw6⟩:∃ u,u = wc:=⟨_,rfl⟩;subst hw6;obtain ⟨hkx,hbx⟩:=hcut;have HKx:=zjp hkx; have B6:=zjp hbx;have HRe6:=zjp (HRe.out.below hbx);clear hkx hbx HKb;have ls6:=zaa HRe6.out.sb; have lr6:=zaa HRe6.out.rb; have lk6:=zaa HKx.out
     have HT:=zjp (show ∀ w',Below w6.heap.size w6 w'→(w'.cell? ⟨w.heap.size,0,none⟩ = some vf∧w'.cell? ⟨w.heap.size,1,none⟩ = some vt∧w'.cell? ⟨w.heap.size,2,none⟩ = some vn∧w'.cell? ⟨w.heap.size,3,none⟩ = some vs)∧w'.cell? ⟨w.heap.size + 1 + 1,2,none⟩ = some (.slice (some ⟨b,off,none⟩) vals.length cv)∧w'.cell? ⟨b,off + j,none⟩ = some (zal t) from fun w' hb =>
      ⟨zak (zab hb ls6 HRe6.out.sb),(zao (zab hb lr6 HRe6.out.rb)).2.2,(HCells.out w' (B6.out.trans (hb.mono B6.out.size))).2⟩)
     have bD:Below w6.heap.size w6 w6.drew:=(Below.refl _ _).drew;have htl:t.length≤1000000:=by omega
     go_wp2_with fail
     refine wp_region_noPanic ?_
     refine wp_region_held_drew (S:=(fun w'=>(w'.cell? ⟨w.heap.size,0,none⟩ = some vf∧w'.cell? ⟨w.heap.size,1,none⟩ = some vt∧w'.cell? ⟨w.heap.size,2,none⟩ = some vn∧w'.cell? ⟨w.heap.size,3,none⟩ = some vs)∧w'.cell? ⟨w.heap.size + 1 + 1,2,none⟩ = some (.slice (some ⟨b,off,none⟩) vals.length cv)∧w'.cell? ⟨b,off + j,none⟩ = some (zal t))) (by kernel_rfl) (HT.out _ bD) (fun hHeld=>?_)
     refine tH 0 (h:=?_);refine tH 1 (h:=?_);refine tH 2 (h:=?_);refine tH 3 (h:=?_);refine tH 4 (h:=?_);refine tH 5 (h:=?_);refine tH 6 (h:=?_);refine wpAnyH_ready (rs:=[7]) (by kernel_rfl) (by simp) ?_
     refine AllReadyH.cons rfl (fun K hK=>?_) AllReadyH.nil
     go_simp;refine (rsgrams_any zav _ _ _ _ s (j:Int) t _ (HS.out.below ((HBW.out.trans (B6.out.mono HBW.out.size)).trans (bD.mono (HBW.out.trans (B6.out.mono HBW.out.size)).size))) htl G HG.out.symm).mono ?_; rintro e w7 ⟨gv,rfl,hgv,hb7⟩; obtain ⟨ga,gc,rfl⟩:=hgv.slice; have HGv:=zjp hgv; have b7:=bD.trans (hb7.mono bD.size); clear hgv hb7
     refine hK.out _ _ (HT.out _ b7) (fun hHeld=>?_)
     clear hK K;refine tH 8 (h:=?_);refine tH 9 (h:=?_);refine tH 10 (h:=?_);refine tH 11 (h:=?_);refine tH 12 (h:=?_);refine wpAnyH_done (by kernel_rfl) ?_ _;refine NoPanic.normal ?_;have B7:=zjp (B6.out.trans (b7.mono B6.out.size)); have HKy:=zjp (zab b7 lk6 HKx.out); have HRe7:=zjp (HRe6.out.below b7);clear HT bD b7 HKx HRe6 HRe5 ls6 lr6;have lk7:=zaa HKy.out
     have HT:=zjp (show ∀ w',Below w7.heap.size w7 w'→(w'.cell? ⟨b2,off2 + j * 3,none⟩ = some (.int .i64 p.len)∧w'.cell? ⟨b2,off2 + j * 3 + 1,none⟩ = some (.int .i64 p.hashes)∧w'.cell? ⟨b2,off2 + j * 3 + 2,none⟩ = some (.int .i64 p.salt))∧w'.cell? ⟨kb,0,none⟩ = some (.int .u64 KX.1)∧w'.cell? ⟨kb,1,none⟩ = some (.int .u64 KX.2) from fun w' hb =>
      ⟨(HCells.out w' (B7.out.trans (hb.mono B7.out.size))).1,zae (zab hb lk7 HKy.out)⟩)
     have bD:Below w7.heap.size w7 w7.drew:=(Below.refl _ _).drew;have hw7:Below w.heap.size w w7:=HBW.out.trans (B7.out.mono HBW.out.size);have zD:w7.drew.heap.size = w7.heap.size:=rfl;have hz7:=B7.out.size;go_wp2_with fail
     go_cut [17] (fun s17 wx=>∃ (bb:Nat) (c:BV),s17 = .pointer (some ⟨bb,0,none⟩)∧wx.heap[bb]? = some (.cells (za3 c).toArray 56 (0,0))∧BitsAt wx (fun x=>WR.heap.size≤x) (.agg (za3 c).toArray) B∧Below w7.heap.size w7 wx)
     case first =>
      refine wp_region_noPanic ?_
      refine zat (by kernel_rfl) (fun w'=>(w'.cell? ⟨b2,off2 + j * 3,none⟩ = some (.int .i64 p.len)∧w'.cell? ⟨b2,off2 + j * 3 + 1,none⟩ = some (.int .i64 p.hashes)∧w'.cell? ⟨b2,off2 + j * 3 + 2,none⟩ = some (.int .i64 p.salt))∧w'.cell? ⟨kb,0,none⟩ = some (.int .u64 KX.1)∧w'.cell? ⟨kb,1,none⟩ = some (.int .u64 KX.2)) 11 (HT.out _ bD) (fun hHeld=>?_)
      refine tK 0 (h:=?_);refine tK 1 (h:=?_);refine tK 2 (h:=?_);refine tK 3 (h:=?_);refine tK 4 (h:=?_);refine tK 5 (h:=?_);refine zbf (rs:=[6,10]) (by kernel_rfl) (by simp) ?_
      refine AllReadyK.cons rfl (fun K hK=>?_) (AllReadyK.cons rfl (fun K hK=>?_) AllReadyK.nil)
      focus
       go_simp
       refine (rbencode_yes zav p KX _ G.1 _ HFJ.out.par (HGv.out.below bD) (fun g hg=>by have:=HG3.out g hg; omega) HG2.out).mono ?_
       rw [HBN.out];rintro e w8 ⟨_,rfl,hbv,hb8⟩;obtain ⟨⟨bl,ba,bn,bc⟩,rfl,hbv'⟩:=hbv.form;have b8:=bD.trans (hb8.mono bD.size)
       refine zbe hK (HT.out _ b8) (fun hHeld=>?_)
       clear hK K;refine tK 7 (h:=?_);refine tK 8 (h:=?_);refine t0 9 (h:=?_)
       refine xrK 10 rfl fun K hK=>?_
       go_simp;skip
       refine zbe hK (HT.out _ (b8.alloc b8.size _)) (fun hHeld=>?_)
       clear hK K
       refine zbi (fun W9 hW9=>?_)
       have b9:Below w7.heap.size w7 W9:=by rw [hW9]; exact b8.alloc b8.size _
       have z9:W9.heap[w8.heap.size]? = some (.cells #[.int .i64 0,.slice none 0 0] 56 (0,0)):=by rw [hW9]; exact zac rfl
       have k9:∀ x,x < w8.heap.size→W9.heap[x]? = w8.heap[x]?:=fun x hx=>by rw [hW9]; exact heap_alloc_old _ _ hx
       have s9:w8.heap.size≤W9.heap.size:=by rw [hW9]; simp
       clear hW9 hHeld;have hHeld:=HT.out _ b9;obtain ⟨e0,e1⟩:=zae z9; have l9:=zaa z9; have g0:=frozen_of_row _ _ 0 _ _ z9; have g1:=frozen_of_row _ _ 1 _ _ z9
       refine xrK 11 rfl fun K hK=>?_
       go_simp;refine zas hK (by decide) ?_;clear hK K;refine t0 12 (h:=?_);refine zar (by kernel_rfl) ?_ _;refine NoPanic.normal ?_;go_wp2_with fail
       go_meet;exact ⟨_,⟨bl,ba,bn,bc⟩,rfl,zad (i:=1) (v:=.slice ba bn bc) (zad (i:=0) (v:=.int .i64 bl) z9),(hbv'.move (by simpa [World.setCell] using s9) (fun x hx _=>by rw [heap_setCell_other _ _ _ _ (by show x≠w8.heap.size; omega),heap_setCell_other _ _ _ _ (by show x≠w8.heap.size; omega)]; exact k9 x hx)).weaken (fun x hx=>by have hx':w7.drew.heap.size≤x:=hx; omega),(b9.setCell (p:=⟨w8.heap.size,0,none⟩) b8.size _).setCell (p:=⟨w8.heap.size,1,none⟩) b8.size _⟩
      focus
       go_simp
       refine zbe hK (HT.out _ (bD.alloc bD.size _)) (fun hHeld=>?_)
       clear hK K
       refine zbi (fun W9 hW9=>?_)
       have b9:Below w7.heap.size w7 W9:=by rw [hW9]; exact bD.alloc bD.size _
       have z9:W9.heap[w7.heap.size]? = some (.cells #[.int .i64 0,.slice none 0 0] 56 (0,0)):=by rw [hW9]; exact zac rfl
       clear hW9 hHeld;have hHeld:=HT.out _ b9;have l9:=zaa z9
       refine xrK 6 rfl fun K hK=>?_
       go_simp
       refine (rbencode_yes zav p KX _ G.1 _ HFJ.out.par (HGv.out.below b9) (fun g hg=>by have:=HG3.out g hg; omega) HG2.out).mono ?_; rw [HBN.out]; rintro e w8 ⟨_,rfl,hbv,hb8⟩; obtain ⟨⟨bl,ba,bn,bc⟩,rfl,hbv'⟩:=hbv.form; have b8:=b9.trans (hb8.mono b9.size); have z8:=zab hb8 l9 z9
       refine zbe hK (HT.out _ b8) (fun hHeld=>?_)
       clear hK K;refine tK 7 (h:=?_);refine tK 8 (h:=?_);refine t0 9 (h:=?_);obtain ⟨e0,e1⟩:=zae z8; have l8:=zaa z8; have g0:=frozen_of_row _ _ 0 _ _ z8; have g1:=frozen_of_row _ _ 1 _ _ z8
       refine xrK 11 rfl fun K hK=>?_
       go_simp;refine zas hK (by decide) ?_;clear hK K;refine t0 12 (h:=?_);refine zar (by kernel_rfl) ?_ _;refine NoPanic.normal ?_;go_wp2_with fail
       go_meet;exact ⟨_,⟨bl,ba,bn,bc⟩,rfl,zad (i:=1) (v:=.slice ba bn bc) (zad (i:=0) (v:=.int .i64 bl) z8),((hbv'.weaken (T:=fun x=>w7.heap.size < x) (fun x hx=>by have hx':W9.heap.size≤x:=hx; omega)).move (by simp [World.setCell]) (fun x hx hs=>by have hs':w7.heap.size < x:=hs; rw [heap_setCell_other _ _ _ _ (by show x≠w7.heap.size; omega),heap_setCell_other _ _ _ _ (by show x≠w7.heap.size; omega)])).weaken (fun x hx=>by have hx':w7.heap.size < x:=hx; omega),(b8.setCell (p:=⟨w7.heap.size,0,none⟩) xnl _).setCell (p:=⟨w7.heap.size,1,none⟩) xnl _⟩
     case rest =>
      obtain ⟨w8,hw8⟩:∃ u,u = wc:=⟨_,rfl⟩;subst hw8;obtain ⟨bb,⟨bl,ba,bn,bc⟩,rfl,hbb,hbt,hb8⟩:=hcut;have B8:=zjp (B7.out.trans (hb8.mono B7.out.size)); have HRe8:=zjp (HRe7.out.below hb8);obtain ⟨y0,y1⟩:=zae hbb;have lbb:=zaa hbb;obtain ⟨x0,x1,x2⟩:=zao HRe8.out.x;have lx:=zaa HRe8.out.x;have HBt:=zjp hbt;have hb1:Below w8.heap.size w8 (w8.alloc (.cells (za3 ⟨bl,ba,bn,bc⟩).toArray 56)):=(Below.refl _ _).alloc xnl _;have HO1:=zjp (HRe8.out.own.below hb1);have HR1:=zjp (show zcn (w8.alloc (.cells (za3 ⟨bl,ba,bn,bc⟩).toArray 56)) 2 (.slice (some ⟨w8.heap.size,0,none⟩) 1 1) [(⟨bl,ba,bn,bc⟩:BV)].length ([(⟨bl,ba,bn,bc⟩:BV)].flatMap za3) from za2 (xs:=[(⟨bl,ba,bn,bc⟩:BV)].flatMap za3) (fr:=(0,0)) (t:=56) (zac rfl) rfl);have hcn:C.length + [(⟨bl,ba,bn,bc⟩:BV)].length≤1000000000:=by rw [HCl.out]; simp only [List.length_cons,List.length_nil]; omega
      clear hbb hbt hb8 hb1;go_wp2_with (at_builtin; refine zc4 rfl (.tmp 99) (.tmp 101) 57 rfl 56 (.agg #[.int .i64 0,.slice none 0 0]) 2 32 za3 (fun _=>rfl) ze4 underlying57 zf6 rfl (by decide) (by decide) (w0:=w) (v:=.slice va j vc) (A:=C) (B:=[⟨bl,ba,bn,bc⟩]) rfl HO1.out rfl HR1.out hcn ?_; intro v5 w5 ho5 hk5 hz5 hat5; obtain ⟨a5,c5,e5⟩:=zau ho5.1; have hl5:(C ++ [(⟨bl,ba,bn,bc⟩:BV)]).length = j + 1:=(by rw [List.length_append,HCl.out]; rfl); rw [hl5] at e5; subst e5; clear hl5; have hn1:=HRe8.out.n; have hx6:=hk5 _ _ (fun e=>absurd (hn1 _ e.symm) (by omega)) (zaf HRe8.out.x); have lx5:=zaa hx6; have fo:=frozen_of_row _ _ 2 _ _ hx6; obtain ⟨yy0,yy1,yy2⟩:=zao hx6)
      go_roundw
      case rel =>
       refine ⟨j + 1,C ++ [⟨bl,ba,bn,bc⟩],a5,c5,by go_num,by omega,by rw [List.length_append,HCl.out]; rfl,?_⟩;rw [HSu.out,HFn.out]
       exact HRe.out.step B8.out HBt.out ho5 (fun q o h1 h2=>hk5 q o h1 (zaf h2)) (Nat.le_trans (by simp) hz5) (by
        rcases hat5 with h1 | h1 | h1
        ·exact .inl h1
        ·exact .inr (.inl h1)
        ·exact .inr (.inr ⟨_,h1,by simp⟩))
      case measure=>simp [intOf]; omega
  ·have hq:decide ((j:Int) < (P.length:Int)) = false:=by simp; omega
   obtain rfl:j = P.length:=by omega
   obtain ⟨z0,z1,z2⟩:=zao HRe.out.z;have lz:=zaa HRe.out.z;have f0:=frozen_of_row _ _ 0 _ _ HRe.out.z; have f1:=frozen_of_row _ _ 1 _ _ HRe.out.z; have f2:=frozen_of_row _ _ 2 _ _ HRe.out.z;go_wp2_with fail
   refine zah rfl rfl (zad (i:=2) (v:=.slice va P.length vc) (zad (i:=1) (v:=.int .i64 rver) (zad (i:=0) (v:=.int .i64 rid) HRe.out.z))) underlying59 rfl (by kernel_rfl) ?_;have hvo:=own_vecG (k:=2) (enc:=za3) (fun _=>rfl) HRe.out.own.1
   have hxb:=HRe.out.xb4;have hn:=HRe.out.n
   have hkeep:∀ x,x < WR.heap.size→xb < x→((((WR.setCell ⟨w.heap.size + 3,0,none⟩ (.int .i64 rid)).setCell ⟨w.heap.size + 3,1,none⟩ (.int .i64 rver)).setCell ⟨w.heap.size + 3,2,none⟩ (.slice va P.length vc)).heap[x]? = WR.heap[x]?)∧w.heap.size≤x:=fun x _ hx=>by
    rw [heap_setCell_other _ _ _ _ (by show x≠w.heap.size + 3; omega),heap_setCell_other _ _ _ _ (by show x≠w.heap.size + 3; omega),heap_setCell_other _ _ _ _ (by show x≠w.heap.size + 3; omega)];exact ⟨rfl,by omega⟩
   have hz:WR.heap.size≤(((WR.setCell ⟨w.heap.size + 3,0,none⟩ (.int .i64 rid)).setCell ⟨w.heap.size + 3,1,none⟩ (.int .i64 rver)).setCell ⟨w.heap.size + 3,2,none⟩ (.slice va P.length vc)).heap.size:=by simp [World.setCell]
   refine ⟨_,rfl,⟨_,rfl,C,?_,?_⟩,((HRe.out.own.2.setCell (p:=⟨w.heap.size + 3,0,none⟩) (by simp) _).setCell (p:=⟨w.heap.size + 3,1,none⟩) (by simp) _).setCell (p:=⟨w.heap.size + 3,2,none⟩) (by simp) _⟩
   ·exact hvo.move hz fun x hx hs=>hkeep x hx (hn x hs.2)
   ·exact HRe.out.all.move hz fun x hx hs=>hkeep x hx hs.2
end
section
open Go.RowKit Cal
attribute [local go_sem] zag zaj za7
structure CapR (sb kb:Nat) (vf vt vn vs:Value) (s:SchemaL) (pa:Option Addr) (pc:Nat) (P:List ParL) (k:Int × Int) (ra:Option Addr) (rc:Nat) (R:List RecL) (w:World):Prop where
 bs:w.heap[sb]? = some (.cells #[vf,vt,vn,vs] 33 (0,0))
 bk:w.heap[kb]? = some (.cells #[.int .u64 k.1,.int .u64 k.2] 41 (0,0))
 sch:SchemaAt w zav vf vt vn vs s
 par:Vec w zav 3 zdi (.slice pa P.length pc) P
 rcs:RecsVec w zav (.slice ra R.length rc) R
theorem CapR.below {sb kb:Nat} {vf vt vn vs:Value} {s:SchemaL} {pa:Option Addr} {pc:Nat} {P:List ParL} {k:Int × Int} {ra:Option Addr} {rc:Nat} {R:List RecL} {w w':World} (h:CapR sb kb vf vt vn vs s pa pc P k ra rc R w) (hb:Below w.heap.size w w'):CapR sb kb vf vt vn vs s pa pc P k ra rc R w' :=
 ⟨zab hb (zaa h.bs) h.bs,zab hb (zaa h.bk) h.bk,h.sch.below hb,h.par.below hb,h.rcs.below hb⟩
theorem rall16_any (S T:Nat→Prop) (vf vt vn vs rv:Value) (s:SchemaL) (P:List ParL) (pv:Value) (k:Int × Int) (R:List RecL) (w:World) (h:SchemaAt w S vf vt vn vs s) (hp:Vec w zav 3 zdi pv P) (hr:RecsVec w T rv R) (hi:∀ p∈P,InI p.len) (hn:P.length≤1000000)
  (hs:∀ r∈R,∀ x∈r.vals,x.length≤1000000) (hm:∀ r∈R,r.vals.length≤1000000) (hR:R.length≤1000000) :
  Calls prog 15 #[.agg #[vf,vt,vn,vs],pv,.agg #[.int .u64 k.1,.int .u64 k.2],rv] w (AllEPost (zg6 s P k R) w):=by
 obtain ⟨a,cap,rfl⟩:=hp.slice;obtain ⟨ar,cr,rfl⟩:=hr.slice;have HS:=zjp h.any; have HP:=zjp hp; have HR:=zjp hr.any; have HI:=zjp hi; have HSh:=zjp hs; have HM:=zjp hm;obtain ⟨ce,hce⟩:∃ c,zby s P = c:=⟨_,rfl⟩;obtain ⟨ca,hca⟩:∃ c,allN s R = c:=⟨_,rfl⟩;obtain ⟨Z,hZ⟩:∃ Z,zg6 s P k R = Z:=⟨_,rfl⟩;rw [hZ];have HCe:=zjp hce; have HCa:=zjp hca; have HZ:=zjp hZ;clear h hp hr hi hs hm hce hca hZ;go_enter func15,ntmps15
 go_wp2_with fail
 refine zai (fun W hW=>?_)
 have hb0:=xam hW
 have hs0:W.heap[w.heap.size]? = some (.cells #[vf,vt,vn,vs] 33 (0,0)):=by rw [hW]; exact zaf (zac rfl)
 have hk0:W.heap[w.heap.size + 1]? = some (.cells #[.int .u64 k.1,.int .u64 k.2] 41 (0,0)):=by rw [hW]; exact zac (by simp)
 clear hW;refine (rcheck16_any zav _ _ _ _ s P _ _ (HS.out.below hb0) (HP.out.below hb0) HI.out hn).mono ?_;rw [HCe.out];rintro e w1 ⟨rfl,hb⟩;have HB1:=zjp (hb0.trans (hb.mono hb0.size));have HX1:=zjp (show CapR w.heap.size (w.heap.size + 1) vf vt vn vs s a cap P k ar cr R w1 from ⟨zab hb (zaa hs0) hs0,zab hb (zaa hk0) hk0,HS.out.below (hb0.trans (hb.mono hb0.size)),HP.out.below (hb0.trans (hb.mono hb0.size)),HR.out.below (hb0.trans (hb.mono hb0.size))⟩);clear hb hb0 hs0 hk0;obtain ⟨s0,s1,s2,s3⟩:=zak HX1.out.bs;have ls:=zaa HX1.out.bs;by_cases hc0:ce = 0;rotate_left
 ·have dz:(ce != 0) = true:=by simpa using hc0
  have hZ2:Z = ([],ce):=by rw [← HZ.out]; unfold zg6; rw [if_neg (by rw [HCe.out]; exact hc0),HCe.out]
  subst hZ2;clear HCe HCa HZ hc0;go_wp2_with fail
  go_ret2;exact ⟨_,rfl,EncsVec.nil _ _,HB1.out⟩
 have dz:(ce != 0) = false:=by simpa using hc0
 go_wp2_with fail
 refine (rrall_any zav zav _ _ _ _ _ s R _ (HS.out.below HB1.out) (HR.out.below HB1.out) HSh.out HM.out hR).mono ?_;rw [HCa.out];rintro e w2 ⟨rfl,hb⟩;have HB2:=zjp (HB1.out.trans (hb.mono HB1.out.size)); have HX2:=zjp (HX1.out.below hb);clear hb s0 s1 s2 s3 ls;by_cases ha0:ca = 0;rotate_left
 ·have da:(ca != 0) = true:=by simpa using ha0
  have hZ2:Z = ([],ca):=by rw [← HZ.out]; unfold zg6; rw [if_pos (by rw [HCe.out]; exact hc0),if_neg (by rw [HCa.out]; exact ha0),HCa.out]
  subst hZ2;clear HCe HCa HZ hc0 ha0;go_wp2_with fail
  go_ret2;exact ⟨_,rfl,EncsVec.nil _ _,HB2.out⟩
 have da:(ca != 0) = false:=by simpa using ha0
 obtain ⟨L,hL⟩:∃ L,R.map (zen s P k) = L:=⟨_,rfl⟩;have hZ2:Z = (L,0):=by rw [← HZ.out,← hL]; unfold zg6; rw [if_pos (by rw [HCe.out]; exact hc0),if_pos (by rw [HCa.out]; exact ha0)]
 have hll:L.length = R.length:=by rw [← hL,List.length_map]
 have HC0:=zjp (HCe.out.trans hc0);have HRok:=zjp (ziq (HCa.out.trans ha0)).2.2;have HZ3:=zjp hZ2; have HL:=zjp hL; have HLl:=zjp hll;clear HCe HCa HZ hc0 ha0 hZ2 HX1 hL hll;go_wp2_with fail
 go_loopw [12,13] (fun v i wr=>∃ (j:Nat) (C:List EV),i = .int .i64 j∧j≤R.length∧C.length = j∧OwnV 59 3 zev w2 v C wr∧EncsAll wr (zfu w2.heap.size v) C ((R.take j).map (zen s P k))) (fun _ i _=>R.length - (intOf i).toNat)
 case atStart=>exact ⟨0,[],rfl,by omega,rfl,OwnV.start _ _ _ _,⟨rfl,fun n h1 _=>by simp at h1⟩⟩
 case round =>
  obtain ⟨j,C,rfl,hj,hCl,ho,hba⟩:=hrel;have HO:=zjp ho; have HBA:=zjp hba; have HCl:=zjp hCl; have HX:=zjp (HX2.out.below ho.2);obtain ⟨va,vc,ev⟩:=zau ho.1;rw [hCl] at ev;subst ev;clear ho hba hCl;obtain ⟨WR,hWR⟩:∃ u,u = wr:=⟨_,rfl⟩;subst hWR;by_cases hlt:j < R.length
  ·have hq:decide ((j:Int) < R.length) = true:=by simp; omega
   have hji:(j:Int) < (R.length:Int):=by omega
   obtain ⟨b,off,id,ver,aa,nn,cc,vals,rfl,lb,c0,c1,c2,hRk,hvv⟩:=HX.out.rcs.at j hlt;have hnn:=hvv.len.1;subst hnn;have hok:=HRok.out _ (List.getElem_mem hlt);rw [hRk] at hok;have hts:(R.take (j + 1)).map (zen s P k) = (R.take j).map (zen s P k) ++ [zen s P k ⟨id,ver,vals⟩]:=by rw [List.take_succ_eq_append_getElem hlt,hRk]; simp
   obtain ⟨X,hXe⟩:∃ X,zen s P k ⟨id,ver,vals⟩ = X:=⟨_,rfl⟩;rw [hXe] at hts;have HOk:=zjp hok; have HTs:=zjp hts; have HVv:=zjp hvv; have HXe:=zjp hXe;have lsb:=zaa HX.out.bs; have lkb:=zaa HX.out.bk
   have HT:=zjp (show ∀ w',Below WR.heap.size WR w'→(w'.cell? ⟨w.heap.size,0,none⟩ = some vf∧w'.cell? ⟨w.heap.size,1,none⟩ = some vt∧w'.cell? ⟨w.heap.size,2,none⟩ = some vn∧w'.cell? ⟨w.heap.size,3,none⟩ = some vs)∧(w'.cell? ⟨w.heap.size + 1,0,none⟩ = some (.int .u64 k.1)∧w'.cell? ⟨w.heap.size + 1,1,none⟩ = some (.int .u64 k.2))∧w'.cell? ⟨b,off + j * 3,none⟩ = some (.int .i64 id)∧w'.cell? ⟨b,off + j * 3 + 1,none⟩ = some (.int .i64 ver)∧w'.cell? ⟨b,off + j * 3 + 2,none⟩ = some (.slice aa vals.length cc) from fun w' hb =>
    ⟨zak (zab hb lsb HX.out.bs),zae (zab hb lkb HX.out.bk),(hb.cell (p:=⟨b,off + j * 3,none⟩) lb).trans c0,(hb.cell (p:=⟨b,off + j * 3 + 1,none⟩) lb).trans c1,(hb.cell (p:=⟨b,off + j * 3 + 2,none⟩) lb).trans c2⟩)
   have bD:Below WR.heap.size WR WR.drew:=(Below.refl _ _).drew;have zD:WR.drew.heap.size = WR.heap.size:=rfl;clear hok hts hvv hRk hXe c0 c1 c2;go_wp2_with fail
   go_cut [14] (fun s14 wx=>∃ (bb:Nat) (c:EV),s14 = .pointer (some ⟨bb,0,none⟩)∧wx.heap[bb]? = some (.cells (zev c).toArray 59 (0,0))∧EncVal wx (fun x=>WR.heap.size≤x) (.agg (zev c).toArray) X∧Below WR.heap.size WR wx)
   case first =>
    refine wp_region_noPanic ?_
    refine zat (by kernel_rfl) (fun w'=>(w'.cell? ⟨w.heap.size,0,none⟩ = some vf∧w'.cell? ⟨w.heap.size,1,none⟩ = some vt∧w'.cell? ⟨w.heap.size,2,none⟩ = some vn∧w'.cell? ⟨w.heap.size,3,none⟩ = some vs)∧(w'.cell? ⟨w.heap.size + 1,0,none⟩ = some (.int .u64 k.1)∧w'.cell? ⟨w.heap.size + 1,1,none⟩ = some (.int .u64 k.2))∧w'.cell? ⟨b,off + j * 3,none⟩ = some (.int .i64 id)∧w'.cell? ⟨b,off + j * 3 + 1,none⟩ = some (.int .i64 ver)∧w'.cell? ⟨b,off + j * 3 + 2,none⟩ = some (.slice aa vals.length cc)) 12 (HT.out _ bD) (fun hHeld=>?_)
    refine tK 0 (h:=?_);refine tK 1 (h:=?_);refine tK 2 (h:=?_);refine tK 3 (h:=?_);refine tK 4 (h:=?_);refine tK 5 (h:=?_);refine tK 6 (h:=?_);refine zbf (rs:=[7,11]) (by kernel_rfl) (by simp) ?_
    refine AllReadyK.cons rfl (fun K hK=>?_) (AllReadyK.cons rfl (fun K hK=>?_) AllReadyK.nil)
    focus
     go_simp;refine (ziv zav _ _ _ _ s P _ k ⟨id,ver,vals⟩ _ _ (HX.out.sch.below bD) (HX.out.par.below bD) (HVv.out.below bD) HC0.out HOk.out).mono ?_;rw [HXe.out];rintro e w8 ⟨_,rfl,hev,hb8⟩;obtain ⟨⟨xi,xv,xa,xn,xc⟩,rfl,hev'⟩:=hev.form;have b8:=bD.trans (hb8.mono bD.size)
     refine zbe hK (HT.out _ b8) (fun hHeld=>?_)
     clear hK K;refine tK 8 (h:=?_);refine tK 9 (h:=?_);refine t0 10 (h:=?_)
     refine xrK 11 rfl fun K hK=>?_
     go_simp;skip
     refine zbe hK (HT.out _ (b8.alloc b8.size _)) (fun hHeld=>?_)
     clear hK K
     refine zbi (fun W9 hW9=>?_)
     have b9:Below WR.heap.size WR W9:=by rw [hW9]; exact b8.alloc b8.size _
     have z9:W9.heap[w8.heap.size]? = some (.cells #[.int .i64 0,.int .i64 0,.slice none 0 0] 59 (0,0)):=by rw [hW9]; exact zac rfl
     have k9:∀ x,x < w8.heap.size→W9.heap[x]? = w8.heap[x]?:=fun x hx=>by rw [hW9]; exact heap_alloc_old _ _ hx
     have s9:w8.heap.size≤W9.heap.size:=by rw [hW9]; simp
     clear hW9 hHeld;have hHeld:=HT.out _ b9;obtain ⟨e0,e1,e2⟩:=zao z9; have l9:=zaa z9; have g0:=frozen_of_row _ _ 0 _ _ z9; have g1:=frozen_of_row _ _ 1 _ _ z9; have g2:=frozen_of_row _ _ 2 _ _ z9
     refine xrK 12 rfl fun K hK=>?_
     go_simp;refine zas hK (by decide) ?_;clear hK K;refine t0 13 (h:=?_);refine zar (by kernel_rfl) ?_ _;refine NoPanic.normal ?_;go_wp2_with fail
     go_meet;exact ⟨_,⟨xi,xv,xa,xn,xc⟩,rfl,zad (i:=2) (v:=.slice xa xn xc) (zad (i:=1) (v:=.int .i64 xv) (zad (i:=0) (v:=.int .i64 xi) z9)),(hev'.move (T:=fun x=>WR.drew.heap.size≤x) (by simpa [World.setCell] using s9) (fun x hx hs=>by rw [heap_setCell_other _ _ _ _ (by show x≠w8.heap.size; omega),heap_setCell_other _ _ _ _ (by show x≠w8.heap.size; omega),heap_setCell_other _ _ _ _ (by show x≠w8.heap.size; omega)]; exact ⟨k9 x hx,hs⟩)).weaken (fun x _ hx=>by have hx':WR.drew.heap.size≤x:=hx; omega),((b9.setCell (p:=⟨w8.heap.size,0,none⟩) b8.size _).setCell (p:=⟨w8.heap.size,1,none⟩) b8.size _).setCell (p:=⟨w8.heap.size,2,none⟩) b8.size _⟩
    focus
     go_simp
     refine zbe hK (HT.out _ (bD.alloc bD.size _)) (fun hHeld=>?_)
     clear hK K
     refine zbi (fun W9 hW9=>?_)
     have b9:Below WR.heap.size WR W9:=by rw [hW9]; exact bD.alloc bD.size _
     have z9:W9.heap[WR.heap.size]? = some (.cells #[.int .i64 0,.int .i64 0,.slice none 0 0] 59 (0,0)):=by rw [hW9]; exact zac rfl
     clear hW9 hHeld;have hHeld:=HT.out _ b9;have l9:=zaa z9
     refine xrK 7 rfl fun K hK=>?_
     go_simp;refine (ziv zav _ _ _ _ s P _ k ⟨id,ver,vals⟩ _ _ (HX.out.sch.below b9) (HX.out.par.below b9) (HVv.out.below b9) HC0.out HOk.out).mono ?_; rw [HXe.out]; rintro e w8 ⟨_,rfl,hev,hb8⟩; obtain ⟨⟨xi,xv,xa,xn,xc⟩,rfl,hev'⟩:=hev.form; have b8:=b9.trans (hb8.mono b9.size); have z8:=zab hb8 l9 z9
     refine zbe hK (HT.out _ b8) (fun hHeld=>?_)
     clear hK K;refine tK 8 (h:=?_);refine tK 9 (h:=?_);refine t0 10 (h:=?_);obtain ⟨e0,e1,e2⟩:=zao z8; have l8:=zaa z8; have g0:=frozen_of_row _ _ 0 _ _ z8; have g1:=frozen_of_row _ _ 1 _ _ z8; have g2:=frozen_of_row _ _ 2 _ _ z8
     refine xrK 12 rfl fun K hK=>?_
     go_simp;refine zas hK (by decide) ?_;clear hK K;refine t0 13 (h:=?_);refine zar (by kernel_rfl) ?_ _;refine NoPanic.normal ?_;go_wp2_with fail
     go_meet;exact ⟨_,⟨xi,xv,xa,xn,xc⟩,rfl,zad (i:=2) (v:=.slice xa xn xc) (zad (i:=1) (v:=.int .i64 xv) (zad (i:=0) (v:=.int .i64 xi) z8)),((hev'.weaken (T:=fun x=>WR.heap.size < x) (fun x _ hx=>by have hx':W9.heap.size≤x:=hx; omega)).move (by simp [World.setCell]) (fun x hx hs=>by have hs':WR.heap.size < x:=hs; rw [heap_setCell_other _ _ _ _ (by show x≠WR.heap.size; omega),heap_setCell_other _ _ _ _ (by show x≠WR.heap.size; omega),heap_setCell_other _ _ _ _ (by show x≠WR.heap.size; omega)]; exact ⟨rfl,hs⟩)).weaken (fun x _ hx=>by have hx':WR.heap.size < x:=hx; omega),((b8.setCell (p:=⟨WR.heap.size,0,none⟩) xnl _).setCell (p:=⟨WR.heap.size,1,none⟩) xnl _).setCell (p:=⟨WR.heap.size,2,none⟩) xnl _⟩
   case rest =>
    obtain ⟨w8,hw8⟩:∃ u,u = wc:=⟨_,rfl⟩;subst hw8;obtain ⟨bb,⟨xi,xv,xa,xn,xc⟩,rfl,hbb,hev,hb8⟩:=hcut;have B8:=zjp hb8;obtain ⟨y0,y1,y2⟩:=zao hbb;have lbb:=zaa hbb;have HEv:=zjp hev;have hb1:Below w8.heap.size w8 (w8.alloc (.cells (zev ⟨xi,xv,xa,xn,xc⟩).toArray 59)):=(Below.refl _ _).alloc xnl _;have HO1:=zjp (HO.out.below (hb8.trans (hb1.mono hb8.size)));have HR1:=zjp (show zcn (w8.alloc (.cells (zev ⟨xi,xv,xa,xn,xc⟩).toArray 59)) 3 (.slice (some ⟨w8.heap.size,0,none⟩) 1 1) [(⟨xi,xv,xa,xn,xc⟩:EV)].length ([(⟨xi,xv,xa,xn,xc⟩:EV)].flatMap zev) from za2 (xs:=[(⟨xi,xv,xa,xn,xc⟩:EV)].flatMap zev) (fr:=(0,0)) (t:=59) (zac rfl) rfl);have hcn:C.length + [(⟨xi,xv,xa,xn,xc⟩:EV)].length≤1000000000:=by rw [HCl.out]; simp only [List.length_cons,List.length_nil]; omega
    clear hbb hev hb8 hb1 HT bD zD;go_wp2_with (at_builtin; refine zc4 rfl (.tmp 45) (.tmp 47) 50 rfl 59 (.agg #[.int .i64 0,.int .i64 0,.slice none 0 0]) 3 40 zev (fun _=>rfl) one_encEV underlying50 infoEV rfl (by decide) (by decide) (w0:=w2) (v:=.slice va j vc) (A:=C) (B:=[⟨xi,xv,xa,xn,xc⟩]) rfl HO1.out rfl HR1.out hcn ?_; intro v5 w5 ho5 hk5 hz5 hat5)
    go_roundw
    case rel =>
     refine ⟨j + 1,C ++ [⟨xi,xv,xa,xn,xc⟩],by go_num,by omega,by rw [List.length_append,HCl.out]; rfl,ho5,?_⟩;rw [HTs.out]
     exact HBA.out.grow (fun g e=>(World.ownsRow.lt HO.out.1 g e).2) HO.out.2.size B8.out HEv.out (fun q o h1 h2=>hk5 q o h1 (zaf h2)) (Nat.le_trans (by simp) hz5) (by
      rcases hat5 with h1 | h1 | h1
      ·exact .inl h1
      ·exact .inr (.inl h1)
      ·exact .inr (.inr ⟨_,h1,by simp⟩))
    case measure=>simp [intOf]; omega
  ·have hq:decide ((j:Int) < (R.length:Int)) = false:=by simp; omega
   obtain rfl:j = R.length:=by omega
   rw [List.take_of_length_le xnl] at HBA;go_wp2_with fail
   go_ret2;rw [HZ3.out];have hz:=HB2.out.size;have hv:EncsVec WR (fun x=>w2.heap.size≤x) (.slice va R.length vc) (R.map (zen s P k)):=⟨C,OwnV.vec (size:=3) (enc:=zev) (fun _=>rfl) HO.out,HBA.out.move xnl fun x _ hx=>⟨rfl,hx.1⟩⟩
   rw [HL.out] at hv;exact ⟨_,rfl,hv.move xnl fun x _ hx=>⟨rfl,by have hx':w2.heap.size≤x:=hx; omega⟩,HB2.out.trans (HO.out.2.mono hz)⟩
end
section
open Go.RowKit Cal
theorem infoDS:(prog.info? 44).map (fun i=>(i.zero,i.size,i.bytes)) = some (some (.slice none 0 0),1,24):=by kernel_rfl
structure DOut (D:Nat) (W:World) (v:Value) (C:List SV) (Ds:List (List zdl)) (wr:World):Prop where
 own:OwnM D 44 1 encSV W v C wr
 sls:SlsAll 2 zgz wr (zfu W.heap.size v) C Ds
 ok:∀ L∈Ds,DictD 6 L
theorem DOut.nil {D:Nat} {W wr:World} (m:Moved D W wr):DOut D W (.slice none 0 0) [] [] wr:=⟨OwnM.nil m,⟨rfl,fun n h=>by simp at h⟩,fun K h=>by simp at h⟩
theorem DOut.moved {D:Nat} {W wr wx:World} {v:Value} {C:List SV} {Ds:List (List zdl)} (h:DOut D W v C Ds wr) (m:Moved D wr wx):DOut D W v C Ds wx :=
 ⟨h.own.moved m,h.sls.move m.size fun x hx hs=>⟨m.grown.block x hx (by have:=h.own.2.lt; have:=hs.1; simp; omega),hs⟩,h.ok⟩
theorem DOut.len {D:Nat} {W wr:World} {v:Value} {C:List SV} {Ds:List (List zdl)} (h:DOut D W v C Ds wr):C.length = Ds.length:=h.sls.1
theorem DOut.vec {D:Nat} {W wr:World} {v:Value} {C:List SV} {Ds:List (List zdl)} (h:DOut D W v C Ds wr):SlsVec 2 zgz wr (Off D) v Ds:=by
 have hD:=h.own.2.lt;refine ⟨C,(OwnM.vec (size:=1) (enc:=encSV) (fun _=>rfl) h.own).off fun b _ hb=>by have hb':W.heap.size≤b:=hb; omega,h.sls.move xnl fun b _ hb=>⟨rfl,by have:=hb.1; show b≠D; omega⟩⟩
theorem DOut.put {D:Nat} {W wr wy w5:World} {v v':Value} {C:List SV} {Ds:List (List zdl)} {c:SV} {L:List zdl} (h:DOut D W v C Ds wr) (m:Moved D wr wy) (hc:Vec wy (fun b=>wr.heap.size≤b) 2 zgz (svV c) L) (hL:DictD 6 L)
  (ho:OwnM D 44 1 encSV W v' (C ++ [c]) w5) (hk:∀ q o,some q≠v.ownBlock→wy.heap[q]? = some o→w5.heap[q]? = some o) (hz:wy.heap.size≤w5.heap.size) (hat:v'.ownBlock = none∨v.ownBlock = v'.ownBlock∨∃ g,v'.ownBlock = some g∧wy.heap.size≤g):DOut D W v' (C ++ [c]) (Ds ++ [L]) w5:=by
 have hown:=h.own.1.lt
 have hS:∀ b,b < wy.heap.size→zfu W.heap.size v b→w5.heap[b]? = wy.heap[b]?∧zfu W.heap.size v' b:=by
  intro b hb hs;obtain ⟨ob,hob⟩:∃ ob,wy.heap[b]? = some ob:=⟨_,Array.getElem?_eq_getElem hb⟩;rw [hob];refine ⟨hk b ob hs.2 hob,hs.1,?_⟩
  rcases hat with h1 | h1 | ⟨g,h1,h2⟩
  ·rw [h1]; simp
  ·rw [← h1]; exact hs.2
  ·rw [h1]; intro e; cases e; omega
 have h1:=(h.moved m).sls;have hzr:=h.own.2.size;have h2:Vec wy (zfu W.heap.size v) 2 zgz (svV c) L:=hc.move xnl fun b _ hb=>⟨rfl,by have hb':wr.heap.size≤b:=hb; omega,fun e=>by have:=(hown b e.symm).2; have hb':wr.heap.size≤b:=hb; omega⟩
 refine ⟨ho,(h1.move hz hS).snoc (h2.move hz hS),fun X hX=>?_⟩
 rcases List.mem_append.1 hX with h3 | h3
 ·exact h.ok X h3
 ·rw [List.mem_singleton.1 h3]; exact hL
theorem bitsIn_few {b:BitsL} (h:BitsIn b):b.words.length≤1000000:=by
 rcases h with rfl | h
 ·simp [zbg]
 ·have:=(zcs h.1).2; omega
theorem col_getD {E:List EncL} {f j:Nat} (h:j < E.length):(zef E f).getD j zbg = E[j].fields.getD f zbg:=by
 rw [za5 _ _ (by rw [zd5]; exact h)]; simp [zef]
end
end Go.Proofs.YtgkaafncfjlooaaGreatDoor
