/- Parts of one proof: Ref16F, Parse16Plain, Ref16G, Ref16H, Ref16I, Ref16J, AppendK, EexD, EexU, EexV, EexLoop. -/
import Derived.Test.YtpmpdonccgcehaaGreatDoorPartEx8
import Derived.ArgAppend
set_option maxHeartbeats 16000000
set_option maxRecDepth 100000
open Go.Proofs.Tryz
set_option linter.unusedSimpArgs false
set_option linter.unusedVariables false
namespace Go.Proofs.YtpmpdonccgcehaaGreatDoor
section
open Go.RowKit Cal
attribute [local go_sem] zah zaj zar zaq
theorem none_word {b:BitsL} (h:zgu b = true):zd9 b = [45]:=by
 unfold zd9;rw [if_neg];unfold zgu at h;simp only [Bool.and_eq_true,decide_eq_true_eq] at h;unfold zbv zb6;rw [h.1]; simp
def lineK (x:EncL) (k:Nat):List UInt8:=ze8 32 (Lib.decDigits x.id.toNat :: Lib.decDigits x.ver.toNat :: (x.fields.take k).map zd9)
theorem joinC_end (c:UInt8) (w:List UInt8):∀ (L:List (List UInt8)) (a:List UInt8),ze8 c (a :: L ++ [w]) = ze8 c (a :: L) ++ (c :: w)
 | [],a=>by simp [ze8]
 | b :: L,a=>by
  have h:=joinC_end c w L b;simp only [List.cons_append] at h ⊢;rw [ze8,h,ze8,List.append_assoc]; simp
theorem lineK_succ (x:EncL) (k:Nat) (h:k < x.fields.length):lineK x (k + 1) = lineK x k ++ (32 :: zd9 x.fields[k]):=by
 unfold lineK;rw [List.take_succ_eq_append_getElem h,List.map_append];have:=joinC_end 32 (zd9 x.fields[k]) (Lib.decDigits x.ver.toNat :: (x.fields.take k).map zd9) (Lib.decDigits x.id.toNat);simpa using this
theorem lineK_len {x:EncL} (h:zbd x = true) (k:Nat):(lineK x k).length≤2000:=by
 have h1:=line_len (x:=⟨x.id,x.ver,x.fields.take k⟩);unfold lineK;have h':=h;unfold zbd at h';simp only [Bool.and_eq_true,decide_eq_true_eq] at h';have hd1:(Lib.decDigits x.id.toNat).length≤7:=zdd (k:=7) (by decide) (by omega);have hd2:(Lib.decDigits x.ver.toNat).length≤7:=zdd (k:=7) (by decide) (by omega)
 have:=joinC_most 32 128 (Lib.decDigits x.id.toNat :: Lib.decDigits x.ver.toNat :: (x.fields.take k).map zd9) (by
  intro t ht
  rcases List.mem_cons.1 ht with rfl | ht
  ·omega
  ·rcases List.mem_cons.1 ht with rfl | ht
   ·omega
   ·obtain ⟨b,_,rfl⟩:=List.mem_map.1 ht
    exact zid)
 simp only [List.length_cons,List.length_map,List.length_take] at this;have h5:min k x.fields.length≤5:=by omega
 have h6:(min k x.fields.length + 1 + 1) * (128 + 1)≤7 * 129:=Nat.mul_le_mul (by omega) (by decide);omega
theorem rline16_no (S:Nat→Prop) (v:Value) (x:EncL) (w:World) (h:EncVal w S v x) (hi:∀ b∈x.fields,InI b.len) (hn:x.fields.length≤1000000) (hv:zbd x = false) :
  Calls prog 28 #[v] w fun e w'=>e = .returned (.tuple #[zal [],.int .i64 7])∧Below w.heap.size w w':=by
 obtain ⟨s,rfl,hvv⟩:=h;obtain ⟨a,cap,rfl⟩:=hvv.slice;have HV:=zi5 hvv; have HI:=zi5 hi; have HVd:=zi5 hv;clear hvv hi hv;go_enter func28,ntmps28
 go_wp2_with fail
 refine zae (fun W hW=>?_)
 have hb0:=xal hW
 clear hW;refine (zfo S _ x W ⟨_,rfl,HV.out.below hb0⟩ HI.out hn).mono ?_;rw [HVd.out];rintro e w1 ⟨rfl,hb⟩;have HB1:=zi5 (hb0.trans (hb.mono hb0.size));clear hb0 hb;go_wp2_with fail
 go_ret2;exact ⟨rfl,HB1.out⟩
theorem rline16_yes (S:Nat→Prop) (v:Value) (x:EncL) (w:World) (h:EncVal w S v x) (hi:∀ b∈x.fields,HexIn b) (hv:zbd x = true) :
  Calls prog 28 #[v] w fun e w'=>e = .returned (.tuple #[zal (zey x),.int .i64 0])∧Below w.heap.size w w':=by
 have hv':=hv;unfold zbd at hv';simp only [Bool.and_eq_true,decide_eq_true_eq,Bool.not_eq_true'] at hv';obtain ⟨⟨⟨⟨⟨⟨v1,v2⟩,v3⟩,v4⟩,v5⟩,v6⟩,v7⟩:=hv';obtain ⟨s,rfl,hvv⟩:=h;obtain ⟨a,cap,rfl⟩:=hvv.slice;have hlk:=fun k=>lineK_len hv k
 have hls:=lineK_succ x;have hlw:zey x = lineK x x.fields.length:=by unfold zey lineK zbg; rw [List.take_length]
 have hl0:lineK x 0 = Lib.decDigits x.id.toNat ++ (32 :: Lib.decDigits x.ver.toNat):=by unfold lineK; simp [ze8]
 rw [hlw];obtain ⟨id,ver,F⟩:=x;dsimp only at hvv hi v1 v2 v3 v4 v5 v6 v7 hls hl0 ⊢;obtain ⟨i,rfl⟩:=Int.eq_ofNat_of_zero_le (show 0≤id by omega);obtain ⟨n,rfl⟩:=Int.eq_ofNat_of_zero_le (show 0≤ver by omega);have hd1:(Lib.decDigits i).length≤7:=zdd (k:=7) (by decide) (by omega);have hd2:(Lib.decDigits n).length≤7:=zdd (k:=7) (by decide) (by omega);simp only [Int.toNat_natCast] at hl0;have n1:=zf2 19 i; have n2:=zf2 19 n;obtain ⟨ti,hti⟩:∃ t,Lib.decDigits i = t:=⟨_,rfl⟩;obtain ⟨tn,htn⟩:∃ t,Lib.decDigits n = t:=⟨_,rfl⟩;rw [hti] at hd1 hl0 n1; rw [htn] at hd2 hl0 n2;obtain ⟨LK,hLK⟩:∃ LK:Nat→List UInt8,LK = lineK ⟨(i:Int),(n:Int),F⟩:=⟨_,rfl⟩;rw [← hLK] at hls hl0 hlk ⊢;have HV:=zi5 hvv; have HI:=zi5 hi; have HVd:=zi5 hv; have HN1:=zi5 n1; have HN2:=zi5 n2; have HLs:=zi5 hls; have HL0:=zi5 hl0; have HLk:=zi5 hlk; have HBad:=zi5 v7;have e1:¬ 9223372036854775807 < ti.length + 1:=by omega
 have e2:¬ 9223372036854775807 < ti.length + 1 + tn.length:=by omega
 clear hvv hi hv n1 n2 hls hl0 hlk v7 hti htn hLK hlw;go_enter func28,ntmps28
 go_wp2_with fail
 refine zae (fun W hW=>?_)
 have hb0:=xal hW
 have hx0:W.heap[w.heap.size]? = some (.cells #[.int .i64 (i:Int),.int .i64 (n:Int),.slice a F.length cap] 32 (0,0)):=by rw [hW]; exact zac rfl
 clear hW
 refine (zfo S _ ⟨(i:Int),(n:Int),F⟩ W ⟨_,rfl,HV.out.below hb0⟩ (fun b hb=>(HI.out b hb).1) (by dsimp only; omega)).mono ?_
 rw [HVd.out];rintro e w1 ⟨rfl,hb⟩;have HB1:=zi5 (hb0.trans (hb.mono hb0.size)); have HX1:=zi5 (zab hb (zaa hx0) hx0);have lx:=zaa HX1.out;clear hb0 hx0 hb;have bD:Below w1.heap.size w1 w1.drew:=(Below.refl _ _).drew;have HT:=zi5 (show ∀ w',Below w1.heap.size w1 w'→w'.cell? ⟨w.heap.size,0,none⟩ = some (.int .i64 (i:Int))∧w'.cell? ⟨w.heap.size,1,none⟩ = some (.int .i64 (n:Int)) from fun w' hb=>⟨(zai (zab hb lx HX1.out)).1,(zai (zab hb lx HX1.out)).2.1⟩)
 go_wp2_with fail
 go_cut [4] (fun s4 wx=>s4 = zal (LK 0)∧Below w1.heap.size w1 wx)
 case first =>
  refine wp_region_noPanic ?_
  refine wp_region_held_drew (S:=(fun w'=>w'.cell? ⟨w.heap.size,0,none⟩ = some (.int .i64 (i:Int))∧w'.cell? ⟨w.heap.size,1,none⟩ = some (.int .i64 (n:Int)))) (by kernel_rfl) (HT.out _ bD) (fun hHeld=>?_)
  refine tH 0 (h:=?_);refine tH 1 (h:=?_);refine tH 4 (h:=?_);refine tH 5 (h:=?_);refine wpAnyH_ready (rs:=[2]) (by kernel_rfl) (by simp) ?_
  refine AllReadyH.cons rfl (fun K hK=>?_) AllReadyH.nil
  go_simp;refine (HN1.out _ (by omega) (by omega)).mono ?_; rintro e w2 ⟨rfl,hb2⟩; have b2:=bD.trans (hb2.mono bD.size); clear hb2
  refine hK.out _ _ (HT.out _ b2) (fun hHeld=>?_)
  clear hK K;refine tH 3 (h:=?_);refine wpAnyH_ready (rs:=[6]) (by kernel_rfl) (by simp) ?_
  refine AllReadyH.cons rfl (fun K hK=>?_) AllReadyH.nil
  go_simp;refine (HN2.out _ (by omega) (by omega)).mono ?_; rintro e w3 ⟨rfl,hb3⟩; have b3:=b2.trans (hb3.mono b2.size); clear hb3
  refine hK.out _ _ (HT.out _ b3) (fun hHeld=>?_)
  clear hK K;refine tH 7 (h:=?_);refine tH 8 (h:=?_);refine wpAnyH_done (by kernel_rfl) ?_ _;refine NoPanic.normal ?_;go_wp2_with fail
  go_meet;refine ⟨?_,b3⟩;rw [HL0.out]
 case rest =>
  obtain ⟨w2,hw2⟩:∃ u,u = wc:=⟨_,rfl⟩;subst hw2;obtain ⟨rfl,hb12⟩:=hcut;have HB2:=zi5 (HB1.out.trans (hb12.mono HB1.out.size)); have HX2:=zi5 (zab hb12 lx HX1.out);have lx2:=zaa HX2.out;clear hb12 bD HT HX1 HB1 lx;go_wp2_with fail
  go_loopw [4,5] (fun s4 i wr=>∃ k:Nat,k≤F.length∧i = .int .i64 k∧s4 = zal (LK k)∧Below w2.heap.size w2 wr) (fun _ i _=>F.length - (intOf i).toNat)
  case atStart=>exact ⟨0,by omega,rfl,rfl,Below.refl _ _⟩
  case round =>
   obtain ⟨k,hk,rfl,rfl,hbw⟩:=hrel;have HB:=zi5 (HB2.out.trans (hbw.mono HB2.out.size)); have HW:=zi5 hbw;obtain ⟨x0,x1,x2⟩:=zai (zab hbw lx2 HX2.out);have lxr:=Nat.lt_of_lt_of_le lx2 hbw.size;by_cases hlt:k < F.length
   ·have hq:decide ((k:Int) < (F.length:Int)) = true:=by simp; omega
    have hki:(k:Int) < (F.length:Int):=by omega
    obtain ⟨b,off,c,rfl,lb,c0,c1,hbt⟩:=(HV.out.below HB.out).at k hlt;obtain ⟨bt,hbe⟩:∃ bt,F.getD k zba = bt:=⟨_,rfl⟩;have hbe2:F[k] = bt:=by rw [← hbe,zbi _ _ hlt]
    have hhx:=HI.out F[k] (List.getElem_mem hlt);have hts:=HLs.out k hlt;rw [hbe2] at hhx hts;rw [hbe] at hbt
    have hgood:zgu bt = true∨zbv bt = true:=by
     have h:=HBad.out;rw [List.any_eq_false] at h;have h2:=h F[k] (List.getElem_mem hlt);rw [hbe2] at h2;unfold badB at h2;cases h3:zgu bt with
     | true=>exact .inl rfl
     | false=>rw [h3] at h2; simp at h2; exact .inr h2
    have HBt:=zi5 hbt; have HHx:=zi5 hhx; have HTs:=zi5 hts;have hPl:=HLk.out k;obtain ⟨P,hP⟩:∃ P,LK k = P:=⟨_,rfl⟩;rw [hP] at HTs hPl ⊢;clear hbw hbt hbe hbe2 hhx hts hP;go_wp2_with fail
    rcases hgood with hno | hvd
    ·have hnv:zbv bt = false:=by
      have h:=none_word hno;unfold zd9 at h;cases hvd:zbv bt with
      | false=>rfl
      | true =>
       rw [if_pos hvd] at h;have h1:=zhr bt;have h2:=zgd hvd;rw [h] at h1;simp at h1; omega
     refine (rhex9_no S _ bt _ HBt.out hnv HHx.out.1).mono ?_;rintro e w3 ⟨rfl,hb⟩;have HW3:=zi5 (HW.out.trans (hb.mono HW.out.size)); have HBt3:=zi5 (HBt.out.below hb);have y0:=(hb.cell (p:=⟨b,off + k * 2,none⟩) lb).trans c0; have y1:=(hb.cell (p:=⟨b,off + k * 2 + 1,none⟩) lb).trans c1;have lb3:=Nat.lt_of_lt_of_le lb hb.size;clear hb x0 x1 x2 c0 c1 lxr hnv;obtain ⟨x0,x1,x2⟩:=zai (zab HW3.out lx2 HX2.out);have lxr:=Nat.lt_of_lt_of_le lx2 HW3.out.size;go_wp2_with fail
     refine (zfu S _ bt _ HBt3.out).mono ?_;rw [hno];rintro e w4 ⟨rfl,hb⟩;have HW4:=zi5 (HW3.out.trans (hb.mono HW3.out.size));have hwd:=none_word hno;have HWd:=zi5 hwd;have e3:¬ 9223372036854775807 < P.length + 2:=by omega
     clear hb x0 x1 x2 y0 y1 hwd hno;go_wp2_with fail
     go_roundw
     case rel=>exact ⟨k + 1,by omega,by go_num,by rw [HTs.out,HWd.out],HW4.out⟩
     case measure=>simp [intOf]; omega
    ·have hnn:zgu bt = false:=by
      cases h3:zgu bt with
      | false=>rfl
      | true =>
       have h:=none_word h3;unfold zd9 at h;rw [if_pos hvd] at h;have h1:=zhr bt;have h2:=zgd hvd;rw [h] at h1;simp at h1; omega
     refine (rhex9_yes S _ bt _ HBt.out hvd (HHx.out.2 hvd)).mono ?_;rintro e w3 ⟨rfl,hb⟩;have HW3:=zi5 (HW.out.trans (hb.mono HW.out.size)); have HBt3:=zi5 (HBt.out.below hb);have y0:=(hb.cell (p:=⟨b,off + k * 2,none⟩) lb).trans c0; have y1:=(hb.cell (p:=⟨b,off + k * 2 + 1,none⟩) lb).trans c1;have lb3:=Nat.lt_of_lt_of_le lb hb.size;have hwl:=@zid bt;have hwe:zd9 bt = hexB bt:=by unfold zd9; rw [if_pos hvd]
     rw [hwe] at hwl;have HWe:=zi5 hwe; have HNn:=zi5 hnn;obtain ⟨z,hz⟩:∃ z,hexB bt = z:=⟨_,rfl⟩;rw [hz] at hwl HWe ⊢;have e3:¬ 9223372036854775807 < 1 + z.length:=by omega
     have e4:¬ 9223372036854775807 < P.length + (z.length + 1):=by omega
     have e5:¬ 9223372036854775807 < P.length + (1 + z.length):=by omega
     clear hb x0 x1 x2 c0 c1 lxr hnn hvd hwe hz;obtain ⟨x0,x1,x2⟩:=zai (zab HW3.out lx2 HX2.out);have lxr:=Nat.lt_of_lt_of_le lx2 HW3.out.size;go_wp2_with fail
     refine (zfu S _ bt _ HBt3.out).mono ?_;rw [HNn.out];rintro e w4 ⟨rfl,hb⟩;have HW4:=zi5 (HW3.out.trans (hb.mono HW3.out.size));clear hb x0 x1 x2 y0 y1;go_wp2_with fail
     go_roundw
     case rel=>exact ⟨k + 1,by omega,by go_num,by rw [HTs.out,HWe.out],HW4.out⟩
     case measure=>simp [intOf]; omega
   ·have hq:decide ((k:Int) < (F.length:Int)) = false:=by simp; omega
    obtain rfl:k = F.length:=by omega
    clear hbw;go_wp2_with fail
    go_ret2;exact ⟨rfl,HB.out⟩
theorem rline16_any (S:Nat→Prop) (v:Value) (x:EncL) (w:World) (h:EncVal w S v x) (hi:∀ b∈x.fields,HexIn b) (hn:x.fields.length≤1000000) :
  Calls prog 28 #[v] w fun e w'=>e = .returned (.tuple #[zal (lineV x),.int .i64 (zfe x)])∧Below w.heap.size w w':=by
 unfold lineV zfe;cases hv:zbd x
 ·exact rline16_no S v x w h (fun b hb=>(hi b hb).1) hn hv
 ·exact rline16_yes S v x w h hi hv
end
section
open Go.RowKit Cal
theorem dec_cut16 {n:Nat} (h:¬ n < 10):Lib.decDigits n = Lib.decDigits (n / 10) ++ Lib.decDigits (n % 10):=by
 rw [Lib.decDigits,dif_neg h,Lib.decDigits_one (show n % 10 < 10 by omega)]
theorem dec_from16:∀ n:Nat,za4 0 (Lib.decDigits n) = some (n:Int):=by
 intro n;induction n using Nat.strongRecOn with
 | ind n ih =>
  by_cases h:n < 10
  ·rw [Lib.decDigits_one h]
   have e:(UInt8.ofNat (48 + n)).toNat = 48 + n:=by rw [UInt8.toNat_ofNat']; omega
   unfold za4 za4;rw [e,if_pos (by omega)];congr 1; omega
  ·rw [dec_cut16 h,zfv,ih (n / 10) (by omega),Lib.decDigits_one (show n % 10 < 10 by omega)]
   have e:(UInt8.ofNat (48 + n % 10)).toNat = 48 + n % 10:=by rw [UInt8.toNat_ofNat']; omega
   show za4 ((n / 10:Nat):Int) _ = _;unfold za4 za4;rw [e,if_pos (by omega)];congr 1; omega
theorem zie:∀ (l p:List UInt8),zby p l = (zgx 32 p l).filter fun t=>!t.isEmpty
 | [],p=>by
  by_cases h:p = []
  ·subst h; simp [zby,zgx]
  ·rw [zea p h]; cases p with
   | nil=>exact absurd rfl h
   | cons a p=>simp [zgx]
 | c :: r,p=>by
  by_cases hc:c = 32
  ·subst hc
   by_cases h:p = []
   ·subst h; rw [zbm,zie r []]; simp [zgx]
   ·rw [zb3 p r h,zie r []]; cases p with
    | nil=>exact absurd rfl h
    | cons a p=>simp [zgx]
  ·have hq:(c == 32) = false:=by simpa using hc
   rw [zb4 p r c hc,zie r (p ++ [c]),zgx,hq]; rfl
theorem hexB_some {b:BitsL} (h:zbv b = true):hexB b≠[]:=by
 intro e;have h1:=zgd h;have h2:=zhr b;rw [e] at h2;simp at h2;omega
theorem toks_line (x:EncL):zcl (zey x) = zbg x:=by
 unfold zcl;rw [zie,line_words]
 refine List.filter_eq_self.2 fun t ht=>?_
 have key:t≠[]:=by
  unfold zbg at ht
  rcases List.mem_cons.1 ht with rfl | ht
  ·exact dec_ne _
  ·rcases List.mem_cons.1 ht with rfl | ht
   ·exact dec_ne _
   ·obtain ⟨b,_,rfl⟩:=List.mem_map.1 ht
    unfold zd9;split
    ·next h=>exact hexB_some h
    ·simp
 cases t with
 | nil=>exact absurd rfl key
 | cons a t=>rfl
def digF (n:Int) (c:UInt8):Int:=10 * n + (c.toNat:Int) - 48
def numF (t:List UInt8):Int:=(t.take 8).foldl digF 0
def num16 (t:List UInt8):Int:=if numF t < 0∨Lib.decDigits (numF t).toNat≠t then 0 else numF t
theorem numFrom_fold:∀ (t:List UInt8) (m v:Int),za4 m t = some v→t.foldl digF m = v
 | [],m,v,h=>by simpa [za4] using h
 | c :: t,m,v,h=>by
  rw [List.foldl_cons];unfold za4 at h;split at h
  ·have h2:=numFrom_fold t _ v h
   have e:digF m c = 10 * m + ((c.toNat:Int) - 48):=by unfold digF; omega
   rw [e]; exact h2
  ·cases h
theorem num16_dec {n:Nat} (h:n < 10000000):num16 (Lib.decDigits n) = n:=by
 have hl:(Lib.decDigits n).length≤7:=zdd (k:=7) (by decide) (by simpa using h)
 have hf:numF (Lib.decDigits n) = n:=by
  unfold numF;rw [List.take_of_length_le (by omega)];exact numFrom_fold _ 0 _ (dec_from16 n)
 unfold num16;rw [hf,if_neg];rintro (h1 | h1)
 ·omega
 ·exact h1 (by rw [Int.toNat_natCast])
def zg3 (t:List UInt8):Option EncL :=
 if (zcl t).length < 3∨7 < (zcl t).length then none else
 match zbj ((zcl t).drop 2) with
 | none=>none
 | some fs=>zdu t ⟨num16 ((zcl t).getD 0 []),num16 ((zcl t).getD 1 []),fs⟩
theorem zg2:∀ (l:List (List UInt8)) (fs:List BitsL),zbj l = some fs→∀ b∈fs,zhi b
 | [],fs,h=>by cases h; intro b hb; simp at hb
 | t :: l,fs,h=>by
  unfold zbj at h;split at h
  ·cases h
  ·next b hb =>
   split at h
   ·cases h
   ·next m hm =>
    cases h;intro c hc
    rcases List.mem_cons.1 hc with rfl | h3
    ·exact (readE_in hb).2
    ·exact zg2 l m hm c h3
theorem parse16_yes {t:List UInt8} {x:EncL} (h:zg3 t = some x):zek t = some x:=by
 unfold zg3 at h;split at h
 ·cases h
 ·split at h
  ·cases h
  ·next fs hf =>
   unfold zdu at h;split at h
   ·next hc =>
    cases h;have h2:=eparse_line hc.1 (zg2 _ _ hf);rw [hc.2] at h2;exact h2
   ·cases h
theorem parseE_bits {t:List UInt8} {x:EncL} (h:zek t = some x):∀ b∈x.fields,zhi b:=by
 unfold zek at h;split at h
 ·cases h
 ·split at h
  ·cases h
  ·next fs hf =>
   unfold zdu at h;split at h
   ·next hc=>cases h; exact zg2 _ _ hf
   ·cases h
theorem parse16_line {x:EncL} (h:zbd x = true) (hb:∀ b∈x.fields,zhi b):zg3 (zey x) = some x:=by
 have h':=h;unfold zbd at h';simp only [Bool.and_eq_true,decide_eq_true_eq] at h';unfold zg3;rw [toks_line];have hl:(zbg x).length = 2 + x.fields.length:=by unfold zbg; simp; omega
 rw [if_neg (by rw [hl]; omega)];have h1:(zbg x).drop 2 = x.fields.map zd9:=rfl;have h2:(zbg x).getD 0 [] = Lib.decDigits x.id.toNat:=rfl;have h3:(zbg x).getD 1 [] = Lib.decDigits x.ver.toNat:=rfl;rw [h1,h2,h3,zgi _ hb,num16_dec (by omega),num16_dec (by omega)]
 have h4:(⟨((x.id.toNat:Nat):Int),((x.ver.toNat:Nat):Int),x.fields⟩:EncL) = x:=by
  obtain ⟨i,j,F⟩:=x;dsimp only at h' ⊢;rw [Int.toNat_of_nonneg (by omega),Int.toNat_of_nonneg (by omega)]
 dsimp only;rw [h4];unfold zdu;rw [if_pos ⟨h,rfl⟩]
theorem parse16_is (t:List UInt8):zg3 t = zek t:=by
 cases h:zek t with
 | some x =>
  obtain ⟨h1,h2,_⟩:=eparse_back h;rw [← h2];exact parse16_line h1 (parseE_bits h)
 | none =>
  cases h2:zg3 t with
  | none=>rfl
  | some x=>rw [parse16_yes h2] at h; cases h
end
section
open Go.RowKit Cal
attribute [local go_sem] zah zaj zar zaq
theorem digF_bd:∀ (n:Nat) (l:List UInt8),l.length = n→-(300 * (10:Int) ^ n) + 30≤l.foldl digF 0∧l.foldl digF 0≤300 * (10:Int) ^ n - 30
 | 0,l,h=>by
  have:l = []:=List.length_eq_zero_iff.1 h;subst this; simp
 | n + 1,l,h=>by
  rcases List.eq_nil_or_concat l with rfl | ⟨m,c,rfl⟩
  ·simp at h
  ·rw [List.concat_eq_append] at h ⊢
   have hm:m.length = n:=by simpa using h
   obtain ⟨h1,h2⟩:=digF_bd n m hm;rw [List.foldl_append];have hd:[c].foldl digF (m.foldl digF 0) = 10 * (m.foldl digF 0) + (c.toNat:Int) - 48:=rfl;rw [hd];have hc:=c.toNat_lt;rw [Int.pow_succ];generalize m.foldl digF 0 = x at h1 h2 ⊢;generalize (10:Int) ^ n = y at h1 h2 ⊢;omega
theorem digF_small {l:List UInt8} (h:l.length≤8):-30000000000≤l.foldl digF 0∧l.foldl digF 0≤30000000000:=by
 obtain ⟨h1,h2⟩:=digF_bd l.length l rfl;have h3:(10:Nat) ^ l.length≤10 ^ 8:=Nat.pow_le_pow_right (by decide) h;have h4:(10:Nat) ^ 8 = 100000000:=by decide
 have h5:(10:Int) ^ l.length = ((10 ^ l.length:Nat):Int):=by simp
 omega
theorem rnumber16_any (t:List UInt8) (w:World) (ht:t.length≤1000000) :
  Calls prog 91 #[zal t] w fun e w'=>e = .returned (.int .i64 (num16 t))∧Below w.heap.size w w':=by
 obtain ⟨r,hr⟩:∃ r,num16 t = r:=⟨_,rfl⟩;rw [hr];have HR:=zi5 hr;clear hr;go_enter func91,ntmps91
 go_wp2_with fail
 go_loopw [3,4] (fun v i wr=>∃ k:Nat,k≤8∧k≤t.length∧i = .int .i64 k∧v = .int .i64 ((t.take k).foldl digF 0)∧Below w.heap.size w wr) (fun _ i _=>8 - (intOf i).toNat)
 case atStart=>exact ⟨0,by omega,by omega,rfl,rfl,Below.refl _ _⟩
 case round =>
  obtain ⟨k,hk8,hkt,rfl,rfl,hbw⟩:=hrel;have HB:=zi5 hbw;obtain ⟨n0,n1⟩:=digF_small (l:=t.take k) (by rw [List.length_take]; omega);by_cases hgo:k < t.length∧k < 8
  ·obtain ⟨hlt,h8⟩:=hgo
   have hq1:decide ((k:Int) < (t.length:Int)) = true:=by simp; omega
   have hq2:decide ((k:Int) < 8) = true:=by simp; omega
   have hki:(k:Int) < (t.length:Int):=by omega
   obtain ⟨c,hc⟩:∃ c,t[k] = c:=⟨_,rfl⟩;have hget:∀ h:k < (⟨t.toArray⟩:ByteArray).size,(⟨t.toArray⟩:ByteArray)[k]'h = c:=fun h=>hc
   have hts:(t.take (k + 1)).foldl digF 0 = digF ((t.take k).foldl digF 0) c:=by rw [List.take_succ_eq_append_getElem hlt,hc,List.foldl_append]; rfl
   obtain ⟨n,hn⟩:∃ n,(t.take k).foldl digF 0 = n:=⟨_,rfl⟩;rw [hn] at hts n0 n1 ⊢;have hcl:=c.toNat_lt;have hw1:IntKind.i64.wrap (10 * n) = 10 * n:=by rw [IntKind.wrap_i64]; omega
   have hw2:IntKind.i64.wrap (10 * n + (c.toNat:Int)) = 10 * n + (c.toNat:Int):=by rw [IntKind.wrap_i64]; omega
   have hw3:IntKind.i64.wrap (10 * n + (c.toNat:Int) - 48) = 10 * n + (c.toNat:Int) - 48:=by rw [IntKind.wrap_i64]; omega
   have HTs:=zi5 hts;clear hbw hc hts hn;go_wp2_with fail
   go_roundw
   case rel=>exact ⟨k + 1,by omega,by omega,by go_num,by rw [HTs.out]; rfl,HB.out⟩
   case measure=>simp [intOf]; omega
  ·have htk:t.take k = t.take 8:=by
    by_cases h8:k = 8
    ·rw [h8]
    ·rw [List.take_of_length_le (by omega),List.take_of_length_le (by omega)]
   have hnf:numF t = (t.take k).foldl digF 0:=by unfold numF; rw [htk]
   obtain ⟨n,hn⟩:∃ n,(t.take k).foldl digF 0 = n:=⟨_,rfl⟩;rw [hn] at hnf n0 n1 ⊢;have hr0:=HR.out;unfold num16 at hr0;rw [hnf] at hr0;have HR0:=zi5 hr0;clear htk hnf hn hr0 HR hbw
   have hstop:decide ((k:Int) < (t.length:Int)) = false∨decide ((k:Int) < (t.length:Int)) = true∧decide ((k:Int) < 8) = false:=by
    by_cases h1:k < t.length
    ·exact .inr ⟨by simp; omega,by simp; omega⟩
    ·exact .inl (by simp; omega)
   by_cases hneg:n < 0
   ·have d1:decide (n < (0:Int)) = true:=by simpa using hneg
    have hr2:r = 0:=by rw [← HR0.out,if_pos (.inl hneg)]
    subst hr2;clear HR0 hneg
    rcases hstop with hq1 | ⟨hq1,hq2⟩
    ·go_wp2_with fail
     all_goals
      go_ret;exact ⟨rfl,HB.out⟩
    ·go_wp2_with fail
     all_goals
      go_ret;exact ⟨rfl,HB.out⟩
   ·have d1:decide (n < (0:Int)) = false:=by simpa using hneg
    obtain ⟨m,rfl⟩:=Int.eq_ofNat_of_zero_le (show 0≤n by omega);rw [Int.toNat_natCast] at HR0;have hnum:=zf2 19 m;obtain ⟨X,hX⟩:∃ X,Lib.decDigits m = X:=⟨_,rfl⟩;rw [hX] at hnum HR0;have HNum:=zi5 hnum;clear hnum hX;by_cases he:X = t
    ·have hr2:r = (m:Int):=by rw [← HR0.out,if_neg (fun h=>h.elim (fun h=>by omega) (fun h=>h he))]
     subst he; subst hr2;clear HR0 hneg
     rcases hstop with hq1 | ⟨hq1,hq2⟩
     ·go_wp2_with fail
      all_goals
       refine (HNum.out _ (by omega) (by omega)).mono ?_;rintro e w2 ⟨rfl,hb⟩;have HB2:=zi5 (HB.out.trans (hb.mono HB.out.size)); clear hb;go_wp2_with fail
       all_goals
        go_ret;exact ⟨rfl,HB2.out⟩
     ·go_wp2_with fail
      all_goals
       refine (HNum.out _ (by omega) (by omega)).mono ?_;rintro e w2 ⟨rfl,hb⟩;have HB2:=zi5 (HB.out.trans (hb.mono HB.out.size)); clear hb;go_wp2_with fail
       all_goals
        go_ret;exact ⟨rfl,HB2.out⟩
    ·have hr2:r = 0:=by rw [← HR0.out,if_pos (.inr he)]
     have he1:(X == t) = false:=by simpa using he
     have he2:(X != t) = true:=by simpa using he
     subst hr2;clear HR0 hneg he
     rcases hstop with hq1 | ⟨hq1,hq2⟩
     ·go_wp2_with fail
      all_goals
       refine (HNum.out _ (by omega) (by omega)).mono ?_;rintro e w2 ⟨rfl,hb⟩;have HB2:=zi5 (HB.out.trans (hb.mono HB.out.size)); clear hb;go_wp2_with fail
       all_goals
        go_ret;exact ⟨rfl,HB2.out⟩
     ·go_wp2_with fail
      all_goals
       refine (HNum.out _ (by omega) (by omega)).mono ?_;rintro e w2 ⟨rfl,hb⟩;have HB2:=zi5 (HB.out.trans (hb.mono HB.out.size)); clear hb;go_wp2_with fail
       all_goals
        go_ret;exact ⟨rfl,HB2.out⟩
end
section
open Go.RowKit Cal
attribute [local go_sem] zah zaj zar zaq
structure PaAt (w:World) (i1 i2:Int) (xb:Nat) (v:Value) (C:List BV) (L:List BitsL) (wr:World):Prop where
 z:wr.heap[w.heap.size]? = some (.cells #[.int .i64 0,.int .i64 0,.slice none 0 0] 32 (0,0))
 x:wr.heap[xb]? = some (.cells #[.int .i64 i1,.int .i64 i2,v] 32 (0,0))
 own:OwnV 78 2 zbp w v C wr
 n:∀ g,v.ownBlock = some g→xb < g
 all:BitsAll wr (fun b=>some b≠v.ownBlock∧xb < b) C L
 xb4:w.heap.size < xb
theorem PaAt.below {w:World} {i1 i2:Int} {xb:Nat} {v:Value} {C:List BV} {L:List BitsL} {wr wy:World} (h:PaAt w i1 i2 xb v C L wr) (hb:Below wr.heap.size wr wy):PaAt w i1 i2 xb v C L wy :=
 ⟨zab hb (zaa h.1) h.1,zab hb (zaa h.2) h.2,h.own.below hb,h.n,h.all.below hb,h.xb4⟩
theorem PaAt.step {w:World} {i1 i2:Int} {xb:Nat} {v v':Value} {C:List BV} {L:List BitsL} {c:BV} {bt:BitsL} {wr wy w5:World} (h:PaAt w i1 i2 xb v C L wr) (hb:Below wr.heap.size wr wy) (hc:BitsAt wy (fun b=>wr.heap.size≤b) (.agg (zbp c).toArray) bt)
  (ho:OwnV 78 2 zbp w v' (C ++ [c]) w5) (hk:∀ q o,some q≠v.ownBlock→wy.heap[q]? = some o→w5.heap[q]? = some o) (hz:wy.heap.size≤w5.heap.size) (hat:v'.ownBlock = none∨v.ownBlock = v'.ownBlock∨∃ g,v'.ownBlock = some g∧wy.heap.size≤g) :
  PaAt w i1 i2 xb v' (C ++ [c]) (L ++ [bt]) (w5.setCell ⟨xb,2,none⟩ v'):=by
 have hy:=h.below hb;have l1:=zaa h.x; have l2:=zaa hy.x; have x4:=h.xb4;have hold:∀ q o,q≤xb→wy.heap[q]? = some o→w5.heap[q]? = some o:=fun q o hq ho'=>hk q o (fun e=>by have:=h.n q e.symm; omega) ho'
 have hfar:∀ q o,q < xb→wy.heap[q]? = some o→(w5.setCell ⟨xb,2,none⟩ v').heap[q]? = some o:=fun q o hq ho'=>zam (hold q o (by omega) ho') (by show q≠xb; omega)
 have hown:∀ g,v.ownBlock = some g→g < wr.heap.size:=fun g e=>(World.ownsRow.lt h.own.1 g e).2
 have hn':∀ g,v'.ownBlock = some g→xb < g:=by
  intro g e
  rcases hat with h1 | h1 | ⟨g',h1,h2⟩
  ·rw [h1] at e; cases e
  ·rw [← h1] at e; exact h.n g e
  ·rw [h1] at e; cases e; omega
 have hne':∀ b,b < wy.heap.size→some b≠v.ownBlock→some b≠v'.ownBlock:=by
  intro b hb' hne e
  rcases hat with h1 | h1 | ⟨g',h1,h2⟩
  ·rw [h1] at e; cases e
  ·rw [← h1] at e; exact hne e
  ·rw [h1] at e; cases e; omega
 have hS:∀ b,b < wy.heap.size→(some b≠v.ownBlock∧xb < b)→(w5.setCell ⟨xb,2,none⟩ v').heap[b]? = wy.heap[b]?∧(some b≠v'.ownBlock∧xb < b):=by
  intro b hb' hs;obtain ⟨ob,hob⟩:∃ ob,wy.heap[b]? = some ob:=⟨_,Array.getElem?_eq_getElem hb'⟩;rw [hob];exact ⟨zam (hk b ob hs.1 hob) (by show b≠xb; omega),hne' b hb' hs.1,hs.2⟩
 have hsz:wy.heap.size≤(w5.setCell ⟨xb,2,none⟩ v').heap.size:=by simpa [World.setCell] using hz
 have hwx:w.heap.size≤xb:=by omega
 refine ⟨hfar _ _ (by omega) hy.z,zad (i:=2) (v:=v') (hold xb _ xnl hy.x),⟨?_,ho.2.setCell (p:=⟨xb,2,none⟩) hwx _⟩,hn',?_,x4⟩
 ·refine own_keptB ho.1 (r:=some xb) (fun q o hne ho'=>zam ho' (fun e=>hne (by rw [e]))) ?_
  by_cases h0:v'.ownBlock = none
  ·exact .inl h0
  ·refine .inr fun e=>?_
   have:=hn' xb e; omega
 ·have h1:BitsAll (w5.setCell ⟨xb,2,none⟩ v') (fun b=>some b≠v'.ownBlock∧xb < b) C L:=hy.all.move hsz hS
  have h2:BitsAt (w5.setCell ⟨xb,2,none⟩ v') (fun b=>some b≠v'.ownBlock∧xb < b) (.agg (zbp c).toArray) bt:=by
   have h3:=hc.weaken (T:=fun b=>some b≠v.ownBlock∧xb < b) (fun b hb'=>⟨fun e=>by have:=hown b e.symm; omega,by omega⟩)
   have h4:=BitsAll.move (C:=[c]) (L:=[bt]) ⟨rfl,fun n h1 h2=>by simp at h1; subst h1; exact h3⟩ hsz hS
   exact h4.2 0 (by simp) (by simp)
  exact h1.snoc h2
theorem rparse16_any (t:List UInt8) (w:World) (ht:t.length≤100000):Calls prog 31 #[zal t] w (zi3 t w):=by
 have hsz:∀ x∈zcl t,x.length≤t.length:=fun x hx=>by
  unfold zcl at hx;rw [zie] at hx;have:=splC_mem 32 t [] x (List.mem_filter.1 hx).1;simpa using this
 obtain ⟨Q,hQ⟩:∃ Q,zek t = Q:=⟨_,rfl⟩;have hQ2:zg3 t = Q:=by rw [parse16_is]; exact hQ
 unfold zi3;rw [hQ]
 have hno:Q = none→∀ (wx:World),Below w.heap.size w wx→∃ v,Ending.returned (.tuple #[.agg #[.int .i64 0,.int .i64 0,.slice none 0 0],.int .i64 14]) = .returned (.tuple #[v,.int .i64 (errO Q)])∧EncVal wx (fun b=>w.heap.size≤b) v (Q.getD noEnc)∧Below w.heap.size w wx:=fun h wx hb=>by
  subst h; exact ⟨_,rfl,EncVal.none _ _,hb⟩
 have HNone:=zi5 hno;have htk:=fun w=>zgf ⟨t.toArray⟩ w (by simp [ByteArray.size]; omega)
 obtain ⟨T,hT⟩:∃ T,zcl t = T:=⟨_,rfl⟩;have htk':∀ w,Calls prog 90 #[zal t] w fun e w'=>∃ v,e = .returned v∧OwnAt w v T w':=by rw [← hT]; exact htk
 unfold zg3 at hQ2;rw [hT] at hQ2 hsz;have HTk:=zi5 htk'; have HQ:=zi5 hQ2; have HSz:=zi5 hsz;clear htk htk' hQ hQ2 hsz hno hT;go_enter func31,ntmps31
 go_wp2_with fail
 refine zae (fun W hW=>?_)
 have hb0:=xal hW
 have hz0:W.heap[w.heap.size]? = some (.cells #[.int .i64 0,.int .i64 0,.slice none 0 0] 32 (0,0)):=by rw [hW]; exact zac rfl
 clear hW;refine (HTk.out _).mono ?_;rintro e W0 ⟨v,rfl,ho⟩;obtain ⟨av,cv,rfl⟩:=za1 ho.1;have HV:=zi5 (Vec.owns (k:=1) (enc:=za2) (S:=zaw) (fun _=>rfl) ho.1 (fun _ _ _=>trivial))
 have HB0:=zi5 (hb0.trans (ho.2.mono hb0.size)); have HZ0:=zi5 (zab ho.2 (zaa hz0) hz0);have lz0:=zaa HZ0.out;clear ho hb0 hz0;by_cases hl:T.length < 3∨7 < T.length
 ·have hQn:Q = none:=by rw [← HQ.out,if_pos hl]
  have hr:=HNone.out hQn;have HN:=zi5 hr;obtain ⟨z0,z1,z2⟩:=zai HZ0.out;have f0:=frozen_of_row _ _ 0 _ _ HZ0.out; have f1:=frozen_of_row _ _ 1 _ _ HZ0.out; have f2:=frozen_of_row _ _ 2 _ _ HZ0.out
  have hdd:decide ((T.length:Int) < 3) = true∨decide ((T.length:Int) < 3) = false∧decide ((7:Int) < T.length) = true:=by
   rcases hl with h | h
   ·exact .inl (by simp; omega)
   ·exact .inr ⟨by simp; omega,by simp; omega⟩
  clear hl hQn hr HQ
  rcases hdd with d1 | ⟨d1,d2⟩
  ·go_wp2_with fail
   exact zag rfl rfl (zad (i:=2) (v:=.slice none 0 0) (zad (i:=1) (v:=.int .i64 0) (zad (i:=0) (v:=.int .i64 0) HZ0.out))) underlying32 rfl (by kernel_rfl)
    (HN.out _ (((HB0.out.setCell (p:=⟨w.heap.size,0,none⟩) xnl _).setCell (p:=⟨w.heap.size,1,none⟩) xnl _).setCell (p:=⟨w.heap.size,2,none⟩) xnl _))
  ·go_wp2_with fail
   exact zag rfl rfl (zad (i:=2) (v:=.slice none 0 0) (zad (i:=1) (v:=.int .i64 0) (zad (i:=0) (v:=.int .i64 0) HZ0.out))) underlying32 rfl (by kernel_rfl)
    (HN.out _ (((HB0.out.setCell (p:=⟨w.heap.size,0,none⟩) xnl _).setCell (p:=⟨w.heap.size,1,none⟩) xnl _).setCell (p:=⟨w.heap.size,2,none⟩) xnl _))
 have hl3:3≤T.length:=by omega
 have hl7:T.length≤7:=by omega
 have d1:decide ((T.length:Int) < 3) = false:=by simp; omega
 have d2:decide ((7:Int) < T.length) = false:=by simp; omega
 have HQ2:=zi5 (show (match zbj (T.drop 2) with | none=>none | some fs=>zdu t ⟨num16 (T.getD 0 []),num16 (T.getD 1 []),fs⟩) = Q by have h:=HQ.out; rw [if_neg hl] at h; exact h);obtain ⟨b,off,rfl,lb,c0⟩:=zh0 HV.out 0 (by omega);obtain ⟨b',off',e',lb',c1⟩:=zh0 HV.out 1 (by omega);cases e';obtain ⟨t0,ht0⟩:∃ x,T.getD 0 [] = x:=⟨_,rfl⟩;obtain ⟨t1,ht1⟩:∃ x,T.getD 1 [] = x:=⟨_,rfl⟩;have hl0:t0.length≤1000000:=by rw [← ht0,zbi _ _ (by omega)]; have:=HSz.out _ (List.getElem_mem (show 0 < T.length by omega)); omega
 have hl1:t1.length≤1000000:=by rw [← ht1,zbi _ _ (by omega)]; have:=HSz.out _ (List.getElem_mem (show 1 < T.length by omega)); omega
 rw [ht0] at c0 HQ2; rw [ht1] at c1 HQ2;rw [Nat.add_zero] at c0;obtain ⟨i1,hi1⟩:∃ x,num16 t0 = x:=⟨_,rfl⟩;obtain ⟨i2,hi2⟩:∃ x,num16 t1 = x:=⟨_,rfl⟩;rw [hi1,hi2] at HQ2;have HI1:=zi5 hi1; have HI2:=zi5 hi2;have HNum:=zi5 (fun (x:List UInt8) (w:World) (h:x.length≤1000000)=>rnumber16_any x w h)
 have g0:(0:Int) < (T.length:Int):=by omega
 have g1:(1:Int) < (T.length:Int):=by omega
 have g0n:0 < T.length:=by omega
 have g1n:1 < T.length:=by omega
 clear hl HQ ht0 ht1 hi1 hi2;have bD:Below W0.heap.size W0 W0.drew:=(Below.refl _ _).drew;have HC:=zi5 (show ∀ w',Below W0.heap.size W0 w'→w'.cell? ⟨b,off,none⟩ = some (zal t0)∧w'.cell? ⟨b,off + 1,none⟩ = some (zal t1) from fun w' hb=>⟨(hb.cell (p:=⟨b,off,none⟩) lb).trans c0,(hb.cell (p:=⟨b,off + 1,none⟩) lb).trans c1⟩)
 go_wp2_with fail
 go_cut [5] (fun s5 wx=>∃ xb:Nat,s5 = .pointer (some ⟨xb,0,none⟩)∧W0.heap.size≤xb∧wx.heap[xb]? = some (.cells #[.int .i64 i1,.int .i64 i2,.slice none 0 0] 32 (0,0))∧Below W0.heap.size W0 wx)
 case first =>
  refine wp_region_noPanic ?_
  refine wp_region_held_drew (S:=(fun w'=>w'.cell? ⟨b,off,none⟩ = some (zal t0)∧w'.cell? ⟨b,off + 1,none⟩ = some (zal t1))) (by kernel_rfl) (HC.out _ bD) (fun hHeld=>?_)
  refine tH 0 (h:=?_);refine tH 1 (h:=?_);refine tH 2 (h:=?_);refine tH 4 (h:=?_);refine tH 5 (h:=?_);refine tH 6 (h:=?_);refine wpAnyH_ready (rs:=[3,9]) (by kernel_rfl) (by simp) ?_
  refine AllReadyH.cons rfl (fun K hK=>?_) (AllReadyH.cons rfl (fun K hK=>?_) AllReadyH.nil)
  ·as_aux_lemma =>
    go_simp;refine (HNum.out t0 _ hl0).mono ?_; rintro e V1 ⟨rfl,hb⟩; have b1:=bD.trans (hb.mono bD.size);rw [HI1.out];clear hb
    refine hK.out _ _ (HC.out _ b1) (fun hHeld=>?_)
    clear hK K;refine wpAnyH_ready (rs:=[7,9]) (by kernel_rfl) (by simp) ?_
    refine AllReadyH.cons rfl (fun K hK=>?_) (AllReadyH.cons rfl (fun K hK=>?_) AllReadyH.nil)
    ·as_aux_lemma =>
      go_simp;refine (HNum.out t1 _ hl1).mono ?_; rintro e V2 ⟨rfl,hb⟩; have b2:=b1.trans (hb.mono b1.size);rw [HI2.out];clear hb
      refine hK.out _ _ (HC.out _ b2) (fun hHeld=>?_)
      clear hK K;refine tH 8 (h:=?_);refine wpAnyH_ready (rs:=[9]) (by kernel_rfl) (by simp) ?_
      refine AllReadyH.cons rfl (fun K hK=>?_) AllReadyH.nil
      go_simp
      refine hK.out _ _ (HC.out _ (b2.alloc b2.size _)) (fun hHeld=>?_)
      clear hK K
      refine zcw (fun V3 hV3=>?_)
      have b3:Below W0.heap.size W0 V3:=by rw [hV3]; exact b2.alloc b2.size _
      have z3:V3.heap[V2.heap.size]? = some (.cells #[.int .i64 0,.int .i64 0,.slice none 0 0] 32 (0,0)):=by rw [hV3]; exact zac rfl
      have hzz:=b2.size;have hzd:W0.drew.heap.size = W0.heap.size:=rfl;clear hV3 hHeld;have hHeld:=HC.out _ b3;have fz0:=frozen_of_row _ _ 0 _ _ z3; have fz1:=frozen_of_row _ _ 1 _ _ z3; have fz2:=frozen_of_row _ _ 2 _ _ z3; obtain ⟨e0,e1,e2⟩:=zai z3; have lz:=zaa z3;have hb6:=((b3.setCell (p:=⟨V2.heap.size,0,none⟩) (by show W0.heap.size≤V2.heap.size; omega) (.int .i64 i1)).setCell (p:=⟨V2.heap.size,1,none⟩) (by show W0.heap.size≤V2.heap.size; omega) (.int .i64 i2)).setCell (p:=⟨V2.heap.size,2,none⟩) (by show W0.heap.size≤V2.heap.size; omega) (.slice none 0 0);refine wpAnyH_ready (rs:=[10]) (by kernel_rfl) (by simp) ?_
      refine AllReadyH.cons rfl (fun K hK=>?_) AllReadyH.nil
      go_simp;skip
      refine hK.out _ _ (HC.out _ hb6) (fun hHeld=>?_)
      clear hK K;refine wpAnyH_done (by kernel_rfl) ?_ _;refine NoPanic.normal ?_;go_wp2_with fail
      go_meet;exact ⟨V2.heap.size,rfl,by omega,zad (i:=2) (v:=.slice none 0 0) (zad (i:=1) (v:=.int .i64 i2) (zad (i:=0) (v:=.int .i64 i1) z3)),hb6⟩
    ·as_aux_lemma =>
      go_simp
      refine hK.out _ _ (HC.out _ (b1.alloc b1.size _)) (fun hHeld=>?_)
      clear hK K
      refine zcw (fun V2 hV2=>?_)
      have b2:Below W0.heap.size W0 V2:=by rw [hV2]; exact b1.alloc b1.size _
      have z2:V2.heap[V1.heap.size]? = some (.cells #[.int .i64 0,.int .i64 0,.slice none 0 0] 32 (0,0)):=by rw [hV2]; exact zac rfl
      have hzz:=b1.size;have hzd:W0.drew.heap.size = W0.heap.size:=rfl;clear hV2 hHeld;have hHeld:=HC.out _ b2;refine wpAnyH_ready (rs:=[7]) (by kernel_rfl) (by simp) ?_
      refine AllReadyH.cons rfl (fun K hK=>?_) AllReadyH.nil
      go_simp;refine (HNum.out t1 _ hl1).mono ?_; rintro e V3 ⟨rfl,hb⟩; have b3:=b2.trans (hb.mono b2.size);have z3:=zab hb (zaa z2) z2;rw [HI2.out];clear hb
      refine hK.out _ _ (HC.out _ b3) (fun hHeld=>?_)
      clear hK K;refine tH 8 (h:=?_);have fz0:=frozen_of_row _ _ 0 _ _ z3; have fz1:=frozen_of_row _ _ 1 _ _ z3; have fz2:=frozen_of_row _ _ 2 _ _ z3; obtain ⟨e0,e1,e2⟩:=zai z3; have lz:=zaa z3;have hb6:=((b3.setCell (p:=⟨V1.heap.size,0,none⟩) (by show W0.heap.size≤V1.heap.size; omega) (.int .i64 i1)).setCell (p:=⟨V1.heap.size,1,none⟩) (by show W0.heap.size≤V1.heap.size; omega) (.int .i64 i2)).setCell (p:=⟨V1.heap.size,2,none⟩) (by show W0.heap.size≤V1.heap.size; omega) (.slice none 0 0);refine wpAnyH_ready (rs:=[10]) (by kernel_rfl) (by simp) ?_
      refine AllReadyH.cons rfl (fun K hK=>?_) AllReadyH.nil
      go_simp;skip
      refine hK.out _ _ (HC.out _ hb6) (fun hHeld=>?_)
      clear hK K;refine wpAnyH_done (by kernel_rfl) ?_ _;refine NoPanic.normal ?_;go_wp2_with fail
      go_meet;exact ⟨V1.heap.size,rfl,by omega,zad (i:=2) (v:=.slice none 0 0) (zad (i:=1) (v:=.int .i64 i2) (zad (i:=0) (v:=.int .i64 i1) z3)),hb6⟩
  ·as_aux_lemma =>
    go_simp
    refine hK.out _ _ (HC.out _ (bD.alloc bD.size _)) (fun hHeld=>?_)
    clear hK K
    refine zcw (fun V1 hV1=>?_)
    have b1:Below W0.heap.size W0 V1:=by rw [hV1]; exact bD.alloc bD.size _
    have z1:V1.heap[W0.heap.size]? = some (.cells #[.int .i64 0,.int .i64 0,.slice none 0 0] 32 (0,0)):=by rw [hV1]; exact zac rfl
    have hzz:=bD.size;have hzd:W0.drew.heap.size = W0.heap.size:=rfl;clear hV1 hHeld;have hHeld:=HC.out _ b1;refine wpAnyH_ready (rs:=[3]) (by kernel_rfl) (by simp) ?_
    refine AllReadyH.cons rfl (fun K hK=>?_) AllReadyH.nil
    go_simp;refine (HNum.out t0 _ hl0).mono ?_; rintro e V2 ⟨rfl,hb⟩; have b2:=b1.trans (hb.mono b1.size);have z2:=zab hb (zaa z1) z1;rw [HI1.out];clear hb
    refine hK.out _ _ (HC.out _ b2) (fun hHeld=>?_)
    clear hK K;refine wpAnyH_ready (rs:=[7]) (by kernel_rfl) (by simp) ?_
    refine AllReadyH.cons rfl (fun K hK=>?_) AllReadyH.nil
    go_simp;refine (HNum.out t1 _ hl1).mono ?_; rintro e V3 ⟨rfl,hb⟩; have b3:=b2.trans (hb.mono b2.size);have z3:=zab hb (zaa z2) z2;rw [HI2.out];clear hb
    refine hK.out _ _ (HC.out _ b3) (fun hHeld=>?_)
    clear hK K;refine tH 8 (h:=?_);have fz0:=frozen_of_row _ _ 0 _ _ z3; have fz1:=frozen_of_row _ _ 1 _ _ z3; have fz2:=frozen_of_row _ _ 2 _ _ z3; obtain ⟨e0,e1,e2⟩:=zai z3; have lz:=zaa z3;have hb6:=((b3.setCell (p:=⟨W0.heap.size,0,none⟩) (by show W0.heap.size≤W0.heap.size; omega) (.int .i64 i1)).setCell (p:=⟨W0.heap.size,1,none⟩) (by show W0.heap.size≤W0.heap.size; omega) (.int .i64 i2)).setCell (p:=⟨W0.heap.size,2,none⟩) (by show W0.heap.size≤W0.heap.size; omega) (.slice none 0 0);refine wpAnyH_ready (rs:=[10]) (by kernel_rfl) (by simp) ?_
    refine AllReadyH.cons rfl (fun K hK=>?_) AllReadyH.nil
    go_simp;skip
    refine hK.out _ _ (HC.out _ hb6) (fun hHeld=>?_)
    clear hK K;refine wpAnyH_done (by kernel_rfl) ?_ _;refine NoPanic.normal ?_;go_wp2_with fail
    go_meet;exact ⟨W0.heap.size,rfl,by omega,zad (i:=2) (v:=.slice none 0 0) (zad (i:=1) (v:=.int .i64 i2) (zad (i:=0) (v:=.int .i64 i1) z3)),hb6⟩
 case rest =>
  obtain ⟨w2,hw2⟩:∃ u,u = wc:=⟨_,rfl⟩;subst hw2;obtain ⟨xb,rfl,hxb,hx,hb⟩:=hcut;have HB2:=zi5 (HB0.out.trans (hb.mono HB0.out.size));have HP0:=zi5 (show PaAt w i1 i2 xb (.slice none 0 0) [] [] w2 from ⟨zab hb lz0 HZ0.out,hx,OwnV.nil HB2.out,fun g e=>by simp [Value.ownBlock] at e,⟨rfl,fun n h1 _=>by simp at h1⟩,by omega⟩)
  have HV2:=zi5 (HV.out.below hb);obtain ⟨M,hM⟩:∃ M,T.length = M:=⟨_,rfl⟩;have HM:=zi5 hM;rw [hM] at HV2 hl3 hl7 ⊢;clear hb hx c0 c1 bD HC HZ0 HV HI1 HI2 HNum g0 g1 g0n g1n lb' d1 d2 lz0 hM HTk;go_wp2_with fail
  have hbx:b < xb:=by omega
  go_loopw [6] (fun i wr=>∃ (j:Nat) (C:List BV) (L:List BitsL) (va:Option Addr) (vc:Nat),i = .int .i64 ((2 + j:Nat):Int)∧2 + j≤M∧C.length = j∧L.length = j∧PaAt w i1 i2 xb (.slice va j vc) C L wr∧Hid (∀ q o,q < xb→w2.heap[q]? = some o→wr.heap[q]? = some o)∧Hid ((zbj (T.drop (2 + j))).map (L ++ ·) = zbj (T.drop 2))) (fun i _=>M - (intOf i).toNat)
  case atStart=>exact ⟨0,[],[],none,0,rfl,by omega,rfl,rfl,HP0.out,zi5 (fun q o _ h=>h),zi5 (by cases zbj (T.drop (2 + 0)) <;> simp)⟩
  case round =>
   obtain ⟨j,C,L,va,vc,rfl,hj,hCl,hLl,hpa,HKp,HRd⟩:=hrel;have HPa:=zi5 hpa; have HCl:=zi5 hCl; have HLl:=zi5 hLl;clear hpa hCl hLl;obtain ⟨WR,hWR⟩:∃ u,u = wr:=⟨_,rfl⟩;subst hWR;have HBW:=zi5 HPa.out.own.2;obtain ⟨x0,x1,x2⟩:=zai HPa.out.x; obtain ⟨z0,z1,z2⟩:=zai HPa.out.z;have lx:=zaa HPa.out.x; have lz:=zaa HPa.out.z;by_cases hlt:2 + j < M
   ·have hq:decide (((2 + j:Nat):Int) < (M:Int)) = true:=by simp only [decide_eq_true_eq]; omega
    have hjT:2 + j < T.length:=by rw [HM.out]; exact hlt
    have hjM:((2 + j:Nat):Int) < (M:Int):=by omega
    obtain ⟨b'',off'',e',lb2,cx2⟩:=zh0 HV2.out (2 + j) hjT;cases e'
    have cx:WR.cell? ⟨b,off + (2 + j),none⟩ = some (zal (T.getD (2 + j) [])):=by
     obtain ⟨ob,hob⟩:∃ ob,w2.heap[b]? = some ob:=⟨_,Array.getElem?_eq_getElem lb2⟩;exact (World.cell?_of_block (w:=w2) (a:=⟨b,off + (2 + j),none⟩) (by rw [hob]; exact HKp.out b ob hbx hob)).trans cx2
    have lbW:b < WR.heap.size:=by omega
    have hdr:T.drop (2 + j) = T.getD (2 + j) [] :: T.drop (2 + (j + 1)):=by rw [List.drop_eq_getElem_cons hjT,zbi _ _ hjT]; rfl
    have hxl:=HSz.out _ (List.getElem_mem hjT);rw [← zbi T [] hjT] at hxl;obtain ⟨x,hxe⟩:∃ x,T.getD (2 + j) [] = x:=⟨_,rfl⟩;have hrd:=HRd.out;rw [hdr] at hrd;rw [hxe] at hrd cx hxl;have HRx:=zi5 hrd;clear cx2 lb2 hdr hxe hrd hjT;go_wp2_with fail
    refine (rparse9_any x _ (by omega)).mono ?_;rintro e w3 ⟨_,rfl,hbv,hb⟩;obtain ⟨⟨bl,ba,bn,bc⟩,rfl,hbt⟩:=hbv.form;have cx3:=(hb.cell (p:=⟨b,off + (2 + j),none⟩) lbW).trans cx;have lbW3:=Nat.lt_of_lt_of_le lbW hb.size;have HB3:=zi5 hb; have HBt:=zi5 hbt;have HPa3:=zi5 (HPa.out.below hb);clear hb hbt hbv cx lbW x0 x1 x2 z0 z1 z2 lx lz
    have key:(x = [45]∧errO (zc0 x) = 14∧(zc0 x).getD zba = zba∧zgs x = some zba)∨(x≠[45]∧errO (zc0 x) = 14∧zgs x = none)∨(errO (zc0 x) = 0∧∃ bt,(zc0 x).getD zba = bt∧zgs x = some bt):=by
     by_cases h45:x = [45]
     ·subst h45
      have h1:zc0 [45] = none:=by decide
      left;refine ⟨rfl,by rw [h1]; rfl,by rw [h1]; rfl,by unfold zgs; rw [if_pos rfl]⟩
     ·cases hpb:zc0 x with
      | none=>right; left; exact ⟨h45,rfl,by unfold zgs; rw [if_neg h45,hpb]⟩
      | some bt=>right; right; exact ⟨rfl,bt,rfl,by unfold zgs; rw [if_neg h45,hpb]⟩
    rcases key with ⟨h45,he,hg,hre⟩ | ⟨h45,he,hre⟩ | ⟨he,bt,hg,hre⟩
    ·subst h45
     rw [he];have dz:((14:Int) != 0) = true:=rfl;have hnext:(zbj (T.drop (2 + (j + 1)))).map ((L ++ [zba]) ++ ·) = zbj (T.drop 2):=by rw [← zg1 hre L]; exact HRx.out
     have HNx:=zi5 hnext;have hbt:=HBt.out;rw [hg] at hbt;have HBt2:=zi5 hbt;clear he hg hre hnext hbt;have hb4:Below w3.heap.size w3 (w3.alloc (.cells #[.int .i64 bl,.slice ba bn bc] 78)):=(Below.refl _ _).alloc xnl _;have hb5:Below w3.heap.size w3 ((w3.alloc (.cells #[.int .i64 bl,.slice ba bn bc] 78)).alloc (.cells (zbp ⟨bl,ba,bn,bc⟩).toArray 78)):=hb4.alloc hb4.size _;have HO1:=zi5 (HPa3.out.own.below hb5);have HR1:=zi5 (show zco ((w3.alloc (.cells #[.int .i64 bl,.slice ba bn bc] 78)).alloc (.cells (zbp ⟨bl,ba,bn,bc⟩).toArray 78)) 2 (.slice (some ⟨w3.heap.size + 1,0,none⟩) 1 1) [(⟨bl,ba,bn,bc⟩:BV)].length ([(⟨bl,ba,bn,bc⟩:BV)].flatMap zbp) from zav (xs:=[(⟨bl,ba,bn,bc⟩:BV)].flatMap zbp) (fr:=(0,0)) (t:=78) (zac (by simp)) rfl);have hcn:C.length + [(⟨bl,ba,bn,bc⟩:BV)].length≤1000000000:=by rw [HCl.out]; simp only [List.length_cons,List.length_nil]; omega
     obtain ⟨x0,x1,x2⟩:=zai HPa3.out.x;have lx:=zaa HPa3.out.x;clear hb4 hb5;go_wp2_with (at_builtin; refine zbq rfl (.tmp 56) (.tmp 58) 30 rfl 78 (.agg #[.int .i64 0,.slice none 0 0]) 2 32 zbp (fun _=>rfl) zf7 underlying30 zhq rfl (by decide) (by decide) (w0:=w) (v:=.slice va j vc) (A:=C) (B:=[⟨bl,ba,bn,bc⟩]) rfl HO1.out rfl HR1.out hcn ?_; intro v5 w5 ho5 hk5 hz5 hat5; obtain ⟨a5,c5,e5⟩:=za1 ho5.1; have hl5:(C ++ [(⟨bl,ba,bn,bc⟩:BV)]).length = j + 1:=(by rw [List.length_append,HCl.out]; rfl); rw [hl5] at e5; subst e5; clear hl5; have hn1:=HPa3.out.n; have hx6:=hk5 _ _ (fun e=>absurd (hn1 _ e.symm) (by omega)) (zaf (zaf HPa3.out.x)); have lx5:=zaa hx6; have fo:=frozen_of_row _ _ 2 _ _ hx6; obtain ⟨yy0,yy1,yy2⟩:=zai hx6)
     go_roundw
     case rel =>
      have hn1:=HPa3.out.n;have hlx:=zaa HPa.out.x
      refine ⟨j + 1,C ++ [⟨bl,ba,bn,bc⟩],L ++ [zba],a5,c5,by congr 1 <;> omega,by omega,by rw [List.length_append,HCl.out]; rfl,by rw [List.length_append,HLl.out]; rfl,?_,zi5 (fun q o hqx h=>?_),HNx⟩
      ·exact HPa.out.step HB3.out HBt2.out ho5 (fun q o h1 h2=>hk5 q o h1 (zaf (zaf h2))) (Nat.le_trans (by simp; omega) hz5) (by
        rcases hat5 with h1 | h1 | h1
        ·exact .inl h1
        ·exact .inr (.inl h1)
        ·exact .inr (.inr ⟨_,h1,by simp; omega⟩))
      ·exact zam (hk5 q o (fun e=>by have:=hn1 q e.symm; omega) (zaf (zaf (zab HB3.out (by omega) (HKp.out q o hqx h))))) (by show q≠xb; omega)
     case measure=>simp [intOf]; omega
    ·rw [he]
     have dz:((14:Int) != 0) = true:=rfl;have e1:(x == [45]) = false:=by simpa using h45
     have e2:(x != [45]) = true:=by simpa using h45
     have hQn:Q = none:=by
      have h1:=HRx.out;rw [readAll_bad hre] at h1;have h2:zbj (T.drop 2) = none:=h1.symm;have h3:=HQ2.out;rw [h2] at h3;exact h3.symm
     have HN:=zi5 (HNone.out hQn);have hb4:Below w3.heap.size w3 (w3.alloc (.cells #[.int .i64 bl,.slice ba bn bc] 78)):=(Below.refl _ _).alloc xnl _;have HPa4:=zi5 (HPa3.out.below hb4);obtain ⟨z0,z1,z2⟩:=zai HPa3.out.z;have f0:=frozen_of_row _ _ 0 _ _ HPa3.out.z; have f1:=frozen_of_row _ _ 1 _ _ HPa3.out.z; have f2:=frozen_of_row _ _ 2 _ _ HPa3.out.z;have lz:=zaa HPa3.out.z;clear h45 he hre hQn hb4;go_wp2_with fail
     exact zag rfl rfl (zaf (zad (i:=2) (v:=.slice none 0 0) (zad (i:=1) (v:=.int .i64 0) (zad (i:=0) (v:=.int .i64 0) HPa3.out.z)))) underlying32 rfl (by kernel_rfl)
      (HN.out _ ((((HPa3.out.own.2.setCell (p:=⟨w.heap.size,0,none⟩) xnl _).setCell (p:=⟨w.heap.size,1,none⟩) xnl _).setCell (p:=⟨w.heap.size,2,none⟩) xnl _).alloc (by simpa [World.setCell] using HPa3.out.own.2.size) _))
    ·rw [he]
     have dz:((0:Int) != 0) = false:=rfl;have hnext:(zbj (T.drop (2 + (j + 1)))).map ((L ++ [bt]) ++ ·) = zbj (T.drop 2):=by rw [← zg1 hre L]; exact HRx.out
     have HNx:=zi5 hnext;have hbt:=HBt.out;rw [hg] at hbt;have HBt2:=zi5 hbt;clear he hg hre hnext hbt;have hb4:Below w3.heap.size w3 (w3.alloc (.cells #[.int .i64 bl,.slice ba bn bc] 78)):=(Below.refl _ _).alloc xnl _;have hb5:Below w3.heap.size w3 ((w3.alloc (.cells #[.int .i64 bl,.slice ba bn bc] 78)).alloc (.cells (zbp ⟨bl,ba,bn,bc⟩).toArray 78)):=hb4.alloc hb4.size _;have HO1:=zi5 (HPa3.out.own.below hb5);have HR1:=zi5 (show zco ((w3.alloc (.cells #[.int .i64 bl,.slice ba bn bc] 78)).alloc (.cells (zbp ⟨bl,ba,bn,bc⟩).toArray 78)) 2 (.slice (some ⟨w3.heap.size + 1,0,none⟩) 1 1) [(⟨bl,ba,bn,bc⟩:BV)].length ([(⟨bl,ba,bn,bc⟩:BV)].flatMap zbp) from zav (xs:=[(⟨bl,ba,bn,bc⟩:BV)].flatMap zbp) (fr:=(0,0)) (t:=78) (zac (by simp)) rfl);have hcn:C.length + [(⟨bl,ba,bn,bc⟩:BV)].length≤1000000000:=by rw [HCl.out]; simp only [List.length_cons,List.length_nil]; omega
     obtain ⟨x0,x1,x2⟩:=zai HPa3.out.x;have lx:=zaa HPa3.out.x;clear hb4 hb5;go_wp2_with (at_builtin; refine zbq rfl (.tmp 56) (.tmp 58) 30 rfl 78 (.agg #[.int .i64 0,.slice none 0 0]) 2 32 zbp (fun _=>rfl) zf7 underlying30 zhq rfl (by decide) (by decide) (w0:=w) (v:=.slice va j vc) (A:=C) (B:=[⟨bl,ba,bn,bc⟩]) rfl HO1.out rfl HR1.out hcn ?_; intro v5 w5 ho5 hk5 hz5 hat5; obtain ⟨a5,c5,e5⟩:=za1 ho5.1; have hl5:(C ++ [(⟨bl,ba,bn,bc⟩:BV)]).length = j + 1:=(by rw [List.length_append,HCl.out]; rfl); rw [hl5] at e5; subst e5; clear hl5; have hn1:=HPa3.out.n; have hx6:=hk5 _ _ (fun e=>absurd (hn1 _ e.symm) (by omega)) (zaf (zaf HPa3.out.x)); have lx5:=zaa hx6; have fo:=frozen_of_row _ _ 2 _ _ hx6; obtain ⟨yy0,yy1,yy2⟩:=zai hx6)
     go_roundw
     case rel =>
      have hn1:=HPa3.out.n;have hlx:=zaa HPa.out.x
      refine ⟨j + 1,C ++ [⟨bl,ba,bn,bc⟩],L ++ [bt],a5,c5,by congr 1 <;> omega,by omega,by rw [List.length_append,HCl.out]; rfl,by rw [List.length_append,HLl.out]; rfl,?_,zi5 (fun q o hqx h=>?_),HNx⟩
      ·exact HPa.out.step HB3.out HBt2.out ho5 (fun q o h1 h2=>hk5 q o h1 (zaf (zaf h2))) (Nat.le_trans (by simp; omega) hz5) (by
        rcases hat5 with h1 | h1 | h1
        ·exact .inl h1
        ·exact .inr (.inl h1)
        ·exact .inr (.inr ⟨_,h1,by simp; omega⟩))
      ·exact zam (hk5 q o (fun e=>by have:=hn1 q e.symm; omega) (zaf (zaf (zab HB3.out (by omega) (HKp.out q o hqx h))))) (by show q≠xb; omega)
     case measure=>simp [intOf]; omega
   ·have hq:decide (((2 + j:Nat):Int) < (M:Int)) = false:=by simp only [decide_eq_false_iff_not]; omega
    have hall:zbj (T.drop 2) = some L:=by
     have h:=HRd.out;rw [List.drop_eq_nil_of_le (by rw [HM.out]; omega)] at h;simpa [zbj] using h.symm
    have hQv:zdu t ⟨i1,i2,L⟩ = Q:=by
     have h:=HQ2.out;rw [hall] at h;exact h
    have hin:=(zhm _ _ hall).2;have hL5:L.length≤1000000:=by rw [HLl.out]; omega
    have hvo:=own_vecG (k:=2) (enc:=zbp) (fun _=>rfl) HPa.out.own.1
    have hn:=HPa.out.n;have HBV:=zi5 (show BitsVec WR (fun x=>xb < x) (.slice va j vc) L from ⟨C,hvo.move xnl fun x hx hs=>⟨rfl,hn x hs.2⟩,HPa.out.all.weaken fun x hx=>hx.2⟩)
    have HIn:=zi5 hin; have HQv:=zi5 hQv;clear hall hQv hin hvo hn;go_wp2_with fail
    refine (rline16_any (fun x=>xb < x) _ ⟨i1,i2,L⟩ _ ⟨_,rfl,HBV.out⟩ HIn.out hL5).mono ?_
    rintro e w3 ⟨rfl,hb⟩;have HPa3:=zi5 (HPa.out.below hb);have HBV3:=zi5 (show BitsVec w3 (fun x=>xb < x) (.slice va j vc) L from by obtain ⟨C',h1,h2⟩:=HBV.out; exact ⟨C',h1.below hb,h2.below hb⟩)
    clear hb x0 x1 x2 z0 z1 z2 lx lz;obtain ⟨x0,x1,x2⟩:=zai HPa3.out.x; obtain ⟨z0,z1,z2⟩:=zai HPa3.out.z;have lx:=zaa HPa3.out.x; have lz:=zaa HPa3.out.z;have f0:=frozen_of_row _ _ 0 _ _ HPa3.out.z; have f1:=frozen_of_row _ _ 1 _ _ HPa3.out.z; have f2:=frozen_of_row _ _ 2 _ _ HPa3.out.z
    have hbad:∀ wx,wx = (((w3.setCell ⟨w.heap.size,0,none⟩ (.int .i64 0)).setCell ⟨w.heap.size,1,none⟩ (.int .i64 0)).setCell ⟨w.heap.size,2,none⟩ (.slice none 0 0))→Below w.heap.size w wx:=fun wx h=>by
     rw [h]; exact ((HPa3.out.own.2.setCell (p:=⟨w.heap.size,0,none⟩) xnl _).setCell (p:=⟨w.heap.size,1,none⟩) xnl _).setCell (p:=⟨w.heap.size,2,none⟩) xnl _
    have HBad:=zi5 hbad;clear hbad;cases hev:zbd ⟨i1,i2,L⟩ with
    | false =>
     have hQn:Q = none:=by rw [← HQv.out]; unfold zdu; rw [hev]; simp
     have HN:=zi5 (HNone.out hQn);have e1:zfe ⟨i1,i2,L⟩ = 7:=by unfold zfe; rw [hev]; rfl
     rw [e1];have dz:((7:Int) != 0) = true:=rfl;clear hQn e1 hev;go_wp2_with fail
     exact zag rfl rfl (zad (i:=2) (v:=.slice none 0 0) (zad (i:=1) (v:=.int .i64 0) (zad (i:=0) (v:=.int .i64 0) HPa3.out.z))) underlying32 rfl (by kernel_rfl) (HN.out _ (HBad.out _ rfl))
    | true =>
     have e1:zfe ⟨i1,i2,L⟩ = 0:=by unfold zfe; rw [hev]; rfl
     have e2:lineV ⟨i1,i2,L⟩ = zey ⟨i1,i2,L⟩:=by unfold lineV; rw [hev]; rfl
     rw [e1,e2];have dz:((0:Int) != 0) = false:=rfl;by_cases hte:zey ⟨i1,i2,L⟩ = t
     ·have hQs:Q = some ⟨i1,i2,L⟩:=by rw [← HQv.out]; unfold zdu; rw [if_pos ⟨hev,hte⟩]
      have HQs:=zi5 hQs;rw [hte];clear hQs e1 e2 hev hte;go_wp2_with fail
      refine zag rfl rfl (zad (i:=2) (v:=.slice va j vc) (zad (i:=1) (v:=.int .i64 i2) (zad (i:=0) (v:=.int .i64 i1) HPa3.out.z))) underlying32 rfl (by kernel_rfl) ?_;have hxb4:=HPa3.out.xb4
      have hkeep:∀ x,x < w3.heap.size→xb < x→((((w3.setCell ⟨w.heap.size,0,none⟩ (.int .i64 i1)).setCell ⟨w.heap.size,1,none⟩ (.int .i64 i2)).setCell ⟨w.heap.size,2,none⟩ (.slice va j vc)).heap[x]? = w3.heap[x]?)∧w.heap.size≤x:=fun x _ hx=>by
       rw [heap_setCell_other _ _ _ _ (by show x≠w.heap.size; omega),heap_setCell_other _ _ _ _ (by show x≠w.heap.size; omega),heap_setCell_other _ _ _ _ (by show x≠w.heap.size; omega)];exact ⟨rfl,by omega⟩
      have hz:w3.heap.size≤(((w3.setCell ⟨w.heap.size,0,none⟩ (.int .i64 i1)).setCell ⟨w.heap.size,1,none⟩ (.int .i64 i2)).setCell ⟨w.heap.size,2,none⟩ (.slice va j vc)).heap.size:=by simp [World.setCell]
      rw [HQs.out];obtain ⟨C',h1,h2⟩:=HBV3.out;exact ⟨_,rfl,⟨_,rfl,C',h1.move hz hkeep,h2.move hz hkeep⟩,((HPa3.out.own.2.setCell (p:=⟨w.heap.size,0,none⟩) xnl _).setCell (p:=⟨w.heap.size,1,none⟩) xnl _).setCell (p:=⟨w.heap.size,2,none⟩) xnl _⟩
     ·have hQn:Q = none:=by rw [← HQv.out]; unfold zdu; rw [if_neg (fun h=>hte h.2)]
      have HN:=zi5 (HNone.out hQn);obtain ⟨ln,hln⟩:∃ ln,zey ⟨i1,i2,L⟩ = ln:=⟨_,rfl⟩;rw [hln] at hte ⊢;have e3:(ln == t) = false:=by simpa using hte
      have e4:(ln != t) = true:=by simpa using hte
      clear hQn e1 e2 hev hte hln;go_wp2_with fail
      exact zag rfl rfl (zad (i:=2) (v:=.slice none 0 0) (zad (i:=1) (v:=.int .i64 0) (zad (i:=0) (v:=.int .i64 0) HPa3.out.z))) underlying32 rfl (by kernel_rfl) (HN.out _ (HBad.out _ rfl))
end
section
open Go.RowKit Cal
attribute [local go_sem] zah zaj zaq
structure CapR (sb kb:Nat) (vf vt vn vs:Value) (s:SchemaL) (pa:Option Addr) (pc:Nat) (P:List ParL) (k:Int × Int) (ra:Option Addr) (rc:Nat) (R:List RecL) (w:World):Prop where
 bs:w.heap[sb]? = some (.cells #[vf,vt,vn,vs] 44 (0,0))
 bk:w.heap[kb]? = some (.cells #[.int .u64 k.1,.int .u64 k.2] 26 (0,0))
 sch:SchemaAt w zaw vf vt vn vs s
 par:Vec w zaw 3 zbc (.slice pa P.length pc) P
 rcs:RecsVec w zaw (.slice ra R.length rc) R
theorem CapR.below {sb kb:Nat} {vf vt vn vs:Value} {s:SchemaL} {pa:Option Addr} {pc:Nat} {P:List ParL} {k:Int × Int} {ra:Option Addr} {rc:Nat} {R:List RecL} {w w':World} (h:CapR sb kb vf vt vn vs s pa pc P k ra rc R w) (hb:Below w.heap.size w w'):CapR sb kb vf vt vn vs s pa pc P k ra rc R w' :=
 ⟨zab hb (zaa h.bs) h.bs,zab hb (zaa h.bk) h.bk,h.sch.below hb,h.par.below hb,h.rcs.below hb⟩
theorem rall16_any (S T:Nat→Prop) (vf vt vn vs rv:Value) (s:SchemaL) (P:List ParL) (pv:Value) (k:Int × Int) (R:List RecL) (w:World) (h:SchemaAt w S vf vt vn vs s) (hp:Vec w zaw 3 zbc pv P) (hr:RecsVec w T rv R) (hi:∀ p∈P,InI p.len) (hn:P.length≤1000000)
  (hs:∀ r∈R,∀ x∈r.vals,x.length≤1000000) (hm:∀ r∈R,r.vals.length≤1000000) (hR:R.length≤1000000) :
  Calls prog 25 #[.agg #[vf,vt,vn,vs],pv,.agg #[.int .u64 k.1,.int .u64 k.2],rv] w (AllEPost (zhh s P k R) w):=by
 obtain ⟨a,cap,rfl⟩:=hp.slice;obtain ⟨ar,cr,rfl⟩:=hr.slice;have HS:=zi5 h.any; have HP:=zi5 hp; have HR:=zi5 hr.any; have HI:=zi5 hi; have HSh:=zi5 hs; have HM:=zi5 hm;obtain ⟨ce,hce⟩:∃ c,zb0 s P = c:=⟨_,rfl⟩;obtain ⟨ca,hca⟩:∃ c,allN s R = c:=⟨_,rfl⟩;obtain ⟨Z,hZ⟩:∃ Z,zhh s P k R = Z:=⟨_,rfl⟩;rw [hZ];have HCe:=zi5 hce; have HCa:=zi5 hca; have HZ:=zi5 hZ;clear h hp hr hi hs hm hce hca hZ;go_enter func25,ntmps25
 go_wp2_with fail
 refine zae (fun W hW=>?_)
 have hb0:=xam hW
 have hs0:W.heap[w.heap.size]? = some (.cells #[vf,vt,vn,vs] 44 (0,0)):=by rw [hW]; exact zaf (zac rfl)
 have hk0:W.heap[w.heap.size + 1]? = some (.cells #[.int .u64 k.1,.int .u64 k.2] 26 (0,0)):=by rw [hW]; exact zac (by simp)
 clear hW;refine (zew zaw _ _ _ _ s P _ _ (HS.out.below hb0) (HP.out.below hb0) HI.out hn).mono ?_;rw [HCe.out];rintro e w1 ⟨rfl,hb⟩;have HB1:=zi5 (hb0.trans (hb.mono hb0.size));have HX1:=zi5 (show CapR w.heap.size (w.heap.size + 1) vf vt vn vs s a cap P k ar cr R w1 from ⟨zab hb (zaa hs0) hs0,zab hb (zaa hk0) hk0,HS.out.below (hb0.trans (hb.mono hb0.size)),HP.out.below (hb0.trans (hb.mono hb0.size)),HR.out.below (hb0.trans (hb.mono hb0.size))⟩);clear hb hb0 hs0 hk0;obtain ⟨s0,s1,s2,s3⟩:=zan HX1.out.bs;have ls:=zaa HX1.out.bs;by_cases hc0:ce = 0;rotate_left
 ·have dz:(ce != 0) = true:=by simpa using hc0
  have hZ2:Z = ([],ce):=by rw [← HZ.out]; unfold zhh; rw [if_neg (by rw [HCe.out]; exact hc0),HCe.out]
  subst hZ2;clear HCe HCa HZ hc0;go_wp2_with fail
  go_ret2;exact ⟨_,rfl,EncsVec.nil _ _,HB1.out⟩
 have dz:(ce != 0) = false:=by simpa using hc0
 go_wp2_with fail
 refine (rrall_any zaw zaw _ _ _ _ _ s R _ (HS.out.below HB1.out) (HR.out.below HB1.out) HSh.out HM.out hR).mono ?_;rw [HCa.out];rintro e w2 ⟨rfl,hb⟩;have HB2:=zi5 (HB1.out.trans (hb.mono HB1.out.size)); have HX2:=zi5 (HX1.out.below hb);clear hb s0 s1 s2 s3 ls;by_cases ha0:ca = 0;rotate_left
 ·have da:(ca != 0) = true:=by simpa using ha0
  have hZ2:Z = ([],ca):=by rw [← HZ.out]; unfold zhh; rw [if_pos (by rw [HCe.out]; exact hc0),if_neg (by rw [HCa.out]; exact ha0),HCa.out]
  subst hZ2;clear HCe HCa HZ hc0 ha0;go_wp2_with fail
  go_ret2;exact ⟨_,rfl,EncsVec.nil _ _,HB2.out⟩
 have da:(ca != 0) = false:=by simpa using ha0
 obtain ⟨L,hL⟩:∃ L,R.map (ziz s P k) = L:=⟨_,rfl⟩;have hZ2:Z = (L,0):=by rw [← HZ.out,← hL]; unfold zhh; rw [if_pos (by rw [HCe.out]; exact hc0),if_pos (by rw [HCa.out]; exact ha0)]
 have hll:L.length = R.length:=by rw [← hL,List.length_map]
 have HC0:=zi5 (HCe.out.trans hc0);have HRok:=zi5 (allN_ok (HCa.out.trans ha0)).2.2;have HZ3:=zi5 hZ2; have HL:=zi5 hL; have HLl:=zi5 hll;clear HCe HCa HZ hc0 ha0 hZ2 HX1 hL hll;go_wp2_with fail
 go_loopw [12,13] (fun v i wr=>∃ (j:Nat) (C:List EV),i = .int .i64 j∧j≤R.length∧C.length = j∧OwnV 32 3 zck w2 v C wr∧EncsAll wr (zgr w2.heap.size v) C ((R.take j).map (ziz s P k))) (fun _ i _=>R.length - (intOf i).toNat)
 case atStart=>exact ⟨0,[],rfl,by omega,rfl,OwnV.start _ _ _ _,⟨rfl,fun n h1 _=>by simp at h1⟩⟩
 case round =>
  obtain ⟨j,C,rfl,hj,hCl,ho,hba⟩:=hrel;have HO:=zi5 ho; have HBA:=zi5 hba; have HCl:=zi5 hCl; have HX:=zi5 (HX2.out.below ho.2);obtain ⟨va,vc,ev⟩:=za1 ho.1;rw [hCl] at ev;subst ev;clear ho hba hCl;obtain ⟨WR,hWR⟩:∃ u,u = wr:=⟨_,rfl⟩;subst hWR;by_cases hlt:j < R.length
  ·have hq:decide ((j:Int) < R.length) = true:=by simp; omega
   have hji:(j:Int) < (R.length:Int):=by omega
   obtain ⟨b,off,id,ver,aa,nn,cc,vals,rfl,lb,c0,c1,c2,hRk,hvv⟩:=HX.out.rcs.at j hlt;have hnn:=hvv.len.1;subst hnn;have hok:=HRok.out _ (List.getElem_mem hlt);rw [hRk] at hok;have hts:(R.take (j + 1)).map (ziz s P k) = (R.take j).map (ziz s P k) ++ [ziz s P k ⟨id,ver,vals⟩]:=by rw [List.take_succ_eq_append_getElem hlt,hRk]; simp
   obtain ⟨X,hXe⟩:∃ X,ziz s P k ⟨id,ver,vals⟩ = X:=⟨_,rfl⟩;rw [hXe] at hts;have HOk:=zi5 hok; have HTs:=zi5 hts; have HVv:=zi5 hvv; have HXe:=zi5 hXe;have lsb:=zaa HX.out.bs; have lkb:=zaa HX.out.bk
   have HT:=zi5 (show ∀ w',Below WR.heap.size WR w'→(w'.cell? ⟨w.heap.size,0,none⟩ = some vf∧w'.cell? ⟨w.heap.size,1,none⟩ = some vt∧w'.cell? ⟨w.heap.size,2,none⟩ = some vn∧w'.cell? ⟨w.heap.size,3,none⟩ = some vs)∧(w'.cell? ⟨w.heap.size + 1,0,none⟩ = some (.int .u64 k.1)∧w'.cell? ⟨w.heap.size + 1,1,none⟩ = some (.int .u64 k.2))∧w'.cell? ⟨b,off + j * 3,none⟩ = some (.int .i64 id)∧w'.cell? ⟨b,off + j * 3 + 1,none⟩ = some (.int .i64 ver)∧w'.cell? ⟨b,off + j * 3 + 2,none⟩ = some (.slice aa vals.length cc) from fun w' hb =>
    ⟨zan (zab hb lsb HX.out.bs),zak (zab hb lkb HX.out.bk),(hb.cell (p:=⟨b,off + j * 3,none⟩) lb).trans c0,(hb.cell (p:=⟨b,off + j * 3 + 1,none⟩) lb).trans c1,(hb.cell (p:=⟨b,off + j * 3 + 2,none⟩) lb).trans c2⟩)
   have bD:Below WR.heap.size WR WR.drew:=(Below.refl _ _).drew;have zD:WR.drew.heap.size = WR.heap.size:=rfl;clear hok hts hvv hRk hXe c0 c1 c2;go_wp2_with fail
   go_cut [14] (fun s14 wx=>∃ (bb:Nat) (c:EV),s14 = .pointer (some ⟨bb,0,none⟩)∧wx.heap[bb]? = some (.cells (zck c).toArray 32 (0,0))∧EncVal wx (fun x=>WR.heap.size≤x) (.agg (zck c).toArray) X∧Below WR.heap.size WR wx)
   case first =>
    refine wp_region_noPanic ?_
    refine zat (by kernel_rfl) (fun w'=>(w'.cell? ⟨w.heap.size,0,none⟩ = some vf∧w'.cell? ⟨w.heap.size,1,none⟩ = some vt∧w'.cell? ⟨w.heap.size,2,none⟩ = some vn∧w'.cell? ⟨w.heap.size,3,none⟩ = some vs)∧(w'.cell? ⟨w.heap.size + 1,0,none⟩ = some (.int .u64 k.1)∧w'.cell? ⟨w.heap.size + 1,1,none⟩ = some (.int .u64 k.2))∧w'.cell? ⟨b,off + j * 3,none⟩ = some (.int .i64 id)∧w'.cell? ⟨b,off + j * 3 + 1,none⟩ = some (.int .i64 ver)∧w'.cell? ⟨b,off + j * 3 + 2,none⟩ = some (.slice aa vals.length cc)) 12 (HT.out _ bD) (fun hHeld=>?_)
    refine tK 0 (h:=?_);refine tK 1 (h:=?_);refine tK 2 (h:=?_);refine tK 3 (h:=?_);refine tK 4 (h:=?_);refine tK 5 (h:=?_);refine tK 6 (h:=?_);refine za8 (rs:=[7,11]) (by kernel_rfl) (by simp) ?_
    refine AllReadyK.cons rfl (fun K hK=>?_) (AllReadyK.cons rfl (fun K hK=>?_) AllReadyK.nil)
    focus
     go_simp;refine (zgh zaw _ _ _ _ s P _ k ⟨id,ver,vals⟩ _ _ (HX.out.sch.below bD) (HX.out.par.below bD) (HVv.out.below bD) HC0.out HOk.out).mono ?_;rw [HXe.out];rintro e w8 ⟨_,rfl,hev,hb8⟩;obtain ⟨⟨xi,xv,xa,xn,xc⟩,rfl,hev'⟩:=hev.form;have b8:=bD.trans (hb8.mono bD.size)
     refine za5 hK (HT.out _ b8) (fun hHeld=>?_)
     clear hK K;refine tK 8 (h:=?_);refine tK 9 (h:=?_);refine t0 10 (h:=?_)
     refine xrK 11 rfl fun K hK=>?_
     go_simp;skip
     refine za5 hK (HT.out _ (b8.alloc b8.size _)) (fun hHeld=>?_)
     clear hK K
     refine zbb (fun W9 hW9=>?_)
     have b9:Below WR.heap.size WR W9:=by rw [hW9]; exact b8.alloc b8.size _
     have z9:W9.heap[w8.heap.size]? = some (.cells #[.int .i64 0,.int .i64 0,.slice none 0 0] 32 (0,0)):=by rw [hW9]; exact zac rfl
     have k9:∀ x,x < w8.heap.size→W9.heap[x]? = w8.heap[x]?:=fun x hx=>by rw [hW9]; exact heap_alloc_old _ _ hx
     have s9:w8.heap.size≤W9.heap.size:=by rw [hW9]; simp
     clear hW9 hHeld;have hHeld:=HT.out _ b9;obtain ⟨e0,e1,e2⟩:=zai z9; have l9:=zaa z9; have g0:=frozen_of_row _ _ 0 _ _ z9; have g1:=frozen_of_row _ _ 1 _ _ z9; have g2:=frozen_of_row _ _ 2 _ _ z9
     refine xrK 12 rfl fun K hK=>?_
     go_simp;refine zas hK (by decide) ?_;clear hK K;refine t0 13 (h:=?_);refine zap (by kernel_rfl) ?_ _;refine NoPanic.normal ?_;go_wp2_with fail
     go_meet;exact ⟨_,⟨xi,xv,xa,xn,xc⟩,rfl,zad (i:=2) (v:=.slice xa xn xc) (zad (i:=1) (v:=.int .i64 xv) (zad (i:=0) (v:=.int .i64 xi) z9)),(hev'.move (T:=fun x=>WR.drew.heap.size≤x) (by simpa [World.setCell] using s9) (fun x hx hs=>by rw [heap_setCell_other _ _ _ _ (by show x≠w8.heap.size; omega),heap_setCell_other _ _ _ _ (by show x≠w8.heap.size; omega),heap_setCell_other _ _ _ _ (by show x≠w8.heap.size; omega)]; exact ⟨k9 x hx,hs⟩)).weaken (fun x _ hx=>by have hx':WR.drew.heap.size≤x:=hx; omega),((b9.setCell (p:=⟨w8.heap.size,0,none⟩) b8.size _).setCell (p:=⟨w8.heap.size,1,none⟩) b8.size _).setCell (p:=⟨w8.heap.size,2,none⟩) b8.size _⟩
    focus
     go_simp
     refine za5 hK (HT.out _ (bD.alloc bD.size _)) (fun hHeld=>?_)
     clear hK K
     refine zbb (fun W9 hW9=>?_)
     have b9:Below WR.heap.size WR W9:=by rw [hW9]; exact bD.alloc bD.size _
     have z9:W9.heap[WR.heap.size]? = some (.cells #[.int .i64 0,.int .i64 0,.slice none 0 0] 32 (0,0)):=by rw [hW9]; exact zac rfl
     clear hW9 hHeld;have hHeld:=HT.out _ b9;have l9:=zaa z9
     refine xrK 7 rfl fun K hK=>?_
     go_simp;refine (zgh zaw _ _ _ _ s P _ k ⟨id,ver,vals⟩ _ _ (HX.out.sch.below b9) (HX.out.par.below b9) (HVv.out.below b9) HC0.out HOk.out).mono ?_; rw [HXe.out]; rintro e w8 ⟨_,rfl,hev,hb8⟩; obtain ⟨⟨xi,xv,xa,xn,xc⟩,rfl,hev'⟩:=hev.form; have b8:=b9.trans (hb8.mono b9.size); have z8:=zab hb8 l9 z9
     refine za5 hK (HT.out _ b8) (fun hHeld=>?_)
     clear hK K;refine tK 8 (h:=?_);refine tK 9 (h:=?_);refine t0 10 (h:=?_);obtain ⟨e0,e1,e2⟩:=zai z8; have l8:=zaa z8; have g0:=frozen_of_row _ _ 0 _ _ z8; have g1:=frozen_of_row _ _ 1 _ _ z8; have g2:=frozen_of_row _ _ 2 _ _ z8
     refine xrK 12 rfl fun K hK=>?_
     go_simp;refine zas hK (by decide) ?_;clear hK K;refine t0 13 (h:=?_);refine zap (by kernel_rfl) ?_ _;refine NoPanic.normal ?_;go_wp2_with fail
     go_meet;exact ⟨_,⟨xi,xv,xa,xn,xc⟩,rfl,zad (i:=2) (v:=.slice xa xn xc) (zad (i:=1) (v:=.int .i64 xv) (zad (i:=0) (v:=.int .i64 xi) z8)),((hev'.weaken (T:=fun x=>WR.heap.size < x) (fun x _ hx=>by have hx':W9.heap.size≤x:=hx; omega)).move (by simp [World.setCell]) (fun x hx hs=>by have hs':WR.heap.size < x:=hs; rw [heap_setCell_other _ _ _ _ (by show x≠WR.heap.size; omega),heap_setCell_other _ _ _ _ (by show x≠WR.heap.size; omega),heap_setCell_other _ _ _ _ (by show x≠WR.heap.size; omega)]; exact ⟨rfl,hs⟩)).weaken (fun x _ hx=>by have hx':WR.heap.size < x:=hx; omega),((b8.setCell (p:=⟨WR.heap.size,0,none⟩) xnl _).setCell (p:=⟨WR.heap.size,1,none⟩) xnl _).setCell (p:=⟨WR.heap.size,2,none⟩) xnl _⟩
   case rest =>
    obtain ⟨w8,hw8⟩:∃ u,u = wc:=⟨_,rfl⟩;subst hw8;obtain ⟨bb,⟨xi,xv,xa,xn,xc⟩,rfl,hbb,hev,hb8⟩:=hcut;have B8:=zi5 hb8;obtain ⟨y0,y1,y2⟩:=zai hbb;have lbb:=zaa hbb;have HEv:=zi5 hev;have hb1:Below w8.heap.size w8 (w8.alloc (.cells (zck ⟨xi,xv,xa,xn,xc⟩).toArray 32)):=(Below.refl _ _).alloc xnl _;have HO1:=zi5 (HO.out.below (hb8.trans (hb1.mono hb8.size)));have HR1:=zi5 (show zco (w8.alloc (.cells (zck ⟨xi,xv,xa,xn,xc⟩).toArray 32)) 3 (.slice (some ⟨w8.heap.size,0,none⟩) 1 1) [(⟨xi,xv,xa,xn,xc⟩:EV)].length ([(⟨xi,xv,xa,xn,xc⟩:EV)].flatMap zck) from zav (xs:=[(⟨xi,xv,xa,xn,xc⟩:EV)].flatMap zck) (fr:=(0,0)) (t:=32) (zac rfl) rfl);have hcn:C.length + [(⟨xi,xv,xa,xn,xc⟩:EV)].length≤1000000000:=by rw [HCl.out]; simp only [List.length_cons,List.length_nil]; omega
    clear hbb hev hb8 hb1 HT bD zD;go_wp2_with (at_builtin; refine zbq rfl (.tmp 45) (.tmp 47) 59 rfl 32 (.agg #[.int .i64 0,.int .i64 0,.slice none 0 0]) 3 40 zck (fun _=>rfl) one_encEV underlying59 infoEV rfl (by decide) (by decide) (w0:=w2) (v:=.slice va j vc) (A:=C) (B:=[⟨xi,xv,xa,xn,xc⟩]) rfl HO1.out rfl HR1.out hcn ?_; intro v5 w5 ho5 hk5 hz5 hat5)
    go_roundw
    case rel =>
     refine ⟨j + 1,C ++ [⟨xi,xv,xa,xn,xc⟩],by go_num,by omega,by rw [List.length_append,HCl.out]; rfl,ho5,?_⟩;rw [HTs.out]
     exact HBA.out.grow (fun g e=>(World.ownsRow.lt HO.out.1 g e).2) HO.out.2.size B8.out HEv.out (fun q o h1 h2=>hk5 q o h1 (zaf h2)) (Nat.le_trans (by simp) hz5) (by
      rcases hat5 with h1 | h1 | h1
      ·exact .inl h1
      ·exact .inr (.inl h1)
      ·exact .inr (.inr ⟨_,h1,by simp⟩))
    case measure=>simp [intOf]; omega
  ·have hq:decide ((j:Int) < (R.length:Int)) = false:=by simp; omega
   obtain rfl:j = R.length:=by omega
   rw [List.take_of_length_le xnl] at HBA;go_wp2_with fail
   go_ret2;rw [HZ3.out];have hz:=HB2.out.size;have hv:EncsVec WR (fun x=>w2.heap.size≤x) (.slice va R.length vc) (R.map (ziz s P k)):=⟨C,OwnV.vec (size:=3) (enc:=zck) (fun _=>rfl) HO.out,HBA.out.move xnl fun x _ hx=>⟨rfl,hx.1⟩⟩
   rw [HL.out] at hv;exact ⟨_,rfl,hv.move xnl fun x _ hx=>⟨rfl,by have hx':w2.heap.size≤x:=hx; omega⟩,HB2.out.trans (HO.out.2.mono hz)⟩
end
section
open Go.RowKit Cal
theorem zgy (S T:Nat→Prop) (u v:Value) (L:List EncL) (w:World) (hu:EncsVec w S u L) (hv:EncsVec w T v L) (hn:L.length≤1000000) (hf:∀ e∈L,e.fields.length≤1000000) (hww:∀ e∈L,∀ b∈e.fields,b.words.length≤1000000) :
  Calls prog 26 #[u,v] w fun e w'=>e = .returned (.bool true)∧Below w.heap.size w w':=by
 obtain ⟨aa,ca,rfl⟩:=hu.slice;obtain ⟨ab,cb,rfl⟩:=hv.slice;have HA:=zi5 hu; have HB:=zi5 hv; have HF:=zi5 hf; have HWw:=zi5 hww;have hq0:((L.length:Int) != (L.length:Int)) = false:=by simp
 clear hu hv hf hww;go_enter func26,ntmps26
 go_wp2_with fail
 go_loopw [5] (fun i wr=>∃ k:Nat,k≤L.length∧i = .int .i64 k∧Below w.heap.size w wr) (fun i _=>L.length - (intOf i).toNat)
 case atStart=>exact ⟨0,by omega,rfl,Below.refl _ _⟩
 case round =>
  obtain ⟨k,hk,rfl,hbw⟩:=hrel;have HW:=zi5 hbw;by_cases hlt:k < L.length
  ·have hq:decide ((k:Int) < L.length) = true:=by simp; omega
   have hki:(k:Int) < (L.length:Int):=by omega
   obtain ⟨b1,o1,⟨i1,v1,a1,n1,c1⟩,rfl,lb1,⟨p0,p1,p2⟩,he1⟩:=(HA.out.below hbw).at k hlt;obtain ⟨b2,o2,⟨i2,v2,a2,n2,c2⟩,rfl,lb2,⟨q0,q1,q2⟩,he2⟩:=(HB.out.below hbw).at k hlt;have hfk:=HF.out _ (List.getElem_mem hlt); have hwk:=HWw.out _ (List.getElem_mem hlt);have cP:=zbl wr (fun W' hb=>by have h:=zgg S T _ _ _ _ W' (he1.below hb) (he2.below hb) hfk hwk; rw [sameE_self] at h; exact h)
   have g0:=cell_regrown p0; have g1:=cell_regrown p1; have g2:=cell_regrown p2; have k0:=cell_regrown q0; have k1:=cell_regrown q1; have k2:=cell_regrown q2;clear hbw he1 he2 hfk hwk;go_wp2_with fail
   refine wp_region_quiet_below (by kernel_rfl) (by kernel_rfl) ?_;repeat (go_big_quiet_step (first | with_reducible exact cP _ _))
   refine wpQuiet_nil ?_;intro w2 hw'
   have hb2:Below wr.heap.size wr w2:=by
    obtain ⟨⟨dq,osq⟩,hw''⟩:=hw';rw [hw'']; exact below_regrown wr dq osq
   have HB2:=zi5 (HW.out.trans (hb2.mono HW.out.size));clear hw' hb2 cP g0 g1 g2 k0 k1 k2 p0 p1 p2 q0 q1 q2;go_wp2_with fail
   go_roundw
   case rel=>exact ⟨k + 1,by omega,by go_num,HB2.out⟩
   case measure=>simp [intOf]; omega
  ·have hq:decide ((k:Int) < L.length) = false:=by simp; omega
   go_wp2_with fail
   go_ret;exact ⟨rfl,HW.out⟩
end
section
open Go.RowKit
theorem owns_prefix {w:World} {base e size g n m cap:Nat} {xs news:List Value} (h:w.ownsRow base e size (.slice (some ⟨g,0,none⟩) (n + m) cap) (n + m) (xs ++ news)) (hl:xs.length = n * size) :
  w.ownsRow base e size (.slice (some ⟨g,0,none⟩) n cap) n xs:=by
 refine ⟨hl,?_⟩
 rcases h.2 with ⟨h0,_⟩ | ⟨g',cap',cur,hv,hb,hg,hc,hm,hz,ht⟩
 ·cases h0
 ·cases hv
  refine .inr ⟨g,cap,cur,rfl,hb,hg,by omega,hm,hz,?_⟩;have h1:(cur.toList.take ((n + m) * size)).take (n * size) = xs:=by rw [ht,← hl,List.take_left]
  rw [List.take_take,Nat.min_eq_left (Nat.mul_le_mul_right _ (Nat.le_add_right _ _))] at h1;exact h1
theorem run_append_keep {P:Program} (w:World) (base:Nat) (t ty e:TypeId) (i:TypeInfo) (z:Value) (size bytes:Nat) (ht:P.underlying t = some (.slice e)) (hi:P.info? e = some i) (hz:i.zero = some z)
  (hsize:i.size = size) (hby:i.bytes = bytes) (hzs:z.cells.size = size) (hsz:0 < size)
  (v:Value) (n:Nat) (xs:List Value) (hown:w.ownsRow base e size v n xs)
  (a:Addr) (m c:Nat) (news:List Value) (hl:news.length = m * size) (hnews:∀ j u,news[j]? = some u→w.cell? (a.add j) = some u) (h1:∀ u∈news,u.oneCell' = true)
  (h63:n + m≤maxLen) (hbytes:(n + m) * bytes≤140737488355328) (hbase:base≤w.heap.size) :
  ∃ v' w',(Builtin.append_ #[t,t] ty #[v,.slice (some a) m c]).run P w = .ok v' w'∧w'.ownsRow base e size v' (n + m) (xs ++ news)∧w.grownBy w' v.ownBlock∧w'.ownsRow base e size v n xs∧(v'.ownBlock = v.ownBlock∨v'.ownBlock = some w.heap.size):=by
 obtain ⟨v',w',hr,ho,hg,_,hat⟩:=run_append_own_at (P:=P) w base t ty e i z size bytes ht hi hz hsize hby hzs hsz v n xs hown a m c news hl hnews h1 h63 hbytes hbase;refine ⟨v',w',hr,ho,hg,?_,hat⟩;have hown0:=hown
 rcases hown.2 with ⟨rfl,rfl⟩ | ⟨g,cap,cur,rfl,hb,hgg,hnc,hm,hcs,htk⟩
 ·have:xs = []:=List.length_eq_zero_iff.1 (by rw [hown.1]; simp)
  subst this;exact World.ownsRow_nil w' _ e size
 ·by_cases hroom:n + m≤cap
  ·have hrow:∀ k,k < cap * size→(w.cell? ⟨g,k,none⟩).isSome = true:=fun k hk=>by
    rw [cell_of_row w g k cur e (0,0) hgg,Array.getElem?_eq_getElem (by omega)]; rfl
   have hnm:news.length = m * size:=hl
   have hbd:∀ j,j < news.length→n * size + j < cap * size:=fun j hj=>by
    have h2:(n + m) * size≤cap * size:=Nat.mul_le_mul_right _ hroom;rw [Nat.add_mul] at h2; omega
   have hr2:=run_append_room_cells (P:=P) w t ty e i ht hi g 0 n cap a m c news (by rw [hsize]; exact hl) hnews h1 hroom
    (fun j hj=>by rw [Nat.zero_add,hsize]; exact hrow _ (hbd j hj)) (fun j hj=>frozen_of_row _ _ _ _ _ hgg)
   rw [hr] at hr2;cases hr2;exact owns_prefix ho hown.1
  ·have hcells:∀ j u,xs[j]? = some u→w.cell? ((⟨g,0,none⟩:Addr).add j) = some u:=hown0.cells rfl
   obtain ⟨v2,w2,hr2,_,hg2⟩:=run_append_arg_grows (P:=P) w t ty e i z size bytes ht hi hz hsize hby hzs hsz ⟨g,0,none⟩ n cap xs hown.1 hcells a m c news hl hnews (by omega) h63 hbytes;rw [hr] at hr2;cases hr2;exact hown0.kept hg2 (.inr (by simp [Value.ownBlock]))
section
variable {α:Type} {P:Program} {w:World} {o:Oper} {a:Act} {K:Act→World→Prop} {Q:Exit→Act→World→Prop}
theorem zce (s x:Operand) (t:TypeId) (ho:o.op = .call { callee:=.builtin .append,args:=#[s,x],argTypes:=#[t,t] })
  (D e:Nat) (z:Value) (size bytes:Nat) (enc:α→List Value) (hk:∀ x,(enc x).length = size) (h1:∀ x,∀ u∈enc x,u.oneCell' = true) (ht:P.underlying t = some (.slice e)) (hinfo:(P.info? e).map (fun i=>(i.zero,i.size,i.bytes)) = some (some z,size,bytes))
  (hzs:z.cells.size = size) (hsz:0 < size) (hby:bytes≤128) {wA:World} {v u:Value} {A B:List α} (hs:a.eval s = v) (hown:OwnM D e size enc wA v A w) (hx:a.eval x = u) (hr:zco w size u B.length (B.flatMap enc)) (hn:A.length + B.length≤1000000000)
  (h:∀ v' w',OwnM D e size enc wA v' (A ++ B) w'→OwnM D e size enc wA v A w'→(∀ k o,some k≠v.ownBlock→w.heap[k]? = some o→w'.heap[k]? = some o)→w.heap.size≤w'.heap.size→(v'.ownBlock = v.ownBlock∨v'.ownBlock = some w.heap.size)→K (a.put o.dst v') w'):Oper.wp P o a w K Q:=by
 obtain ⟨i,hi,hz,h2,h3⟩:=info_parts hinfo;obtain ⟨ad,c,rfl,hl,hc⟩:=hr;by_cases hm:B.length = 0
 ·have hB:B = []:=List.length_eq_zero_iff.1 hm
  subst hB;refine zhz s x t ho wA.heap.size e i size ht hi v A.length (A.flatMap enc) hs hown.1 ad c hx ?_;exact h v w (by rw [List.append_nil]; exact hown) hown (fun _ _ _ h=>h) xnl (.inl rfl)
 obtain ⟨A0,rfl,hcell⟩:=hc (by omega)
 obtain ⟨v',w',hrun,ho',hg,hold,hat⟩:=run_append_keep (P:=P) w wA.heap.size t o.type e i z size bytes ht hi hz h2 h3 hzs hsz v A.length (A.flatMap enc) hown.1 A0 B.length c (B.flatMap enc) hl hcell
  (fun u hu=>by obtain ⟨y,_,hy⟩:=List.mem_flatMap.1 hu; exact h1 y u hy) (by unfold maxLen; omega) (Nat.le_trans (Nat.mul_le_mul hn hby) (by decide)) hown.2.size
 have hmv:Moved D wA w':=hown.2.grown' hg fun k hk=>by
  rcases hown.1.2 with ⟨rfl,_⟩ | ⟨g,cap,cur,rfl,hg1,_⟩
  ·simp [Value.ownBlock] at hk
  ·have:g = k:=by simpa [Value.ownBlock] using hk
   omega
 unfold Oper.wp execOp;simp only [ho,resolve,invoke,builtin,Sem.run_bind,Sem.run_pure,Result.andThen_ok,List.map_toArray,List.map_cons,List.map_nil,hs,hx,hrun];exact h v' w' ⟨by rw [List.length_append,List.flatMap_append]; exact ho',hmv⟩ ⟨hold,hmv⟩ (fun k o hk hko=>(hg.block k (zaa hko) hk).trans hko) hg.size hat
end
end
section
open Go.RowKit Cal
theorem EncsVec.movedD {D:Nat} {w w':World} {S:Nat→Prop} {v:Value} {L:List EncL} (h:EncsVec w S v L) (hS:∀ b,S b→b≠D) (m:Moved D w w'):EncsVec w' S v L :=
 h.move m.size fun b hb hs=>⟨m.grown.block b hb (by have:b≠D:=hS b hs; simp; omega),hs⟩
theorem EncsVec.weakenE {w:World} {S T:Nat→Prop} {v:Value} {L:List EncL} (h:EncsVec w S v L) (hS:∀ x,x < w.heap.size→S x→T x):EncsVec w T v L:=h.move xnl fun x hx hs=>⟨rfl,hS x hx hs⟩
theorem set_far_eq {W:World} {a:Addr} {v:Value} {b:Nat} (h:b≠a.block) (hb:b < W.heap.size):(W.setCell a v).heap[b]? = W.heap[b]?:=by
 have e:W.heap[b]? = some W.heap[b]:=Array.getElem?_eq_getElem hb;rw [e]; exact zam e h
theorem EncVal.far {W:World} {S:Nat→Prop} {a:Addr} {u v:Value} {e:EncL} (h:EncVal W S v e) (hS:∀ b,S b→b≠a.block):EncVal (W.setCell a u) S v e :=
 h.move (by simp [World.setCell]) fun b hb hs=>⟨set_far_eq (hS b hs) hb,hs⟩
theorem ziy {D Z:Nat} {w4 W:World} {x:EV} {X:EncL} (m:Moved D w4 W) (hz:w4.heap.size≤Z) (hx:W.heap[Z]? = some (.cells #[.int .i64 0,.int .i64 0,.slice none 0 0] 32 (0,0))) (hv:EncVal W (fun b=>b≠Z) (.agg (zck x).toArray) X) :
  (((W.setCell ⟨Z,0,none⟩ (.int .i64 x.id)).setCell ⟨Z,1,none⟩ (.int .i64 x.ver)).setCell ⟨Z,2,none⟩ (.slice x.a x.n x.c)).heap[Z]? = some (.cells (zck x).toArray 32 (0,0)) ∧
  EncVal (((W.setCell ⟨Z,0,none⟩ (.int .i64 x.id)).setCell ⟨Z,1,none⟩ (.int .i64 x.ver)).setCell ⟨Z,2,none⟩ (.slice x.a x.n x.c)) zaw (.agg (zck x).toArray) X ∧
  Moved D w4 (((W.setCell ⟨Z,0,none⟩ (.int .i64 x.id)).setCell ⟨Z,1,none⟩ (.int .i64 x.ver)).setCell ⟨Z,2,none⟩ (.slice x.a x.n x.c)):=by
 refine ⟨zad (i:=2) (v:=.slice x.a x.n x.c) (zad (i:=1) (v:=.int .i64 x.ver) (zad (i:=0) (v:=.int .i64 x.id) hx)),?_,((m.set (a:=⟨Z,0,none⟩) hz _).set (a:=⟨Z,1,none⟩) hz _).set (a:=⟨Z,2,none⟩) hz _⟩;have h:=((hv.far (a:=⟨Z,0,none⟩) (u:=.int .i64 x.id) fun b h=>h).far (a:=⟨Z,1,none⟩) (u:=.int .i64 x.ver) fun b h=>h).far (a:=⟨Z,2,none⟩) (u:=.slice x.a x.n x.c) fun b h=>h
 exact h.weaken fun _ _ _=>trivial
def RAllE (D:Nat) (w4:World) (LB:List EncL) (eb:Int) (s1 s2:Value) (wx:World):Prop :=
 ∃ (a8:Option Addr) (c8:Nat),s1 = .slice a8 LB.length c8∧s2 = .int .i64 eb∧EncsVec wx (fun x=>w4.heap.size≤x) (.slice a8 LB.length c8) LB∧Moved D w4 wx
theorem rallE_mk {D:Nat} {w4 wx:World} {LB:List EncL} {eb:Int} {a8:Option Addr} {c8:Nat} (h:EncsVec wx (fun x=>w4.heap.size≤x) (.slice a8 LB.length c8) LB) (m:Moved D w4 wx):RAllE D w4 LB eb (.slice a8 LB.length c8) (.int .i64 eb) wx :=
 ⟨_,_,rfl,rfl,h,m⟩
def ROwnE (D:Nat) (wr:World) (s:Value) (wx:World):Prop :=
 ∃ (Z:Nat) (x:EV) (X:EncL),s = .pointer (some ⟨Z,0,none⟩)∧wx.heap[Z]? = some (.cells (zck x).toArray 32 (0,0))∧EncVal wx zaw (.agg (zck x).toArray) X∧SmallE X∧Moved D wr wx
theorem zig {D Z:Nat} {wr wx:World} {x:EV} {X:EncL} (h:wx.heap[Z]? = some (.cells (zck x).toArray 32 (0,0))∧EncVal wx zaw (.agg (zck x).toArray) X∧Moved D wr wx) (hs:SmallE X):ROwnE D wr (.pointer (some ⟨Z,0,none⟩)) wx :=
 ⟨_,_,_,rfl,h.1,h.2.1,hs,h.2.2⟩
end
section
open Go.RowKit Cal
attribute [local go_sem] zah zaj zar zaq
theorem eexU (w:World) (D Y:Nat) (W0:World) (key:Int × Int) (r:RecL) (ra:Option Addr) (rc:Nat) (o:EncL) (oa:Option Addr) (oc:Nat) (S:Nat→Prop) (af at' an as':Option Addr) (N cf nt ct nk cn ns cs:Nat) (s:SchemaL) (HSD:Hid (SchemaD s)) (HN:Hid (s.fields.length = N)) (arv:Option Addr) (crv:Nat) (R:List RecL) (hN1:1≤N) (hN5:N≤4) (HRr:Hid (ShortR r)) (hR4:R.length≤4) (HRR:Hid (∀ q∈R,ShortR q)) (HSO:Hid (SmallE o)) (pa:Option Addr) (pc:Nat) (P:List ParL) (HPI:Hid (∀ p∈P,InI p.len)) (hPl:P.length≤20) (w4:World) (K4:Hid (EX D w.heap.size Y W0 key r ra rc o oa oc S (.slice af N cf) (.slice at' nt ct) (.slice an nk cn) (.slice as' ns cs) s (.slice arv R.length crv) R w4)) (HPX:Hid (Vec w4 (Off D) 3 zbc (.slice pa P.length pc) P)) (C:List RV) (HC:Hid (Vec w4 (Off D) 3 zdj (.slice arv R.length crv) C)) (hCl:C.length = R.length) (RR:List RecL) (HRl:Hid ((([]:List RV) ++ C ++ [(⟨r.id,r.ver,ra,r.vals.length,rc,r.vals⟩:RV)]).length = RR.length)) (HRm:Hid ((([]:List RV) ++ C ++ [(⟨r.id,r.ver,ra,r.vals.length,rc,r.vals⟩:RV)]).map pR = RR)) (HRx:Hid (∀ x∈(([]:List RV) ++ C ++ [(⟨r.id,r.ver,ra,r.vals.length,rc,r.vals⟩:RV)]),Vec w4 (Off D) 1 za2 (.slice x.a x.n x.c) x.vals)) (HRRs:Hid (∀ q∈RR,∀ x∈q.vals,x.length≤1000000)) (HRRn:Hid (∀ q∈RR,q.vals.length≤1000000)) (hRR6:RR.length≤1000000) (LB:List EncL) (eb:Int) (HLB:Hid (zhh s P key RR = (LB,eb))) (sl0 sl1 sl2 sl3 sl4 sl5 sl6 sl7 sl8 sl9 sl12 sl13 sl14 sl15 sl16 sl17 sl19 sl20 sl22 sl24 sl25 sl26 sl27 sl28 sl29 sl30 sl31 sl32 sl33 sl34 sl35 sl36 sl37 sl38 sl39 sl40 sl41 sl42 sl43 sl44 sl45 sl46 sl47 sl48 sl49 sl50 sl51 sl52 sl53 sl54 sl55 sl56 sl57 sl58 sl59 sl60 sl61 sl62 sl63 sl64 sl65 sl66 sl67 sl68 sl69 sl70 sl71 sl72 sl73 sl74 sl75 sl76 sl77 sl78 sl79 sl80 sl81 sl82 sl83 sl84 sl85 sl86 sl87 sl88 sl89 sl90 sl91 sl92 sl93 sl94 sl95 sl96 sl97 sl98 sl99 sl100 sl101 sl102 sl103 sl104 sl105 sl106 sl107 sl108 sl109 sl110 sl111 sl112 sl113 sl114 sl115 sl116 sl117 sl118 sl119 sl120 sl121 sl122 sl123 sl124 sl125 sl126 sl127 sl128 sl129 sl130 sl131 sl132 sl133 sl134 sl135 sl136 sl137 sl138 sl139 sl140 sl141 sl142 sl143 sl144 sl145 sl146 sl147 sl148 sl149 sl150 sl151 sl152 sl153 sl154 sl155 sl156 sl157 sl158 sl159 sl160 sl161 sl162 sl163 sl164 sl165 sl166 sl167 sl168 sl169 sl170 sl171 sl172 sl173 sl174 sl175 sl176 sl177 sl178 sl179 sl180 sl181 sl182 sl183 sl184 sl185 sl186 sl187 sl188 sl189 sl190 sl191 sl192 sl193 sl194 sl195 sl196 sl197 sl198 sl199 sl200 sl201 sl202 sl203 sl204 sl205 sl206 sl207 sl208 sl209 sl210 sl211 sl212 sl213 sl214 sl215 sl216 sl217 sl218 sl219 sl220 sl221 sl222 sl223 sl224 sl225 sl226 sl227 sl228 sl229 sl230 sl231 sl232 sl233 sl234 sl235 sl236 sl237 sl238 sl239 sl240 sl241 sl242 sl243 sl244 sl245 sl246 sl247 sl248 sl249 sl250 sl251 sl252 sl253 sl254 sl255 sl256 sl257 sl258 sl259 sl260 sl261 sl262 sl263 sl264 sl265 sl266 sl267 sl268 sl269 sl270 sl271 sl272 sl273 sl274 sl275 sl276 sl277 sl278 sl279 sl280 sl281 sl282 sl283 sl284 sl285 sl286 sl287 sl288 sl289 sl290 sl291 sl292 sl293 sl294 sl295 sl296 sl297 sl298 sl299 sl300 sl301 sl302 sl303 sl304 sl305 sl306 sl307 sl308 sl309 sl310 sl311 sl312 sl313 sl314 sl315 sl316 sl317 sl318 sl319 sl320 sl321 sl322 sl323 sl324 sl325 sl326 sl327 sl328 sl329 sl330 sl331 sl332 sl333 sl334 sl335 sl336 sl337 sl338 sl339 sl340 sl341 sl342 sl343 sl344 sl345 sl346 sl347 sl348 sl349 sl350 sl351 sl352:Value) (K:Act→World→Prop) (Q':Exit→Act→World→Prop)
  (hK:∀ (tl34 tl35 tl197 tl198 tl199 tl200 tl201 tl202 tl203 tl204 tl205 tl206 tl207 tl208:Value) (wx:World),Hid (RAllE D w4 LB eb tl34 tl35 wx)→K ⟨List.toArray (sl0::sl1::sl2::sl3::sl4::sl5::sl6::sl7::sl8::sl9::.pointer (some ⟨w.heap.size,0,none⟩) :: .pointer (some ⟨w.heap.size + 1,0,none⟩) :: sl12::sl13::sl14::sl15::sl16::sl17::.pointer (some ⟨Y,0,none⟩) :: sl19::sl20::.slice arv R.length crv::sl22::.slice pa P.length pc::sl24::sl25::sl26::sl27::sl28::sl29::sl30::sl31::sl32::sl33::tl34::tl35::sl36::sl37::sl38::sl39::sl40::sl41::sl42::sl43::sl44::sl45::sl46::sl47::sl48::sl49::sl50::sl51::sl52::sl53::sl54::sl55::sl56::sl57::sl58::sl59::sl60::sl61::sl62::sl63::sl64::sl65::sl66::sl67::sl68::sl69::sl70::sl71::sl72::sl73::sl74::sl75::sl76::sl77::sl78::sl79::sl80::sl81::sl82::sl83::sl84::sl85::sl86::sl87::sl88::sl89::sl90::sl91::sl92::sl93::sl94::sl95::sl96::sl97::sl98::sl99::sl100::sl101::sl102::sl103::sl104::sl105::sl106::sl107::sl108::sl109::sl110::sl111::sl112::sl113::sl114::sl115::sl116::sl117::sl118::sl119::sl120::sl121::sl122::sl123::sl124::sl125::sl126::sl127::sl128::sl129::sl130::sl131::sl132::sl133::sl134::sl135::sl136::sl137::sl138::sl139::sl140::sl141::sl142::sl143::sl144::sl145::sl146::sl147::sl148::sl149::sl150::sl151::sl152::sl153::sl154::sl155::sl156::sl157::sl158::sl159::sl160::sl161::sl162::sl163::sl164::sl165::sl166::sl167::sl168::sl169::sl170::sl171::sl172::sl173::sl174::sl175::sl176::sl177::sl178::sl179::sl180::sl181::sl182::sl183::sl184::sl185::sl186::sl187::sl188::sl189::sl190::sl191::sl192::sl193::sl194::sl195::sl196::tl197::tl198::tl199::tl200::tl201::tl202::tl203::tl204::tl205::tl206::tl207::tl208::sl209::sl210::sl211::sl212::sl213::sl214::sl215::sl216::sl217::sl218::sl219::sl220::sl221::sl222::sl223::sl224::sl225::sl226::sl227::sl228::sl229::sl230::sl231::sl232::sl233::sl234::sl235::sl236::sl237::sl238::sl239::sl240::sl241::sl242::sl243::sl244::sl245::sl246::sl247::sl248::sl249::sl250::sl251::sl252::sl253::sl254::sl255::sl256::sl257::sl258::sl259::sl260::sl261::sl262::sl263::sl264::sl265::sl266::sl267::sl268::sl269::sl270::sl271::sl272::sl273::sl274::sl275::sl276::sl277::sl278::sl279::sl280::sl281::sl282::sl283::sl284::sl285::sl286::sl287::sl288::sl289::sl290::sl291::sl292::sl293::sl294::sl295::sl296::sl297::sl298::sl299::sl300::sl301::sl302::sl303::sl304::sl305::sl306::sl307::sl308::sl309::sl310::sl311::sl312::sl313::sl314::sl315::sl316::sl317::sl318::sl319::sl320::sl321::sl322::sl323::sl324::sl325::sl326::sl327::sl328::sl329::sl330::sl331::sl332::sl333::sl334::sl335::sl336::sl337::sl338::sl339::sl340::sl341::sl342::sl343::sl344::sl345::sl346::sl347::sl348::sl349::sl350::sl351::sl352::[]),[]⟩ wx) :
  (regOf Tryz.f3 24).wp prog (Exit.then K Q') ⟨List.toArray (sl0::sl1::sl2::sl3::sl4::sl5::sl6::sl7::sl8::sl9::.pointer (some ⟨w.heap.size,0,none⟩) :: .pointer (some ⟨w.heap.size + 1,0,none⟩) :: sl12::sl13::sl14::sl15::sl16::sl17::.pointer (some ⟨Y,0,none⟩) :: sl19::sl20::.slice arv R.length crv::sl22::.slice pa P.length pc::sl24::sl25::sl26::sl27::sl28::sl29::sl30::sl31::sl32::sl33::sl34::sl35::sl36::sl37::sl38::sl39::sl40::sl41::sl42::sl43::sl44::sl45::sl46::sl47::sl48::sl49::sl50::sl51::sl52::sl53::sl54::sl55::sl56::sl57::sl58::sl59::sl60::sl61::sl62::sl63::sl64::sl65::sl66::sl67::sl68::sl69::sl70::sl71::sl72::sl73::sl74::sl75::sl76::sl77::sl78::sl79::sl80::sl81::sl82::sl83::sl84::sl85::sl86::sl87::sl88::sl89::sl90::sl91::sl92::sl93::sl94::sl95::sl96::sl97::sl98::sl99::sl100::sl101::sl102::sl103::sl104::sl105::sl106::sl107::sl108::sl109::sl110::sl111::sl112::sl113::sl114::sl115::sl116::sl117::sl118::sl119::sl120::sl121::sl122::sl123::sl124::sl125::sl126::sl127::sl128::sl129::sl130::sl131::sl132::sl133::sl134::sl135::sl136::sl137::sl138::sl139::sl140::sl141::sl142::sl143::sl144::sl145::sl146::sl147::sl148::sl149::sl150::sl151::sl152::sl153::sl154::sl155::sl156::sl157::sl158::sl159::sl160::sl161::sl162::sl163::sl164::sl165::sl166::sl167::sl168::sl169::sl170::sl171::sl172::sl173::sl174::sl175::sl176::sl177::sl178::sl179::sl180::sl181::sl182::sl183::sl184::sl185::sl186::sl187::sl188::sl189::sl190::sl191::sl192::sl193::sl194::sl195::sl196::sl197::sl198::sl199::sl200::sl201::sl202::sl203::sl204::sl205::sl206::sl207::sl208::sl209::sl210::sl211::sl212::sl213::sl214::sl215::sl216::sl217::sl218::sl219::sl220::sl221::sl222::sl223::sl224::sl225::sl226::sl227::sl228::sl229::sl230::sl231::sl232::sl233::sl234::sl235::sl236::sl237::sl238::sl239::sl240::sl241::sl242::sl243::sl244::sl245::sl246::sl247::sl248::sl249::sl250::sl251::sl252::sl253::sl254::sl255::sl256::sl257::sl258::sl259::sl260::sl261::sl262::sl263::sl264::sl265::sl266::sl267::sl268::sl269::sl270::sl271::sl272::sl273::sl274::sl275::sl276::sl277::sl278::sl279::sl280::sl281::sl282::sl283::sl284::sl285::sl286::sl287::sl288::sl289::sl290::sl291::sl292::sl293::sl294::sl295::sl296::sl297::sl298::sl299::sl300::sl301::sl302::sl303::sl304::sl305::sl306::sl307::sl308::sl309::sl310::sl311::sl312::sl313::sl314::sl315::sl316::sl317::sl318::sl319::sl320::sl321::sl322::sl323::sl324::sl325::sl326::sl327::sl328::sl329::sl330::sl331::sl332::sl333::sl334::sl335::sl336::sl337::sl338::sl339::sl340::sl341::sl342::sl343::sl344::sl345::sl346::sl347::sl348::sl349::sl350::sl351::sl352::[]),[]⟩ w4:=by
 conv=>arg 2; whnf
 have m0:Moved D w4 w4.drew:=(Moved.start K4.out.m.deck).drew;have zD4:=K4.out.m.deck.lt;have hbD:=K4.out.bD; have hyD:=K4.out.yD;have hl1:([]:List RV).length + C.length≤1000000000:=by rw [hCl]; simp; omega
 have hl2:(([]:List RV) ++ C).length + ([(⟨r.id,r.ver,ra,r.vals.length,rc,r.vals⟩:RV)]:List RV).length≤1000000000:=by rw [List.nil_append,hCl]; simp; omega
 have HT:=zi5 (show ∀ w',Moved D w4 w'→(w'.cell? ⟨Y,0,none⟩ = some (.slice af N cf)∧w'.cell? ⟨Y,1,none⟩ = some (.slice at' nt ct)∧w'.cell? ⟨Y,2,none⟩ = some (.slice an nk cn)∧w'.cell? ⟨Y,3,none⟩ = some (.slice as' ns cs))∧(w'.cell? ⟨w.heap.size,0,none⟩ = some (.int .u64 key.1)∧w'.cell? ⟨w.heap.size,1,none⟩ = some (.int .u64 key.2))∧(w'.cell? ⟨w.heap.size + 1,0,none⟩ = some (.int .i64 r.id)∧w'.cell? ⟨w.heap.size + 1,1,none⟩ = some (.int .i64 r.ver)∧w'.cell? ⟨w.heap.size + 1,2,none⟩ = some (.slice ra r.vals.length rc)) from
  fun w' h=>⟨zan (h.blk hyD K4.out.y),zak (h.blk (by omega) K4.out.k),zai (h.blk (by omega) K4.out.x)⟩)
 have hCn:=zi5 hCl;clear hCl;obtain ⟨p0,p1,p2,p3⟩:=zan K4.out.y; obtain ⟨k0,k1⟩:=zak K4.out.k; obtain ⟨x0,x1,x2⟩:=zai K4.out.x;go_wp2_with fail
 refine wp_region_noPanic ?_
 refine zat (by kernel_rfl) (fun w'=>(w'.cell? ⟨Y,0,none⟩ = some (.slice af N cf)∧w'.cell? ⟨Y,1,none⟩ = some (.slice at' nt ct)∧w'.cell? ⟨Y,2,none⟩ = some (.slice an nk cn)∧w'.cell? ⟨Y,3,none⟩ = some (.slice as' ns cs))∧(w'.cell? ⟨w.heap.size,0,none⟩ = some (.int .u64 key.1)∧w'.cell? ⟨w.heap.size,1,none⟩ = some (.int .u64 key.2))∧(w'.cell? ⟨w.heap.size + 1,0,none⟩ = some (.int .i64 r.id)∧w'.cell? ⟨w.heap.size + 1,1,none⟩ = some (.int .i64 r.ver)∧w'.cell? ⟨w.heap.size + 1,2,none⟩ = some (.slice ra r.vals.length rc))) 12 (HT.out _ m0) (fun hHeld=>?_)
 refine tK 0 (h:=?_);refine tK 1 (h:=?_);refine tK 2 (h:=?_);refine tK 3 (h:=?_);refine tK 5 (h:=?_);refine za8 (rs:=[4,6]) (by kernel_rfl) (by simp) ?_
 refine AllReadyK.cons rfl (fun K hK=>?_) (AllReadyK.cons rfl (fun K hK=>?_) AllReadyK.nil)
 focus
  refine zce (.const (.slice none 0 0)) (.tmp 201) 50 (by rfl) D 29 (.agg #[.int .i64 0,.int .i64 0,.slice none 0 0]) 3 40 zdj (fun _=>rfl) zed underlying50 infoR rfl (by decide) (by decide) (wA:=w4) (v:=.slice none 0 0) (A:=[]) (B:=C) (by rfl) (OwnM.nil m0) (by rfl) (Vec.reads (k:=3) (enc:=zdj) (fun _=>rfl) (HC.out.movedD m0)) hl1 ?_
  intro v5 V1 ho5 hold5 hk5 hz5 hat5;obtain ⟨a5,c5,e5⟩:=za1 ho5.1;obtain ⟨n5,hlen5⟩:∃ n,(([]:List RV) ++ C).length = n:=⟨_,rfl⟩;rw [hlen5] at e5;subst e5;clear hlen5
  refine za5 hK (HT.out _ ho5.2) (fun hHeld=>?_)
  clear hK K
  refine xrK 6 rfl fun K hK=>?_
  go_simp
  refine za5 hK (HT.out _ (ho5.2.alloc _)) (fun hHeld=>?_)
  clear hK K
  refine zbb (fun V2 hV=>?_)
  have mb:Moved D w4 V2:=by rw [hV]; exact ho5.2.alloc _
  have ga:V2.heap[V1.heap.size]? = some (.cells (zdj (⟨r.id,r.ver,ra,r.vals.length,rc,r.vals⟩:RV)).toArray 29 (0,0)):=by rw [hV]; exact zac rfl
  have ho5':OwnM D 29 3 zdj w4 (.slice a5 n5 c5) ([] ++ C) V2:=by rw [hV]; exact ho5.below ((Below.refl _ _).alloc xnl _)
  clear hV hHeld;have hHeld:=HT.out _ mb
  refine xrK 7 rfl fun K hK=>?_
  refine zce (.tmp 202) (.tmp 204) 50 (by rfl) D 29 (.agg #[.int .i64 0,.int .i64 0,.slice none 0 0]) 3 40 zdj (fun _=>rfl) zed underlying50 infoR rfl (by decide) (by decide) (wA:=w4) (v:=.slice a5 n5 c5) (A:=[] ++ C) (B:=[(⟨r.id,r.ver,ra,r.vals.length,rc,r.vals⟩:RV)]) (by rfl) ho5' (by rfl) (zav (size:=3) ga rfl) hl2 ?_
  intro v7 W7 ho7 hold7 hk7 hz7 hat7;obtain ⟨a7,c7,e7⟩:=za1 ho7.1;have hl7:(([]:List RV) ++ C ++ [(⟨r.id,r.ver,ra,r.vals.length,rc,r.vals⟩:RV)]).length = RR.length:=HRl.out;rw [hl7] at e7;subst e7
  refine za5 hK (HT.out _ ho7.2) (fun hHeld=>?_)
  clear hK K;have HR7:=zi5 (show RecsVec W7 zaw (.slice a7 RR.length c7) RR from ⟨_,(OwnM.vec (size:=3) (enc:=zdj) (fun _=>rfl) ho7).any,HRm.out,fun x hx=>(HRx.out x hx).movedD ho7.2 |>.any⟩)
  refine xrK 8 rfl fun K hK=>?_
  go_simp;refine (eall_any S zaw _ _ _ _ _ s P _ key RR _ (K4.out.sa.moved K4.out.ne ho7.2) (HPX.out.movedD ho7.2).any HR7.out HPI.out (by omega) HRRs.out HRRn.out hRR6).mono ?_; rw [HLB.out]; rintro e w8 ⟨v8,rfl,hv8,hb8⟩; obtain ⟨a8,c8,rfl⟩:=hv8.slice; have m8:=ho7.2.below hb8; dsimp only at hv8 ⊢
  refine za5 hK (HT.out _ m8) (fun hHeld=>?_)
  clear hK K;refine tK 9 (h:=?_);refine tK 10 (h:=?_);refine t0 11 (h:=?_)
  refine xrK 12 rfl fun K hK=>?_
  go_simp;refine zas hK (by decide) ?_;clear hK K;refine t0 13 (h:=?_);refine zap (by kernel_rfl) ?_ _;refine NoPanic.normal ?_;have hfin:=zi5 (show EncsVec w8 (fun x=>w4.heap.size≤x) (.slice a8 LB.length c8) LB∧Moved D w4 w8 from ⟨hv8.move xnl fun x _ hx=>⟨rfl,by have h1:=ho7.2.size; have hx':W7.heap.size≤x:=hx; omega⟩,m8⟩)
  clear hv8 m8;go_wp2_with fail
  exact zi5 (rallE_mk hfin.out.1 hfin.out.2)
 focus
  go_simp
  refine za5 hK (HT.out _ (m0.alloc _)) (fun hHeld=>?_)
  clear hK K
  refine zbb (fun V1 hV=>?_)
  have mb:Moved D w4 V1:=by rw [hV]; exact m0.alloc _
  have ga:V1.heap[w4.drew.heap.size]? = some (.cells (zdj (⟨r.id,r.ver,ra,r.vals.length,rc,r.vals⟩:RV)).toArray 29 (0,0)):=by rw [hV]; exact zac rfl
  clear hV hHeld;have hHeld:=HT.out _ mb
  refine xrK 4 rfl fun K hK=>?_
  refine zce (.const (.slice none 0 0)) (.tmp 201) 50 (by rfl) D 29 (.agg #[.int .i64 0,.int .i64 0,.slice none 0 0]) 3 40 zdj (fun _=>rfl) zed underlying50 infoR rfl (by decide) (by decide) (wA:=w4) (v:=.slice none 0 0) (A:=[]) (B:=C) (by rfl) (OwnM.nil mb) (by rfl) (Vec.reads (k:=3) (enc:=zdj) (fun _=>rfl) (HC.out.movedD mb)) hl1 ?_
  intro v5 V2 ho5 hold5 hk5 hz5 hat5;obtain ⟨a5,c5,e5⟩:=za1 ho5.1;obtain ⟨n5,hlen5⟩:∃ n,(([]:List RV) ++ C).length = n:=⟨_,rfl⟩;rw [hlen5] at e5;subst e5;clear hlen5
  refine za5 hK (HT.out _ ho5.2) (fun hHeld=>?_)
  clear hK K;have ga:=hk5 _ _ (by simp [Value.ownBlock]) ga;have ho5':=ho5
  refine xrK 7 rfl fun K hK=>?_
  refine zce (.tmp 202) (.tmp 204) 50 (by rfl) D 29 (.agg #[.int .i64 0,.int .i64 0,.slice none 0 0]) 3 40 zdj (fun _=>rfl) zed underlying50 infoR rfl (by decide) (by decide) (wA:=w4) (v:=.slice a5 n5 c5) (A:=[] ++ C) (B:=[(⟨r.id,r.ver,ra,r.vals.length,rc,r.vals⟩:RV)]) (by rfl) ho5' (by rfl) (zav (size:=3) ga rfl) hl2 ?_
  intro v7 W7 ho7 hold7 hk7 hz7 hat7;obtain ⟨a7,c7,e7⟩:=za1 ho7.1;have hl7:(([]:List RV) ++ C ++ [(⟨r.id,r.ver,ra,r.vals.length,rc,r.vals⟩:RV)]).length = RR.length:=HRl.out;rw [hl7] at e7;subst e7
  refine za5 hK (HT.out _ ho7.2) (fun hHeld=>?_)
  clear hK K;have HR7:=zi5 (show RecsVec W7 zaw (.slice a7 RR.length c7) RR from ⟨_,(OwnM.vec (size:=3) (enc:=zdj) (fun _=>rfl) ho7).any,HRm.out,fun x hx=>(HRx.out x hx).movedD ho7.2 |>.any⟩)
  refine xrK 8 rfl fun K hK=>?_
  go_simp;refine (eall_any S zaw _ _ _ _ _ s P _ key RR _ (K4.out.sa.moved K4.out.ne ho7.2) (HPX.out.movedD ho7.2).any HR7.out HPI.out (by omega) HRRs.out HRRn.out hRR6).mono ?_; rw [HLB.out]; rintro e w8 ⟨v8,rfl,hv8,hb8⟩; obtain ⟨a8,c8,rfl⟩:=hv8.slice; have m8:=ho7.2.below hb8; dsimp only at hv8 ⊢
  refine za5 hK (HT.out _ m8) (fun hHeld=>?_)
  clear hK K;refine tK 9 (h:=?_);refine tK 10 (h:=?_);refine t0 11 (h:=?_)
  refine xrK 12 rfl fun K hK=>?_
  go_simp;refine zas hK (by decide) ?_;clear hK K;refine t0 13 (h:=?_);refine zap (by kernel_rfl) ?_ _;refine NoPanic.normal ?_;have hfin:=zi5 (show EncsVec w8 (fun x=>w4.heap.size≤x) (.slice a8 LB.length c8) LB∧Moved D w4 w8 from ⟨hv8.move xnl fun x _ hx=>⟨rfl,by have h1:=ho7.2.size; have hx':W7.heap.size≤x:=hx; omega⟩,m8⟩)
  clear hv8 m8;go_wp2_with fail
  exact zi5 (rallE_mk hfin.out.1 hfin.out.2)
end
section
open Go.RowKit Cal
attribute [local go_sem] zah zaj zar zaq
theorem eexV (w:World) (D Y:Nat) (W0:World) (key:Int × Int) (r:RecL) (ra:Option Addr) (rc:Nat) (o:EncL) (oa:Option Addr) (oc:Nat) (S:Nat→Prop) (af at' an as':Option Addr) (N cf nt ct nk cn ns cs:Nat) (s:SchemaL) (HSD:Hid (SchemaD s)) (HN:Hid (s.fields.length = N)) (arv:Option Addr) (crv:Nat) (R:List RecL) (hN1:1≤N) (hN5:N≤4) (HRr:Hid (ShortR r)) (hR4:R.length≤4) (HRR:Hid (∀ q∈R,ShortR q)) (HSO:Hid (SmallE o)) (pa:Option Addr) (pc:Nat) (P:List ParL) (HPI:Hid (∀ p∈P,InI p.len)) (hPl:P.length≤20) (w4:World) (K4:Hid (EX D w.heap.size Y W0 key r ra rc o oa oc S (.slice af N cf) (.slice at' nt ct) (.slice an nk cn) (.slice as' ns cs) s (.slice arv R.length crv) R w4)) (HPX:Hid (Vec w4 (Off D) 3 zbc (.slice pa P.length pc) P)) (C:List RV) (HC:Hid (Vec w4 (Off D) 3 zdj (.slice arv R.length crv) C)) (hCl:C.length = R.length) (RR:List RecL) (HRl:Hid ((([]:List RV) ++ C ++ [(⟨r.id,r.ver,ra,r.vals.length,rc,r.vals⟩:RV)]).length = RR.length)) (HRm:Hid ((([]:List RV) ++ C ++ [(⟨r.id,r.ver,ra,r.vals.length,rc,r.vals⟩:RV)]).map pR = RR)) (HRx:Hid (∀ x∈(([]:List RV) ++ C ++ [(⟨r.id,r.ver,ra,r.vals.length,rc,r.vals⟩:RV)]),Vec w4 (Off D) 1 za2 (.slice x.a x.n x.c) x.vals)) (HRRs:Hid (∀ q∈RR,∀ x∈q.vals,x.length≤1000000)) (HRRn:Hid (∀ q∈RR,q.vals.length≤1000000)) (hRR6:RR.length≤1000000) (LB:List EncL) (eb:Int) (HLB:Hid (zhh s P key RR = (LB,eb))) (sl0 sl1 sl2 sl3 sl4 sl5 sl6 sl7 sl8 sl9 sl12 sl13 sl14 sl15 sl16 sl17 sl19 sl20 sl22 sl24 sl25 sl26 sl27 sl28 sl29 sl30 sl31 sl32 sl33 sl34 sl35 sl36 sl37 sl38 sl39 sl40 sl41 sl42 sl43 sl44 sl45 sl46 sl47 sl48 sl49 sl50 sl51 sl52 sl53 sl54 sl55 sl56 sl57 sl58 sl59 sl60 sl61 sl62 sl63 sl64 sl65 sl66 sl67 sl68 sl69 sl70 sl71 sl72 sl73 sl74 sl75 sl76 sl77 sl78 sl79 sl80 sl81 sl82 sl83 sl84 sl85 sl86 sl87 sl88 sl89 sl90 sl91 sl92 sl93 sl94 sl95 sl96 sl97 sl98 sl99 sl100 sl101 sl102 sl103 sl104 sl105 sl106 sl107 sl108 sl109 sl110 sl111 sl112 sl113 sl114 sl115 sl116 sl117 sl118 sl119 sl120 sl121 sl122 sl123 sl124 sl125 sl126 sl127 sl128 sl129 sl130 sl131 sl132 sl133 sl134 sl135 sl136 sl137 sl138 sl139 sl140 sl141 sl142 sl143 sl144 sl145 sl146 sl147 sl148 sl149 sl150 sl151 sl152 sl153 sl154 sl155 sl156 sl157 sl158 sl159 sl160 sl161 sl162 sl163 sl164 sl165 sl166 sl167 sl168 sl169 sl170 sl171 sl172 sl173 sl174 sl175 sl176 sl177 sl178 sl179 sl180 sl181 sl182 sl183 sl184 sl185 sl186 sl187 sl188 sl189 sl190 sl191 sl192 sl193 sl194 sl195 sl196 sl197 sl198 sl199 sl200 sl201 sl202 sl203 sl204 sl205 sl206 sl207 sl208 sl209 sl210 sl211 sl212 sl213 sl214 sl215 sl216 sl217 sl218 sl219 sl220 sl221 sl222 sl223 sl224 sl225 sl226 sl227 sl228 sl229 sl230 sl231 sl232 sl233 sl234 sl235 sl236 sl237 sl238 sl239 sl240 sl241 sl242 sl243 sl244 sl245 sl246 sl247 sl248 sl249 sl250 sl251 sl252 sl253 sl254 sl255 sl256 sl257 sl258 sl259 sl260 sl261 sl262 sl263 sl264 sl265 sl266 sl267 sl268 sl269 sl270 sl271 sl272 sl273 sl274 sl275 sl276 sl277 sl278 sl279 sl280 sl281 sl282 sl283 sl284 sl285 sl286 sl287 sl288 sl289 sl290 sl291 sl292 sl293 sl294 sl295 sl296 sl297 sl298 sl299 sl300 sl301 sl302 sl303 sl304 sl305 sl306 sl307 sl308 sl309 sl310 sl311 sl312 sl313 sl314 sl315 sl316 sl317 sl318 sl319 sl320 sl321 sl322 sl323 sl324 sl325 sl326 sl327 sl328 sl329 sl330 sl331 sl332 sl333 sl334 sl335 sl336 sl337 sl338 sl339 sl340 sl341 sl342 sl343 sl344 sl345 sl346 sl347 sl348 sl349 sl350 sl351 sl352:Value) (K:Act→World→Prop) (Q':Exit→Act→World→Prop)
  (hK:∀ (tl36 tl37 tl209 tl210 tl211 tl212 tl213 tl214 tl215 tl216 tl217 tl218 tl219 tl220:Value) (wx:World),Hid (RAllE D w4 LB eb tl36 tl37 wx)→K ⟨List.toArray (sl0::sl1::sl2::sl3::sl4::sl5::sl6::sl7::sl8::sl9::.pointer (some ⟨w.heap.size,0,none⟩) :: .pointer (some ⟨w.heap.size + 1,0,none⟩) :: sl12::sl13::sl14::sl15::sl16::sl17::.pointer (some ⟨Y,0,none⟩) :: sl19::sl20::.slice arv R.length crv::sl22::.slice pa P.length pc::sl24::sl25::sl26::sl27::sl28::sl29::sl30::sl31::sl32::sl33::sl34::sl35::tl36::tl37::sl38::sl39::sl40::sl41::sl42::sl43::sl44::sl45::sl46::sl47::sl48::sl49::sl50::sl51::sl52::sl53::sl54::sl55::sl56::sl57::sl58::sl59::sl60::sl61::sl62::sl63::sl64::sl65::sl66::sl67::sl68::sl69::sl70::sl71::sl72::sl73::sl74::sl75::sl76::sl77::sl78::sl79::sl80::sl81::sl82::sl83::sl84::sl85::sl86::sl87::sl88::sl89::sl90::sl91::sl92::sl93::sl94::sl95::sl96::sl97::sl98::sl99::sl100::sl101::sl102::sl103::sl104::sl105::sl106::sl107::sl108::sl109::sl110::sl111::sl112::sl113::sl114::sl115::sl116::sl117::sl118::sl119::sl120::sl121::sl122::sl123::sl124::sl125::sl126::sl127::sl128::sl129::sl130::sl131::sl132::sl133::sl134::sl135::sl136::sl137::sl138::sl139::sl140::sl141::sl142::sl143::sl144::sl145::sl146::sl147::sl148::sl149::sl150::sl151::sl152::sl153::sl154::sl155::sl156::sl157::sl158::sl159::sl160::sl161::sl162::sl163::sl164::sl165::sl166::sl167::sl168::sl169::sl170::sl171::sl172::sl173::sl174::sl175::sl176::sl177::sl178::sl179::sl180::sl181::sl182::sl183::sl184::sl185::sl186::sl187::sl188::sl189::sl190::sl191::sl192::sl193::sl194::sl195::sl196::sl197::sl198::sl199::sl200::sl201::sl202::sl203::sl204::sl205::sl206::sl207::sl208::tl209::tl210::tl211::tl212::tl213::tl214::tl215::tl216::tl217::tl218::tl219::tl220::sl221::sl222::sl223::sl224::sl225::sl226::sl227::sl228::sl229::sl230::sl231::sl232::sl233::sl234::sl235::sl236::sl237::sl238::sl239::sl240::sl241::sl242::sl243::sl244::sl245::sl246::sl247::sl248::sl249::sl250::sl251::sl252::sl253::sl254::sl255::sl256::sl257::sl258::sl259::sl260::sl261::sl262::sl263::sl264::sl265::sl266::sl267::sl268::sl269::sl270::sl271::sl272::sl273::sl274::sl275::sl276::sl277::sl278::sl279::sl280::sl281::sl282::sl283::sl284::sl285::sl286::sl287::sl288::sl289::sl290::sl291::sl292::sl293::sl294::sl295::sl296::sl297::sl298::sl299::sl300::sl301::sl302::sl303::sl304::sl305::sl306::sl307::sl308::sl309::sl310::sl311::sl312::sl313::sl314::sl315::sl316::sl317::sl318::sl319::sl320::sl321::sl322::sl323::sl324::sl325::sl326::sl327::sl328::sl329::sl330::sl331::sl332::sl333::sl334::sl335::sl336::sl337::sl338::sl339::sl340::sl341::sl342::sl343::sl344::sl345::sl346::sl347::sl348::sl349::sl350::sl351::sl352::[]),[]⟩ wx) :
  (regOf Tryz.f3 25).wp prog (Exit.then K Q') ⟨List.toArray (sl0::sl1::sl2::sl3::sl4::sl5::sl6::sl7::sl8::sl9::.pointer (some ⟨w.heap.size,0,none⟩) :: .pointer (some ⟨w.heap.size + 1,0,none⟩) :: sl12::sl13::sl14::sl15::sl16::sl17::.pointer (some ⟨Y,0,none⟩) :: sl19::sl20::.slice arv R.length crv::sl22::.slice pa P.length pc::sl24::sl25::sl26::sl27::sl28::sl29::sl30::sl31::sl32::sl33::sl34::sl35::sl36::sl37::sl38::sl39::sl40::sl41::sl42::sl43::sl44::sl45::sl46::sl47::sl48::sl49::sl50::sl51::sl52::sl53::sl54::sl55::sl56::sl57::sl58::sl59::sl60::sl61::sl62::sl63::sl64::sl65::sl66::sl67::sl68::sl69::sl70::sl71::sl72::sl73::sl74::sl75::sl76::sl77::sl78::sl79::sl80::sl81::sl82::sl83::sl84::sl85::sl86::sl87::sl88::sl89::sl90::sl91::sl92::sl93::sl94::sl95::sl96::sl97::sl98::sl99::sl100::sl101::sl102::sl103::sl104::sl105::sl106::sl107::sl108::sl109::sl110::sl111::sl112::sl113::sl114::sl115::sl116::sl117::sl118::sl119::sl120::sl121::sl122::sl123::sl124::sl125::sl126::sl127::sl128::sl129::sl130::sl131::sl132::sl133::sl134::sl135::sl136::sl137::sl138::sl139::sl140::sl141::sl142::sl143::sl144::sl145::sl146::sl147::sl148::sl149::sl150::sl151::sl152::sl153::sl154::sl155::sl156::sl157::sl158::sl159::sl160::sl161::sl162::sl163::sl164::sl165::sl166::sl167::sl168::sl169::sl170::sl171::sl172::sl173::sl174::sl175::sl176::sl177::sl178::sl179::sl180::sl181::sl182::sl183::sl184::sl185::sl186::sl187::sl188::sl189::sl190::sl191::sl192::sl193::sl194::sl195::sl196::sl197::sl198::sl199::sl200::sl201::sl202::sl203::sl204::sl205::sl206::sl207::sl208::sl209::sl210::sl211::sl212::sl213::sl214::sl215::sl216::sl217::sl218::sl219::sl220::sl221::sl222::sl223::sl224::sl225::sl226::sl227::sl228::sl229::sl230::sl231::sl232::sl233::sl234::sl235::sl236::sl237::sl238::sl239::sl240::sl241::sl242::sl243::sl244::sl245::sl246::sl247::sl248::sl249::sl250::sl251::sl252::sl253::sl254::sl255::sl256::sl257::sl258::sl259::sl260::sl261::sl262::sl263::sl264::sl265::sl266::sl267::sl268::sl269::sl270::sl271::sl272::sl273::sl274::sl275::sl276::sl277::sl278::sl279::sl280::sl281::sl282::sl283::sl284::sl285::sl286::sl287::sl288::sl289::sl290::sl291::sl292::sl293::sl294::sl295::sl296::sl297::sl298::sl299::sl300::sl301::sl302::sl303::sl304::sl305::sl306::sl307::sl308::sl309::sl310::sl311::sl312::sl313::sl314::sl315::sl316::sl317::sl318::sl319::sl320::sl321::sl322::sl323::sl324::sl325::sl326::sl327::sl328::sl329::sl330::sl331::sl332::sl333::sl334::sl335::sl336::sl337::sl338::sl339::sl340::sl341::sl342::sl343::sl344::sl345::sl346::sl347::sl348::sl349::sl350::sl351::sl352::[]),[]⟩ w4:=by
 conv=>arg 2; whnf
 have m0:Moved D w4 w4.drew:=(Moved.start K4.out.m.deck).drew;have zD4:=K4.out.m.deck.lt;have hbD:=K4.out.bD; have hyD:=K4.out.yD;have hl1:([]:List RV).length + C.length≤1000000000:=by rw [hCl]; simp; omega
 have hl2:(([]:List RV) ++ C).length + ([(⟨r.id,r.ver,ra,r.vals.length,rc,r.vals⟩:RV)]:List RV).length≤1000000000:=by rw [List.nil_append,hCl]; simp; omega
 have HT:=zi5 (show ∀ w',Moved D w4 w'→(w'.cell? ⟨Y,0,none⟩ = some (.slice af N cf)∧w'.cell? ⟨Y,1,none⟩ = some (.slice at' nt ct)∧w'.cell? ⟨Y,2,none⟩ = some (.slice an nk cn)∧w'.cell? ⟨Y,3,none⟩ = some (.slice as' ns cs))∧(w'.cell? ⟨w.heap.size,0,none⟩ = some (.int .u64 key.1)∧w'.cell? ⟨w.heap.size,1,none⟩ = some (.int .u64 key.2))∧(w'.cell? ⟨w.heap.size + 1,0,none⟩ = some (.int .i64 r.id)∧w'.cell? ⟨w.heap.size + 1,1,none⟩ = some (.int .i64 r.ver)∧w'.cell? ⟨w.heap.size + 1,2,none⟩ = some (.slice ra r.vals.length rc)) from
  fun w' h=>⟨zan (h.blk hyD K4.out.y),zak (h.blk (by omega) K4.out.k),zai (h.blk (by omega) K4.out.x)⟩)
 have hCn:=zi5 hCl;clear hCl;obtain ⟨p0,p1,p2,p3⟩:=zan K4.out.y; obtain ⟨k0,k1⟩:=zak K4.out.k; obtain ⟨x0,x1,x2⟩:=zai K4.out.x;go_wp2_with fail
 refine wp_region_noPanic ?_
 refine zat (by kernel_rfl) (fun w'=>(w'.cell? ⟨Y,0,none⟩ = some (.slice af N cf)∧w'.cell? ⟨Y,1,none⟩ = some (.slice at' nt ct)∧w'.cell? ⟨Y,2,none⟩ = some (.slice an nk cn)∧w'.cell? ⟨Y,3,none⟩ = some (.slice as' ns cs))∧(w'.cell? ⟨w.heap.size,0,none⟩ = some (.int .u64 key.1)∧w'.cell? ⟨w.heap.size,1,none⟩ = some (.int .u64 key.2))∧(w'.cell? ⟨w.heap.size + 1,0,none⟩ = some (.int .i64 r.id)∧w'.cell? ⟨w.heap.size + 1,1,none⟩ = some (.int .i64 r.ver)∧w'.cell? ⟨w.heap.size + 1,2,none⟩ = some (.slice ra r.vals.length rc))) 12 (HT.out _ m0) (fun hHeld=>?_)
 refine tK 0 (h:=?_);refine tK 1 (h:=?_);refine tK 2 (h:=?_);refine tK 3 (h:=?_);refine tK 5 (h:=?_);refine za8 (rs:=[4,6]) (by kernel_rfl) (by simp) ?_
 refine AllReadyK.cons rfl (fun K hK=>?_) (AllReadyK.cons rfl (fun K hK=>?_) AllReadyK.nil)
 focus
  refine zce (.const (.slice none 0 0)) (.tmp 213) 50 (by rfl) D 29 (.agg #[.int .i64 0,.int .i64 0,.slice none 0 0]) 3 40 zdj (fun _=>rfl) zed underlying50 infoR rfl (by decide) (by decide) (wA:=w4) (v:=.slice none 0 0) (A:=[]) (B:=C) (by rfl) (OwnM.nil m0) (by rfl) (Vec.reads (k:=3) (enc:=zdj) (fun _=>rfl) (HC.out.movedD m0)) hl1 ?_
  intro v5 V1 ho5 hold5 hk5 hz5 hat5;obtain ⟨a5,c5,e5⟩:=za1 ho5.1;obtain ⟨n5,hlen5⟩:∃ n,(([]:List RV) ++ C).length = n:=⟨_,rfl⟩;rw [hlen5] at e5;subst e5;clear hlen5
  refine za5 hK (HT.out _ ho5.2) (fun hHeld=>?_)
  clear hK K
  refine xrK 6 rfl fun K hK=>?_
  go_simp
  refine za5 hK (HT.out _ (ho5.2.alloc _)) (fun hHeld=>?_)
  clear hK K
  refine zbb (fun V2 hV=>?_)
  have mb:Moved D w4 V2:=by rw [hV]; exact ho5.2.alloc _
  have ga:V2.heap[V1.heap.size]? = some (.cells (zdj (⟨r.id,r.ver,ra,r.vals.length,rc,r.vals⟩:RV)).toArray 29 (0,0)):=by rw [hV]; exact zac rfl
  have ho5':OwnM D 29 3 zdj w4 (.slice a5 n5 c5) ([] ++ C) V2:=by rw [hV]; exact ho5.below ((Below.refl _ _).alloc xnl _)
  clear hV hHeld;have hHeld:=HT.out _ mb
  refine xrK 7 rfl fun K hK=>?_
  refine zce (.tmp 214) (.tmp 216) 50 (by rfl) D 29 (.agg #[.int .i64 0,.int .i64 0,.slice none 0 0]) 3 40 zdj (fun _=>rfl) zed underlying50 infoR rfl (by decide) (by decide) (wA:=w4) (v:=.slice a5 n5 c5) (A:=[] ++ C) (B:=[(⟨r.id,r.ver,ra,r.vals.length,rc,r.vals⟩:RV)]) (by rfl) ho5' (by rfl) (zav (size:=3) ga rfl) hl2 ?_
  intro v7 W7 ho7 hold7 hk7 hz7 hat7;obtain ⟨a7,c7,e7⟩:=za1 ho7.1;have hl7:(([]:List RV) ++ C ++ [(⟨r.id,r.ver,ra,r.vals.length,rc,r.vals⟩:RV)]).length = RR.length:=HRl.out;rw [hl7] at e7;subst e7
  refine za5 hK (HT.out _ ho7.2) (fun hHeld=>?_)
  clear hK K;have HR7:=zi5 (show RecsVec W7 zaw (.slice a7 RR.length c7) RR from ⟨_,(OwnM.vec (size:=3) (enc:=zdj) (fun _=>rfl) ho7).any,HRm.out,fun x hx=>(HRx.out x hx).movedD ho7.2 |>.any⟩)
  refine xrK 8 rfl fun K hK=>?_
  go_simp;refine (rall16_any S zaw _ _ _ _ _ s P _ key RR _ (K4.out.sa.moved K4.out.ne ho7.2) (HPX.out.movedD ho7.2).any HR7.out HPI.out (by omega) HRRs.out HRRn.out hRR6).mono ?_; rw [HLB.out]; rintro e w8 ⟨v8,rfl,hv8,hb8⟩; obtain ⟨a8,c8,rfl⟩:=hv8.slice; have m8:=ho7.2.below hb8; dsimp only at hv8 ⊢
  refine za5 hK (HT.out _ m8) (fun hHeld=>?_)
  clear hK K;refine tK 9 (h:=?_);refine tK 10 (h:=?_);refine t0 11 (h:=?_)
  refine xrK 12 rfl fun K hK=>?_
  go_simp;refine zas hK (by decide) ?_;clear hK K;refine t0 13 (h:=?_);refine zap (by kernel_rfl) ?_ _;refine NoPanic.normal ?_;have hfin:=zi5 (show EncsVec w8 (fun x=>w4.heap.size≤x) (.slice a8 LB.length c8) LB∧Moved D w4 w8 from ⟨hv8.move xnl fun x _ hx=>⟨rfl,by have h1:=ho7.2.size; have hx':W7.heap.size≤x:=hx; omega⟩,m8⟩)
  clear hv8 m8;go_wp2_with fail
  exact zi5 (rallE_mk hfin.out.1 hfin.out.2)
 focus
  go_simp
  refine za5 hK (HT.out _ (m0.alloc _)) (fun hHeld=>?_)
  clear hK K
  refine zbb (fun V1 hV=>?_)
  have mb:Moved D w4 V1:=by rw [hV]; exact m0.alloc _
  have ga:V1.heap[w4.drew.heap.size]? = some (.cells (zdj (⟨r.id,r.ver,ra,r.vals.length,rc,r.vals⟩:RV)).toArray 29 (0,0)):=by rw [hV]; exact zac rfl
  clear hV hHeld;have hHeld:=HT.out _ mb
  refine xrK 4 rfl fun K hK=>?_
  refine zce (.const (.slice none 0 0)) (.tmp 213) 50 (by rfl) D 29 (.agg #[.int .i64 0,.int .i64 0,.slice none 0 0]) 3 40 zdj (fun _=>rfl) zed underlying50 infoR rfl (by decide) (by decide) (wA:=w4) (v:=.slice none 0 0) (A:=[]) (B:=C) (by rfl) (OwnM.nil mb) (by rfl) (Vec.reads (k:=3) (enc:=zdj) (fun _=>rfl) (HC.out.movedD mb)) hl1 ?_
  intro v5 V2 ho5 hold5 hk5 hz5 hat5;obtain ⟨a5,c5,e5⟩:=za1 ho5.1;obtain ⟨n5,hlen5⟩:∃ n,(([]:List RV) ++ C).length = n:=⟨_,rfl⟩;rw [hlen5] at e5;subst e5;clear hlen5
  refine za5 hK (HT.out _ ho5.2) (fun hHeld=>?_)
  clear hK K;have ga:=hk5 _ _ (by simp [Value.ownBlock]) ga;have ho5':=ho5
  refine xrK 7 rfl fun K hK=>?_
  refine zce (.tmp 214) (.tmp 216) 50 (by rfl) D 29 (.agg #[.int .i64 0,.int .i64 0,.slice none 0 0]) 3 40 zdj (fun _=>rfl) zed underlying50 infoR rfl (by decide) (by decide) (wA:=w4) (v:=.slice a5 n5 c5) (A:=[] ++ C) (B:=[(⟨r.id,r.ver,ra,r.vals.length,rc,r.vals⟩:RV)]) (by rfl) ho5' (by rfl) (zav (size:=3) ga rfl) hl2 ?_
  intro v7 W7 ho7 hold7 hk7 hz7 hat7;obtain ⟨a7,c7,e7⟩:=za1 ho7.1;have hl7:(([]:List RV) ++ C ++ [(⟨r.id,r.ver,ra,r.vals.length,rc,r.vals⟩:RV)]).length = RR.length:=HRl.out;rw [hl7] at e7;subst e7
  refine za5 hK (HT.out _ ho7.2) (fun hHeld=>?_)
  clear hK K;have HR7:=zi5 (show RecsVec W7 zaw (.slice a7 RR.length c7) RR from ⟨_,(OwnM.vec (size:=3) (enc:=zdj) (fun _=>rfl) ho7).any,HRm.out,fun x hx=>(HRx.out x hx).movedD ho7.2 |>.any⟩)
  refine xrK 8 rfl fun K hK=>?_
  go_simp;refine (rall16_any S zaw _ _ _ _ _ s P _ key RR _ (K4.out.sa.moved K4.out.ne ho7.2) (HPX.out.movedD ho7.2).any HR7.out HPI.out (by omega) HRRs.out HRRn.out hRR6).mono ?_; rw [HLB.out]; rintro e w8 ⟨v8,rfl,hv8,hb8⟩; obtain ⟨a8,c8,rfl⟩:=hv8.slice; have m8:=ho7.2.below hb8; dsimp only at hv8 ⊢
  refine za5 hK (HT.out _ m8) (fun hHeld=>?_)
  clear hK K;refine tK 9 (h:=?_);refine tK 10 (h:=?_);refine t0 11 (h:=?_)
  refine xrK 12 rfl fun K hK=>?_
  go_simp;refine zas hK (by decide) ?_;clear hK K;refine t0 13 (h:=?_);refine zap (by kernel_rfl) ?_ _;refine NoPanic.normal ?_;have hfin:=zi5 (show EncsVec w8 (fun x=>w4.heap.size≤x) (.slice a8 LB.length c8) LB∧Moved D w4 w8 from ⟨hv8.move xnl fun x _ hx=>⟨rfl,by have h1:=ho7.2.size; have hx':W7.heap.size≤x:=hx; omega⟩,m8⟩)
  clear hv8 m8;go_wp2_with fail
  exact zi5 (rallE_mk hfin.out.1 hfin.out.2)
end
section
open Go.RowKit Cal
attribute [local go_sem] zah zaj zar zaq
theorem eexLoop (w:World) (D Y:Nat) (W0:World) (key:Int × Int) (r:RecL) (ra:Option Addr) (rc:Nat) (o:EncL) (oa:Option Addr) (oc:Nat) (S:Nat→Prop) (af at' an as':Option Addr) (N cf nt ct nk cn ns cs:Nat) (s:SchemaL) (HSD:Hid (SchemaD s)) (HN:Hid (s.fields.length = N)) (arv:Option Addr) (crv:Nat) (R:List RecL) (hN1:1≤N) (hN5:N≤4) (HRr:Hid (ShortR r)) (hR4:R.length≤4) (HRR:Hid (∀ q∈R,ShortR q)) (HSO:Hid (SmallE o)) (WL:World) (KL:Hid (EX D w.heap.size Y W0 key r ra rc o oa oc S (.slice af N cf) (.slice at' nt ct) (.slice an nk cn) (.slice as' ns cs) s (.slice arv R.length crv) R WL)) (G:Nat) (v0 v1 v2 v3:Value) (HG:Hid (WL.heap[G]? = some (.cells #[v0,v1,v2,v3] 23 (0,0)))) (GD:G≠D) (HQ:Hid (∀ k,k < 4→∃ (v:Value) (P:List ParL),#[v0,v1,v2,v3][k]? = some v∧Vec WL (Off D) 3 zbc v P∧(∀ p∈P,InI p.len)∧P.length≤20)) (sl0 sl1 sl2 sl3 sl4 sl5 sl6 sl7 sl8 sl9 sl12 sl13 sl14 sl15 sl16 sl19 sl20 sl22 sl23 sl24 sl25 sl26 sl27 sl28 sl29 sl30 sl31 sl32 sl33 sl34 sl35 sl36 sl37 sl38 sl39 sl40 sl41 sl42 sl43 sl44 sl45 sl46 sl47 sl48 sl49 sl50 sl51 sl52 sl53 sl54 sl55 sl56 sl57 sl58 sl59 sl60 sl61 sl62 sl63 sl64 sl65 sl66 sl67 sl68 sl69 sl70 sl71 sl72 sl73 sl74 sl75 sl76 sl77 sl78 sl79 sl80 sl81 sl82 sl83 sl84 sl85 sl86 sl87 sl88 sl89 sl90 sl91 sl92 sl93 sl94 sl95 sl96 sl97 sl98 sl99 sl100 sl101 sl102 sl103 sl104 sl105 sl106 sl107 sl108 sl109 sl110 sl111 sl112 sl113 sl114 sl115 sl116 sl117 sl118 sl119 sl120 sl121 sl122 sl123 sl124 sl128 sl129 sl130 sl131 sl132 sl133 sl134 sl135 sl136 sl137 sl138 sl139 sl140 sl141 sl142 sl143 sl144 sl145 sl146 sl147 sl148 sl149 sl150 sl151 sl152 sl153 sl154 sl155 sl156 sl157 sl158 sl159 sl160 sl161 sl162 sl163 sl164 sl165 sl166 sl167 sl168 sl169 sl170 sl171 sl172 sl173 sl174 sl175 sl176 sl177 sl178 sl179 sl180 sl181 sl182 sl183 sl184 sl185 sl186 sl187 sl188 sl189 sl190 sl191 sl192 sl193 sl194 sl195 sl196 sl197 sl198 sl199 sl200 sl201 sl202 sl203 sl204 sl205 sl206 sl207 sl208 sl209 sl210 sl211 sl212 sl213 sl214 sl215 sl216 sl217 sl218 sl219 sl220 sl221 sl222 sl223 sl224 sl225 sl226 sl227 sl228 sl229 sl230 sl231 sl232 sl233 sl234 sl235 sl236 sl237 sl238 sl239 sl240 sl241 sl242 sl243 sl244 sl245 sl246 sl247 sl248 sl249 sl250 sl251 sl252 sl253 sl254 sl255 sl256 sl257 sl258 sl259 sl260 sl261 sl262 sl263 sl264 sl265 sl266 sl267 sl268 sl269 sl270 sl271 sl272 sl273 sl274 sl275 sl276 sl277 sl278 sl279 sl280 sl281 sl282 sl283 sl284 sl285 sl286 sl287 sl288 sl289 sl290 sl291 sl292 sl293 sl294 sl295 sl296 sl297 sl298 sl299 sl300 sl301 sl302 sl303 sl304 sl305 sl306 sl307 sl308 sl309 sl310 sl311 sl312 sl313 sl314 sl315 sl316 sl317 sl318 sl319 sl320 sl321 sl322 sl323 sl324 sl325 sl326 sl327 sl328 sl329 sl330 sl331 sl332 sl333 sl334 sl335 sl336 sl337 sl338 sl339 sl340 sl341 sl342 sl343 sl344 sl345 sl346 sl347 sl348 sl349 sl350 sl351 sl352:Value) (K:Act→World→Prop) (Q':Exit→Act→World→Prop)
  (hK:∀ (tl0 tl1 tl2 tl3 tl4 tl8 tl9 tl13 tl14 tl15 tl16 tl20 tl22 tl23 tl24 tl25 tl26 tl27 tl28 tl29 tl30 tl31 tl32 tl33 tl34 tl35 tl36 tl37 tl38 tl39 tl40 tl41 tl42 tl43 tl44 tl45 tl46 tl47 tl48 tl49 tl50 tl51 tl52 tl53 tl54 tl55 tl56 tl57 tl58 tl59 tl60 tl61 tl62 tl63 tl64 tl65 tl66 tl67 tl68 tl69 tl70 tl71 tl72 tl73 tl74 tl75 tl76 tl77 tl78 tl79 tl80 tl81 tl82 tl83 tl84 tl85 tl86 tl87 tl88 tl89 tl90 tl91 tl92 tl93 tl94 tl95 tl96 tl97 tl98 tl99 tl100 tl101 tl102 tl103 tl104 tl105 tl106 tl107 tl108 tl109 tl110 tl111 tl112 tl113 tl114 tl115 tl116 tl117 tl118 tl119 tl120 tl121 tl122 tl123 tl124 tl125 tl126 tl127 tl128 tl129 tl130 tl131 tl132 tl133 tl134 tl135 tl136 tl137 tl138 tl139 tl140 tl141 tl142 tl143 tl144 tl145 tl146 tl147 tl148 tl149 tl150 tl151 tl152 tl153 tl154 tl155 tl156 tl157 tl158 tl159 tl160 tl161 tl162 tl163 tl164 tl165 tl166 tl167 tl168 tl169 tl170 tl171 tl172 tl173 tl174 tl175 tl176 tl177 tl178 tl179 tl180 tl181 tl182 tl183 tl184 tl185 tl186 tl187 tl188 tl189 tl190 tl191 tl192 tl193 tl194 tl195 tl196 tl197 tl198 tl199 tl200 tl201 tl202 tl203 tl204 tl205 tl206 tl207 tl208 tl209 tl210 tl211 tl212 tl213 tl214 tl215 tl216 tl217 tl218 tl219 tl220 tl221 tl222 tl223 tl224 tl225 tl226 tl227 tl228 tl229 tl230 tl231 tl232 tl233 tl234 tl235 tl236 tl237 tl238 tl239 tl240 tl241 tl242 tl243 tl244 tl245 tl246 tl247 tl248 tl249 tl250 tl251 tl252 tl253 tl254 tl255 tl256 tl257 tl258 tl259 tl260 tl261 tl262 tl263 tl264 tl265 tl266 tl267 tl268 tl269 tl270 tl271 tl272 tl273 tl274 tl275 tl276 tl277 tl278 tl279 tl280 tl281 tl282 tl283 tl284 tl285 tl286 tl287 tl288 tl289 tl290 tl291 tl292 tl293 tl294 tl295 tl296 tl297 tl298 tl299 tl300 tl301 tl302 tl303 tl304 tl305 tl306 tl307 tl308 tl309 tl310 tl311 tl312 tl313 tl314 tl315 tl316 tl317 tl318 tl319 tl320 tl321 tl322 tl323 tl324 tl325 tl326 tl327 tl328 tl329 tl330 tl331 tl332 tl333 tl334 tl335 tl336 tl337 tl338 tl339 tl340 tl341 tl342 tl343 tl344 tl345 tl346 tl347 tl348 tl349 tl350 tl351 tl352:Value) (wx:World),Hid (Moved D WL wx)→K ⟨List.toArray (tl0::tl1::tl2::tl3::tl4::sl5::sl6::sl7::tl8::tl9::.pointer (some ⟨w.heap.size,0,none⟩) :: .pointer (some ⟨w.heap.size + 1,0,none⟩) :: sl12::tl13::tl14::tl15::tl16::.pointer (some ⟨D,0,none⟩) :: .pointer (some ⟨Y,0,none⟩) :: sl19::tl20::.slice arv R.length crv::tl22::tl23::tl24::tl25::tl26::tl27::tl28::tl29::tl30::tl31::tl32::tl33::tl34::tl35::tl36::tl37::tl38::tl39::tl40::tl41::tl42::tl43::tl44::tl45::tl46::tl47::tl48::tl49::tl50::tl51::tl52::tl53::tl54::tl55::tl56::tl57::tl58::tl59::tl60::tl61::tl62::tl63::tl64::tl65::tl66::tl67::tl68::tl69::tl70::tl71::tl72::tl73::tl74::tl75::tl76::tl77::tl78::tl79::tl80::tl81::tl82::tl83::tl84::tl85::tl86::tl87::tl88::tl89::tl90::tl91::tl92::tl93::tl94::tl95::tl96::tl97::tl98::tl99::tl100::tl101::tl102::tl103::tl104::tl105::tl106::tl107::tl108::tl109::tl110::tl111::tl112::tl113::tl114::tl115::tl116::tl117::tl118::tl119::tl120::tl121::tl122::tl123::tl124::tl125::tl126::tl127::tl128::tl129::tl130::tl131::tl132::tl133::tl134::tl135::tl136::tl137::tl138::tl139::tl140::tl141::tl142::tl143::tl144::tl145::tl146::tl147::tl148::tl149::tl150::tl151::tl152::tl153::tl154::tl155::tl156::tl157::tl158::tl159::tl160::tl161::tl162::tl163::tl164::tl165::tl166::tl167::tl168::tl169::tl170::tl171::tl172::tl173::tl174::tl175::tl176::tl177::tl178::tl179::tl180::tl181::tl182::tl183::tl184::tl185::tl186::tl187::tl188::tl189::tl190::tl191::tl192::tl193::tl194::tl195::tl196::tl197::tl198::tl199::tl200::tl201::tl202::tl203::tl204::tl205::tl206::tl207::tl208::tl209::tl210::tl211::tl212::tl213::tl214::tl215::tl216::tl217::tl218::tl219::tl220::tl221::tl222::tl223::tl224::tl225::tl226::tl227::tl228::tl229::tl230::tl231::tl232::tl233::tl234::tl235::tl236::tl237::tl238::tl239::tl240::tl241::tl242::tl243::tl244::tl245::tl246::tl247::tl248::tl249::tl250::tl251::tl252::tl253::tl254::tl255::tl256::tl257::tl258::tl259::tl260::tl261::tl262::tl263::tl264::tl265::tl266::tl267::tl268::tl269::tl270::tl271::tl272::tl273::tl274::tl275::tl276::tl277::tl278::tl279::tl280::tl281::tl282::tl283::tl284::tl285::tl286::tl287::tl288::tl289::tl290::tl291::tl292::tl293::tl294::tl295::tl296::tl297::tl298::tl299::tl300::tl301::tl302::tl303::tl304::tl305::tl306::tl307::tl308::tl309::tl310::tl311::tl312::tl313::tl314::tl315::tl316::tl317::tl318::tl319::tl320::tl321::tl322::tl323::tl324::tl325::tl326::tl327::tl328::tl329::tl330::tl331::tl332::tl333::tl334::tl335::tl336::tl337::tl338::tl339::tl340::tl341::tl342::tl343::tl344::tl345::tl346::tl347::tl348::tl349::tl350::tl351::tl352::[]),[]⟩ wx) :
  (blkOf (rightOf (stmtOf Tryz.f3 9))).wp prog (Exit.inBlock 0 (Exit.then K Q')) ⟨List.toArray (sl0::sl1::sl2::sl3::sl4::sl5::sl6::sl7::sl8::sl9::.pointer (some ⟨w.heap.size,0,none⟩) :: .pointer (some ⟨w.heap.size + 1,0,none⟩) :: sl12::sl13::sl14::sl15::sl16::.pointer (some ⟨D,0,none⟩) :: .pointer (some ⟨Y,0,none⟩) :: sl19::sl20::.slice arv R.length crv::sl22::sl23::sl24::sl25::sl26::sl27::sl28::sl29::sl30::sl31::sl32::sl33::sl34::sl35::sl36::sl37::sl38::sl39::sl40::sl41::sl42::sl43::sl44::sl45::sl46::sl47::sl48::sl49::sl50::sl51::sl52::sl53::sl54::sl55::sl56::sl57::sl58::sl59::sl60::sl61::sl62::sl63::sl64::sl65::sl66::sl67::sl68::sl69::sl70::sl71::sl72::sl73::sl74::sl75::sl76::sl77::sl78::sl79::sl80::sl81::sl82::sl83::sl84::sl85::sl86::sl87::sl88::sl89::sl90::sl91::sl92::sl93::sl94::sl95::sl96::sl97::sl98::sl99::sl100::sl101::sl102::sl103::sl104::sl105::sl106::sl107::sl108::sl109::sl110::sl111::sl112::sl113::sl114::sl115::sl116::sl117::sl118::sl119::sl120::sl121::sl122::sl123::sl124::.slice (some ⟨G,0,none⟩) 4 4::.int .i64 4::.int .i64 0::sl128::sl129::sl130::sl131::sl132::sl133::sl134::sl135::sl136::sl137::sl138::sl139::sl140::sl141::sl142::sl143::sl144::sl145::sl146::sl147::sl148::sl149::sl150::sl151::sl152::sl153::sl154::sl155::sl156::sl157::sl158::sl159::sl160::sl161::sl162::sl163::sl164::sl165::sl166::sl167::sl168::sl169::sl170::sl171::sl172::sl173::sl174::sl175::sl176::sl177::sl178::sl179::sl180::sl181::sl182::sl183::sl184::sl185::sl186::sl187::sl188::sl189::sl190::sl191::sl192::sl193::sl194::sl195::sl196::sl197::sl198::sl199::sl200::sl201::sl202::sl203::sl204::sl205::sl206::sl207::sl208::sl209::sl210::sl211::sl212::sl213::sl214::sl215::sl216::sl217::sl218::sl219::sl220::sl221::sl222::sl223::sl224::sl225::sl226::sl227::sl228::sl229::sl230::sl231::sl232::sl233::sl234::sl235::sl236::sl237::sl238::sl239::sl240::sl241::sl242::sl243::sl244::sl245::sl246::sl247::sl248::sl249::sl250::sl251::sl252::sl253::sl254::sl255::sl256::sl257::sl258::sl259::sl260::sl261::sl262::sl263::sl264::sl265::sl266::sl267::sl268::sl269::sl270::sl271::sl272::sl273::sl274::sl275::sl276::sl277::sl278::sl279::sl280::sl281::sl282::sl283::sl284::sl285::sl286::sl287::sl288::sl289::sl290::sl291::sl292::sl293::sl294::sl295::sl296::sl297::sl298::sl299::sl300::sl301::sl302::sl303::sl304::sl305::sl306::sl307::sl308::sl309::sl310::sl311::sl312::sl313::sl314::sl315::sl316::sl317::sl318::sl319::sl320::sl321::sl322::sl323::sl324::sl325::sl326::sl327::sl328::sl329::sl330::sl331::sl332::sl333::sl334::sl335::sl336::sl337::sl338::sl339::sl340::sl341::sl342::sl343::sl344::sl345::sl346::sl347::sl348::sl349::sl350::sl351::sl352::[]),[]⟩ WL:=by
 conv=>arg 2; whnf
 have lY:=zaa KL.out.y; have lX:=zaa KL.out.x; have lK:=zaa KL.out.k; have lG:=zaa HG.out;have hbD:=KL.out.bD; have hyD:=KL.out.yD;have zDw:=KL.out.m.deck.lt;have HRs:=zi5 (show ∀ q∈R,∀ x∈q.vals,x.length≤1000000 from fun q hq=>(HRR.out q hq).s6)
 have HRn:=zi5 (show ∀ q∈R,q.vals.length≤1000000 from fun q hq=>(HRR.out q hq).n6)
 go_wp2_with fail
 go_loopw [127] (fun i wr=>∃ k:Nat,k≤4∧i = .int .i64 k∧Moved D WL wr) (fun i _=>4 - (intOf i).toNat)
 case atStart=>exact ⟨0,by omega,rfl,Moved.start KL.out.m.deck⟩
 case round =>
  obtain ⟨k,hk,rfl,mk⟩:=hrel;obtain ⟨WR,hWR⟩:∃ u,u = wr:=⟨_,rfl⟩;subst hWR;have Kk:=zi5 (KL.out.moved mk); have HMk:=zi5 mk;by_cases hlt:k < 4
  ·have hq:decide ((k:Int) < 4) = true:=by simp; omega
   obtain ⟨v,P,ev,hpv,hPi,hPl⟩:=HQ.out k hlt;have cv:WR.cell? ⟨G,k,none⟩ = some v:=by rw [cell_of_row _ _ _ _ _ _ (mk.blk GD HG.out)]; exact ev
   obtain ⟨ap,cp,rfl⟩:=hpv.slice;have HPV:=zi5 (hpv.movedD mk); have HPI:=zi5 hPi;have zR:=mk.size;obtain ⟨ce,hce⟩:∃ ce,zb0 s P = ce:=⟨_,rfl⟩;have d0:(ce != ce) = false:=by simp
   obtain ⟨p0,p1,p2,p3⟩:=zan Kk.out.y;have c1P:=zbl WR (fun W' hb=>by have h:=zhv S _ _ _ _ s P _ W' (Kk.out.sa.below hb) (HPV.out.below hb).any HPI.out (by omega); rw [hce] at h; exact h)
   have c2P:=zbl WR (fun W' hb=>by have h:=zew S _ _ _ _ s P _ W' (Kk.out.sa.below hb) (HPV.out.below hb).any HPI.out (by omega); rw [hce] at h; exact h)
   have s0:=cell_regrown p0; have s1:=cell_regrown p1; have s2:=cell_regrown p2; have s3:=cell_regrown p3;clear hpv ev mk hce hPi;go_wp2_with fail
   refine wp_region_quiet_below (by kernel_rfl) (by kernel_rfl) ?_;repeat (go_big_quiet_step (first | with_reducible exact c1P _ _ | with_reducible exact c2P _ _))
   refine wpQuiet_nil ?_;intro w2 hw'
   have hb2:Below WR.heap.size WR w2:=by
    obtain ⟨⟨dq,osq⟩,hw''⟩:=hw';rw [hw'']; exact below_regrown WR dq osq
   have m2:Moved D WR w2:=(Moved.start Kk.out.m.deck).below hb2;have K2:=zi5 (Kk.out.moved m2); have HP2:=zi5 (HPV.out.movedD m2); have HM2:=zi5 (HMk.out.trans m2);clear hw' c1P c2P s0 s1 s2 s3 p0 p1 p2 p3 cv hb2 m2 HPV HMk Kk;obtain ⟨p0,p1,p2,p3⟩:=zan K2.out.y; obtain ⟨x0,x1,x2⟩:=zai K2.out.x;have m0:Moved D w2 w2.drew:=(Moved.start K2.out.m.deck).drew;have zD2:=K2.out.m.deck.lt
   have HT:=zi5 (show ∀ w',Moved D w2 w'→(w'.cell? ⟨Y,0,none⟩ = some (.slice af N cf)∧w'.cell? ⟨Y,1,none⟩ = some (.slice at' nt ct)∧w'.cell? ⟨Y,2,none⟩ = some (.slice an nk cn)∧w'.cell? ⟨Y,3,none⟩ = some (.slice as' ns cs))∧(w'.cell? ⟨w.heap.size + 1,0,none⟩ = some (.int .i64 r.id)∧w'.cell? ⟨w.heap.size + 1,1,none⟩ = some (.int .i64 r.ver)∧w'.cell? ⟨w.heap.size + 1,2,none⟩ = some (.slice ra r.vals.length rc)) from
    fun w' h=>⟨zan (h.blk hyD K2.out.y),zai (h.blk (by omega) K2.out.x)⟩)
   go_wp2_with fail
   refine wp_region_noPanic ?_
   refine wp_region_held_drew (S:=(fun w'=>(w'.cell? ⟨Y,0,none⟩ = some (.slice af N cf)∧w'.cell? ⟨Y,1,none⟩ = some (.slice at' nt ct)∧w'.cell? ⟨Y,2,none⟩ = some (.slice an nk cn)∧w'.cell? ⟨Y,3,none⟩ = some (.slice as' ns cs))∧(w'.cell? ⟨w.heap.size + 1,0,none⟩ = some (.int .i64 r.id)∧w'.cell? ⟨w.heap.size + 1,1,none⟩ = some (.int .i64 r.ver)∧w'.cell? ⟨w.heap.size + 1,2,none⟩ = some (.slice ra r.vals.length rc)))) (by kernel_rfl) (HT.out _ m0) (fun hHeld=>?_)
   refine tH 0 (h:=?_);refine tH 1 (h:=?_);refine tH 2 (h:=?_);refine tH 6 (h:=?_);refine wpAnyH_ready (rs:=[3]) (by kernel_rfl) (by simp) ?_
   refine AllReadyH.cons rfl (fun K hK=>?_) AllReadyH.nil
   go_simp;refine (zen D S _ _ _ _ s 5 _ m0.deck (K2.out.sa.moved K2.out.ne m0) K2.out.ne HSD.out (by omega) (by omega)).mono ?_; rintro e y1 ⟨_,q1,rfl,⟨_,rfl,hv1⟩,hid1,hck1,hsh1,mv1⟩; obtain ⟨qa1,qc1,rfl⟩:=hv1.slice; have HV1:=zi5 hv1; have HQ1:=zi5 (ShortR.of HSD.out.check hck1); have m1:=m0.trans mv1; clear hid1 hsh1 hck1 hv1
   refine hK.out _ _ (HT.out _ m1) (fun hHeld=>?_)
   clear hK K;refine wpAnyH_ready (rs:=[4]) (by kernel_rfl) (by simp) ?_
   refine AllReadyH.cons rfl (fun K hK=>?_) AllReadyH.nil
   go_simp;skip
   refine hK.out _ _ (HT.out _ (m1.alloc _)) (fun hHeld=>?_)
   clear hK K;refine tH 5 (h:=?_);refine wpAnyH_done (by kernel_rfl) ?_ _;refine NoPanic.normal ?_;clear p0 p1 p2 p3 x0 x1 x2;go_wp2_with fail
   refine zao (fun WQ hWQ=>?_)
   have mL:Moved D w2 WQ:=by rw [hWQ]; exact m1.alloc _
   have y12:=mv1.size;have gQ:WQ.heap[y1.heap.size]? = some (.cells ((([(⟨r.id,r.ver,ra,r.vals.length,rc,r.vals⟩:RV),⟨q1.id,q1.ver,qa1,q1.vals.length,qc1,q1.vals⟩]:List RV)).flatMap zdj).toArray 29 (0,0)):=by rw [hWQ]; exact zac rfl
   have hv1:Vec WQ (Off D) 1 za2 (.slice qa1 q1.vals.length qc1) q1.vals:=by
    rw [hWQ]; exact (HV1.out.off (fun b _ h=>by have h':w2.drew.heap.size≤b:=h; have:w2.drew.heap.size = w2.heap.size:=rfl; omega)).movedD ((Moved.start m1.deck).alloc _)
   have KQ:=zi5 (K2.out.moved mL); have HPQ:=zi5 (HP2.out.movedD mL); have HMQ:=zi5 (HM2.out.trans mL)
   have HRS:=zi5 (show RecsVec WQ (Off D) (.slice (some ⟨y1.heap.size,0,none⟩) 2 2) [r,q1] from
    ⟨[(⟨r.id,r.ver,ra,r.vals.length,rc,r.vals⟩:RV),⟨q1.id,q1.ver,qa1,q1.vals.length,qc1,q1.vals⟩],zcn (k:=3) (enc:=zdj) (fun _=>rfl) gQ (by have:w2.drew.heap.size = w2.heap.size:=rfl; show y1.heap.size≠D; omega) 2 rfl,rfl,by
     intro x hx;simp only [List.mem_cons,List.not_mem_nil,or_false] at hx
     rcases hx with rfl | rfl
     ·exact KQ.out.vv
     ·exact hv1⟩)
   have HSR:=zi5 (show ∀ q∈[r,q1],ShortR q by
    intro q hq;simp only [List.mem_cons,List.not_mem_nil,or_false] at hq
    rcases hq with rfl | rfl
    ·exact HRr.out
    ·exact HQ1.out)
   obtain ⟨T,hT⟩:∃ T,y1.heap.size = T:=⟨_,rfl⟩;rw [hT] at HRS ⊢;obtain ⟨QS,hQS⟩:∃ QS,[r,q1] = QS:=⟨_,rfl⟩;have hQl:QS.length = 2:=by rw [← hQS]; rfl
   rw [hQS] at HRS HSR;have HQl:=zi5 hQl;clear hWQ hT mL y12 gQ hv1 HV1 HQ1 m0 m1 mv1 HT hQS hQl HP2 K2 HM2;go_loopw [144] (fun i wr=>∃ j:Nat,j≤2∧i = .int .i64 j∧Moved D WQ wr) (fun i _=>2 - (intOf i).toNat)
   case atStart=>exact ⟨0,by omega,rfl,Moved.start KQ.out.m.deck⟩
   case round =>
    obtain ⟨j,hj,rfl,mj⟩:=hrel;obtain ⟨WJ,hWJ⟩:∃ u,u = wr:=⟨_,rfl⟩;subst hWJ;have Kj:=zi5 (KQ.out.moved mj); have HPj:=zi5 (HPQ.out.movedD mj); have HMj:=zi5 mj;by_cases hlt2:j < 2
    ·have hq2:decide ((j:Int) < 2) = true:=by simp; omega
     have hjl:j < QS.length:=by rw [HQl.out]; exact hlt2
     obtain ⟨b,off,id,ver,aa,nn,cc,vals,e,lb,c0,c1,c2,hRk,hvv⟩:=(HRS.out.movedD mj).at j hjl;cases e;rw [Nat.zero_add] at c0 c1 c2;have hnn:=hvv.len.1;subst hnn;have hsq:=HSR.out _ (List.getElem_mem hjl);rw [hRk] at hsq;have HVV:=zi5 hvv; have HSq:=zi5 hsq;obtain ⟨⟨X,er⟩,hX⟩:∃ p,zfj s P key ⟨id,ver,vals⟩ = p:=⟨_,rfl⟩;have hsm:=zf0 s P key ⟨id,ver,vals⟩;rw [hX] at hsm;have HX:=zi5 hX; have HSm:=zi5 hsm;have d1:(er != er) = false:=by simp
     obtain ⟨p0,p1,p2,p3⟩:=zan Kj.out.y; obtain ⟨k0,k1⟩:=zak Kj.out.k;have LY:=zaa Kj.out.y; have LK:=zaa Kj.out.k;clear hvv hRk hsq hjl mj hX hsm;go_wp2_with fail
     refine zae (fun WA hWA=>?_)
     have bA:=xal hWA
     have hZ:WA.heap[WJ.heap.size]? = some (.cells #[.int .i64 id,.int .i64 ver,.slice aa vals.length cc] 29 (0,0)):=by rw [hWA]; exact zac rfl
     refine (erecord_any S _ _ _ _ s P _ key ⟨id,ver,vals⟩ _ _ (Kj.out.sa.below bA) (HPj.out.below bA).any (HVV.out.below bA).any HPI.out (by omega) HSq.out.s6 HSq.out.n6).mono ?_;rw [HX.out];rintro e w3 ⟨_,rfl,hev,hb⟩;obtain ⟨⟨xi,xv,xa,xn,xc⟩,rfl,hev'⟩:=hev.form;have HEx:=zi5 hev';have b3:=bA.trans (hb.mono bA.size);have B3:=zi5 b3; have HZ3:=zi5 (zab hb (zaa hZ) hZ);dsimp only;clear hev hev' hWA p0 p1 p2 p3 k0 k1 c0 c1 c2 lb hZ bA hb;obtain ⟨p0,p1,p2,p3⟩:=zan (zab b3 LY Kj.out.y); obtain ⟨k0,k1⟩:=zak (zab b3 LK Kj.out.k);obtain ⟨z0,z1,z2⟩:=zai HZ3.out;have LY3:=Nat.lt_of_lt_of_le LY b3.size; have LK3:=Nat.lt_of_lt_of_le LK b3.size; have LZ3:=zaa HZ3.out;clear b3;go_wp2_with fail
     refine zae (fun WB hWB=>?_)
     have bB:=xal hWB
     have hX1:WB.heap[w3.heap.size]? = some (.cells (zck ⟨xi,xv,xa,xn,xc⟩).toArray 32 (0,0)):=by rw [hWB]; exact zac rfl
     have b3B:=B3.out.trans (bB.mono B3.out.size);refine (zdb S _ _ _ _ s P _ key ⟨id,ver,vals⟩ _ _ (Kj.out.sa.below b3B) (HPj.out.below b3B).any (HVV.out.below b3B).any HPI.out (by omega) HSq.out.s6 HSq.out.n6).mono ?_;rw [HX.out];rintro e w4 ⟨_,rfl,hev,hb⟩;obtain ⟨⟨yi,yv,ya,yn,yc⟩,rfl,hev'⟩:=hev.form;have b4:=b3B.trans (hb.mono b3B.size);have B4:=zi5 b4; have HEy:=zi5 hev'; have HX1:=zi5 (zab hb (zaa hX1) hX1); have HEx4:=zi5 ((HEx.out.below bB).below hb);have LX4:=zaa HX1.out;dsimp only;clear hev hev' hWB p0 p1 p2 p3 k0 k1 z0 z1 z2 LY3 LK3 LZ3 hX1 bB b3B hb b4;go_wp2_with fail
     refine zao (fun WC hWC=>?_)
     have bC:=xal hWC
     have hY1:WC.heap[w4.heap.size]? = some (.cells (zck ⟨yi,yv,ya,yn,yc⟩).toArray 32 (0,0)):=by rw [hWC]; exact zac rfl
     have hX2:=zab bC LX4 HX1.out;have HX5:=zi5 (HEx4.out.below bC); have HY5:=zi5 (HEy.out.below bC);have b5:=B4.out.trans (bC.mono B4.out.size);obtain ⟨x0,x1,x2⟩:=zai hX2; obtain ⟨y0,y1,y2⟩:=zai hY1;obtain ⟨bx,hbx⟩:∃ b,w3.heap.size = b:=⟨_,rfl⟩;obtain ⟨by',hby⟩:∃ b,w4.heap.size = b:=⟨_,rfl⟩;rw [hbx] at x0 x1 x2 LX4 ⊢;rw [hby] at y0 y1 y2 ⊢;obtain ⟨bv,hbv⟩:∃ bv,zbd X = bv:=⟨_,rfl⟩;have d2:(bv != bv) = false:=by cases bv <;> rfl
     have c1P:=zbl WC (fun W' hb=>by have h:=zgg _ _ _ _ X X W' (HX5.out.below hb) (HY5.out.below hb) HSm.out.n HSm.out.w; rw [sameE_self] at h; exact h)
     have c2P:=zbl WC (fun W' hb=>by have h:=zfc _ _ X W' (HY5.out.below hb) HSm.out.i HSm.out.n; rw [hbv] at h; exact h)
     have c3P:=zbl WC (fun W' hb=>by have h:=zfo _ _ X W' (HY5.out.below hb) HSm.out.i HSm.out.n; rw [hbv] at h; exact h)
     have r0:=cell_regrown x0; have r1:=cell_regrown x1; have r2:=cell_regrown x2; have t0:=cell_regrown y0; have t1:=cell_regrown y1; have t2:=cell_regrown y2;have B5:=zi5 b5;clear hWC bC hY1 hX2 b5 hbx hby hbv HX1 HEx HEx4 HEy B3 B4;refine wp_region_quiet_below (by kernel_rfl) (by kernel_rfl) ?_;repeat (go_big_quiet_step (first | with_reducible exact c1P _ _ | with_reducible exact c2P _ _ | with_reducible exact c3P _ _))
     refine wpQuiet_nil ?_;intro w6 hw'
     have hb2:Below WC.heap.size WC w6:=by
      obtain ⟨⟨dq,osq⟩,hw''⟩:=hw';rw [hw'']; exact below_regrown WC dq osq
     have HM6:=zi5 (HMj.out.trans ((Moved.start Kj.out.m.deck).below (B5.out.trans (hb2.mono B5.out.size))));clear hw' hb2 c1P c2P c3P r0 r1 r2 t0 t1 t2 x0 x1 x2 y0 y1 y2;go_wp2_with fail
     go_roundw
     case rel=>exact ⟨j + 1,by omega,by go_num,HM6.out⟩
     case measure=>simp [intOf]; omega
    ·have hq2:decide ((j:Int) < 2) = false:=by simp; omega
     have HM2:=zi5 (HMQ.out.trans mj);obtain ⟨⟨LA,ea⟩,hA⟩:∃ p,zhh s P key R = p:=⟨_,rfl⟩;have hsa:=small_all s P key R;rw [hA] at hsa;have HA:=zi5 hA; have HSa:=zi5 hsa;have d1:(ea != ea) = false:=by simp
     obtain ⟨p0,p1,p2,p3⟩:=zan Kj.out.y; obtain ⟨k0,k1⟩:=zak Kj.out.k;have LY:=zaa Kj.out.y; have LK:=zaa Kj.out.k;clear mj hA hsa HRS HSR HQl KQ HPQ HMQ HMj;go_wp2_with fail
     refine (eall_any S (Off D) _ _ _ _ _ s P _ key R _ Kj.out.sa HPj.out.any Kj.out.rs HPI.out (by omega) HRs.out HRn.out (by omega)).mono ?_;rw [HA.out];rintro e w3 ⟨va,rfl,hva,hb⟩;obtain ⟨aa,ca,rfl⟩:=hva.slice;have B3:=zi5 hb; have HV:=zi5 hva;dsimp only at HV ⊢;clear hva hb p0 p1 p2 p3 k0 k1;obtain ⟨p0,p1,p2,p3⟩:=zan (zab B3.out LY Kj.out.y); obtain ⟨k0,k1⟩:=zak (zab B3.out LK Kj.out.k);go_wp2_with fail
     refine (rall16_any S (Off D) _ _ _ _ _ s P _ key R _ (Kj.out.sa.below B3.out) (HPj.out.below B3.out).any (Kj.out.rs.below B3.out) HPI.out (by omega) HRs.out HRn.out (by omega)).mono ?_;rw [HA.out];rintro e w4 ⟨va,rfl,hva,hb⟩;obtain ⟨ab,cb,rfl⟩:=hva.slice;have B3s:=zi5 B3.out.size; have B4:=zi5 (B3.out.trans (hb.mono B3.out.size)); have HU:=zi5 hva; have HV4:=zi5 (HV.out.below hb);dsimp only at HU ⊢;clear hva hb p0 p1 p2 p3 k0 k1 HV B3;have m4:Moved D WJ w4:=(Moved.start Kj.out.m.deck).below B4.out;have K4:=zi5 (Kj.out.moved m4); have HP4:=zi5 (HPj.out.movedD m4); have HM4:=zi5 (HM2.out.trans m4);clear m4 B4 LY LK HPj HM2;obtain ⟨p0,p1,p2,p3⟩:=zan K4.out.y; obtain ⟨k0,k1⟩:=zak K4.out.k; obtain ⟨x0,x1,x2⟩:=zai K4.out.x;clear p0 p1 p2 p3 k0 k1 x0 x1 x2;obtain ⟨C,hC,hCm,hCx⟩:=K4.out.rs;have hCl:C.length = R.length:=by rw [← hCm,List.length_map]
     obtain ⟨RR,hRR⟩:∃ L,R ++ [r] = L:=⟨_,rfl⟩;have hRRl:RR.length = R.length + 1:=by rw [← hRR]; simp
     have HRl:=zi5 (show (([]:List RV) ++ C ++ [(⟨r.id,r.ver,ra,r.vals.length,rc,r.vals⟩:RV)]).length = RR.length by rw [hRRl,List.nil_append,List.length_append,hCl]; rfl);have HRm:=zi5 (show (([]:List RV) ++ C ++ [(⟨r.id,r.ver,ra,r.vals.length,rc,r.vals⟩:RV)]).map pR = RR by rw [List.nil_append,List.map_append,hCm,← hRR]; rfl)
     have HRx:=zi5 (show ∀ x∈(([]:List RV) ++ C ++ [(⟨r.id,r.ver,ra,r.vals.length,rc,r.vals⟩:RV)]),Vec w4 (Off D) 1 za2 (.slice x.a x.n x.c) x.vals by
      intro x hx
      rcases List.mem_append.1 hx with h | h
      ·exact hCx x (by simpa using h)
      ·simp at h; subst h; exact K4.out.vv)
     have HRRs:=zi5 (show ∀ q∈RR,∀ x∈q.vals,x.length≤1000000 by
      intro q hq; rw [← hRR] at hq
      rcases List.mem_append.1 hq with h | h
      ·exact HRs.out q h
      ·simp at h; subst h; exact HRr.out.s6)
     have HRRn:=zi5 (show ∀ q∈RR,q.vals.length≤1000000 by
      intro q hq; rw [← hRR] at hq
      rcases List.mem_append.1 hq with h | h
      ·exact HRn.out q h
      ·simp at h; subst h; exact HRr.out.n6)
     obtain ⟨⟨LB,eb⟩,hLB⟩:∃ p,zhh s P key RR = p:=⟨_,rfl⟩;have hsb:=small_all s P key RR;rw [hLB] at hsb;have HLB:=zi5 hLB; have HSb:=zi5 hsb; have HC:=zi5 hC; have HPX:=zi5 HP4.out;have HCl:=zi5 hCl;have hRR6:RR.length≤1000000:=by omega
     have hb24:=zi5 hRR6;clear hC hCm hCx hRR hRRl hLB hsb hCl hRR6;skip;go_wp2_with fail
     skip;refine eexU w D Y W0 key r ra rc o oa oc S af at' an as' N cf nt ct nk cn ns cs s HSD HN arv crv R hN1 hN5 HRr hR4 HRR HSO _ _ P HPI hPl w4 K4 HPX C HC HCl.out RR HRl HRm HRx HRRs HRRn hb24.out LB eb HLB _ _ _ _ _ _ _ _ _ _ _ _ _ _ _ _ _ _ _ _ _ _ _ _ _ _ _ _ _ _ _ _ _ _ _ _ _ _ _ _ _ _ _ _ _ _ _ _ _ _ _ _ _ _ _ _ _ _ _ _ _ _ _ _ _ _ _ _ _ _ _ _ _ _ _ _ _ _ _ _ _ _ _ _ _ _ _ _ _ _ _ _ _ _ _ _ _ _ _ _ _ _ _ _ _ _ _ _ _ _ _ _ _ _ _ _ _ _ _ _ _ _ _ _ _ _ _ _ _ _ _ _ _ _ _ _ _ _ _ _ _ _ _ _ _ _ _ _ _ _ _ _ _ _ _ _ _ _ _ _ _ _ _ _ _ _ _ _ _ _ _ _ _ _ _ _ _ _ _ _ _ _ _ _ _ _ _ _ _ _ _ _ _ _ _ _ _ _ _ _ _ _ _ _ _ _ _ _ _ _ _ _ _ _ _ _ _ _ _ _ _ _ _ _ _ _ _ _ _ _ _ _ _ _ _ _ _ _ _ _ _ _ _ _ _ _ _ _ _ _ _ _ _ _ _ _ _ _ _ _ _ _ _ _ _ _ _ _ _ _ _ _ _ _ _ _ _ _ _ _ _ _ _ _ _ _ _ _ _ _ _ _ _ _ _ _ _ _ _ _ _ _ _ _ _ _ _ _ _ _ _ _ _ _ _ _ _ _ _ _ _ _ _ _ _ _ _ _ _ _ _ _ _ _ _ _ _ _ _ _ _ _ _ _ _ _ _ _ _ _ ?_;intro tl34 tl35 tl197 tl198 tl199 tl200 tl201 tl202 tl203 tl204 tl205 tl206 tl207 tl208 wx hR;obtain ⟨aU,cU,rfl,rfl,hU,mU⟩:=hR.out;clear hR;have zU:∀ b,w4.heap.size≤b→b≠D:=fun b h=>by have:=K4.out.m.deck.lt; omega
     have HUU:=zi5 hU; have HMU:=zi5 mU; have HZU:=zi5 zU;have K5:=zi5 (K4.out.moved mU); have HP5:=zi5 (HPX.out.movedD mU); have HC5:=zi5 (HC.out.movedD mU); have HRx5:=zi5 (show ∀ x∈(([]:List RV) ++ C ++ [(⟨r.id,r.ver,ra,r.vals.length,rc,r.vals⟩:RV)]),Vec wx (Off D) 1 za2 (.slice x.a x.n x.c) x.vals from fun x hx=>(HRx.out x hx).movedD mU)
     clear hU mU zU;obtain ⟨w5,hw5⟩:∃ u,u = wx:=⟨_,rfl⟩;subst hw5;skip;go_wp2_with fail
     skip;refine eexV w D Y W0 key r ra rc o oa oc S af at' an as' N cf nt ct nk cn ns cs s HSD HN arv crv R hN1 hN5 HRr hR4 HRR HSO _ _ P HPI hPl w5 K5 HP5 C HC5 HCl.out RR HRl HRm HRx5 HRRs HRRn hb24.out LB eb HLB _ _ _ _ _ _ _ _ _ _ _ _ _ _ _ _ _ _ _ _ _ _ _ _ _ _ _ _ _ _ _ _ _ _ _ _ _ _ _ _ _ _ _ _ _ _ _ _ _ _ _ _ _ _ _ _ _ _ _ _ _ _ _ _ _ _ _ _ _ _ _ _ _ _ _ _ _ _ _ _ _ _ _ _ _ _ _ _ _ _ _ _ _ _ _ _ _ _ _ _ _ _ _ _ _ _ _ _ _ _ _ _ _ _ _ _ _ _ _ _ _ _ _ _ _ _ _ _ _ _ _ _ _ _ _ _ _ _ _ _ _ _ _ _ _ _ _ _ _ _ _ _ _ _ _ _ _ _ _ _ _ _ _ _ _ _ _ _ _ _ _ _ _ _ _ _ _ _ _ _ _ _ _ _ _ _ _ _ _ _ _ _ _ _ _ _ _ _ _ _ _ _ _ _ _ _ _ _ _ _ _ _ _ _ _ _ _ _ _ _ _ _ _ _ _ _ _ _ _ _ _ _ _ _ _ _ _ _ _ _ _ _ _ _ _ _ _ _ _ _ _ _ _ _ _ _ _ _ _ _ _ _ _ _ _ _ _ _ _ _ _ _ _ _ _ _ _ _ _ _ _ _ _ _ _ _ _ _ _ _ _ _ _ _ _ _ _ _ _ _ _ _ _ _ _ _ _ _ _ _ _ _ _ _ _ _ _ _ _ _ _ _ _ _ _ _ _ _ _ _ _ _ _ _ _ _ _ _ _ _ _ _ _ _ _ _ _ _ _ _ ?_;intro ul36 ul37 ul209 ul210 ul211 ul212 ul213 ul214 ul215 ul216 ul217 ul218 ul219 ul220 wx hR;obtain ⟨aV,cV,rfl,rfl,hV,mV⟩:=hR.out;clear hR;have zU:∀ b,w5.heap.size≤b→b≠D:=fun b h=>by have:=K5.out.m.deck.lt; omega
     have zW:∀ b,WJ.heap.size≤b→b≠D:=fun b h=>by have:=Kj.out.m.deck.lt; omega
     have mUV:=HMU.out.trans mV;have hA1:=HV4.out.movedD zW mUV;have hA2:=(HU.out.weakenE (T:=fun b=>b≠D) fun b _ h=>zW b (by have:=B3s.out; omega)).movedD (fun b h=>h) mUV
     have hB1:=HUU.out.movedD HZU.out mV;have HA1:=zi5 hA1; have HA2:=zi5 hA2; have HB1:=zi5 hB1; have HB2:=zi5 hV;have HM6:=zi5 (HM4.out.trans mUV);have d2:(eb != eb) = false:=by simp
     clear hV mV zU zW mUV hA1 hA2 hB1 HV4 HU HUU HC5 HC HRx HRx5 HP5 HP4 HPX K5 K4;skip;go_wp2_with fail
     refine (zgy _ _ _ _ LA _ HA1.out HA2.out (by have:=HSa.out.1; omega) (fun e he=>(HSa.out.2 e he).n) (fun e he=>(HSa.out.2 e he).w)).mono ?_
     rintro e w7 ⟨rfl,hb⟩;have HB3:=zi5 (HB1.out.below hb); have HB4:=zi5 (HB2.out.below hb); have HM7:=zi5 (HM6.out.below hb);clear hb HA1 HA2;go_wp2_with fail
     refine (zgy _ _ _ _ LB _ HB3.out HB4.out (by have:=HSb.out.1; omega) (fun e he=>(HSb.out.2 e he).n) (fun e he=>(HSb.out.2 e he).w)).mono ?_
     rintro e w8 ⟨rfl,hb⟩;have HM8:=zi5 (HM7.out.below hb);clear hb HB3 HB4;go_wp2_with fail
     go_roundw
     case rel=>exact ⟨k + 1,by omega,by go_num,HM8.out⟩
     case measure=>simp [intOf]; omega
  ·have hq:decide ((k:Int) < 4) = false:=by simp; omega
   have hfin:=zi5 mk;clear mk HMk Kk;go_wp2_with fail
   first | exact hfin | exact hK _ _ _ _ _ _ _ _ _ _ _ _ _ _ _ _ _ _ _ _ _ _ _ _ _ _ _ _ _ _ _ _ _ _ _ _ _ _ _ _ _ _ _ _ _ _ _ _ _ _ _ _ _ _ _ _ _ _ _ _ _ _ _ _ _ _ _ _ _ _ _ _ _ _ _ _ _ _ _ _ _ _ _ _ _ _ _ _ _ _ _ _ _ _ _ _ _ _ _ _ _ _ _ _ _ _ _ _ _ _ _ _ _ _ _ _ _ _ _ _ _ _ _ _ _ _ _ _ _ _ _ _ _ _ _ _ _ _ _ _ _ _ _ _ _ _ _ _ _ _ _ _ _ _ _ _ _ _ _ _ _ _ _ _ _ _ _ _ _ _ _ _ _ _ _ _ _ _ _ _ _ _ _ _ _ _ _ _ _ _ _ _ _ _ _ _ _ _ _ _ _ _ _ _ _ _ _ _ _ _ _ _ _ _ _ _ _ _ _ _ _ _ _ _ _ _ _ _ _ _ _ _ _ _ _ _ _ _ _ _ _ _ _ _ _ _ _ _ _ _ _ _ _ _ _ _ _ _ _ _ _ _ _ _ _ _ _ _ _ _ _ _ _ _ _ _ _ _ _ _ _ _ _ _ _ _ _ _ _ _ _ _ _ _ _ _ _ _ _ _ _ _ _ _ _ _ _ _ _ _ _ _ _ _ _ _ _ _ _ _ _ _ _ _ _ _ _ _ _ _ _ _ _ _ _ _ _ _ _ _ _ _ _ _ hfin
end
end Go.Proofs.YtpmpdonccgcehaaGreatDoor
