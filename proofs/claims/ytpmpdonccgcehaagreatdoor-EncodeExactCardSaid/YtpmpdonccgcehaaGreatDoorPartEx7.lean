/- Parts of one proof: BackPlain, EncI, EncJ, EncLaw, BackLaw, EexC, AwG, EncAwake, DeckPar, EncM, RefBitsA, RefBitsC, AddPlain, BRow, RefBitsD, RefBitsE, RefSipA, RefSipB, RefSipC, Ref16A, RefBloomA, Ref16B. -/
import Derived.Test.YtpmpdonccgcehaaGreatDoorPartEx6
set_option maxHeartbeats 16000000
set_option maxRecDepth 100000
open Go.Proofs.Tryz
set_option linter.unusedSimpArgs false
set_option linter.unusedVariables false
namespace Go.Proofs.YtpmpdonccgcehaaGreatDoor
section
def zbj:List (List UInt8)→Option (List BitsL)
 | []=>some []
 | t :: l=>match zgs t with
  | none=>none
  | some b=>match zbj l with
   | none=>none
   | some m=>some (b :: m)
def zdu (t:List UInt8) (x:EncL):Option EncL:=if zbd x = true∧zey x = t then some x else none
def zek (t:List UInt8):Option EncL :=
 if (zgx 32 [] t).length < 2 then none else
 match zbj ((zgx 32 [] t).drop 2) with
 | none=>none
 | some fs=>zdu t ⟨zfm ((zgx 32 [] t).getD 0 []),zfm ((zgx 32 [] t).getD 1 []),fs⟩
theorem layH_lt:∀ (l:List UInt8) (W:List Nat) (i:Nat),(∀ n∈W,n < 18446744073709551616)→∀ n∈layH W i l,n < 18446744073709551616
 | [],W,i,h=>h
 | c :: l,W,i,h=>by
  rw [layH]
  refine layH_lt l _ _ fun n hn=>?_
  rcases List.mem_or_eq_of_mem_set hn with h1 | h1
  ·exact h n h1
  ·rw [h1]; unfold zcu; exact Nat.mod_lt _ (by decide)
theorem layH_size (l:List UInt8):∀ (W:List Nat) (i:Nat),(layH W i l).length = W.length:=by
 induction l with
 | nil=>intro W i; rfl
 | cons c l ih=>intro W i; rw [layH,ih,List.length_set]
theorem parseB_in {t:List UInt8} {b:BitsL} (h:zc0 t = some b):zbv b = true∧WordsOk b:=by
 unfold zc0 at h;split at h
 ·next hr =>
  split at h
  ·cases h
   have hr':=hr;unfold zb6 at hr';simp only [Bool.and_eq_true,decide_eq_true_eq,beq_iff_eq] at hr'
   refine ⟨?_,fun x hx=>?_⟩
   ·unfold zbv
    dsimp only;rw [hr,Bool.true_and,beq_iff_eq,List.length_map,layH_size,List.length_replicate];omega
   ·obtain ⟨n,hn,rfl⟩:=List.mem_map.1 hx
    have:=layH_lt t (List.replicate (t.length / 16) 0) 0 (fun n hn=>by rw [List.eq_of_mem_replicate hn]; decide) n hn
    omega
  ·cases h
 ·cases h
theorem readE_in {t:List UInt8} {b:BitsL} (h:zgs t = some b):HexIn b∧zhi b:=by
 unfold zgs at h;split at h
 ·cases h; exact ⟨⟨⟨by decide,by decide⟩,fun h=>by rw [noBits_bad] at h; cases h⟩,.inl rfl⟩
 ·obtain ⟨h1,h2⟩:=parseB_in h
  exact ⟨⟨valid_in h1,fun _=>h2⟩,.inr ⟨h1,h2⟩⟩
theorem zhm:∀ (l:List (List UInt8)) (fs:List BitsL),zbj l = some fs→fs.length = l.length∧∀ b∈fs,HexIn b
 | [],fs,h=>by cases h; exact ⟨rfl,fun b hb=>by simp at hb⟩
 | t :: l,fs,h=>by
  unfold zbj at h;split at h
  ·cases h
  ·next b hb =>
   split at h
   ·cases h
   ·next m hm =>
    cases h;obtain ⟨h1,h2⟩:=zhm l m hm
    refine ⟨by simp [h1],fun c hc=>?_⟩
    rcases List.mem_cons.1 hc with rfl | h3
    ·exact (readE_in hb).1
    ·exact h2 c h3
theorem zgi:∀ (F:List BitsL),(∀ b∈F,zhi b)→zbj (F.map zd9) = some F
 | [],_=>rfl
 | b :: F,h=>by
  rw [List.map_cons,zbj,readE_word (h b List.mem_cons_self),zgi F fun c hc=>h c (List.mem_cons_of_mem _ hc)]
theorem eparse_line {x:EncL} (h:zbd x = true) (hb:∀ b∈x.fields,zhi b):zek (zey x) = some x:=by
 have h':=h;unfold zbd at h';simp only [Bool.and_eq_true,decide_eq_true_eq] at h';unfold zek;rw [line_words];have hl:¬ (zbg x).length < 2:=by unfold zbg; simp
 rw [if_neg hl];have h1:(zbg x).drop 2 = x.fields.map zd9:=rfl;have h2:(zbg x).getD 0 [] = Lib.decDigits x.id.toNat:=rfl;have h3:(zbg x).getD 1 [] = Lib.decDigits x.ver.toNat:=rfl;rw [h1,h2,h3,zgi _ hb,atoiV_digits (by omega),atoiV_digits (by omega)]
 have h4:(⟨((x.id.toNat:Nat):Int),((x.ver.toNat:Nat):Int),x.fields⟩:EncL) = x:=by
  obtain ⟨i,j,F⟩:=x;dsimp only at h' ⊢;rw [Int.toNat_of_nonneg (by omega),Int.toNat_of_nonneg (by omega)]
 dsimp only;rw [h4];unfold zdu;rw [if_pos ⟨h,rfl⟩]
theorem eparse_back {t:List UInt8} {x:EncL} (h:zek t = some x):zbd x = true∧zey x = t∧∀ b∈x.fields,HexIn b:=by
 unfold zek at h;split at h
 ·cases h
 ·split at h
  ·cases h
  ·next fs hf =>
   unfold zdu at h;split at h
   ·next hc=>cases h; exact ⟨hc.1,hc.2,(zhm _ _ hf).2⟩
   ·cases h
end
section
open Go.RowKit Cal
attribute [local go_sem] zah zaj zaq
def ReadEPost (t:List UInt8) (w:World) (e:Ending) (w':World):Prop :=
 ∃ v,e = .returned (.tuple #[v,.int .i64 (errO (zgs t))])∧BitsAt w' (fun b=>w.heap.size≤b) v ((zgs t).getD zba)∧Below w.heap.size w w'
theorem eread_any (i:Int) (t:List UInt8) (w:World) (ht:t.length≤1000000000):Calls prog 88 #[.int .i64 i,zal t] w (ReadEPost t w):=by
 unfold ReadEPost zgs;by_cases h:t = [45]
 ·subst h
  rw [if_pos rfl];go_enter func88,ntmps88
  go_wp2_with fail
  exact zag rfl rfl (zac rfl) underlying78 rfl (by kernel_rfl)
   ⟨_,rfl,BitsAt.none _ _,(Below.refl w.heap.size w).alloc xnl _⟩
 ·rw [if_neg h]
  have d:(t == [45]) = false:=by simpa using h
  have hcall:=fun w=>bparse_any t w ht
  unfold zd6 at hcall;obtain ⟨P,hP⟩:∃ P,zc0 t = P:=⟨_,rfl⟩;rw [hP] at hcall ⊢;have HC:=zi5 hcall;clear hcall hP h;go_enter func88,ntmps88
  go_wp2_with fail
  refine zae (fun W hW=>?_)
  have hb0:=xal hW
  have hz0:W.heap[w.heap.size]? = some (.cells #[.int .i64 0,.slice none 0 0] 78 (0,0)):=by rw [hW]; exact zac rfl
  clear hW;refine (HC.out W).mono ?_;rintro e w1 ⟨v,rfl,hv,hb⟩;obtain ⟨c,rfl,hA⟩:=hv.form;obtain ⟨cl,ca,cn,cc⟩:=c;have hz1:=zab hb (zaa hz0) hz0;have HB1:=zi5 (hb0.trans (hb.mono hb0.size)); have HZ1:=zi5 hz1; have HA:=zi5 hA;have hzs:=zaa hz0;obtain ⟨z0,z1⟩:=zak hz1;have f0:=frozen_of_row _ _ 0 _ _ hz1; have f1:=frozen_of_row _ _ 1 _ _ hz1;have lz:=zaa hz1;clear hb hb0 hz0 hz1 hv hA;go_wp2_with fail
  refine zag rfl rfl (zad (i:=1) (v:=.slice ca cn cc) (zad (i:=0) (v:=.int .i64 cl) HZ1.out)) underlying78 rfl (by kernel_rfl)
   ⟨_,rfl,?_,(HB1.out.setCell (p:=⟨w.heap.size,0,none⟩) xnl _).setCell (p:=⟨w.heap.size,1,none⟩) xnl _⟩
  obtain ⟨s,es,hvec⟩:=HA.out
  refine ⟨s,es,hvec.move (by simp [World.setCell]) fun b hb hs=>?_⟩
  have hs':W.heap.size≤b:=hs;exact ⟨(heap_setCell_other _ _ _ _ (by show b≠w.heap.size; omega)).trans (heap_setCell_other _ _ _ _ (by show b≠w.heap.size; omega)),by show w.heap.size≤b; omega⟩
theorem readAll_bad {t:List UInt8} {l:List (List UInt8)} (h:zgs t = none):zbj (t :: l) = none:=by rw [zbj,h]
theorem zg1 {t:List UInt8} {l:List (List UInt8)} {b:BitsL} (h:zgs t = some b) (M:List BitsL):(zbj (t :: l)).map (M ++ ·) = (zbj l).map ((M ++ [b]) ++ ·):=by
 rw [zbj,h];cases zbj l with
 | none=>rfl
 | some m=>simp
def EachEPost (L:List (List UInt8)) (w:World) (e:Ending) (w':World):Prop :=
 ∃ v,e = .returned (.tuple #[v,.int .i64 (errO (zbj L))])∧BitsVec w' (fun x=>w.heap.size≤x) v ((zbj L).getD [])∧Below w.heap.size w w'
theorem BitsVec.nil (w:World) (S:Nat→Prop):BitsVec w S (.slice none 0 0) []:=⟨[],Vec.nil _ _ _ _,rfl,fun n h1 _=>by simp at h1⟩
theorem eeach_any (S:Nat→Prop) (v:Value) (L:List (List UInt8)) (w:World) (h:Vec w S 1 za2 v L) (hl:∀ t∈L,t.length≤1000000000) (hn:L.length≤1000000) :
  Calls prog 87 #[v,.func (.func 88) #[] #[]] w (EachEPost L w):=by
 unfold EachEPost;obtain ⟨a,cap,rfl⟩:=h.slice;obtain ⟨P,hP⟩:∃ P,zbj L = P:=⟨_,rfl⟩;rw [hP]
 have h0:(zbj (L.drop 0)).map (([]:List BitsL) ++ ·) = P:=by
  rw [List.drop_zero,hP];cases P <;> rfl
 have HV:=zi5 h.any; have HL:=zi5 hl; have H0:=zi5 h0;clear h hl hP h0;go_enter func87,ntmps87
 go_wp2_with fail
 go_loopw [6,7,8,9,10,13] (fun v _ _ _ _ i wr=>∃ (j:Nat) (C:List BV) (M:List BitsL),i = .int .i64 j∧j≤L.length∧C.length = j∧OwnV 78 2 zbp w v C wr∧BitsAll wr (zgr w.heap.size v) C M∧Hid ((zbj (L.drop j)).map (M ++ ·) = P)) (fun _ _ _ _ _ i _=>L.length - (intOf i).toNat)
 case atStart=>exact ⟨0,[],[],rfl,by omega,rfl,OwnV.start _ _ _ _,⟨rfl,fun n h1 _=>by simp at h1⟩,H0⟩
 case round =>
  obtain ⟨j,C,M,rfl,hj,hCl,ho,hba,hM⟩:=hrel;have HO:=zi5 ho; have HBA:=zi5 hba; have HCl:=zi5 hCl;clear ho hba hCl;by_cases hlt:j < L.length
  ·have hq:decide ((j:Int) < L.length) = true:=by simp; omega
   have hji:(j:Int) < (L.length:Int):=by omega
   have hM1:=hM.out;rw [List.drop_eq_getElem_cons hlt] at hM1;obtain ⟨t,ht⟩:∃ t,L[j] = t:=⟨_,rfl⟩;have htl:=HL.out t (by rw [← ht]; exact List.getElem_mem _);obtain ⟨b,off,rfl,hb,hc⟩:=(HV.out.below HO.out.2).get j hlt;rw [ht] at hc hM1;have c0:=hc 0 _ rfl;rw [Nat.mul_one,Nat.add_zero] at c0;have hcall:=fun w=>eread_any (j:Int) t w htl
   unfold ReadEPost at hcall;cases hre:zgs t with
   | none =>
    rw [readAll_bad hre] at hM1;have hPn:P = none:=hM1.symm;rw [hre] at hcall;have HC:=zi5 hcall; have HPn:=zi5 hPn;clear hcall hM1 hM hPn hre hc ht;go_wp2_with fail
    refine (HC.out _).mono ?_;rintro e w1 ⟨vb,rfl,hvb,hb1⟩;obtain ⟨c,rfl,hcb⟩:=hvb.form;obtain ⟨cl,ca,cn,cc⟩:=c;have HBx:=zi5 (HO.out.2.trans (hb1.mono HO.out.2.size));have d14:((14:Int) != 0) = true:=rfl;clear hvb hcb hb1 c0;have e14:errO (none:Option BitsL) = 14:=rfl;rw [e14];go_wp2_with fail
    go_ret2;rw [HPn.out];exact ⟨_,rfl,BitsVec.nil _ _,HBx.out.alloc HBx.out.size _⟩
   | some bb =>
    rw [zg1 hre] at hM1
    have hcall2:∀ w,Calls prog 88 #[.int .i64 (j:Int),zal t] w fun e w'=>∃ v,e = .returned (.tuple #[v,.int .i64 0])∧BitsAt w' (fun b=>w.heap.size≤b) v bb∧Below w.heap.size w w':=by
     intro w;refine (hcall w).mono ?_;rintro e w' ⟨v,he,h1,h2⟩;rw [hre] at he h1;exact ⟨v,he,h1,h2⟩
    have HC:=zi5 hcall2; have HM:=zi5 hM1;clear hcall hcall2 hM1 hM hre hc ht;have dz:((0:Int) != 0) = false:=rfl;go_wp2_with fail
    refine (HC.out _).mono ?_;rintro e w1 ⟨vb,rfl,hvb,hb2⟩;obtain ⟨c,rfl,hcb⟩:=hvb.form;have hwz:=HO.out.2.size;have hb3:Below wr.heap.size wr ((w1.alloc (.cells (zbp c).toArray 78)).alloc (.cells (zbp c).toArray 78)):=(hb2.alloc hb2.size _).alloc (by have:=hb2.size; simp; omega) _;have HO2:=zi5 (HO.out.below hb3);have HR2:=zi5 (show zco ((w1.alloc (.cells (zbp c).toArray 78)).alloc (.cells (zbp c).toArray 78)) 2 (.slice (some ⟨w1.heap.size + 1,0,none⟩) 1 1) [c].length ([c].flatMap zbp) from zav (xs:=[c].flatMap zbp) (fr:=(0,0)) (t:=78) (zac (by simp)) rfl)
    have hown6:∀ x,wr.heap.size≤x→some x≠u6.ownBlock:=by
     intro x hx
     rcases HO.out.1.2 with ⟨h0,_⟩ | ⟨g,cap,cur,h0,hg,hh,_⟩
     ·rw [h0]; simp [Value.ownBlock]
     ·rw [h0]; have:=zaa hh; simp [Value.ownBlock]; omega
    have HCB:=zi5 (BitsAt.weaken (T:=fun x=>some x≠u6.ownBlock∧w.heap.size≤x) hcb (fun x hx=>⟨hown6 x hx,by have hx':wr.heap.size≤x:=hx; omega⟩))
    have HBA2:=zi5 (HBA.out.below hb2);have hcn:C.length + [c].length≤1000000000:=by rw [HCl.out]; simp only [List.length_cons,List.length_nil]; omega
    have HB3:=zi5 hb3;obtain ⟨cl,ca,cn,cc⟩:=c;clear hvb hb2 hb3 hcb c0;go_wp2_with (at_builtin; refine zbq rfl (.tmp 28) (.tmp 30) 30 rfl 78 (.agg #[.int .i64 0,.slice none 0 0]) 2 32 zbp (fun _=>rfl) zf7 underlying30 zhq rfl (by decide) (by decide) (w0:=w) (v:=u6) (A:=C) (B:=[⟨cl,ca,cn,cc⟩]) rfl HO2.out rfl HR2.out hcn ?_; intro v2 w2 ho2 hk2 hz2 hat2)
    have hba:BitsAll w1 (fun x=>some x≠u6.ownBlock∧w.heap.size≤x) (C ++ [⟨cl,ca,cn,cc⟩]) (M ++ [bb]):=(HBA2.out.weaken fun x hx=>⟨hx.2,hx.1⟩).snoc HCB.out
    go_roundw
    case rel =>
     refine ⟨j + 1,C ++ [⟨cl,ca,cn,cc⟩],M ++ [bb],by go_num,by omega,by rw [List.length_append,HCl.out]; rfl,ho2,hba.move ?_ ?_,HM⟩
     ·simp at hz2; omega
     ·intro x hx hS
      obtain ⟨q1,q2⟩:=hS;refine ⟨?_,q2,?_⟩
      ·obtain ⟨ob,hob⟩:∃ ob,w1.heap[x]? = some ob:=⟨_,Array.getElem?_eq_getElem hx⟩
       rw [hob];exact hk2 x ob q1 (zaf (zaf hob))
      ·rcases hat2 with h1 | h1 | h1
       ·rw [h1]; simp
       ·rw [← h1]; exact q1
       ·rw [h1]; simp; omega
    case measure=>simp [intOf]; omega
  ·have hq:decide ((j:Int) < L.length) = false:=by simp; omega
   obtain rfl:j = L.length:=by omega
   have hM1:=hM.out;rw [List.drop_length] at hM1;have hPs:P = some M:=by rw [← hM1]; simp [zbj]
   subst hPs;clear hM1 hM;go_wp2_with fail
   go_ret2;exact ⟨_,rfl,⟨C,(OwnV.vec (size:=2) (enc:=zbp) (fun _=>rfl) HO.out),HBA.out.weaken fun x hx=>hx.1⟩,HO.out.2⟩
end
section
open Go.RowKit Cal
attribute [local go_sem] zah zaj zaq
def noEnc:EncL:=⟨0,0,[]⟩
theorem splC_mem (c:UInt8):∀ (l p:List UInt8) (t:List UInt8),t∈zgx c p l→t.length≤p.length + l.length
 | [],p,t,h=>by simp [zgx] at h; subst h; simp
 | x :: r,p,t,h=>by
  rw [zgx] at h;split at h
  ·rcases List.mem_cons.1 h with rfl | h1
   ·simp
   ·have:=splC_mem c r [] t h1; simp at this; simp; omega
  ·have:=splC_mem c r (p ++ [x]) t h; simp at this; simp; omega
theorem splC_few (c:UInt8):∀ (l p:List UInt8),(zgx c p l).length≤l.length + 1
 | [],p=>by simp [zgx]
 | x :: r,p=>by
  rw [zgx];split
  ·have:=splC_few c r []; simp; omega
  ·have:=splC_few c r (p ++ [x]); simp; omega
def zi3 (t:List UInt8) (w:World) (e:Ending) (w':World):Prop :=
 ∃ v,e = .returned (.tuple #[v,.int .i64 (errO (zek t))])∧EncVal w' (fun b=>w.heap.size≤b) v ((zek t).getD noEnc)∧Below w.heap.size w w'
theorem EncVal.none (w:World) (S:Nat→Prop):EncVal w S (.agg #[.int .i64 0,.int .i64 0,.slice none 0 0]) noEnc:=⟨_,rfl,BitsVec.nil _ _⟩
theorem RowB.from2 {w:World} {A:Nat} {L:List (List UInt8)} (h:RowB w A L) (h2:2 < L.length) (c:Nat) (hc:L.length - 2≤c):Vec w zaw 1 za2 (.slice (some ⟨A,2,none⟩) (L.length - 2) c) (L.drop 2):=by
 refine ⟨_,c,by rw [List.length_drop],by rw [List.length_drop]; exact hc,fun h0=>⟨A,2,rfl,trivial,zaa h,fun j x hj i u hu=>?_⟩⟩
 have hi:i = 0∧u = zal x:=by
  cases i with
  | zero=>exact ⟨rfl,by simpa [za2] using hu.symm⟩
  | succ i=>simp [za2] at hu
 obtain ⟨rfl,rfl⟩:=hi;rw [List.getElem?_drop] at hj;have hlt:2 + j < L.length:=(List.getElem?_eq_some_iff.1 hj).1;have:=RowB.cell h (2 + j) hlt;rw [show L.getD (2 + j) [] = x by simp [List.getD,hj]] at this;rw [Nat.mul_one,Nat.add_zero]; exact this
theorem eparse_any (t:List UInt8) (w:World) (hvr:VarsAt w) (ht:t.length≤100000):Calls prog 30 #[zal t] w (zi3 t w):=by
 have hsz:=fun x hx=>splC_mem 32 t [] x hx
 have hfw:=splC_few 32 t [];obtain ⟨R,hR⟩:∃ R,zek t = R:=⟨_,rfl⟩;obtain ⟨L,hL⟩:∃ L,zgx 32 [] t = L:=⟨_,rfl⟩;unfold zi3;rw [hR];unfold zek at hR;rw [hL] at hR hsz hfw;have HVr:=zi5 hvr; have HL:=zi5 hL; have HSz:=zi5 hsz; have HR:=zi5 hR;clear hvr hL hsz hR;go_enter func30,ntmps30
 go_wp2_with fail
 refine zae (fun W hW=>?_)
 have hb0:=xal hW
 have hz0:W.heap[w.heap.size]? = some (.cells #[.int .i64 0,.int .i64 0,.slice none 0 0] 32 (0,0)):=by rw [hW]; exact zac rfl
 clear hW;refine (split_any 32 t W (HVr.out.old hb0).m (by omega)).mono ?_;rw [HL.out];rintro e w1 ⟨rfl,hrow,hb⟩;have hz1:=zab hb (zaa hz0) hz0;have HB1:=zi5 (hb0.trans (hb.mono hb0.size)); have HZ1:=zi5 hz1; have HRow:=zi5 hrow;have zW:=hb0.size; have zh:=zaa hz0;clear hb hb0 hz0 hz1 hrow;by_cases h2:L.length < 2
 ·have d2:decide ((L.length:Int) < 2) = true:=by simp; omega
  have hRn:=HR.out;rw [if_pos h2] at hRn;subst hRn;obtain ⟨z0,z1,z2⟩:=zai HZ1.out;have f0:=frozen_of_row _ _ 0 _ _ HZ1.out; have f1:=frozen_of_row _ _ 1 _ _ HZ1.out; have f2:=frozen_of_row _ _ 2 _ _ HZ1.out;have lz:=zaa HZ1.out;clear h2;go_wp2_with fail
  refine zag rfl rfl (zad (i:=2) (v:=.slice none 0 0) (zad (i:=1) (v:=.int .i64 0) (zad (i:=0) (v:=.int .i64 0) HZ1.out))) underlying32 rfl (by kernel_rfl)
   ⟨_,rfl,EncVal.none _ _,((HB1.out.setCell (p:=⟨w.heap.size,0,none⟩) xnl _).setCell (p:=⟨w.heap.size,1,none⟩) xnl _).setCell (p:=⟨w.heap.size,2,none⟩) xnl _⟩
 ·have d2:decide ((L.length:Int) < 2) = false:=by simp; omega
  have hRn:=HR.out;rw [if_neg h2] at hRn;have HR2:=zi5 hRn;have c0:=RowB.cell HRow.out 0 (by omega);have c1:=RowB.cell HRow.out 1 (by omega);obtain ⟨x,hx⟩:∃ x,L.getD 0 [] = x:=⟨_,rfl⟩;obtain ⟨y,hy⟩:∃ y,L.getD 1 [] = y:=⟨_,rfl⟩;have hxl:x.length≤1000000000:=by have:=HSz.out (L.getD 0 []) (by rw [zbi _ _ (show 0 < L.length by omega)]; exact List.getElem_mem _); rw [hx] at this; simp at this; omega
  have hyl:y.length≤1000000000:=by have:=HSz.out (L.getD 1 []) (by rw [zbi _ _ (show 1 < L.length by omega)]; exact List.getElem_mem _); rw [hy] at this; simp at this; omega
  rw [hx,hy] at HR2;rw [hx] at c0; rw [hy] at c1;have i0:(0:Int) < (L.length:Int):=by omega
  have i1:(1:Int) < (L.length:Int):=by omega
  have i2:(2:Int)≤(L.length:Int):=by omega
  have hv1:=HVr.out.old HB1.out;have lrow:=zaa HRow.out;clear hRn hx hy HR;go_wp2_with fail
  refine (atoi_any x hxl _ hv1).mono ?_;rintro e w2 ⟨⟨e2,rfl⟩,hb2⟩;have c1':=(hb2.cell (p:=⟨W.heap.size,1,none⟩) lrow).trans c1;have hz2:=zab hb2 (zaa HZ1.out) HZ1.out;have HRow2:=zi5 (show RowB w2 W.heap.size L from zab hb2 lrow HRow.out);have HB2:=zi5 (HB1.out.trans (hb2.mono HB1.out.size)); have HZ2:=zi5 hz2;have hv2:=HVr.out.old HB2.out;have lrow2:=zaa HRow2.out;clear hb2 hz2 hv1 c0 c1 HZ1 HRow;go_wp2_with fail
  refine (atoi_any y hyl _ hv2).mono ?_;rintro e w3 ⟨⟨e3,rfl⟩,hb3⟩;have hz3:=zab hb3 (zaa HZ2.out) HZ2.out;have HRow3:=zi5 (show RowB w3 W.heap.size L from zab hb3 lrow2 HRow2.out);have HB3:=zi5 (HB2.out.trans (hb3.mono HB2.out.size)); have HZ3:=zi5 hz3;clear hb3 hz3 hv2 c1' HZ2 HRow2;have hv3:=HVr.out.old HB3.out;have HV3:=zi5 hv3;have hdl:∀ u∈L.drop 2,u.length≤1000000000:=fun u hu=>by have:=HSz.out u (List.mem_of_mem_drop hu); simp at this; omega
  have hdn:(L.drop 2).length≤1000000:=by rw [List.length_drop]; omega
  obtain ⟨P,hP⟩:∃ P,zbj (L.drop 2) = P:=⟨_,rfl⟩;have hR2:=HR2.out;rw [hP] at hR2;have hPin:=fun fs h=>(zhm (L.drop 2) fs (hP.trans h))
  have hPl:(P.getD []).length≤1000000∧∀ b∈P.getD [],HexIn b:=by
   cases hPP:P with
   | none=>exact ⟨by decide,fun b hb=>by cases hb⟩
   | some fs =>
    obtain ⟨h1,h2⟩:=hPin fs hPP;exact ⟨by show fs.length≤_; rw [h1]; exact hdn,h2⟩
  obtain ⟨M,hM⟩:∃ M,P.getD [] = M:=⟨_,rfl⟩;rw [hM] at hPl
  have hfin:(errO P = 14∧R = none)∨(errO P = 0∧R = zdu t ⟨zfm x,zfm y,M⟩):=by
   cases hPP:P with
   | none=>rw [hPP] at hR2; exact .inl ⟨rfl,hR2.symm⟩
   | some fs=>rw [hPP] at hR2 hM; obtain rfl:fs = M:=hM; exact .inr ⟨rfl,hR2.symm⟩
  have HFin:=zi5 hfin; have HPl:=zi5 hPl; have HM:=zi5 hM; have HPP:=zi5 hP;have heach:=fun v h=>eeach_any zaw v (L.drop 2) w3 h hdl hdn
  unfold EachEPost at heach;rw [hP,hM] at heach;have HE:=zi5 heach;clear hv3 hR2 HR2 hPin hPl hM hfin hP heach hdl hdn;have hcase:L.length = 2∨2 < L.length:=by omega
  obtain ⟨Z,hZ⟩:∃ Z:EncL,(⟨zfm x,zfm y,M⟩:EncL) = Z:=⟨_,rfl⟩
  rcases hcase with hl2 | hl2
  ·have hvec:Vec w3 zaw 1 za2 (.slice (some ⟨W.heap.size,0,none⟩) 0 0) (L.drop 2):=by
    rw [List.drop_eq_nil_of_le (by omega)];exact ⟨_,0,rfl,by simp,by simp⟩
   have HVec:=zi5 hvec;clear hvec;go_wp2_with fail
   refine (HE.out _ HVec.out).mono ?_;rintro e w4 ⟨_,rfl,hbv,hb⟩;obtain ⟨av,cv,rfl⟩:=hbv.slice;have hz4:=zab hb (zaa HZ3.out) HZ3.out;have HB4:=zi5 (HB3.out.trans (hb.mono HB3.out.size)); have HZ4:=zi5 hz4;have HBV:=zi5 (hbv.move (w':=w4) (T:=fun b=>w.heap.size < b) xnl fun b _ hs=>⟨rfl,by have hs':w3.heap.size≤b:=hs; have h1:=HB3.out.size; have h2:=zaa HZ3.out; show w.heap.size < b; omega⟩)
   have HV4:=zi5 (HV3.out.old hb);clear hb hbv hz4 hl2 HVec HRow3;go_wp2_with fail
   refine zae (fun W5 hW5=>?_)
   have hb5:=xal hW5
   have hx5:W5.heap[w4.heap.size]? = some (.cells #[.int .i64 (zfm x),.int .i64 (zfm y),.slice av M.length cv] 32 (0,0)):=by rw [hW5]; exact zac rfl
   clear hW5;have hln:=eline_any zaw (.agg #[.int .i64 (zfm x),.int .i64 (zfm y),.slice av M.length cv]) Z W5 (by rw [← hZ]; exact ⟨_,rfl,(HBV.out.below hb5).move (T:=zaw) xnl fun b hb _=>⟨rfl,trivial⟩⟩) (HV4.out.old hb5) (by rw [← hZ]; exact HPl.out.2) (by rw [← hZ]; exact HPl.out.1)
   refine hln.mono ?_;rintro e w6 ⟨rfl,hb⟩;have hx6:=zab hb (zaa hx5) hx5;have hz6:=zab hb (zaa (zab hb5 (zaa HZ4.out) HZ4.out)) (zab hb5 (zaa HZ4.out) HZ4.out);have HB6:=zi5 ((HB4.out.trans (hb5.mono HB4.out.size)).trans (hb.mono (Nat.le_trans HB4.out.size hb5.size)));have HBV6:=zi5 ((HBV.out.below hb5).below hb);have HX6:=zi5 hx6; have HZ6:=zi5 hz6; have HZZ:=zi5 hZ;obtain ⟨x0,x1,x2⟩:=zai hx6;obtain ⟨z0,z1,z2⟩:=zai hz6;have f0:=frozen_of_row _ _ 0 _ _ hz6; have f1:=frozen_of_row _ _ 1 _ _ hz6; have f2:=frozen_of_row _ _ 2 _ _ hz6;have lz:=zaa hz6; have lx:=zaa hx6
   have hbad:∀ ER,ER = (14:Int)→R = none→(fun e w'=>∃ v,e = Ending.returned (.tuple #[v,.int .i64 (errO R)])∧EncVal w' (fun b=>w.heap.size≤b) v (R.getD noEnc)∧Below w.heap.size w w') (.returned (.tuple #[.agg #[.int .i64 0,.int .i64 0,.slice none 0 0],.int .i64 ER])) (((w6.setCell ⟨w.heap.size,0,none⟩ (.int .i64 0)).setCell ⟨w.heap.size,1,none⟩ (.int .i64 0)).setCell ⟨w.heap.size,2,none⟩ (.slice none 0 0)):=fun ER h h'=>by
    subst h h';exact ⟨_,rfl,EncVal.none _ _,((HB6.out.setCell (p:=⟨w.heap.size,0,none⟩) xnl _).setCell (p:=⟨w.heap.size,1,none⟩) xnl _).setCell (p:=⟨w.heap.size,2,none⟩) xnl _⟩
   have HBad:=zi5 hbad;clear hb hb5 hx5 hx6 hz6 hln hbad HBV hZ
   rcases HFin.out with ⟨h14,hRn⟩ | ⟨h00,hRn⟩
   ·rw [h14]
    have d14:((14:Int) != 0) = true:=rfl;have HRn:=zi5 hRn;clear h14 hRn HFin HE;go_wp2_with fail
    exact zag rfl rfl (zad (i:=2) (v:=.slice none 0 0) (zad (i:=1) (v:=.int .i64 0) (zad (i:=0) (v:=.int .i64 0) HZ6.out))) underlying32 rfl (by kernel_rfl) (HBad.out _ rfl HRn.out)
   ·rw [h00]
    rw [HZZ.out] at hRn;have d00:((0:Int) != 0) = false:=rfl;unfold lineV zfe;unfold zdu at hRn;cases hev:zbd Z
    ·rw [if_neg (by rw [hev]; simp)] at hRn
     have HRn:=zi5 hRn;have d7:((7:Int) != 0) = true:=rfl;have hif1:(if (false = true) then zey Z else []) = ([]:List UInt8):=rfl;have hif2:(if (false = true) then (0:Int) else 7) = 7:=rfl;rw [hif1,hif2];clear h00 hRn HFin HE hev hif1 hif2;go_wp2_with fail
     exact zag rfl rfl (zad (i:=2) (v:=.slice none 0 0) (zad (i:=1) (v:=.int .i64 0) (zad (i:=0) (v:=.int .i64 0) HZ6.out))) underlying32 rfl (by kernel_rfl) (HBad.out _ rfl HRn.out)
    ·have hif1:(if (true = true) then zey Z else []) = zey Z:=rfl
     have hif2:(if (true = true) then (0:Int) else 7) = 0:=rfl;rw [hif1,hif2];obtain ⟨lz_,hlz⟩:∃ l,zey Z = l:=⟨_,rfl⟩;rw [hlz] at hRn ⊢;by_cases hlt:lz_ = t
     ·have dl:(lz_ == t) = true:=by simpa using hlt
      rw [if_pos ⟨hev,hlt⟩] at hRn;have HRn:=zi5 hRn;subst hlt;clear h00 hRn HFin HE hev hif1 hif2 hlz;go_wp2_with fail
      refine zag rfl rfl (zad (i:=2) (v:=.slice av M.length cv) (zad (i:=1) (v:=.int .i64 (zfm y)) (zad (i:=0) (v:=.int .i64 (zfm x)) HZ6.out))) underlying32 rfl (by kernel_rfl) ?_;rw [HRn.out,← HZZ.out];refine ⟨_,rfl,⟨_,rfl,?_⟩,((HB6.out.setCell (p:=⟨w.heap.size,0,none⟩) xnl _).setCell (p:=⟨w.heap.size,1,none⟩) xnl _).setCell (p:=⟨w.heap.size,2,none⟩) xnl _⟩
      refine HBV6.out.move (by simp [World.setCell]) fun b hb hs=>?_
      have hs':w.heap.size < b:=hs;exact ⟨((heap_setCell_other _ _ _ _ (by show b≠w.heap.size; omega)).trans (heap_setCell_other _ _ _ _ (by show b≠w.heap.size; omega))).trans (heap_setCell_other _ _ _ _ (by show b≠w.heap.size; omega)),by show w.heap.size≤b; omega⟩
     ·have dl:(lz_ == t) = false:=by simpa using hlt
      rw [if_neg (fun h=>hlt h.2)] at hRn
      have HRn:=zi5 hRn;clear h00 hRn HFin HE hev hif1 hif2 hlz hlt;go_wp2_with fail
      exact zag rfl rfl (zad (i:=2) (v:=.slice none 0 0) (zad (i:=1) (v:=.int .i64 0) (zad (i:=0) (v:=.int .i64 0) HZ6.out))) underlying32 rfl (by kernel_rfl) (HBad.out _ rfl HRn.out)
  ·have hvec:Vec w3 zaw 1 za2 (.slice (some ⟨W.heap.size,2,none⟩) (L.length - 2) (L.length - 2)) (L.drop 2):=HRow3.out.from2 hl2 _ xnl
   have HVec:=zi5 hvec;clear hvec;go_wp2_with fail
   refine (HE.out _ HVec.out).mono ?_;rintro e w4 ⟨_,rfl,hbv,hb⟩;obtain ⟨av,cv,rfl⟩:=hbv.slice;have hz4:=zab hb (zaa HZ3.out) HZ3.out;have HB4:=zi5 (HB3.out.trans (hb.mono HB3.out.size)); have HZ4:=zi5 hz4;have HBV:=zi5 (hbv.move (w':=w4) (T:=fun b=>w.heap.size < b) xnl fun b _ hs=>⟨rfl,by have hs':w3.heap.size≤b:=hs; have h1:=HB3.out.size; have h2:=zaa HZ3.out; show w.heap.size < b; omega⟩)
   have HV4:=zi5 (HV3.out.old hb);clear hb hbv hz4 hl2 HVec HRow3;go_wp2_with fail
   refine zae (fun W5 hW5=>?_)
   have hb5:=xal hW5
   have hx5:W5.heap[w4.heap.size]? = some (.cells #[.int .i64 (zfm x),.int .i64 (zfm y),.slice av M.length cv] 32 (0,0)):=by rw [hW5]; exact zac rfl
   clear hW5;have hln:=eline_any zaw (.agg #[.int .i64 (zfm x),.int .i64 (zfm y),.slice av M.length cv]) Z W5 (by rw [← hZ]; exact ⟨_,rfl,(HBV.out.below hb5).move (T:=zaw) xnl fun b hb _=>⟨rfl,trivial⟩⟩) (HV4.out.old hb5) (by rw [← hZ]; exact HPl.out.2) (by rw [← hZ]; exact HPl.out.1)
   refine hln.mono ?_;rintro e w6 ⟨rfl,hb⟩;have hx6:=zab hb (zaa hx5) hx5;have hz6:=zab hb (zaa (zab hb5 (zaa HZ4.out) HZ4.out)) (zab hb5 (zaa HZ4.out) HZ4.out);have HB6:=zi5 ((HB4.out.trans (hb5.mono HB4.out.size)).trans (hb.mono (Nat.le_trans HB4.out.size hb5.size)));have HBV6:=zi5 ((HBV.out.below hb5).below hb);have HX6:=zi5 hx6; have HZ6:=zi5 hz6; have HZZ:=zi5 hZ;obtain ⟨x0,x1,x2⟩:=zai hx6;obtain ⟨z0,z1,z2⟩:=zai hz6;have f0:=frozen_of_row _ _ 0 _ _ hz6; have f1:=frozen_of_row _ _ 1 _ _ hz6; have f2:=frozen_of_row _ _ 2 _ _ hz6;have lz:=zaa hz6; have lx:=zaa hx6
   have hbad:∀ ER,ER = (14:Int)→R = none→(fun e w'=>∃ v,e = Ending.returned (.tuple #[v,.int .i64 (errO R)])∧EncVal w' (fun b=>w.heap.size≤b) v (R.getD noEnc)∧Below w.heap.size w w') (.returned (.tuple #[.agg #[.int .i64 0,.int .i64 0,.slice none 0 0],.int .i64 ER])) (((w6.setCell ⟨w.heap.size,0,none⟩ (.int .i64 0)).setCell ⟨w.heap.size,1,none⟩ (.int .i64 0)).setCell ⟨w.heap.size,2,none⟩ (.slice none 0 0)):=fun ER h h'=>by
    subst h h';exact ⟨_,rfl,EncVal.none _ _,((HB6.out.setCell (p:=⟨w.heap.size,0,none⟩) xnl _).setCell (p:=⟨w.heap.size,1,none⟩) xnl _).setCell (p:=⟨w.heap.size,2,none⟩) xnl _⟩
   have HBad:=zi5 hbad;clear hb hb5 hx5 hx6 hz6 hln hbad HBV hZ
   rcases HFin.out with ⟨h14,hRn⟩ | ⟨h00,hRn⟩
   ·rw [h14]
    have d14:((14:Int) != 0) = true:=rfl;have HRn:=zi5 hRn;clear h14 hRn HFin HE;go_wp2_with fail
    exact zag rfl rfl (zad (i:=2) (v:=.slice none 0 0) (zad (i:=1) (v:=.int .i64 0) (zad (i:=0) (v:=.int .i64 0) HZ6.out))) underlying32 rfl (by kernel_rfl) (HBad.out _ rfl HRn.out)
   ·rw [h00]
    rw [HZZ.out] at hRn;have d00:((0:Int) != 0) = false:=rfl;unfold lineV zfe;unfold zdu at hRn;cases hev:zbd Z
    ·rw [if_neg (by rw [hev]; simp)] at hRn
     have HRn:=zi5 hRn;have d7:((7:Int) != 0) = true:=rfl;have hif1:(if (false = true) then zey Z else []) = ([]:List UInt8):=rfl;have hif2:(if (false = true) then (0:Int) else 7) = 7:=rfl;rw [hif1,hif2];clear h00 hRn HFin HE hev hif1 hif2;go_wp2_with fail
     exact zag rfl rfl (zad (i:=2) (v:=.slice none 0 0) (zad (i:=1) (v:=.int .i64 0) (zad (i:=0) (v:=.int .i64 0) HZ6.out))) underlying32 rfl (by kernel_rfl) (HBad.out _ rfl HRn.out)
    ·have hif1:(if (true = true) then zey Z else []) = zey Z:=rfl
     have hif2:(if (true = true) then (0:Int) else 7) = 0:=rfl;rw [hif1,hif2];obtain ⟨lz_,hlz⟩:∃ l,zey Z = l:=⟨_,rfl⟩;rw [hlz] at hRn ⊢;by_cases hlt:lz_ = t
     ·have dl:(lz_ == t) = true:=by simpa using hlt
      rw [if_pos ⟨hev,hlt⟩] at hRn;have HRn:=zi5 hRn;subst hlt;clear h00 hRn HFin HE hev hif1 hif2 hlz;go_wp2_with fail
      refine zag rfl rfl (zad (i:=2) (v:=.slice av M.length cv) (zad (i:=1) (v:=.int .i64 (zfm y)) (zad (i:=0) (v:=.int .i64 (zfm x)) HZ6.out))) underlying32 rfl (by kernel_rfl) ?_;rw [HRn.out,← HZZ.out];refine ⟨_,rfl,⟨_,rfl,?_⟩,((HB6.out.setCell (p:=⟨w.heap.size,0,none⟩) xnl _).setCell (p:=⟨w.heap.size,1,none⟩) xnl _).setCell (p:=⟨w.heap.size,2,none⟩) xnl _⟩
      refine HBV6.out.move (by simp [World.setCell]) fun b hb hs=>?_
      have hs':w.heap.size < b:=hs;exact ⟨((heap_setCell_other _ _ _ _ (by show b≠w.heap.size; omega)).trans (heap_setCell_other _ _ _ _ (by show b≠w.heap.size; omega))).trans (heap_setCell_other _ _ _ _ (by show b≠w.heap.size; omega)),by show w.heap.size≤b; omega⟩
     ·have dl:(lz_ == t) = false:=by simpa using hlt
      rw [if_neg (fun h=>hlt h.2)] at hRn
      have HRn:=zi5 hRn;clear h00 hRn HFin HE hev hif1 hif2 hlz hlt;go_wp2_with fail
      exact zag rfl rfl (zad (i:=2) (v:=.slice none 0 0) (zad (i:=1) (v:=.int .i64 0) (zad (i:=0) (v:=.int .i64 0) HZ6.out))) underlying32 rfl (by kernel_rfl) (HBad.out _ rfl HRn.out)
end
section
open Go.RowKit
theorem fieldsN_len (s:SchemaL) (P:List ParL) (k:Int × Int) (A:List (List UInt8)) (n:Nat):(zeg s P k A n).length = n:=by simp [zeg]
theorem digs_one (i:Nat) (h:i < 10):Lib.decDigits i = [UInt8.ofNat (48 + i)]:=by
 have:∀ j:Fin 10,Lib.decDigits j = [UInt8.ofNat (48 + j.val)]:=by decide +kernel
 exact this ⟨i,h⟩
end
section
def WsOk (ws:List Int):Prop:=∀ x∈ws,0≤x∧x < 18446744073709551616
theorem orBit_ok {ws:List Int} (h:WsOk ws) (i:Int):WsOk (zfk ws i):=by
 intro x hx;unfold zfk at hx
 rcases List.mem_or_eq_of_mem_set hx with h1 | h1
 ·exact h x h1
 ·rw [h1]; exact bits_range _ _ _
theorem orBits_ok (l:List Int):∀ ws:List Int,WsOk ws→WsOk (l.foldl zfk ws):=by
 induction l with
 | nil=>intro ws h; exact h
 | cons x l ih=>intro ws h; rw [List.foldl_cons]; exact ih _ (orBit_ok h x)
theorem orGrams_ok (p:ParL) (k:Int × Int) (G:List (List UInt8)):∀ ws:List Int,WsOk ws→WsOk (G.foldl (zec p k) ws):=by
 induction G with
 | nil=>intro ws h; exact h
 | cons x l ih=>intro ws h; rw [List.foldl_cons]; exact ih _ (orBits_ok _ _ h)
theorem zeroW_ok (n:Int):WsOk (zej n):=by
 intro x hx;unfold zej at hx;rw [List.eq_of_mem_replicate hx]; decide
theorem fieldN_in {s:SchemaL} {p:ParL} {k:Int × Int} {A:List (List UInt8)} {i:Nat} (hp:ParOk p) (hn:zau s i (A.getD i []) = true) (hf:(zbt s i).2 = 0):zhi (zeh s p k A i):=by
 unfold zeh;split
 ·exact .inl rfl
 ·refine .inr ?_
  have h80:=(ziv hn hf).2.1;unfold zgq;rw [if_pos hp.bloom,if_pos h80];refine ⟨?_,orGrams_ok p _ _ _ (zeroW_ok _)⟩;unfold zbv;dsimp only;rw [hp.right,Bool.true_and,beq_iff_eq,orGrams_len];unfold zej;rw [List.length_replicate];have:=hp.len1;omega
theorem fieldsN_in {s:SchemaL} {P:List ParL} {k:Int × Int} {r:RecL} (h:RecIn s P r):∀ b∈zeg s P k r.vals P.length,zhi b:=by
 intro b hb;unfold zeg at hb;obtain ⟨i,hi,rfl⟩:=List.mem_map.1 hb;rw [List.mem_range] at hi;obtain ⟨h0,_,hl,hno⟩:=zhe h.rec_;have hil:i < r.vals.length:=by rw [hl,← h.len]; exact hi
 have hn:=ziq s r.vals 0 hno i hil;rw [Nat.zero_add] at hn;exact fieldN_in (h.pars.1 i hi) hn (by rw [findN_in h0 (by rw [← h.len]; exact hi)])
theorem bitsIn_hex {b:BitsL} (h:zhi b):HexIn b:=by
 rcases h with rfl | ⟨h1,h2⟩
 ·exact ⟨⟨by decide,by decide⟩,fun h=>by rw [noBits_bad] at h; cases h⟩
 ·exact ⟨valid_in h1,fun _=>h2⟩
end
section
open Go.RowKit
structure SmallE (x:EncL):Prop where
 n:x.fields.length≤1000000
 w:∀ b∈x.fields,b.words.length≤1000000
 h:∀ b∈x.fields,HexIn b
theorem SmallE.i {x:EncL} (h:SmallE x):∀ b∈x.fields,InI b.len:=fun b hb=>(h.h b hb).1
theorem valid_few {b:BitsL} (h:zbv b = true):b.words.length≤1000000:=by
 unfold zbv zb6 at h;simp only [Bool.and_eq_true,decide_eq_true_eq,beq_iff_eq] at h;omega
theorem bitsIn_words {b:BitsL} (h:zhi b):b.words.length≤1000000:=by
 rcases h with rfl | ⟨h,_⟩
 ·simp [zba]
 ·exact valid_few h
theorem small_nil:SmallE zgp:=⟨by simp [zgp],by simp [zgp],by simp [zgp]⟩
theorem small_enc {s:SchemaL} {P:List ParL} {k:Int × Int} {r:RecL} (h:RecIn s P r):SmallE (ziz s P k r):=by
 have hf:=fieldsN_in (k:=k) h
 refine ⟨?_,fun b hb=>bitsIn_words (hf b hb),fun b hb=>bitsIn_hex (hf b hb)⟩
 show (zeg s P k r.vals P.length).length≤1000000;rw [fieldsN_len];have:=h.enc.five;omega
theorem zf0 (s:SchemaL) (P:List ParL) (k:Int × Int) (r:RecL):SmallE (zfj s P k r).1:=by
 unfold zfj;split
 ·next h1 =>
  split
  ·next h2=>exact small_enc (zij h1 h2)
  ·exact small_nil
 ·exact small_nil
theorem small_all (s:SchemaL) (P:List ParL) (k:Int × Int) (R:List RecL):(zhh s P k R).1.length≤1000000∧∀ x∈(zhh s P k R).1,SmallE x:=by
 unfold zhh;split
 ·next h1 =>
  split
  ·next h2 =>
   refine ⟨by have:=(allN_ok h2).2.1; simp; omega,fun x hx=>?_⟩
   obtain ⟨r,hr,rfl⟩:=List.mem_map.1 hx;exact small_enc (zij h1 ((allN_ok h2).2.2 r hr))
  ·exact ⟨by simp,by simp⟩
 ·exact ⟨by simp,by simp⟩
theorem small_parse (t:List UInt8):SmallE ((zek t).getD noEnc):=by
 cases h:zek t with
 | none=>exact ⟨by simp [noEnc],by simp [noEnc],by simp [noEnc]⟩
 | some x =>
  obtain ⟨h1,_,h3⟩:=eparse_back h;have h1':=h1;unfold zbd at h1';simp only [Bool.and_eq_true,decide_eq_true_eq,Bool.not_eq_true',List.any_eq_false] at h1'
  refine ⟨by show x.fields.length≤1000000; omega,fun b hb=>?_,h3⟩
  have hb':=h1'.2 b hb;unfold badB zgu at hb';cases hv:zbv b
  ·simp [hv] at hb'
   rw [hb'.2]; simp
  ·exact valid_few hv
theorem lineV_len (x:EncL):(lineV x).length≤2000:=by
 unfold lineV;split
 ·next h=>exact line_len h
 ·simp
end
section
open Go.RowKit Cal
def awG:SchemaL:=⟨[([103,105,118,101,110],1)],[],[],[]⟩
theorem awG_check:zax awG = 0:=by kernel_rfl
end
section
open Go.RowKit Cal
attribute [local go_sem] zah zaj
def awP:List ParL:=[⟨64,2,-1⟩]
theorem awG_pars:ParsOk awP:=⟨fun i hi=>by
  have:i = 0:=by simpa [awP] using hi
  subst this;exact ⟨by decide,by decide,by decide,by decide,by decide,by decide,by decide⟩,fun i hi=>by
  have:i = 0:=by simpa [awP] using hi
  subst this
  exact ⟨by decide,by decide⟩⟩
theorem awG_rec1:RecIn awG awP ⟨3,1,[[]]⟩:=⟨awG_check,by kernel_rfl,rfl,awG_pars,by simp⟩
theorem awG_rec2:RecIn awG awP ⟨3,1,[[97,110,110]]⟩:=⟨awG_check,by kernel_rfl,rfl,awG_pars,by simp⟩
theorem awG_enc1 (k:Int × Int):ziz awG awP k ⟨3,1,[[]]⟩ = ⟨3,1,[zba]⟩:=rfl
theorem awG_enc2 (k:Int × Int):∃ B:BitsL,ziz awG awP k ⟨3,1,[[97,110,110]]⟩ = ⟨3,1,[B]⟩∧B.len = 64:=by
 refine ⟨zeh awG ⟨64,2,-1⟩ k [[97,110,110]] 0,rfl,?_⟩;have h:=awG_rec2.enc;unfold zeh;rw [if_neg (by decide)];unfold zgq;rw [if_pos (show zc7 ⟨64,2,-1⟩ = true from rfl),if_pos (ziv (s:=awG) (i:=((0:Nat):Int)) (l:=[[97,110,110]].getD 0 []) (by kernel_rfl) (by kernel_rfl)).2.1]
theorem awG_same {B:BitsL} (h:B.len = 64):zif ⟨3,1,[zba]⟩ ⟨3,1,[B]⟩ = false:=by
 cases hs:zif ⟨3,1,[zba]⟩ ⟨3,1,[B]⟩
 ·rfl
 ·exfalso
  simp only [zif,sameF,Bool.and_eq_true,List.all_eq_true,decide_eq_true_iff] at hs;have h0:=hs.2.2.2 0 (List.mem_range.2 (by simp));have h1:cmpB zba B = 0:=by simpa [zf1] using h0
  have h2:=cmpB_eq h1;rw [← h2] at h;simp [zba] at h
theorem zhg (w:World):Calls prog 7 #[] w fun e w'=>e = .returned (.bool true)∧Below w.heap.size w w':=by
 go_enter func7,ntmps7
 go_wp2_with fail
 refine zae (fun W hW=>?_)
 have hb0:Below w.heap.size w W:=by rw [hW]; exact ((((Below.refl w.heap.size w).alloc xnl _).alloc (by simp) _).alloc (by simp; omega) _).alloc (by simp; omega) _
 have hf0:W.heap[w.heap.size]? = some (.cells #[zal [103,105,118,101,110],.int .i64 1] 95 (0,0)):=by rw [hW]; exact zaf (zaf (zaf (zac rfl)))
 have hs0:W.heap[w.heap.size + 1]? = some (.cells #[.slice (some ⟨w.heap.size,0,none⟩) 1 1,.slice none 0 0,.slice none 0 0,.slice none 0 0] 44 (0,0)):=by rw [hW]; exact zaf (zaf (zac (by simp)))
 have hp0:W.heap[w.heap.size + 2]? = some (.cells (awP.flatMap zbc).toArray 49 (0,0)):=by rw [hW]; exact zaf (zac (by simp))
 have hv0:W.heap[w.heap.size + 3]? = some (.cells (([[]]:List (List UInt8)).flatMap za2).toArray 9 (0,0)):=by rw [hW]; exact zac (by simp)
 have hSA:SchemaAt W zaw (.slice (some ⟨w.heap.size,0,none⟩) 1 1) (.slice none 0 0) (.slice none 0 0) (.slice none 0 0) awG:=⟨vecF_one hf0,Vec.nil _ _ _ _,Vec.nil _ _ _ _,Vec.nil _ _ _ _⟩;have hPA:Vec W zaw 3 zbc (.slice (some ⟨w.heap.size + 2,0,none⟩) 1 1) awP:=zcn (k:=3) (enc:=zbc) (L:=awP) (S:=zaw) (fun _=>rfl) hp0 trivial 1 rfl
 have hVA:Vec W zaw 1 za2 (.slice (some ⟨w.heap.size + 3,0,none⟩) 1 1) [[]]:=zcn (k:=1) (enc:=za2) (L:=[[]]) (S:=zaw) (fun _=>rfl) hv0 trivial 1 rfl
 clear hW hf0 hp0 hv0;refine (zia zaw _ _ _ _ awG awP _ (0,0) ⟨3,1,[[]]⟩ _ W hSA hPA hVA awG_rec1).mono ?_;rw [awG_enc1];rintro e w1 ⟨_,rfl,⟨sx,rfl,hX⟩,hb⟩;dsimp only at hX;obtain ⟨ax,cx,rfl⟩:=hX.slice;have hs1:=zab hb (zaa hs0) hs0;have HS1:=zi5 hs1; have HB1:=zi5 (hb0.trans (hb.mono hb0.size)); have HSA:=zi5 (hSA.below hb); have HPA:=zi5 (hPA.below hb);have HX:=zi5 (show EncVal w1 (fun b=>W.heap.size≤b) (.agg #[.int .i64 3,.int .i64 1,.slice ax ([zba]:List BitsL).length cx]) ⟨3,1,[zba]⟩ from ⟨_,rfl,hX⟩)
 obtain ⟨s0,s1,s2,s3⟩:=zan hs1;have ls:=zaa hs1;have e1:([zba]:List BitsL).length = 1:=rfl;rw [e1] at HX ⊢;clear hX hb hb0 hs0 hSA hPA hVA hs1;go_wp2_with fail
 refine zae (fun W2 hW2=>?_)
 have hb2:=xam hW2
 have hx2:W2.heap[w1.heap.size]? = some (.cells #[.int .i64 3,.int .i64 1,.slice ax 1 cx] 32 (0,0)):=by rw [hW2]; exact zaf (zac rfl)
 have hv2:W2.heap[w1.heap.size + 1]? = some (.cells (([[97,110,110]]:List (List UInt8)).flatMap za2).toArray 9 (0,0)):=by rw [hW2]; exact zac (by simp)
 have hVA:Vec W2 zaw 1 za2 (.slice (some ⟨w1.heap.size + 1,0,none⟩) 1 1) [[97,110,110]]:=zcn (k:=1) (enc:=za2) (L:=[[97,110,110]]) (S:=zaw) (fun _=>rfl) hv2 trivial 1 rfl
 clear hW2 hv2;obtain ⟨B,hBe,hBl⟩:=awG_enc2 (0,0);refine (zia zaw _ _ _ _ awG awP _ (0,0) ⟨3,1,[[97,110,110]]⟩ _ W2 (HSA.out.below hb2) (HPA.out.below hb2) hVA awG_rec2).mono ?_;rw [hBe];rintro e w2 ⟨_,rfl,⟨sy,rfl,hY⟩,hb⟩;dsimp only at hY;obtain ⟨ay,cy,rfl⟩:=hY.slice;have hx3:=zab hb (zaa hx2) hx2;have HB2:=zi5 (HB1.out.trans ((hb2.trans (hb.mono hb2.size)).mono HB1.out.size));have HX2:=zi5 ((HX.out.below hb2).below hb);have HXb:=zi5 hx3;have HY:=zi5 (show EncVal w2 (fun b=>W2.heap.size≤b) (.agg #[.int .i64 3,.int .i64 1,.slice ay ([B]:List BitsL).length cy]) ⟨3,1,[B]⟩ from ⟨_,rfl,hY⟩)
 obtain ⟨by_,oy,cb,rfl,ly,y0,y1,hat⟩:=hY.at 0 (by simp);have HAt:=zi5 hat; clear hat;rw [Nat.zero_mul,Nat.add_zero] at y0 y1;have e2:([B]:List BitsL).length = 1:=rfl;rw [e2] at HY ⊢;obtain ⟨x0,x1,x2⟩:=zai hx3;have lx:=zaa hx3;clear hY hb hb2 hx2 hVA hx3 HX s0 s1 s2 s3 ls HSA HPA HS1 hBe;go_wp2_with fail
 refine zae (fun W3 hW3=>?_)
 have hb3:=xal hW3
 have hy3:W3.heap[w2.heap.size]? = some (.cells #[.int .i64 3,.int .i64 1,.slice (some ⟨by_,oy,none⟩) 1 cy] 32 (0,0)):=by rw [hW3]; exact zac rfl
 clear hW3;refine (eline_none _ _ 3 1 W3 (HX2.out.below hb3) (by decide) (by decide) (by decide) (by decide)).mono ?_;rw [show Lib.decDigits 3 ++ [32] ++ Lib.decDigits 1 ++ [32,45] = [51,32,49,32,45] from by decide +kernel];rintro e w4 ⟨rfl,hb⟩;have hb4:=hb3.trans (hb.mono hb3.size);have hx4:=zab hb4 lx HXb.out;have hy4:=zab hb (zaa hy3) hy3;have HB4:=zi5 (HB2.out.trans (hb4.mono HB2.out.size));have HX4:=zi5 (HX2.out.below hb4); have HY4:=zi5 (HY.out.below hb4);have y0':=(hb4.cell (p:=⟨by_,oy,none⟩) ly).trans y0;have y1':=(hb4.cell (p:=⟨by_,oy + 1,none⟩) ly).trans y1
 have hcb:cb.len = 64:=by
  obtain ⟨s,e,_⟩:=HAt.out;have e0:=congrArg (fun v=>match v with | Value.agg cs=>cs.getD 0 undef | _=>undef) e
  have e1:Value.int .i64 cb.len = Value.int .i64 B.len:=e0;have e2:cb.len = B.len:=by injection e1
  rw [e2,hBl]
 rw [hcb] at y0';obtain ⟨z0,z1,z2⟩:=zai hx4;obtain ⟨v0,v1,v2⟩:=zai hy4;have lx4:=zaa hx4; have ly4:=zaa hy4;clear hb hb3 hb4 hx4 hy4 hy3 x0 x1 x2 y0 y1 HX2 HY HXb HB2 lx hcb;go_wp2_with fail
 refine (zfc _ _ ⟨3,1,[zba]⟩ _ HX4.out (by intro b hb; simp at hb; subst hb; exact ⟨by decide,by decide⟩) (by simp)).mono ?_;rw [show zbd ⟨3,1,[zba]⟩ = true from rfl];rintro e w5 ⟨rfl,hb⟩;have z0':=(hb.cell (p:=⟨w1.heap.size,0,none⟩) lx4).trans z0;have z1':=(hb.cell (p:=⟨w1.heap.size,1,none⟩) lx4).trans z1;have z2':=(hb.cell (p:=⟨w1.heap.size,2,none⟩) lx4).trans z2;have v0':=(hb.cell (p:=⟨w2.heap.size,0,none⟩) ly4).trans v0;have v1':=(hb.cell (p:=⟨w2.heap.size,1,none⟩) ly4).trans v1;have v2':=(hb.cell (p:=⟨w2.heap.size,2,none⟩) ly4).trans v2;have HB5:=zi5 (HB4.out.trans (hb.mono HB4.out.size));have HX5:=zi5 (HX4.out.below hb); have HY5:=zi5 (HY4.out.below hb);clear hb z0 z1 z2 v0 v1 v2 y0' y1';go_wp2_with fail
 refine (esame_any _ _ _ _ ⟨3,1,[zba]⟩ ⟨3,1,[B]⟩ _ HX5.out HY5.out (by simp) (by intro b hb; simp at hb; subst hb; simp [zba])).mono ?_;rw [awG_same hBl];rintro e w6 ⟨rfl,hb⟩;go_wp2_with fail
 go_ret;exact ⟨rfl,HB5.out.trans (hb.mono HB5.out.size)⟩
end
section
open Go.RowKit
def ParsOwn (D n:Nat) (w:World) (e:Ending) (w':World):Prop:=∃ v P,e = .returned v∧OwnM D 49 3 zbc w v P w'∧ParsD n n P
theorem pars_own (D n:Nat) (w:World) (h:DeckAt w D) (hn:n≤5) :
  Calls prog 13 #[.pointer (some ⟨D,0,none⟩),.int .i64 n] w (ParsOwn D n w):=by
 have zD:=h.lt;have M0:=zi5 (Moved.start h); clear h;go_enter func13,ntmps13
 go_wp2_with fail
 go_loopw [5,6,7] (fun v i _ wr=>∃ (j:Nat) (P:List ParL),i = .int .i64 j∧j≤n∧OwnM D 49 3 zbc w v P wr∧ParsD n j P) (fun _ i _ _=>n - (intOf i).toNat)
 case atStart=>exact ⟨0,[],rfl,by omega,⟨⟨by simp,.inl ⟨rfl,rfl⟩⟩,M0.out⟩,ParsD.nil n⟩
 case round =>
  obtain ⟨j,P,rfl,hj,ho,hp⟩:=hrel;have HO:=zi5 ho; have HPD:=zi5 hp; clear ho hp;by_cases hlt:j < n
  ·have hq:decide ((j:Int) < n) = true:=by simp; omega
   go_wp2_with fail
   refine (zb5 D _ 3 HO.out.2.deck (by omega) (by omega)).mono ?_;rintro e w1 ⟨x,rfl,x0,x1,mv⟩;have HO1:=zi5 (HO.out.moved mv); clear mv HO;go_wp2_with fail
   refine (zb5 D _ 6 HO1.out.2.deck (by omega) (by omega)).mono ?_;rintro e w2 ⟨y,rfl,y0,y1,mv⟩;have HO2:=zi5 (HO1.out.moved mv); clear mv HO1;by_cases hn1:1 < n
   ·have hq1:decide ((1:Int) < n) = true:=by simp; omega
    go_wp2_with fail
    refine (ze4 D _ 3 (HO2.out.2.alloc _).deck (by omega) (by omega)).mono ?_;rintro e w3 ⟨u,rfl,mv⟩;have hbx:=mv.blk (k:=w2.heap.size) (by have:=HO2.out.2.size; omega) (zac rfl);have HO3a:=zi5 (HO2.out.moved (((Moved.start HO2.out.2.deck).alloc (.cells #[.int .i64 (64 * (1 + x)),.int .i64 (1 + y),.int .i64 (-1)] 49)).trans mv));have hz2:=HO2.out.2.size; have hz3:=zaa hbx; have hz4:=mv.size;clear mv;obtain ⟨x0',x1',x2'⟩:=zai hbx;have f2:=frozen_of_row _ _ 2 _ _ hbx
    have hz5:∀ g cap,u5 = .slice (some ⟨g,0,none⟩) P.length cap→g < w2.heap.size:=by
     intro g cap e
     rcases HO2.out.1.2 with ⟨h0,_⟩ | ⟨g',cap',cur,h0,hg,hh,_⟩
     ·rw [h0] at e; cases e
     ·rw [h0] at e; cases e; exact zaa hh
    cases u
    ·clear f2 hbx HO2
     have hpar:ParOk ⟨64 * (1 + x),1 + y,-1⟩:=⟨by dsimp only; omega,by dsimp only; omega,by dsimp only; omega,by dsimp only; omega,by dsimp only; omega,by dsimp only; omega,by dsimp only; omega⟩;have hpd:=HPD.out.snoc (p:=⟨64 * (1 + x),1 + y,-1⟩) hpar (by dsimp only; omega) (by dsimp only; omega);have HPD2:=zi5 hpd;have HO3:=zi5 (HO3a.out.moved ((Moved.start HO3a.out.2.deck).alloc (.cells #[.int .i64 (64 * (1 + x)),.int .i64 (1 + y),.int .i64 (-1)] 49)));have hpl:=HPD.out.len;have hcn:P.length + [(⟨64 * (1 + x),1 + y,-1⟩:ParL)].length≤1000000000:=by simp only [List.length_cons,List.length_nil]; omega
     clear hpl hpd hpar;have HR3:=zi5 (show zco _ 3 (.slice (some ⟨w3.heap.size,0,none⟩) 1 1) [(⟨64 * (1 + x),1 + y,-1⟩:ParL)].length ([(⟨64 * (1 + x),1 + y,-1⟩:ParL)].flatMap zbc) from zav (w:=w3.alloc (.cells #[.int .i64 (64 * (1 + x)),.int .i64 (1 + y),.int .i64 (-1)] 49)) (t:=49) (fr:=(0,0)) (zac rfl) rfl);go_wp2_with (at_builtin; refine zci rfl (.tmp 32) (.tmp 34) 23 rfl D 49 (.agg #[.int .i64 0,.int .i64 0,.int .i64 0]) 3 24 zbc (fun _=>rfl) zfb underlying23 infoPar rfl (by decide) (by decide) (wA:=w) (v:=u5) (A:=P) (B:=[⟨64 * (1 + x),1 + y,-1⟩]) rfl HO3.out rfl HR3.out hcn ?_; intro v4 w4 ho4 hk4)
     go_roundw
     case rel=>exact ⟨j + 1,P ++ [⟨64 * (1 + x),1 + y,-1⟩],by go_num,by omega,ho4,HPD2.out⟩
     case measure=>simp [intOf]; omega
    ·obtain ⟨q,hmod,hqn,hqj⟩:∃ q:Nat,((j:Int) + 1) % (n:Int) = q∧q < n∧q≠j:=by
      by_cases hjn:j + 1 = n
      ·exact ⟨0,by rw [show (j:Int) + 1 = (n:Int) by omega,Int.emod_self]; rfl,by omega,by omega⟩
      ·exact ⟨j + 1,by rw [Int.emod_eq_of_lt (by omega) (by omega)]; rfl,by omega,by omega⟩
     have hn0:(n:Int)≠0:=by omega
     have hset:=zad (i:=2) (v:=.int .i64 q) hbx;have HBX:=zi5 hset;clear hset hbx HO2;have hpar:ParOk ⟨64 * (1 + x),1 + y,q⟩:=⟨by dsimp only; omega,by dsimp only; omega,by dsimp only; omega,by dsimp only; omega,by dsimp only; omega,by dsimp only; omega,by dsimp only; omega⟩;have hpd:=HPD.out.snoc (p:=⟨64 * (1 + x),1 + y,q⟩) hpar (by dsimp only; omega) (by dsimp only; omega);have HPD2:=zi5 hpd;have HO3:=zi5 (OwnM.set2 HO3a.out (a:=⟨w2.heap.size,2,none⟩) (v:=.int .i64 q) hz2 hz5);have hpl:=HPD.out.len;have hcn:P.length + [(⟨64 * (1 + x),1 + y,q⟩:ParL)].length≤1000000000:=by simp only [List.length_cons,List.length_nil]; omega
     clear hpl hpd hpar;have HO4:=zi5 (HO3.out.moved ((Moved.start HO3.out.2.deck).alloc (.cells #[.int .i64 (64 * (1 + x)),.int .i64 (1 + y),.int .i64 (q:Int)] 49)));have HR3:=zi5 (show zco _ 3 (.slice (some ⟨w3.heap.size,0,none⟩) 1 1) [(⟨64 * (1 + x),1 + y,q⟩:ParL)].length ([(⟨64 * (1 + x),1 + y,q⟩:ParL)].flatMap zbc) from zav (w:=(w3.setCell ⟨w2.heap.size,2,none⟩ (.int .i64 q)).alloc (.cells #[.int .i64 (64 * (1 + x)),.int .i64 (1 + y),.int .i64 (q:Int)] 49)) (t:=49) (fr:=(0,0)) (zac (by simp [World.setCell])) rfl);go_wp2_with (at_builtin; refine zci rfl (.tmp 32) (.tmp 34) 23 rfl D 49 (.agg #[.int .i64 0,.int .i64 0,.int .i64 0]) 3 24 zbc (fun _=>rfl) zfb underlying23 infoPar rfl (by decide) (by decide) (wA:=w) (v:=u5) (A:=P) (B:=[⟨64 * (1 + x),1 + y,q⟩]) rfl HO4.out rfl HR3.out hcn ?_; intro v4 w4 ho4 hk4)
     go_roundw
     case rel=>exact ⟨j + 1,P ++ [⟨64 * (1 + x),1 + y,q⟩],by go_num,by omega,ho4,HPD2.out⟩
     case measure=>simp [intOf]; omega
   ·have hq1:decide ((1:Int) < n) = false:=by simp; omega
    have hz2:=HO2.out.2.size;have hpar:ParOk ⟨64 * (1 + x),1 + y,-1⟩:=⟨by dsimp only; omega,by dsimp only; omega,by dsimp only; omega,by dsimp only; omega,by dsimp only; omega,by dsimp only; omega,by dsimp only; omega⟩;have hpd:=HPD.out.snoc (p:=⟨64 * (1 + x),1 + y,-1⟩) hpar (by dsimp only; omega) (by dsimp only; omega);have HPD2:=zi5 hpd;have HO3:=zi5 (HO2.out.moved (((Moved.start HO2.out.2.deck).alloc (.cells #[.int .i64 (64 * (1 + x)),.int .i64 (1 + y),.int .i64 (-1)] 49)).alloc (.cells #[.int .i64 (64 * (1 + x)),.int .i64 (1 + y),.int .i64 (-1)] 49)));have hpl:=HPD.out.len;have hcn:P.length + [(⟨64 * (1 + x),1 + y,-1⟩:ParL)].length≤1000000000:=by simp only [List.length_cons,List.length_nil]; omega
    clear hpl hpd hpar;have HR3:=zi5 (show zco _ 3 (.slice (some ⟨w2.heap.size + 1,0,none⟩) 1 1) [(⟨64 * (1 + x),1 + y,-1⟩:ParL)].length ([(⟨64 * (1 + x),1 + y,-1⟩:ParL)].flatMap zbc) from zav (w:=(w2.alloc (.cells #[.int .i64 (64 * (1 + x)),.int .i64 (1 + y),.int .i64 (-1)] 49)).alloc (.cells #[.int .i64 (64 * (1 + x)),.int .i64 (1 + y),.int .i64 (-1)] 49)) (t:=49) (fr:=(0,0)) (zac (by simp)) rfl);go_wp2_with (at_builtin; refine zci rfl (.tmp 32) (.tmp 34) 23 rfl D 49 (.agg #[.int .i64 0,.int .i64 0,.int .i64 0]) 3 24 zbc (fun _=>rfl) zfb underlying23 infoPar rfl (by decide) (by decide) (wA:=w) (v:=u5) (A:=P) (B:=[⟨64 * (1 + x),1 + y,-1⟩]) rfl HO3.out rfl HR3.out hcn ?_; intro v4 w4 ho4 hk4)
    go_roundw
    case rel=>exact ⟨j + 1,P ++ [⟨64 * (1 + x),1 + y,-1⟩],by go_num,by omega,ho4,HPD2.out⟩
    case measure=>simp [intOf]; omega
  ·have hq:decide ((j:Int) < n) = false:=by simp; omega
   obtain rfl:j = n:=by omega
   go_wp2_with fail
   go_ret;exact ⟨_,P,rfl,HO.out,HPD.out⟩
end
section
open Go.RowKit
attribute [local go_sem] zah zaj zaq
theorem itoa_len {n:Int} (h:InI n):(Lib.itoa n).length≤21:=by
 obtain ⟨h0,h1⟩:=h;unfold Lib.itoa;split
 ·have:=zdd (n:=n.natAbs) (k:=19) (by decide) (by omega)
  simp only [List.length_cons]; omega
 ·have:=zdd (n:=n.toNat) (k:=19) (by decide) (by omega)
  omega
theorem itoa_int (n:Int) (hn:InI n) (w:World) (hv:VarsAt w):Calls prog 77 #[.int .i64 n] w fun e w'=>e = .returned (zal (Lib.itoa n))∧Below w.heap.size w w':=by
 refine (Tryz.strconv_Itoa n hn.1 hn.2 w hv.tab).mono ?_;rintro e w' ⟨rfl,k,os,rfl⟩;exact ⟨rfl,below_growR _ _ _⟩
theorem derive_all (k:Int × Int) (i:Int) (b:Bool) (s:List UInt8) (w:World) (hvr:VarsAt w) (hi:InI i) (hs:s.length≤50000) :
  Calls prog 93 #[.agg #[.int .i64 i,.bool b,zal s],.agg #[.int .u64 k.1,.int .u64 k.2]] w fun e w'=>e = .returned (.agg #[.int .u64 (keyN k (Lib.itoa i) b s).1,.int .u64 (keyN k (Lib.itoa i) b s).2])∧Below w.heap.size w w':=by
 have hd:(Lib.itoa i).length≤21:=itoa_len hi;have hit:=fun w hv=>itoa_int i hi w hv
 have HVr:=zi5 hvr;obtain ⟨t,ht⟩:∃ t,Lib.itoa i = t:=⟨_,rfl⟩;rw [ht] at hd hit ⊢;have HIt:=zi5 hit;obtain ⟨x,hx⟩:∃ x,zda k.1 k.2 (zcg t) = x:=⟨_,rfl⟩;have hl1:¬ 9223372036854775807 < 5 + t.length:=by omega
 have hl2:¬ 9223372036854775807 < 5 + s.length:=by omega
 have hfl:(zcg t).length≤60000:=by simp [zcg]; omega
 have hsl:(zcr s).length≤60000:=by simp [zcr]; omega
 obtain ⟨ft,hft⟩:∃ ft,zcg t = ft:=⟨_,rfl⟩;obtain ⟨st,hst⟩:∃ st,zcr s = st:=⟨_,rfl⟩;rw [hft] at hx hfl; rw [hst] at hsl;have hf5:102 :: 105 :: 101 :: 108 :: 100 :: t = ft:=hft;have hs5:115 :: 97 :: 108 :: 116 :: 61 :: s = st:=hst;have HX:=zi5 hx; have HFT:=zi5 hft; have HST:=zi5 hst;clear hit ht hx hft hst hvr hi;obtain ⟨r,hr⟩:∃ r,keyN k t b s = r:=⟨_,rfl⟩;have hr2:(bif b then zda x.1 x.2 (zcr s) else x) = r:=by rw [← hr,← HX.out,← HFT.out]; rfl
 rw [hr];have HR:=zi5 hr2;clear hr hr2;go_enter func93,ntmps93
 go_wp2_with fail
 refine zao (fun W hW=>?_)
 have hb0:Below w.heap.size w W:=by rw [hW]; exact (((Below.refl _ _).alloc xnl _).alloc (by simp) _).alloc (by simp; omega) _
 have ho0:W.heap[w.heap.size]? = some (.cells #[.int .i64 i,.bool b,zal s] 133 (0,0)):=by rw [hW]; exact zaf (zaf (zac rfl))
 have hk0:W.heap[w.heap.size + 1]? = some (.cells #[.int .u64 k.1,.int .u64 k.2] 26 (0,0)):=by rw [hW]; exact zaf (zac (by simp))
 have hr0:W.heap[w.heap.size + 2]? = some (.cells #[.int .u64 0,.int .u64 0] 26 (0,0)):=by rw [hW]; exact zac (by simp)
 clear hW;have HB0:=zi5 hb0; have HO0:=zi5 ho0; have HK0:=zi5 hk0; have HR0:=zi5 hr0;obtain ⟨o0,o1,o2⟩:=zai ho0; obtain ⟨k0,k1⟩:=zak hk0;clear hb0 ho0 hk0 hr0;refine wp_region_noPanic ?_
 refine zat (by kernel_rfl) (fun w'=>w'.cell? ⟨w.heap.size + 1,0,none⟩ = some (.int .u64 k.1)∧w'.cell? ⟨w.heap.size + 1,1,none⟩ = some (.int .u64 k.2)∧w'.cell? ⟨w.heap.size,0,none⟩ = some (.int .i64 i)) 6 (⟨k0,k1,o0⟩) (fun hHeld=>?_)
 refine tK 0 (h:=?_);refine tK 1 (h:=?_);refine tK 2 (h:=?_);have bD:Below W.heap.size W W.drew:=(Below.refl _ _).drew;have HCx:=zi5 (show ∀ w',Below W.heap.size W w'→w'.cell? ⟨w.heap.size + 1,0,none⟩ = some (.int .u64 k.1)∧w'.cell? ⟨w.heap.size + 1,1,none⟩ = some (.int .u64 k.2)∧w'.cell? ⟨w.heap.size,0,none⟩ = some (.int .i64 i) from fun w' hb=>⟨(hb.cell (p:=⟨w.heap.size + 1,0,none⟩) (zaa HK0.out)).trans k0,(hb.cell (p:=⟨w.heap.size + 1,1,none⟩) (zaa HK0.out)).trans k1,(hb.cell (p:=⟨w.heap.size,0,none⟩) (zaa HO0.out)).trans o0⟩)
 refine xrK 3 rfl fun K hK=>?_
 go_simp;refine (HIt.out _ (HVr.out.old (HB0.out.trans (bD.mono HB0.out.size)))).mono ?_; rintro e w0 ⟨rfl,hb⟩; have hb01:=bD.trans (hb.mono bD.size); clear hb
 refine za5 hK (HCx.out _ hb01) (fun hHeld=>?_)
 clear hK K;refine tK 4 (h:=?_)
 refine xrK 5 rfl fun K hK=>?_
 go_simp;refine (zge k.1 k.2 ft _ hfl).mono ?_; rw [HX.out]; rintro e w1 ⟨rfl,hb⟩; have hb1:=hb01.trans (hb.mono hb01.size); clear hb
 refine za5 hK (HCx.out _ hb1) (fun hHeld=>?_)
 clear hK K;have hk1:=zab hb1 (zaa HK0.out) HK0.out;obtain ⟨k2,k3⟩:=zak hk1;have f0:=frozen_of_row _ _ 0 _ _ hk1; have f1:=frozen_of_row _ _ 1 _ _ hk1;have zk:=zaa hk1
 refine xrK 6 rfl fun K hK=>?_
 go_simp;refine zas hK (by decide) ?_;clear hK K;refine zap (by kernel_rfl) ?_ _;refine NoPanic.normal ?_;clear k2 k3 f0 f1 k0 k1 o0 o1 o2
 refine zbw (fun W2 hW2=>?_)
 have hk2:W2.heap[w.heap.size + 1]? = some (.cells #[.int .u64 x.1,.int .u64 x.2] 26 (0,0)):=by rw [hW2]; exact zad (i:=1) (v:=.int .u64 x.2) (zad (i:=0) (v:=.int .u64 x.1) hk1)
 have ho2:W2.heap[w.heap.size]? = some (.cells #[.int .i64 i,.bool b,zal s] 133 (0,0)):=by rw [hW2]; exact zam (zam (zab hb1 (zaa HO0.out) HO0.out) (by show w.heap.size≠w.heap.size + 1; omega)) (by show w.heap.size≠w.heap.size + 1; omega)
 have hr2:W2.heap[w.heap.size + 2]? = some (.cells #[.int .u64 0,.int .u64 0] 26 (0,0)):=by rw [hW2]; exact zam (zam (zab hb1 (zaa HR0.out) HR0.out) (by show w.heap.size + 2≠w.heap.size + 1; omega)) (by show w.heap.size + 2≠w.heap.size + 1; omega)
 have hb2:Below w.heap.size w W2:=by rw [hW2]; exact ((HB0.out.trans (hb1.mono HB0.out.size)).setCell (p:=⟨w.heap.size + 1,0,none⟩) (Nat.le_succ _) _).setCell (p:=⟨w.heap.size + 1,1,none⟩) (Nat.le_succ _) _
 clear hW2 hb1 hk1 zk hHeld HB0 HO0 HK0 HR0;have HB2:=zi5 hb2; have HR2:=zi5 hr2; have HK2:=zi5 hk2;obtain ⟨o0,o1,o2⟩:=zai ho2; obtain ⟨k0,k1⟩:=zak hk2;have zo:=zaa ho2; have zk:=zaa hk2; have zr:=zaa hr2;clear hb2 hr2 hk2 ho2;cases b
 ·obtain ⟨r0,r1⟩:=zak HR2.out
  have f0:=frozen_of_row _ _ 0 _ _ HR2.out; have f1:=frozen_of_row _ _ 1 _ _ HR2.out;go_wp2_with fail
  rw [← show x = r from HR.out]
  exact za7 rfl rfl (zad (i:=1) (v:=.int .u64 x.2) (zad (i:=0) (v:=.int .u64 x.1) HR2.out)) underlying26 rfl (by kernel_rfl)
   ⟨rfl,(HB2.out.setCell (p:=⟨w.heap.size + 2,0,none⟩) (by show w.heap.size≤w.heap.size + 2; omega) _).setCell (p:=⟨w.heap.size + 2,1,none⟩) (by show w.heap.size≤w.heap.size + 2; omega) _⟩
 ·go_wp2_with fail
  refine (zge x.1 x.2 st _ hsl).mono ?_;rw [show zda x.1 x.2 st = r by rw [← HST.out]; exact HR.out];rintro e w3 ⟨rfl,hb⟩;have hk3:=zab hb (zaa HK2.out) HK2.out;have hr3:=zab hb (zaa HR2.out) HR2.out;have HB3:=zi5 (HB2.out.trans (hb.mono HB2.out.size)); have HR3:=zi5 hr3;obtain ⟨k2,k3⟩:=zak hk3;have f2:=frozen_of_row _ _ 0 _ _ hk3; have f3:=frozen_of_row _ _ 1 _ _ hk3;obtain ⟨r0,r1⟩:=zak hr3;have f0:=frozen_of_row _ _ 0 _ _ hr3; have f1:=frozen_of_row _ _ 1 _ _ hr3;have zk3:=zaa hk3; have zr3:=zaa hr3;clear hb hk3 hr3 o0 o1 o2 k0 k1;go_wp2_with fail
  exact za7 rfl rfl (zad (i:=1) (v:=.int .u64 r.2) (zad (i:=0) (v:=.int .u64 r.1) (zam (zam HR3.out (by show w.heap.size + 2≠w.heap.size + 1; omega)) (by show w.heap.size + 2≠w.heap.size + 1; omega)))) underlying26 rfl (by kernel_rfl)
   ⟨rfl,(((HB3.out.setCell (p:=⟨w.heap.size + 1,0,none⟩) (Nat.le_succ _) _).setCell (p:=⟨w.heap.size + 1,1,none⟩) (Nat.le_succ _) _).setCell (p:=⟨w.heap.size + 2,0,none⟩) (by show w.heap.size≤w.heap.size + 2; omega) _).setCell (p:=⟨w.heap.size + 2,1,none⟩) (by show w.heap.size≤w.heap.size + 2; omega) _⟩
theorem fieldkey_all (k:Int × Int) (i:Int) (b:Bool) (s:List UInt8) (w:World) (hvr:VarsAt w) (hi:InI i) (hs:s.length≤50000) :
  Calls prog 32 #[.agg #[.int .u64 k.1,.int .u64 k.2],.int .i64 i,.bool b,zal s] w fun e w'=>e = .returned (.agg #[.int .u64 (keyN k (Lib.itoa i) b s).1,.int .u64 (keyN k (Lib.itoa i) b s).2])∧Below w.heap.size w w':=by
 obtain ⟨r,hr⟩:∃ r,keyN k (Lib.itoa i) b s = r:=⟨_,rfl⟩;rw [hr];have HR:=zi5 hr; clear hr;go_enter func32,ntmps32
 go_wp2_with fail
 refine zae (fun W hW=>?_)
 have hbW:=xam hW
 have hZ0:W.heap[w.heap.size + 1]? = some (.cells #[.int .u64 0,.int .u64 0] 26 (0,0)):=by rw [hW]; exact zac (by simp)
 clear hW;refine (derive_all k i b s _ (hvr.old hbW) hi hs).mono ?_;rw [HR.out];rintro e w1 ⟨rfl,hb⟩;have HB1:=zi5 (hbW.trans (hb.mono hbW.size));have hr1:=zab hb (zaa hZ0) hZ0;have HR1:=zi5 hr1;obtain ⟨r0,r1⟩:=zak hr1;have f0:=frozen_of_row _ _ 0 _ _ hr1; have f1:=frozen_of_row _ _ 1 _ _ hr1;have zr:=zaa hr1;clear hb hr1 hbW hZ0;go_wp2_with fail
 exact za7 rfl rfl (zad (i:=1) (v:=.int .u64 r.2) (zad (i:=0) (v:=.int .u64 r.1) HR1.out)) underlying26 rfl (by kernel_rfl)
  ⟨rfl,(HB1.out.setCell (p:=⟨w.heap.size + 1,0,none⟩) (Nat.le_succ _) _).setCell (p:=⟨w.heap.size + 1,1,none⟩) (Nat.le_succ _) _⟩
end
section
open Go.RowKit
theorem rorder_any (x y:Int) (w:World):Calls prog 97 #[.int .i64 x,.int .i64 y] w fun e w'=>e = .returned (.int .i64 (zgb x y))∧w = w':=by
 obtain ⟨c,hc⟩:∃ c,zgb x y = c:=⟨_,rfl⟩;rw [hc];unfold zgb at hc;by_cases h1:x < y
 ·have d1:decide (x < y) = true:=by simpa using h1
  rw [if_pos h1] at hc; subst hc;go_enter func97,ntmps97
  go_wp2_with fail
  go_ret;exact ⟨rfl,rfl⟩
 ·have d1:decide (x < y) = false:=by simpa using h1
  rw [if_neg h1] at hc;by_cases h2:y < x
  ·have d2:decide (y < x) = true:=by simpa using h2
   rw [if_pos h2] at hc; subst hc;go_enter func97,ntmps97
   go_wp2_with fail
   go_ret;exact ⟨rfl,rfl⟩
  ·have d2:decide (y < x) = false:=by simpa using h2
   rw [if_neg h2] at hc; subst hc;go_enter func97,ntmps97
   go_wp2_with fail
   go_ret;exact ⟨rfl,rfl⟩
theorem cmp3_gt {x y:Int} (h:y < x):zgb x y = 1:=by unfold zgb; rw [if_neg (by omega),if_pos h]
theorem cmp3_lt {x y:Int} (h:x < y):zgb x y = -1:=by unfold zgb; rw [if_pos h]
theorem cmp3_no {x y:Int} (h:¬ x < y) (h2:¬ y < x):zgb x y = 0:=by unfold zgb; rw [if_neg h,if_neg h2]
theorem cmpB_one {a b:BitsL} (h:zgb a.len b.len≠0):cmpB a b = zgb a.len b.len:=by unfold cmpB orN; rw [if_neg h]
theorem cmpB_two {a b:BitsL} (h:zgb a.len b.len = 0) (h2:zgb a.words.length b.words.length≠0):cmpB a b = zgb a.words.length b.words.length:=by unfold cmpB orN; rw [if_pos h]; unfold orN; rw [if_neg h2]
theorem cmpB_three {a b:BitsL} (h:zgb a.len b.len = 0) (h2:zgb a.words.length b.words.length = 0):cmpB a b = cmpW a.words b.words:=by
 unfold cmpB orN; rw [if_pos h]; unfold orN; rw [if_pos h2]; unfold orN;split
 next h3=>rw [h3]; rfl
 next h3=>rfl
theorem rcmpB_any (S T:Nat→Prop) (u v:Value) (a b:BitsL) (w:World) (hu:BitsAt w S u a) (hv:BitsAt w T v b) (hn:a.words.length≤1000000) :
  Calls prog 38 #[u,v] w fun e w'=>e = .returned (.int .i64 (cmpB a b))∧Below w.heap.size w w':=by
 obtain ⟨su,rfl,hu⟩:=hu;obtain ⟨sv,rfl,hv⟩:=hv;obtain ⟨aa,ca,rfl⟩:=hu.slice;obtain ⟨ab,cb,rfl⟩:=hv.slice;have HU:=zi5 hu; have HV:=zi5 hv; clear hu hv;have hfin:∀ n:Int,cmpB a b = n→Ending.returned (.int .i64 n) = .returned (.int .i64 (cmpB a b)):=fun n h=>by rw [h]
 have HF:=zi5 hfin; clear hfin;go_enter func38,ntmps38
 go_wp2_with fail
 refine zae (fun W hW=>?_)
 have hb0:=xam hW
 have ha0:W.heap[w.heap.size]? = some (.cells #[.int .i64 a.len,.slice aa a.words.length ca] 78 (0,0)):=by rw [hW]; exact zaf (zac rfl)
 have he0:W.heap[w.heap.size + 1]? = some (.cells #[.int .i64 b.len,.slice ab b.words.length cb] 78 (0,0)):=by rw [hW]; exact zac (by simp)
 clear hW;have HB0:=zi5 hb0;obtain ⟨a0,a1⟩:=zak ha0; obtain ⟨b0,b1⟩:=zak he0;have lW:=zaa he0;clear ha0 he0 hb0;refine (rorder_any _ _ _).mono ?_;rintro e w1 ⟨rfl,rfl⟩;by_cases h1:zgb a.len b.len = 0
 ·rw [h1]
  have d1:((0:Int) != 0) = false:=rfl;have H1:=zi5 h1; clear h1;go_wp2_with fail
  refine (rorder_any _ _ _).mono ?_;rintro e w1 ⟨rfl,rfl⟩;by_cases h2:zgb a.words.length b.words.length = 0
  ·rw [h2]
   have hlen:a.words.length = b.words.length:=by have:=cmp3_eq h2; omega
   have H2:=zi5 h2; have HL:=zi5 hlen; clear h2 hlen;obtain ⟨z,hz⟩:∃ z,cmpW a.words b.words = z:=⟨_,rfl⟩;have HZ:=zi5 hz; clear hz;have HFz:=zi5 (HF.out z ((cmpB_three H1.out H2.out).trans HZ.out));go_wp2_with fail
   go_loopw [7] (fun i wr=>∃ k:Nat,i = .int .i64 k∧k≤a.words.length∧Hid (cmpW (a.words.drop k) (b.words.drop k) = z)∧Below W.heap.size W wr) (fun i _=>a.words.length - (intOf i).toNat)
   case atStart=>exact ⟨0,rfl,by omega,zi5 HZ.out,Below.refl _ _⟩
   case round =>
    obtain ⟨k,rfl,hk,HT,hbw⟩:=hrel;have HBw:=zi5 hbw;have a0':=(hbw.cell (p:=⟨w.heap.size,0,none⟩) (by show w.heap.size < _; omega)).trans a0;have a1':=(hbw.cell (p:=⟨w.heap.size,1,none⟩) (by show w.heap.size < _; omega)).trans a1;have b0':=(hbw.cell (p:=⟨w.heap.size + 1,0,none⟩) lW).trans b0;have b1':=(hbw.cell (p:=⟨w.heap.size + 1,1,none⟩) lW).trans b1;by_cases hlt:k < a.words.length
    ·have hq:decide ((k:Int) < a.words.length) = true:=by simp; omega
     have hl2:k < b.words.length:=by rw [← HL.out]; exact hlt
     have hi1:(k:Int) < (a.words.length:Int):=by omega
     have hi2:(k:Int) < (b.words.length:Int):=by omega
     obtain ⟨ba,oa,rfl,hba,hca⟩:=(HU.out.below (HB0.out.trans (hbw.mono HB0.out.size))).get k hlt;have c0:=hca 0 _ rfl;rw [Nat.mul_one,Nat.add_zero] at c0;obtain ⟨bb,ob,rfl,hbb,hcb⟩:=(HV.out.below (HB0.out.trans (hbw.mono HB0.out.size))).get k hl2;have e0:=hcb 0 _ rfl;rw [Nat.mul_one,Nat.add_zero] at e0;have ht:=HT.out;rw [cmpW_drop hlt hl2,zbi _ _ hlt,zbi _ _ hl2] at ht;obtain ⟨x,hx⟩:∃ x,a.words[k] = x:=⟨_,rfl⟩;obtain ⟨y,hy⟩:∃ y,b.words[k] = y:=⟨_,rfl⟩;rw [hx] at c0 ht; rw [hy] at e0 ht;have HT2:=zi5 ht;clear hx hy hca hcb ht hbw;go_wp2_with fail
     refine wp_region_noPanic ?_
     refine wp_region_held_drew (S:=(fun w'=>w'.cell? ⟨w.heap.size,1,none⟩ = some (.slice (some ⟨ba,oa,none⟩) a.words.length ca)∧w'.cell? ⟨w.heap.size + 1,1,none⟩ = some (.slice (some ⟨bb,ob,none⟩) b.words.length cb)∧w'.cell? ⟨ba,oa + k,none⟩ = some (.int .u64 x)∧w'.cell? ⟨bb,ob + k,none⟩ = some (.int .u64 y))) (by kernel_rfl) (⟨a1',b1',c0,e0⟩) (fun hHeld=>?_)
     refine tH 0 (h:=?_);refine tH 1 (h:=?_);refine tH 2 (h:=?_);refine tH 3 (h:=?_);refine tH 4 (h:=?_);refine tH 5 (h:=?_);refine tH 6 (h:=?_);refine tH 7 (h:=?_);refine tH 8 (h:=?_);refine tH 9 (h:=?_);refine tH 10 (h:=?_);refine wpAnyH_done (by kernel_rfl) ?_ _;refine NoPanic.normal ?_;by_cases h3:x < y
     ·have d3:decide (x < y) = true:=by simpa using h3
      have hz3:z = -1:=by rw [← HT2.out,cmp3_lt h3]; rfl
      subst hz3;go_wp2_with fail
      go_ret;exact ⟨HFz.out,HB0.out.trans ((HBw.out.drew).mono HB0.out.size)⟩
     ·have d3:decide (x < y) = false:=by simpa using h3
      have H3:=zi5 h3;go_wp2_with fail
      clear hHeld;refine wp_region_noPanic ?_
      refine wp_region_held_drew (S:=(fun w'=>w'.cell? ⟨w.heap.size,1,none⟩ = some (.slice (some ⟨ba,oa,none⟩) a.words.length ca)∧w'.cell? ⟨w.heap.size + 1,1,none⟩ = some (.slice (some ⟨bb,ob,none⟩) b.words.length cb)∧w'.cell? ⟨ba,oa + k,none⟩ = some (.int .u64 x)∧w'.cell? ⟨bb,ob + k,none⟩ = some (.int .u64 y))) (by kernel_rfl) (⟨a1',b1',c0,e0⟩) (fun hHeld=>?_)
      refine tH 0 (h:=?_);refine tH 1 (h:=?_);refine tH 2 (h:=?_);refine tH 3 (h:=?_);refine tH 4 (h:=?_);refine tH 5 (h:=?_);refine tH 6 (h:=?_);refine tH 7 (h:=?_);refine tH 8 (h:=?_);refine tH 9 (h:=?_);refine tH 10 (h:=?_);refine wpAnyH_done (by kernel_rfl) ?_ _;refine NoPanic.normal ?_;by_cases h4:y < x
      ·have d4:decide (y < x) = true:=by simpa using h4
       have hz3:z = 1:=by rw [← HT2.out,cmp3_gt h4]; rfl
       subst hz3;go_wp2_with fail
       go_ret;exact ⟨HFz.out,HB0.out.trans ((HBw.out.drew.drew).mono HB0.out.size)⟩
      ·have d4:decide (y < x) = false:=by simpa using h4
       have ht:=HT2.out;rw [if_pos (show zgb x y = 0 from cmp3_no (by have:=H3.out; omega) h4)] at ht;have HT3:=zi5 ht; clear ht;go_wp2_with fail
       go_roundw
       case rel=>exact ⟨k + 1,by go_num,by omega,HT3,HBw.out.drew.drew⟩
       case measure=>simp [intOf]; omega
    ·have hq:decide ((k:Int) < a.words.length) = false:=by simp; omega
     have ht:=HT.out;rw [show a.words.drop k = [] from List.drop_eq_nil_of_le (by omega),show b.words.drop k = [] from List.drop_eq_nil_of_le (by have:=HL.out; omega)] at ht;have hz0:z = 0:=ht.symm;subst hz0;clear ht;go_wp2_with fail
     go_ret;exact ⟨HFz.out,HB0.out.trans (HBw.out.mono HB0.out.size)⟩
  ·have d2:(zgb a.words.length b.words.length != 0) = true:=by simpa using h2
   have HFz:=zi5 (HF.out _ (cmpB_two H1.out h2));clear h2;go_wp2_with fail
   go_ret;exact ⟨HFz.out,HB0.out⟩
 ·have d1:(zgb a.len b.len != 0) = true:=by simpa using h1
  have HFz:=zi5 (HF.out _ (cmpB_one h1));clear h1;go_wp2_with fail
  go_ret;exact ⟨HFz.out,HB0.out⟩
end
section
open Go.RowKit
theorem zf3 (n:Int) (w:World) (hn:-9223372036854775808≤n) (hn2:n≤9223372036854775807) :
  Calls prog 135 #[.int .i64 n] w fun e w'=>e = .returned (.bool (zb6 n))∧w = w':=by
 unfold zb6;by_cases h1:64≤n
 ·by_cases h2:n≤512
  ·have e1:decide ((64:Int)≤n) = true:=by simpa using h1
   have e2:decide (n≤(512:Int)) = true:=by simpa using h2
   rw [e1,e2];go_enter func135,ntmps135
   go_wp2_with fail
   go_ret;exact ⟨rfl,rfl⟩
  ·have e1:decide ((64:Int)≤n) = true:=by simpa using h1
   have e2:decide (n≤(512:Int)) = false:=by simpa using h2
   rw [e1,e2];go_enter func135,ntmps135
   go_wp2_with fail
   go_ret;exact ⟨rfl,rfl⟩
 ·have e1:decide ((64:Int)≤n) = false:=by simpa using h1
  rw [e1];go_enter func135,ntmps135
  go_wp2_with fail
  go_ret;exact ⟨rfl,rfl⟩
theorem zf4 (n:Int) (w:World) (h:zb6 n = true):Calls prog 119 #[.int .i64 n] w (NewPost n w):=by
 have h0:=h;simp only [zb6,Bool.and_eq_true,decide_eq_true_iff,beq_iff_eq] at h0;obtain ⟨⟨h1,h2⟩,h3⟩:=h0;obtain ⟨m,hm⟩:∃ m:Nat,n = 64 * m:=⟨(n / 64).toNat,by omega⟩;have hdiv:n / 64 = (m:Int):=by omega
 have hz:zej n = List.replicate m 0:=by unfold zej; rw [hdiv]; rfl
 have hmk:=run_make_row' (P:=prog) 76 24 (.int .u64 0) 8 underlying76 infoU rfl .i64 .i64 m (by omega) (by omega);rw [made_words] at hmk;have HR:=zi5 h; have HM:=zi5 hm; have HZ:=zi5 hz;clear h hm h3 hz;go_enter func119,ntmps119
 go_wp2_with fail
 refine (zf3 n _ (by omega) (by omega)).mono ?_;rw [HR.out];rintro e w1 ⟨rfl,rfl⟩;go_wp2_with fail
 exact zag rfl rfl (zaf (zac rfl)) underlying78 rfl (by kernel_rfl)
  ⟨w.heap.size + 1,m,rfl,HM.out,Nat.le_succ _,by rw [HZ.out]; exact zac (by simp),((Below.refl _ _).alloc xnl _).alloc (by simp) _⟩
theorem zgk (S:Nat→Prop) (v:Value) (b:BitsL) (w:World) (h:BitsAt w S v b) (hn:-9223372036854775808≤b.len) (hn2:b.len≤9223372036854775807) :
  Calls prog 72 #[v] w fun e w'=>e = .returned (.bool (zbv b))∧Below w.heap.size w w':=by
 obtain ⟨s,rfl,hv⟩:=h;obtain ⟨a,cap,rfl⟩:=hv.slice;clear hv;unfold zbv;cases hr:zb6 b.len
 ·have HR:=zi5 hr; clear hr
  go_enter func72,ntmps72
  go_wp2_with fail
  refine (zf3 _ _ hn hn2).mono ?_;rw [HR.out];rintro e w1 ⟨rfl,rfl⟩;go_wp2_with fail
  go_ret;exact ⟨rfl,(Below.refl _ _).alloc xnl _⟩
 ·have h0:=hr
  simp only [zb6,Bool.and_eq_true,decide_eq_true_iff,beq_iff_eq] at h0;obtain ⟨⟨h1,h2⟩,h3⟩:=h0;have HR:=zi5 hr; clear hr h3;go_enter func72,ntmps72
  go_wp2_with fail
  refine (zf3 _ _ hn hn2).mono ?_;rw [HR.out];rintro e w1 ⟨rfl,rfl⟩;go_wp2_with fail
  go_ret;exact ⟨rfl,(Below.refl _ _).alloc xnl _⟩
theorem rbnew_no (n:Int) (w:World) (h:zb6 n = false) (h1:-9223372036854775808≤n) (h2:n≤9223372036854775807) :
  Calls prog 119 #[.int .i64 n] w fun e w'=>e = .returned (.tuple #[.agg #[.int .i64 0,.slice none 0 0],.int .i64 2])∧Below w.heap.size w w':=by
 have HR:=zi5 h;clear h;go_enter func119,ntmps119
 go_wp2_with fail
 refine (zf3 n _ h1 h2).mono ?_;rw [HR.out];rintro e w1 ⟨rfl,rfl⟩;go_wp2_with fail
 exact zag rfl rfl (zac rfl) underlying78 rfl (by kernel_rfl)
  ⟨rfl,(Below.refl w.heap.size w).alloc xnl _⟩
end
section
end
section
open Go.RowKit
structure BkV where
 h:Int
 a:Option Addr
 n:Nat
 c:Nat
 ids:List Int
instance:Inhabited BkV:=⟨⟨0,none,0,0,[]⟩⟩
theorem own_keptR {w w':World} {B e size n:Nat} {v:Value} {xs:List Value} {r:Option Nat} (h:w.ownsRow B e size v n xs) (hk:∀ k o,some k≠r→w.heap[k]? = some o→w'.heap[k]? = some o) (hr:v.ownBlock = none∨v.ownBlock≠r):w'.ownsRow B e size v n xs:=by
 refine ⟨h.1,?_⟩
 rcases h.2 with h0 | ⟨g,cap,cur,hv,hg,hh,rest⟩
 ·exact .inl h0
 ·refine .inr ⟨g,cap,cur,hv,hg,hk g _ ?_ hh,rest⟩
  rcases hr with h1 | h1
  ·rw [hv] at h1; cases h1
  ·rw [hv] at h1; exact h1
end
section
open Go.RowKit
theorem one_encU:∀ x:Int,∀ u∈zfx x,u.oneCell' = true:=by intro x u hu; simp at hu; subst hu; rfl
theorem rcopy9_any (S:Nat→Prop) (v:Value) (b:BitsL) (w:World) (h:BitsAt w S v b) (hn:b.words.length≤1000000) :
  Calls prog 103 #[v] w fun e w'=>∃ v',e = .returned (.agg #[.int .i64 b.len,v'])∧OwnV 24 1 zfx w v' b.words w':=by
 obtain ⟨s,rfl,hv⟩:=h;obtain ⟨a,cap,rfl⟩:=hv.slice;obtain ⟨len,ws⟩:=b;dsimp only at hv hn ⊢;have HV:=zi5 hv;clear hv;go_enter func103,ntmps103
 go_wp2_with fail
 refine zao (fun W hW=>?_)
 have hb0:=xam hW
 have hx0:W.heap[w.heap.size]? = some (.cells #[.int .i64 len,.slice a ws.length cap] 78 (0,0)):=by rw [hW]; exact zaf (zac rfl)
 have hz0:W.heap[w.heap.size + 1]? = some (.cells #[.int .i64 0,.slice none 0 0] 78 (0,0)):=by rw [hW]; exact zac (by simp)
 have hR:zco W.drew 1 (.slice a ws.length cap) ws.length (ws.flatMap zfx):=Vec.reads (k:=1) (enc:=zfx) (fun _=>rfl) (HV.out.below (hb0.drew))
 have lz:=zaa hz0;have HR:=zi5 hR; have HB:=zi5 hb0.drew; have HX:=zi5 hx0; have HZ:=zi5 hz0;clear hW hb0 hR hz0;obtain ⟨x0,x1⟩:=zak hx0;clear hx0;refine wp_region_noPanic ?_
 refine wp_region_held_drew (S:=(fun w'=>w'.cell? ⟨w.heap.size,0,none⟩ = some (.int .i64 len)∧w'.cell? ⟨w.heap.size,1,none⟩ = some (.slice a ws.length cap))) (by kernel_rfl) (⟨x0,x1⟩) (fun hHeld=>?_)
 refine tH 0 (h:=?_);refine tH 1 (h:=?_);refine tH 2 (h:=?_);refine tH 3 (h:=?_);refine wpAnyH_ready (rs:=[4]) (by kernel_rfl) (by simp) ?_
 refine AllReadyH.cons rfl (fun K hK=>?_) AllReadyH.nil
 refine zbu (.const (.slice none 0 0)) (.tmp 6) 76 (by rfl) 24 (.int .u64 0) 1 8 zfx (fun _=>rfl) one_encU underlying76 infoU rfl (by decide) (by decide) (w0:=W.drew) (v:=.slice none 0 0) (A:=[]) (B:=ws) (by rfl) (OwnV.nil (Below.refl _ _)) (by rfl) HR.out (by simp; omega) ?_; intro v' W2 ho hk hz; obtain ⟨a',c',e'⟩:=za1 ho.1; subst e'; have hx2:=hk _ _ (by simp [Value.ownBlock]) (show W.drew.heap[w.heap.size]? = _ from HX.out); have hz2:=hk _ _ (by simp [Value.ownBlock]) (show W.drew.heap[w.heap.size + 1]? = _ from HZ.out); obtain ⟨e0,e1⟩:=zak hz2; have f0:=frozen_of_row _ _ 0 _ _ hz2; have f1:=frozen_of_row _ _ 1 _ _ hz2
 refine hK.out _ _ (zak hx2) (fun hHeld=>?_)
 clear hK K;refine tH 5 (h:=?_);refine wpAnyH_ready (rs:=[6]) (by kernel_rfl) (by simp) ?_
 refine AllReadyH.cons rfl (fun K hK=>?_) AllReadyH.nil
 go_simp;skip
 refine hK.out _ _ (zak (zam (zam hx2 (by simp)) (by simp))) (fun hHeld=>?_)
 clear hK K;refine wpAnyH_done (by kernel_rfl) ?_ _;refine NoPanic.normal ?_;go_wp2_with fail
 have hlt:∀ k,(Value.slice a' ([] ++ ws).length c').ownBlock = some k→w.heap.size + 1 < k:=fun k e=>by have:=(World.ownsRow.lt ho.1 k e).1; have:W.drew.heap.size = W.heap.size:=rfl; omega
 have hb2:=HB.out.trans (ho.2.mono HB.out.size);have ho2:=ho.rebase HB.out
 have h3:(((W2.setCell ⟨w.heap.size + 1,0,none⟩ (.int .i64 len)).setCell ⟨w.heap.size + 1,1,none⟩ (.slice a' ([] ++ ws).length c'))).ownsRow w.heap.size 24 1 (.slice a' ([] ++ ws).length c') ws.length (ws.flatMap zfx):=by
  refine own_keptR (r:=some (w.heap.size + 1)) ho2.1 (fun k o hne hk'=>zam (zam hk' (fun e=>hne (by rw [e]))) (fun e=>hne (by rw [e]))) ?_
  by_cases h0:(Value.slice a' ([] ++ ws).length c').ownBlock = none
  ·exact .inl h0
  ·exact .inr fun e=>absurd (hlt _ e) (by omega)
 exact za7 rfl rfl (zad (i:=1) (v:=.slice a' ([] ++ ws).length c') (zad (i:=0) (v:=.int .i64 len) hz2)) underlying78 rfl (by kernel_rfl) ⟨_,rfl,h3,(hb2.setCell (p:=⟨w.heap.size + 1,0,none⟩) (by simp) _).setCell (p:=⟨w.heap.size + 1,1,none⟩) (by simp) _⟩
theorem own_setU {w:World} {B e n:Nat} {v:Value} {ws:List Int} {g:Nat} (h:w.ownsRow B e 1 v n (ws.flatMap zfx)) (hg:v.ownBlock = some g) (q:Nat) (x:Int):(w.setCell ⟨g,q,none⟩ (.int .u64 x)).ownsRow B e 1 v n ((ws.set q x).flatMap zfx):=by
 refine ⟨by rw [← h.1,fl_u,fl_u,List.length_map,List.length_map,List.length_set],?_⟩
 rcases h.2 with ⟨hv,_⟩ | ⟨g',cap,cur,hv,hB,hh,h1,h2,h3,h4⟩
 ·rw [hv] at hg; cases hg
 ·rw [hv] at hg
  have hgg:g' = g:=by simpa [Value.ownBlock] using hg
  subst hgg;refine .inr ⟨g',cap,cur.setIfInBounds q (.int .u64 x),hv,hB,zad hh,h1,h2,by simpa using h3,?_⟩;rw [Array.toList_setIfInBounds,fl_u,List.map_set,← fl_u,← h4,List.take_set]
theorem rset9_yes (S:Nat→Prop) (v:Value) (b:BitsL) (i:Int) (w:World) (h:BitsAt w S v b) (hvb:zbv b = true) (i0:0≤i) (i1:i < b.len) :
  Calls prog 132 #[v,.int .i64 i] w fun e w'=>∃ v',e = .returned (.tuple #[v',.int .i64 0])∧BitsAt w' (fun x=>w.heap.size≤x) v' ⟨b.len,zfk b.words i⟩∧Below w.heap.size w w':=by
 obtain ⟨s,rfl,hv⟩:=h;obtain ⟨a,cap,rfl⟩:=hv.slice;obtain ⟨len,ws⟩:=b;dsimp only at hv i1 ⊢;have hvb0:=hvb;simp only [zbv,zb6,Bool.and_eq_true,decide_eq_true_iff,beq_iff_eq] at hvb0;obtain ⟨⟨⟨l1,l2⟩,l3⟩,l4⟩:=hvb0;have hm:(ws.length:Int) * 64 = len:=by omega
 have hm8:ws.length≤8:=by omega
 have hm1:1≤ws.length:=by omega
 have HV:=zi5 hv.any; have HVb:=zi5 hvb; have HM:=zi5 hm;clear hv hvb l3 l4 hm;go_enter func132,ntmps132
 go_wp2_with fail
 refine zae (fun W hW=>?_)
 have hb0:=xam hW
 have hx0:W.heap[w.heap.size]? = some (.cells #[.int .i64 len,.slice a ws.length cap] 78 (0,0)):=by rw [hW]; exact zaf (zac rfl)
 have hz0:W.heap[w.heap.size + 1]? = some (.cells #[.int .i64 0,.slice none 0 0] 78 (0,0)):=by rw [hW]; exact zac (by simp)
 clear hW;refine (zgk zaw _ ⟨len,ws⟩ W ⟨_,rfl,HV.out.below hb0⟩ (by dsimp only; omega) (by dsimp only; omega)).mono ?_;rw [HVb.out];rintro e w1 ⟨rfl,hb⟩;have HX1:=zi5 (zab hb (zaa hx0) hx0); have HZ1:=zi5 (zab hb (zaa hz0) hz0); have HB1:=zi5 (hb0.trans (hb.mono hb0.size));have lx:=zaa HX1.out;obtain ⟨x0,x1⟩:=zak HX1.out;have d1:decide (i < (0:Int)) = false:=by simp; omega
 have d2:decide (len≤i) = false:=by simp; omega
 clear hb0 hx0 hz0 hb;go_wp2_with fail
 refine (rcopy9_any zaw _ ⟨len,ws⟩ _ ⟨_,rfl,HV.out.below HB1.out⟩ (by dsimp only; omega)).mono ?_;rintro e w2 ⟨v',rfl,ho⟩;dsimp only at ho ⊢
 rcases ho.form with ⟨_,h0⟩ | ⟨g,cp,rfl,hcp,hcm,lg⟩
 ·rw [h0] at hm1; simp at hm1
 have hgB:w1.heap.size≤g:=(World.ownsRow.lt ho.1 g rfl).1;have HX2:=zi5 (zab ho.2 (zaa HX1.out) HX1.out); have HZ2:=zi5 (zab ho.2 (zaa HZ1.out) HZ1.out); have HB2:=zi5 (HB1.out.trans (ho.2.mono HB1.out.size)); have HO:=zi5 ho;clear ho x0 x1 hcp hcm;go_wp2_with fail
 refine zao (fun W6 hW6=>?_)
 have h6:W6.heap[w2.heap.size]? = some (.cells #[.int .i64 len,.slice (some ⟨g,0,none⟩) ws.length cp] 78 (0,0)):=by rw [hW6]; exact zac rfl
 have b6:=xal hW6
 have ho6:=own_below' HO.out.1 b6;obtain ⟨d0,d1'⟩:=zak h6;have hq:(i / 64).toNat < ws.length:=by have:=HM.out; omega
 have hvec:Vec W6 zaw 1 zfx (.slice (some ⟨g,0,none⟩) ws.length cp) ws:=Vec.owns (k:=1) (enc:=zfx) (fun _=>rfl) ho6 fun _ _ _=>trivial
 obtain ⟨b',off,eb,_,hc⟩:=hvec.get _ hq;cases eb;have cw:=hc 0 _ rfl;rw [Nat.mul_one,Nat.add_zero,Nat.zero_add] at cw;rw [← zbi ws 0 hq] at cw;obtain ⟨wd,hwd⟩:∃ wd,ws.getD (i / 64).toNat 0 = wd:=⟨_,rfl⟩;rw [hwd] at cw
 obtain ⟨cur,hcur⟩:∃ cur,W6.heap[g]? = some (.cells cur 24 (0,0)):=by
  rcases ho6.2 with ⟨e,_⟩ | ⟨g',cap',cur,e,_,hh,_⟩
  ·cases e
  ·cases e; exact ⟨cur,hh⟩
 have fw:=frozen_of_row _ _ (i / 64).toNat _ _ hcur;have lg6:=zaa hcur;have ht1:i.tdiv 64 = i / 64:=Int.tdiv_eq_ediv_of_nonneg i0;have ht2:i.tmod 64 = i % 64:=Int.tmod_eq_emod_of_nonneg i0;have hw1:IntKind.i64.wrap (i / 64) = i / 64:=by rw [IntKind.wrap_i64]; omega
 have j0:(0:Int)≤i / 64:=by omega
 have j1:i / 64 < (ws.length:Int):=by have:=HM.out; omega
 have j2:(0:Int)≤i % 64:=by omega
 have j3:¬ (i % 64 < 0):=by omega
 have HO6:=zi5 ho6; have H6:=zi5 h6; have HB6:=zi5 b6; have HWD:=zi5 hwd;have HX6:=zi5 (zab b6 (zaa HX2.out) HX2.out); have HZ6:=zi5 (zab b6 (zaa HZ2.out) HZ2.out);clear hW6 h6 b6 ho6 hvec hc hwd hcur hq;refine wp_region_noPanic ?_
 refine zat (by kernel_rfl) (fun w'=>w'.cell? ⟨w2.heap.size,1,none⟩ = some (.slice (some ⟨g,0,none⟩) ws.length cp)∧w'.cell? ⟨g,(i / 64).toNat,none⟩ = some (.int .u64 wd)) 11 (⟨d1',cw⟩) (fun hHeld=>?_)
 refine tK 0 (h:=?_);refine tK 1 (h:=?_);refine tK 2 (h:=?_);refine tK 3 (h:=?_);refine tK 4 (h:=?_);refine tK 5 (h:=?_);refine tK 6 (h:=?_);refine tK 7 (h:=?_);refine tK 8 (h:=?_);refine tK 9 (h:=?_);refine tK 10 (h:=?_)
 refine xrK 11 rfl fun K hK=>?_
 go_simp;refine zas hK (by decide) ?_;clear hK K;refine zap (by kernel_rfl) ?_ _;refine NoPanic.normal ?_;obtain ⟨x,hx⟩:∃ x,bits .or .u64 wd (IntKind.u64.wrap (2 ^ (i % 64).toNat)) = x:=⟨_,rfl⟩;rw [hx];obtain ⟨W7,hW7⟩:∃ u,u = (W6.setCell ⟨g,(i / 64).toNat,none⟩ (.int .u64 x)).drew:=⟨_,rfl⟩;rw [← hW7];have z2:=HB2.out.size; have z6:=HB6.out.size; have lz:=zaa HZ6.out; have l2:=zaa H6.out;have hgne:w2.heap.size≠g:=by omega
 have hk7:∀ k o,k≠g→W6.heap[k]? = some o→W7.heap[k]? = some o:=fun k o hne ho=>by rw [hW7]; exact (show (W6.setCell ⟨g,(i / 64).toNat,none⟩ (.int .u64 x)).heap[k]? = some o from zam ho hne)
 have z7:W7.heap.size = W6.heap.size:=by rw [hW7]; simp [World.setCell,World.drew]
 have h67:=hk7 _ _ hgne H6.out;have lz1:=zaa HZ1.out;have hz7:=hk7 _ _ (by omega) HZ6.out
 have ho7:W7.ownsRow w1.heap.size 24 1 (.slice (some ⟨g,0,none⟩) ws.length cp) ws.length ((ws.set (i / 64).toNat x).flatMap zfx):=by
  rw [hW7]; exact own_setU HO6.out rfl _ _
 have hb7:Below w.heap.size w W7:=by
  rw [hW7];exact ((HB2.out.trans (HB6.out.mono HB2.out.size)).setCell (p:=⟨g,(i / 64).toNat,none⟩) (by have:=HB1.out.size; show w.heap.size≤g; omega) _).drew
 have he:zfk ws i = ws.set (i / 64).toNat x:=by
  rw [← hx,← HWD.out]; rfl
 obtain ⟨e0,e1⟩:=zak h67; obtain ⟨y0,y1⟩:=zak hz7;have f0:=frozen_of_row _ _ 0 _ _ hz7; have f1:=frozen_of_row _ _ 1 _ _ hz7;have lz7:=zaa hz7; have l67:=zaa h67;have HE:=zi5 he;have HO7:=zi5 ho7; have HZ7:=zi5 hz7; have HB7:=zi5 hb7;have hge:w.heap.size + 1 < g:=by have:=zaa HZ1.out; omega
 clear hW7 hk7 h67 hz7 ho7 hb7 he hx d0 d1' cw;go_wp2_with fail
 refine zag rfl rfl (zad (i:=1) (v:=.slice (some ⟨g,0,none⟩) ws.length cp) (zad (i:=0) (v:=.int .i64 len) HZ7.out)) underlying78 rfl (by kernel_rfl)
  ⟨_,rfl,⟨_,rfl,?_⟩,(HB7.out.setCell (p:=⟨w.heap.size + 1,0,none⟩) (by simp) _).setCell (p:=⟨w.heap.size + 1,1,none⟩) (by simp) _⟩
 have hv7:Vec W7 (fun b=>w.heap.size≤b∧b≠w.heap.size + 1) 1 zfx (.slice (some ⟨g,0,none⟩) ws.length cp) (ws.set (i / 64).toNat x):=by
  have h:=HO7.out;have hsl:(ws.set (i / 64).toNat x).length = ws.length:=List.length_set;rw [← hsl] at h;have h':=Vec.owns (k:=1) (enc:=zfx) (fun _=>rfl) h (S:=fun b=>b = g∨True) fun _ _ _=>.inr trivial
  obtain ⟨a2,c2,e2,k1,k2⟩:=h';rw [hsl] at e2;cases e2
  refine ⟨_,_,by rw [hsl],k1,fun h0=>?_⟩
  obtain ⟨b2,o2,q1,_,q3,q4⟩:=k2 h0;cases q1;exact ⟨_,_,rfl,⟨by omega,by omega⟩,q3,q4⟩
 have h8:=(hv7.set1 (a:=⟨w.heap.size + 1,0,none⟩) (fun b hb=>hb.2) (.int .i64 len)).set1 (a:=⟨w.heap.size + 1,1,none⟩) (fun b hb=>hb.2) (.slice (some ⟨g,0,none⟩) ws.length cp)
 have h9:=h8.move (S':=fun b=>w.heap.size≤b) xnl fun b _ hb=>⟨rfl,hb.1⟩
 rw [← HE.out] at h9;exact h9
end
section
open Go.RowKit Cal
attribute [local go_sem] zah zaj zaq
theorem zgz (n:Nat) (w:World) (hn:n < 10):Calls prog 80 #[.int .i64 n] w fun e w'=>e = .returned (zal (Lib.decDigits n))∧Below w.heap.size w w':=by
 obtain ⟨c,hc⟩:∃ c:UInt8,UInt8.ofNat (48 + n) = c:=⟨_,rfl⟩;have hcv:48 + (n:Int) = (c.toNat:Int):=by rw [← hc,UInt8.toNat_ofNat']; omega
 rw [digs_one n hn,hc];have d1:decide ((n:Int) < 10) = true:=by simp; omega
 have hm:max (n:Int) 0 = (n:Int):=by omega
 have hown:=(own_new (w0:=w) (w:=w.alloc (.cells #[.int .u8 (48 + (n:Int))] 5)) (enc:=encB) (L:=[c]) (size:=1) (n:=1) (e:=5) (g:=w.heap.size) ((Below.refl _ _).alloc xnl _) xnl (by rw [hcv]; exact zac rfl) rfl (by simp) rfl).1;have hconv:=zb1 (P:=prog) [c] hown underlying181 underlying5 underlying9;clear hown hc hcv;go_enter func80,ntmps80
 go_wp2_with fail
 go_ret;exact ⟨rfl,(Below.refl _ _).alloc xnl _⟩
theorem dec_cut9 {n:Nat} (h:¬ n < 10):Lib.decDigits n = Lib.decDigits (n / 10) ++ Lib.decDigits (n % 10):=by
 rw [Lib.decDigits,dif_neg h,Lib.decDigits_one (show n % 10 < 10 by omega)]
theorem zf2:∀ (k n:Nat) (w:World),n < 10 ^ k→n≤9223372036854775807→Calls prog 80 #[.int .i64 n] w fun e w'=>e = .returned (zal (Lib.decDigits n))∧Below w.heap.size w w'
 | 0,n,w,h,_=>zgz n w (by omega)
 | k + 1,n,w,h,hm=>by
  by_cases h10:n < 10
  ·exact zgz n w h10
  ·obtain ⟨q,hq⟩:∃ q,n / 10 = q:=⟨_,rfl⟩
   obtain ⟨r,hr⟩:∃ r,n % 10 = r:=⟨_,rfl⟩;have e1:(n:Int).tdiv 10 = (q:Int):=by rw [← hq]; exact (Int.ofNat_tdiv n 10).symm
   have e2:(n:Int).tmod 10 = (r:Int):=by rw [← hr]; exact (Int.ofNat_tmod n 10).symm
   have e3:(n:Int) / 10 = (q:Int):=by omega
   have e4:(n:Int) % 10 = (r:Int):=by omega
   have e5:IntKind.i64.wrap (q:Int) = q:=by rw [IntKind.wrap_i64]; omega
   have i1:=fun w=>zf2 k q w (by rw [← hq]; rw [Nat.pow_succ] at h; omega) (by omega)
   have i2:=fun w=>zgz r w (by omega)
   rw [dec_cut9 h10,hq,hr];have l1:(Lib.decDigits q).length≤19:=zdd (k:=19) (by decide) (by omega);have l2:(Lib.decDigits r).length≤1:=zdd (k:=1) (by decide) (by omega);obtain ⟨X,hX⟩:∃ X,Lib.decDigits q = X:=⟨_,rfl⟩;obtain ⟨Y,hY⟩:∃ Y,Lib.decDigits r = Y:=⟨_,rfl⟩;rw [hX] at i1 l1; rw [hY] at i2 l2; rw [hX,hY];have d1:decide ((n:Int) < 10) = false:=by simp; omega
   have I1:=zi5 i1; have I2:=zi5 i2;have c1:¬ 9223372036854775807 < X.length + Y.length:=by omega
   clear i1 i2 hX hY hq hr h h10;go_enter func80,ntmps80
   go_wp2_with fail
   refine (I1.out _).mono ?_;rintro e w1 ⟨rfl,hb⟩;have HB1:=zi5 hb; clear hb;go_wp2_with fail
   refine (I2.out _).mono ?_;rintro e w2 ⟨rfl,hb⟩;have HB2:=zi5 (HB1.out.trans (hb.mono HB1.out.size)); clear hb;go_wp2_with fail
   go_ret;exact ⟨rfl,HB2.out⟩
theorem hexT_ext9 (d:Nat) (h:d < 16):(⟨#[48,49,50,51,52,53,54,55,56,57,97,98,99,100,101,102]⟩:ByteArray).extract d (d + 1) = ⟨[digH d].toArray⟩:=by
 have:∀ k:Fin 16,(⟨#[48,49,50,51,52,53,54,55,56,57,97,98,99,100,101,102]⟩:ByteArray).extract k.val (k.val + 1) = ⟨[digH k.val].toArray⟩:=by decide
 exact this ⟨d,h⟩
theorem rword9_hex (n:Nat) (w:World) (hn:n < 18446744073709551616) :
  Calls prog 140 #[.int .u64 n] w fun e w'=>e = .returned (zal (zgv 16 n))∧Below w.heap.size w w':=by
 go_enter func140,ntmps140
 go_wp2_with fail
 go_loopw [3,4] (fun v sh wr=>∃ k:Nat,k≤16∧sh = .int .i64 (60 - 4 * (k:Int))∧v = zal ((zgv 16 n).take k)∧Below w.heap.size w wr) (fun _ sh _=>(intOf sh + 4).toNat)
 case atStart=>exact ⟨0,by omega,rfl,by simp,Below.refl _ _⟩
 case round =>
  obtain ⟨k,hk,rfl,rfl,hbw⟩:=hrel;have HBw:=zi5 hbw; clear hbw;by_cases hk16:k < 16
  ·have hq1:decide ((0:Int)≤60 - 4 * (k:Int)) = true:=by simp only [decide_eq_true_eq]; omega
   obtain ⟨d,hd⟩:∃ d,n / 16 ^ (15 - k) % 16 = d:=⟨_,rfl⟩;have hd16:d < 16:=by rw [← hd]; exact Nat.mod_lt _ (by decide)
   have hnib:bits .and .u64 ((n:Int) / 2 ^ (60 - 4 * k)) 15 = (d:Int):=by rw [nib_at n k hn hk16,hd]
   have hmore:=hexN_more (n:=n) hk16;rw [hd] at hmore;have hl:((zgv 16 n).take k).length≤16:=by rw [List.length_take]; omega
   obtain ⟨X,hX⟩:∃ X,(zgv 16 n).take k = X:=⟨_,rfl⟩;rw [hX] at hmore hl ⊢;have hwr:IntKind.u64.wrap ((d:Int) + 1) = (d:Int) + 1:=by rw [IntKind.wrap_u64]; omega
   have hext:=hexT_ext9 d hd16;have hsz:([digH d].length) = 1:=rfl;have c1:¬ 9223372036854775807 < X.length + 1:=by omega
   have c2:¬ 9223372036854775807 < X.length + [digH d].length:=by rw [hsz]; omega
   have HMr:=zi5 hmore;have i1:(d:Int)≤16:=by omega
   have i2:(d:Int) + 1≤16:=by omega
   have i3:d + 1≤16:=by omega
   clear hd hmore hX;go_wp2_with fail
   go_roundw
   case rel=>exact ⟨k + 1,by omega,by congr 1; omega,by rw [HMr.out],HBw.out⟩
   case measure=>simp [intOf]; omega
  ·obtain rfl:k = 16:=by omega
   have hq1:decide ((0:Int)≤60 - 4 * ((16:Nat):Int)) = false:=by decide
   rw [List.take_of_length_le (by rw [zet]; omega)];go_wp2_with fail
   go_ret;exact ⟨rfl,HBw.out⟩
theorem val_digit9 {c:UInt8} (h:(valH c).isSome = true):∃ k,k < 16∧digH k = c:=by
 have h2:∀ n:Fin 256,(valH (UInt8.ofNat n.val)).isSome = true→∃ k:Fin 16,digH k.val = UInt8.ofNat n.val:=by decide +kernel
 have h3:UInt8.ofNat c.toNat = c:=by simp
 obtain ⟨k,hk⟩:=h2 ⟨c.toNat,by have:=c.toNat_lt; simpa using this⟩ (by rw [h3]; exact h);exact ⟨k.val,k.isLt,by rw [hk]; exact h3⟩
def digW (t:List UInt8):Bool:=(t.length == 16) && t.all zfw
def valW (t:List UInt8):Int:=if digW t = true then ((t.foldl zcu 0:Nat):Int) else 0
theorem digW_no {t:List UInt8} {i:Nat} (h:i < t.length) (hn:∀ k,k < 16→digH k≠t[i]):digW t = false:=by
 cases hd:digW t with
 | false=>rfl
 | true =>
  unfold digW at hd;simp only [Bool.and_eq_true,List.all_eq_true] at hd;obtain ⟨k,hk,e⟩:=val_digit9 (hd.2 t[i] (List.getElem_mem h));exact absurd e (hn k hk)
theorem rread9_any (t:List UInt8) (w:World) (ht:t.length≤1000000) :
  Calls prog 148 #[zal t] w fun e w'=>e = .returned (.tuple #[.int .u64 (valW t),.bool (digW t)])∧Below w.heap.size w w':=by
 have HY:=zi5 (show digW t = true→(Ending.returned (.tuple #[.int .u64 (((t.foldl zcu 0:Nat)):Int),.bool true])) = .returned (.tuple #[.int .u64 (valW t),.bool (digW t)]) from fun h=>by unfold valW; rw [if_pos h,h])
 have HNo:=zi5 (show digW t = false→(Ending.returned (.tuple #[.int .u64 0,.bool false])) = .returned (.tuple #[.int .u64 (valW t),.bool (digW t)]) from fun h=>by unfold valW; rw [h]; rfl)
 by_cases h16:t.length = 16
 ·have d16:((t.length:Int) != 16) = false:=by rw [h16]; rfl
  have HL:=zi5 h16;have hl1:16≤t.length:=by omega
  have hl2:(16:Int)≤(t.length:Int):=by omega
  clear h16;go_enter func148,ntmps148
  go_wp2_with fail
  go_loopw [4,5] (fun v s wr=>∃ (i X:Nat),i≤16∧s = .int .i64 i∧v = .int .u64 (X:Int)∧Hid ((t.take i).foldl zcu 0 = X)∧Hid (∀ j (hj:j < i) (hl:j < t.length),zfw t[j] = true)∧Below w.heap.size w wr) (fun _ s _=>16 - (intOf s).toNat)
  case atStart=>exact ⟨0,0,by omega,rfl,rfl,zi5 rfl,zi5 fun j hj=>by omega,Below.refl _ _⟩
  case round =>
   obtain ⟨i,X,hi,rfl,rfl,HX,HA,hbw⟩:=hrel;obtain ⟨wu,hwu⟩:∃ u,u = wr:=⟨_,rfl⟩;subst hwu;have HBw:=zi5 hbw; clear hbw;by_cases hlt:i < 16
   ·have hq:decide ((i:Int) < 16) = true:=by simp; omega
    have hit:i < t.length:=by omega
    have hiti:(i:Int) < (t.length:Int):=by omega
    obtain ⟨c,hc⟩:∃ c,t[i] = c:=⟨_,rfl⟩;have HC:=zi5 hc;have HTk:=zi5 (show (t.take (i + 1)).foldl zcu 0 = zcu X c by rw [List.take_succ_eq_append_getElem hit,List.foldl_append,HX.out,hc]; rfl);have hget:∀ h:i < (⟨t.toArray⟩:ByteArray).size,(⟨t.toArray⟩:ByteArray)[i]'h = c:=fun h=>hc
    clear hc;go_wp2_with fail
    go_loopw [6] (fun s wr=>∃ k:Nat,k≤16∧s = .int .i64 k∧Hid (∀ j,j < k→digH j≠c)∧Below w.heap.size w wr) (fun s _=>16 - (intOf s).toNat)
    case atStart=>exact ⟨0,by omega,rfl,zi5 fun j hj=>by omega,HBw.out⟩
    case round =>
     obtain ⟨k,hk,rfl,HN,hbw⟩:=hrel;have HBk:=zi5 (hbw.trans ((Below.refl wr.heap.size wr).drew.mono hbw.size)); clear hbw;by_cases hkl:k < 16
     ·have hqk:decide ((k:Int) < 16) = true:=by simp; omega
      have hki:(k:Int) < 16:=by omega
      have hgd:∀ h:k < (⟨#[48,49,50,51,52,53,54,55,56,57,97,98,99,100,101,102]⟩:ByteArray).size,(⟨#[48,49,50,51,52,53,54,55,56,57,97,98,99,100,101,102]⟩:ByteArray)[k]'h = digH k:=fun h=>hexD_get k hkl h
      obtain ⟨d,hd⟩:∃ d,digH k = d:=⟨_,rfl⟩;rw [hd] at hgd;have HDk:=zi5 hd;clear hd;by_cases hcd:d = c
      ·have dn:((d.toNat:Int) != (c.toNat:Int)) = false:=by rw [hcd]; simp
       have dk:((k:Int) == 16) = false:=beq_eq_false_iff_ne.2 (by omega);have HCD:=zi5 hcd;have hor:bits .or .u64 (IntKind.u64.wrap ((X:Int) * 16)) (k:Int) = ((zcu X c:Nat):Int):=by rw [or_nib X k hkl]; unfold zcu; rw [← HCD.out,← HDk.out,valH_dig k hkl]; rfl
       clear hcd;go_wp2_with fail
       refine wp_region_noPanic ?_
       refine wp_region_held_drew (S:=(fun w'=>True)) (by kernel_rfl) (trivial) (fun hHeld=>?_)
       refine tH 0 (h:=?_);refine tH 1 (h:=?_);refine tH 2 (h:=?_);refine tH 3 (h:=?_);refine tH 4 (h:=?_);refine tH 5 (h:=?_);refine tH 6 (h:=?_);refine tH 7 (h:=?_);refine tH 8 (h:=?_);refine tH 9 (h:=?_);refine wpAnyH_done (by kernel_rfl) ?_ _;refine NoPanic.normal ?_;go_wp2_with fail
       go_roundw
       case rel =>
        refine ⟨i + 1,zcu X c,by omega,by go_num,by first | rfl | rw [hor] | simp [hor],HTk,zi5 fun j hj hl=>?_,HBk.out⟩
        by_cases hji:j = i
        ·subst hji
         unfold zfw; rw [HC.out,← HCD.out,← HDk.out,valH_dig k hkl]; rfl
        ·exact HA.out j (by omega) hl
       case measure=>simp [intOf]; omega
      ·have dn:((d.toNat:Int) != (c.toNat:Int)) = true:=by
        rw [bne_iff_ne];intro e;exact hcd (UInt8.toNat_inj.1 (by omega))
       have HCD:=zi5 hcd;clear hcd;go_wp2_with fail
       refine wp_region_noPanic ?_
       refine wp_region_held_drew (S:=(fun w'=>True)) (by kernel_rfl) (trivial) (fun hHeld=>?_)
       refine tH 0 (h:=?_);refine tH 1 (h:=?_);refine tH 2 (h:=?_);refine tH 3 (h:=?_);refine tH 4 (h:=?_);refine tH 5 (h:=?_);refine tH 6 (h:=?_);refine tH 7 (h:=?_);refine tH 8 (h:=?_);refine tH 9 (h:=?_);refine wpAnyH_done (by kernel_rfl) ?_ _;refine NoPanic.normal ?_;go_wp2_with fail
       go_roundw
       case rel =>
        refine ⟨k + 1,by omega,by go_num,zi5 fun j hj=>?_,HBk.out⟩
        by_cases hjk:j = k
        ·subst hjk; rw [HDk.out]; exact HCD.out
        ·exact HN.out j (by omega)
       case measure=>simp [intOf]; omega
     ·have hqk:decide ((k:Int) < 16) = false:=by simp; omega
      obtain rfl:k = 16:=by omega
      have hno:=zi5 (digW_no hit (by rw [HC.out]; exact HN.out));go_wp2_with fail
      refine wp_region_noPanic ?_
      refine wp_region_held_drew (S:=(fun w'=>True)) (by kernel_rfl) (trivial) (fun hHeld=>?_)
      refine tH 0 (h:=?_);refine tH 1 (h:=?_);refine tH 2 (h:=?_);refine sH 3 (h:=?_);refine sH 4 (h:=?_);refine sH 5 (h:=?_);refine sH 6 (h:=?_);refine sH 7 (h:=?_);refine sH 8 (h:=?_);refine tH 9 (h:=?_);refine wpAnyH_done (by kernel_rfl) ?_ _;refine NoPanic.normal ?_;go_wp2_with fail
      go_ret2;exact ⟨HNo.out hno.out,HBk.out⟩
   ·have hq:decide ((i:Int) < 16) = false:=by simp; omega
    obtain rfl:i = 16:=by omega
    have hyes:digW t = true:=by
     unfold digW;rw [HL.out,Bool.and_eq_true,List.all_eq_true]
     refine ⟨rfl,fun c hc=>?_⟩
     obtain ⟨j,hj,e⟩:=List.getElem_of_mem hc;rw [← e];exact HA.out j (by have:=HL.out; omega) hj
    have hval:=HX.out;rw [List.take_of_length_le (by have:=HL.out; omega)] at hval;subst hval;have HYs:=zi5 hyes;clear hyes;go_wp2_with fail
    go_ret2;exact ⟨HY.out HYs.out,HBw.out⟩
 ·have d16:((t.length:Int) != 16) = true:=by rw [bne_iff_ne]; omega
  have hno:=zi5 (show digW t = false by unfold digW; rw [beq_eq_false_iff_ne.2 h16,Bool.false_and]);clear h16;go_enter func148,ntmps148
  go_wp2_with fail
  go_ret2;exact ⟨HNo.out hno.out,Below.refl _ _⟩
end
section
open Go.RowKit
theorem rrot13 (x:Int) (w:World):Calls prog 279 #[.int .u64 x,.int .i64 13] w fun e w'=>e = .returned (.int .u64 (zih 8192 2251799813685248 x))∧Below w.heap.size w w':=by
 have hw:IntKind.i64.wrap 51 = 51:=by decide
 go_enter func279,ntmps279
 go_wp2_with fail
 refine wp_region_noPanic ?_
 refine wp_region_held_drew (S:=(fun _=>True)) (by kernel_rfl) (trivial) (fun hHeld=>?_)
 refine tH 0 (h:=?_);refine tH 1 (h:=?_);refine tH 2 (h:=?_);refine tH 3 (h:=?_);refine tH 4 (h:=?_);refine tH 5 (h:=?_);refine tH 6 (h:=?_);refine tH 7 (h:=?_);refine tH 8 (h:=?_);refine wpAnyH_done (by kernel_rfl) ?_ _;refine NoPanic.normal ?_;go_wp2_with fail
 go_ret;exact ⟨rfl,(Below.refl _ _).drew⟩
theorem rrot32 (x:Int) (w:World):Calls prog 279 #[.int .u64 x,.int .i64 32] w fun e w'=>e = .returned (.int .u64 (zih 4294967296 4294967296 x))∧Below w.heap.size w w':=by
 have hw:IntKind.i64.wrap 32 = 32:=by decide
 go_enter func279,ntmps279
 go_wp2_with fail
 refine wp_region_noPanic ?_
 refine wp_region_held_drew (S:=(fun _=>True)) (by kernel_rfl) (trivial) (fun hHeld=>?_)
 refine tH 0 (h:=?_);refine tH 1 (h:=?_);refine tH 2 (h:=?_);refine tH 3 (h:=?_);refine tH 4 (h:=?_);refine tH 5 (h:=?_);refine tH 6 (h:=?_);refine tH 7 (h:=?_);refine tH 8 (h:=?_);refine wpAnyH_done (by kernel_rfl) ?_ _;refine NoPanic.normal ?_;go_wp2_with fail
 go_ret;exact ⟨rfl,(Below.refl _ _).drew⟩
theorem rrot16 (x:Int) (w:World):Calls prog 279 #[.int .u64 x,.int .i64 16] w fun e w'=>e = .returned (.int .u64 (zih 65536 281474976710656 x))∧Below w.heap.size w w':=by
 have hw:IntKind.i64.wrap 48 = 48:=by decide
 go_enter func279,ntmps279
 go_wp2_with fail
 refine wp_region_noPanic ?_
 refine wp_region_held_drew (S:=(fun _=>True)) (by kernel_rfl) (trivial) (fun hHeld=>?_)
 refine tH 0 (h:=?_);refine tH 1 (h:=?_);refine tH 2 (h:=?_);refine tH 3 (h:=?_);refine tH 4 (h:=?_);refine tH 5 (h:=?_);refine tH 6 (h:=?_);refine tH 7 (h:=?_);refine tH 8 (h:=?_);refine wpAnyH_done (by kernel_rfl) ?_ _;refine NoPanic.normal ?_;go_wp2_with fail
 go_ret;exact ⟨rfl,(Below.refl _ _).drew⟩
theorem rrot21 (x:Int) (w:World):Calls prog 279 #[.int .u64 x,.int .i64 21] w fun e w'=>e = .returned (.int .u64 (zih 2097152 8796093022208 x))∧Below w.heap.size w w':=by
 have hw:IntKind.i64.wrap 43 = 43:=by decide
 go_enter func279,ntmps279
 go_wp2_with fail
 refine wp_region_noPanic ?_
 refine wp_region_held_drew (S:=(fun _=>True)) (by kernel_rfl) (trivial) (fun hHeld=>?_)
 refine tH 0 (h:=?_);refine tH 1 (h:=?_);refine tH 2 (h:=?_);refine tH 3 (h:=?_);refine tH 4 (h:=?_);refine tH 5 (h:=?_);refine tH 6 (h:=?_);refine tH 7 (h:=?_);refine tH 8 (h:=?_);refine wpAnyH_done (by kernel_rfl) ?_ _;refine NoPanic.normal ?_;go_wp2_with fail
 go_ret;exact ⟨rfl,(Below.refl _ _).drew⟩
theorem rrot17 (x:Int) (w:World):Calls prog 279 #[.int .u64 x,.int .i64 17] w fun e w'=>e = .returned (.int .u64 (zih 131072 140737488355328 x))∧Below w.heap.size w w':=by
 have hw:IntKind.i64.wrap 47 = 47:=by decide
 go_enter func279,ntmps279
 go_wp2_with fail
 refine wp_region_noPanic ?_
 refine wp_region_held_drew (S:=(fun _=>True)) (by kernel_rfl) (trivial) (fun hHeld=>?_)
 refine tH 0 (h:=?_);refine tH 1 (h:=?_);refine tH 2 (h:=?_);refine tH 3 (h:=?_);refine tH 4 (h:=?_);refine tH 5 (h:=?_);refine tH 6 (h:=?_);refine tH 7 (h:=?_);refine tH 8 (h:=?_);refine wpAnyH_done (by kernel_rfl) ?_ _;refine NoPanic.normal ?_;go_wp2_with fail
 go_ret;exact ⟨rfl,(Below.refl _ _).drew⟩
theorem zdx (s:Sip) (w:World):Calls prog 247 #[.agg (sipC s)] w fun e w'=>e = .returned (.agg (sipC (rndP s)))∧Below w.heap.size w w':=by
 obtain ⟨a,b,c,d⟩:=s;go_enter func247,ntmps247
 go_wp2_with fail
 refine zao (fun W hW=>?_)
 have hb0:=xam hW
 have hv0:W.heap[w.heap.size]? = some (.cells (sipC ⟨a,b,c,d⟩) 270 (0,0)):=by rw [hW]; exact zaf (zac rfl)
 have hr0:W.heap[w.heap.size + 1]? = some (.cells (sipC ⟨0,0,0,0⟩) 270 (0,0)):=by rw [hW]; exact zac (by simp)
 clear hW;have HB0:=zi5 hb0; have HR0:=zi5 hr0;obtain ⟨c0,c1,c2,c3⟩:=zan hv0;clear hb0 hv0 hr0;refine wp_region_noPanic ?_
 refine wp_region_held_drew (S:=(fun w'=>w'.cell? ⟨w.heap.size,0,none⟩ = some (.int .u64 a)∧w'.cell? ⟨w.heap.size,1,none⟩ = some (.int .u64 b)∧w'.cell? ⟨w.heap.size,2,none⟩ = some (.int .u64 c)∧w'.cell? ⟨w.heap.size,3,none⟩ = some (.int .u64 d))) (by kernel_rfl) (⟨c0,c1,c2,c3⟩) (fun hHeld=>?_)
 refine tH 0 (h:=?_);refine tH 1 (h:=?_);refine tH 2 (h:=?_);refine tH 3 (h:=?_);refine tH 4 (h:=?_);refine tH 5 (h:=?_);refine tH 6 (h:=?_);refine tH 7 (h:=?_);refine tH 8 (h:=?_);refine tH 9 (h:=?_);refine tH 10 (h:=?_);refine tH 11 (h:=?_);refine wpAnyH_done (by kernel_rfl) ?_ _;refine NoPanic.normal ?_
 refine zbw (fun W1 hW1=>?_)
 have hb1:Below w.heap.size w W1:=by rw [hW1]; exact HB0.out.drew
 have hr1:W1.heap[w.heap.size + 1]? = some (.cells (sipC ⟨0,0,0,0⟩) 270 (0,0)):=by rw [hW1]; exact HR0.out
 clear hW1 c0 c1 c2 c3 hHeld HB0 HR0;have HB:=zi5 hb1; have HR:=zi5 hr1; clear hb1 hr1;go_wp2_with fail
 refine (rrot13 _ _).mono ?_;rintro e w1 ⟨rfl,hb⟩;have hB:=HB.out.trans (hb.mono HB.out.size); have hR:=zab hb (zaa HR.out) HR.out;clear HB HR hb; have HB:=zi5 hB; have HR:=zi5 hR; clear hB hR;go_wp2_with fail
 refine (rrot32 _ _).mono ?_;rintro e w2 ⟨rfl,hb⟩;have hB:=HB.out.trans (hb.mono HB.out.size); have hR:=zab hb (zaa HR.out) HR.out;clear HB HR hb; have HB:=zi5 hB; have HR:=zi5 hR; clear hB hR;go_wp2_with fail
 refine (rrot16 _ _).mono ?_;rintro e w3 ⟨rfl,hb⟩;have hB:=HB.out.trans (hb.mono HB.out.size); have hR:=zab hb (zaa HR.out) HR.out;clear HB HR hb; have HB:=zi5 hB; have HR:=zi5 hR; clear hB hR;go_wp2_with fail
 refine (rrot21 _ _).mono ?_;rintro e w4 ⟨rfl,hb⟩;have hB:=HB.out.trans (hb.mono HB.out.size); have hR:=zab hb (zaa HR.out) HR.out;clear HB HR hb; have HB:=zi5 hB; have HR:=zi5 hR; clear hB hR;go_wp2_with fail
 refine (rrot17 _ _).mono ?_;rintro e w5 ⟨rfl,hb⟩;have hB:=HB.out.trans (hb.mono HB.out.size); have hR:=zab hb (zaa HR.out) HR.out;clear HB HR hb; have HB:=zi5 hB; have HR:=zi5 hR; clear hB hR;go_wp2_with fail
 refine (rrot32 _ _).mono ?_;rintro e w6 ⟨rfl,hb⟩;have hB:=HB.out.trans (hb.mono HB.out.size); have hR:=zab hb (zaa HR.out) HR.out;clear HB HR hb; have HB:=zi5 hB; have HR:=zi5 hR;obtain ⟨r0,r1,r2,r3⟩:=zan hR;obtain ⟨f0,f1,f2,f3⟩:=freeS hR;have lr:=zaa hR;clear hB hR;go_wp2_with fail
 exact za7 rfl rfl (zad (i:=3) (zad (i:=2) (zad (i:=1) (zad (i:=0) HR.out)))) underlying270 rfl (by kernel_rfl)
  ⟨rfl,(((HB.out.setCell (p:=⟨w.heap.size + 1,0,none⟩) (Nat.le_succ _) _).setCell (p:=⟨w.heap.size + 1,1,none⟩) (Nat.le_succ _) _).setCell (p:=⟨w.heap.size + 1,2,none⟩) (Nat.le_succ _) _).setCell (p:=⟨w.heap.size + 1,3,none⟩) (Nat.le_succ _) _⟩
end
section
open Go.RowKit
def RipAt (w:World) (b:Nat) (s:Sip) (w':World):Prop:=w'.heap[b]? = some (.cells (sipC s) 270 (0,0))∧w.grownBy w' (some b)
theorem RipAt.read {w w':World} {b:Nat} {s:Sip} (h:RipAt w b s w'):(w'.cell? ⟨b,0,none⟩ = some (.int .u64 s.a)∧w'.cell? ⟨b,1,none⟩ = some (.int .u64 s.b)∧w'.cell? ⟨b,2,none⟩ = some (.int .u64 s.c)∧w'.cell? ⟨b,3,none⟩ = some (.int .u64 s.d)) ∧
  (w'.frozen? ⟨b,0,none⟩ = false∧w'.frozen? ⟨b,1,none⟩ = false∧w'.frozen? ⟨b,2,none⟩ = false∧w'.frozen? ⟨b,3,none⟩ = false):=⟨zan h.1,freeS h.1⟩
theorem RipAt.set {w w':World} {b i:Nat} {s s':Sip} {v:Value} (h:RipAt w b s w') (e:(sipC s).setIfInBounds i v = sipC s'):RipAt w b s' (w'.setCell ⟨b,i,none⟩ v) :=
 ⟨by rw [← e]; exact zad h.1,zha h.2⟩
theorem RipAt.below {w w' w'':World} {b:Nat} {s:Sip} (h:RipAt w b s w') (hb:Below w'.heap.size w' w''):RipAt w b s w'' :=
 ⟨zab hb (zaa h.1) h.1,zc9 h.2 (grown_below hb)⟩
theorem RipAt.all {w w':World} {b:Nat} {s s':Sip} (h:RipAt w b s w'):RipAt w b s' ((((w'.setCell ⟨b,0,none⟩ (.int .u64 s'.a)).setCell ⟨b,1,none⟩ (.int .u64 s'.b)).setCell ⟨b,2,none⟩ (.int .u64 s'.c)).setCell ⟨b,3,none⟩ (.int .u64 s'.d)) :=
 (((h.set (s':=⟨s'.a,s.b,s.c,s.d⟩) rfl).set (s':=⟨s'.a,s'.b,s.c,s.d⟩) rfl).set (s':=⟨s'.a,s'.b,s'.c,s.d⟩) rfl).set rfl
theorem RipAt.base {w W w':World} {b B:Nat} {s:Sip} (h:RipAt W b s w') (hb:Below B w W) (hB:B≤b) (hW:B≤W.heap.size):Below B w w' :=
 hb.trans ⟨h.2.os,h.2.tape,h.2.output,h.2.size,fun k hk=>h.2.block k (by omega) (by simp; omega)⟩
theorem top_wrap (n:Nat):(n:Int) % 256 * 72057594037927936 = IntKind.u64.wrap ((n:Int) * 72057594037927936):=by
 have h:∀ x:Int,IntKind.u64.wrap x = x % 18446744073709551616:=fun x=>rfl
 rw [h]; omega
theorem rsum_any (S:Nat→Prop) (ka kb:Int) (v:Value) (l:List UInt8) (w:World) (h:Vec w S 1 encB v l) (hl:l.length≤1000000000) :
  Calls prog 201 #[.agg #[.int .u64 ka,.int .u64 kb],v] w fun e w'=>e = .returned (.int .u64 (sumP ka kb l))∧Below w.heap.size w w':=by
 obtain ⟨a,cap,rfl⟩:=h.slice;have hcap:=h.len.2;have HV:=zi5 (h.any.move (S':=fun b=>b < w.heap.size) (w':=w) xnl fun b hb _=>⟨rfl,hb⟩); clear h
 go_enter func201,ntmps201
 go_wp2_with fail
 refine zao (fun W hW=>?_)
 have hb0:=xam hW
 have hs0:RipAt W (w.heap.size + 1) ⟨xr ka 8317987319222330741,xr kb 7237128888997146477,xr ka 7816392313619706465,xr kb 8387220255154660723⟩ W:=by rw [hW]; exact ⟨zac (by simp),zeq _ _⟩
 have hv0:=HV.out.below hb0;clear hW HV;have HB0:=zi5 hb0; have HS0:=zi5 hs0; have HV0:=zi5 hv0;clear hb0 hs0 hv0;go_loopw [6] (fun at_ wr=>∃ (j:Nat) (s:Sip),at_ = .int .i64 ((8 * j:Nat):Int)∧8 * j≤l.length∧RipAt W (w.heap.size + 1) s wr∧Hid (zi0 s (l.drop (8 * j)) ((l.drop (8 * j)).length / 8) = zi0 ⟨xr ka 8317987319222330741,xr kb 7237128888997146477,xr ka 7816392313619706465,xr kb 8387220255154660723⟩ l (l.length / 8))) (fun at_ _=>l.length + 1 - (intOf at_).toNat)
 case atStart=>exact ⟨0,_,rfl,by omega,HS0.out,zi5 rfl⟩
 case round =>
  obtain ⟨j,s,rfl,hj,hs,HE⟩:=hrel;obtain ⟨J,hJ⟩:∃ J,8 * j = J:=⟨_,rfl⟩;rw [hJ] at hj HE ⊢;obtain ⟨r,hr⟩:∃ r,l.drop J = r:=⟨_,rfl⟩;have hrl:r.length = l.length - J:=by rw [← hr,List.length_drop]
  rw [hr] at HE;have HRD:=zi5 hr; have HJ:=zi5 hJ;have HV:=zi5 (HV0.out.grown (b:=w.heap.size + 1) (fun x hx=>by omega) hs.2)
  have HS:=zi5 hs;obtain ⟨⟨c0,c1,c2,c3⟩,f0,f1,f2,f3⟩:=hs.read;have lb:=zaa hs.1;clear hs hr hJ;by_cases hlt:8≤r.length
  ·have hmin:min (8:Int) ((l.length:Int) - (J:Int)) = 8:=by omega
   have hq8:decide ((8:Int) < 8) = false:=rfl;have hend:zi0 s r (r.length / 8) = zi0 (wordP s (numP 0 0 (r.take 8))) (r.drop 8) ((r.drop 8).length / 8):=eachP_more s r hlt;have HEnd:=zi5 hend; clear hend;go_wp2_with fail
   go_loopw [7,9] (fun m i wx=>wx = wr∧∃ (k:Nat) (mm:Int),i = .int .i64 k∧k≤8∧m = .int .u64 mm∧Hid (numP k mm ((r.take 8).drop k) = numP 0 0 (r.take 8))) (fun _ i _=>8 - (intOf i).toNat)
   case atStart=>exact ⟨rfl,0,0,rfl,by omega,rfl,zi5 rfl⟩
   case round =>
    obtain ⟨rfl,k,mm,rfl,hk,rfl,HT⟩:=hrel;by_cases hlk:k < 8
    ·have hq:decide ((k:Int) < 8) = true:=by simp; omega
     obtain ⟨b,off,rfl,hb,hc⟩:=HV.out.get (J + k) (by omega);have c0:=hc 0 _ rfl;rw [Nat.mul_one,Nat.add_zero] at c0;unfold ze1 at c0;have hkr:k < (r.take 8).length:=by rw [List.length_take]; omega
     have hg:(r.take 8)[k] = l[J + k]:=by rw [List.getElem_take]; simp only [← HRD.out,List.getElem_drop]
     have ht:=HT.out;rw [List.drop_eq_getElem_cons hkr,hg] at ht;have HT2:=zi5 ht;clear ht hg HT hc;go_wp2_with fail
     go_roundw
     case rel=>exact ⟨trivial,k + 1,_,by go_num,by omega,rfl,zi5 (by rw [← HT2.out]; rfl)⟩
     case measure=>simp [intOf]; omega
    ·have hq:decide ((k:Int) < 8) = false:=by simp; omega
     have hd:(r.take 8).drop k = []:=List.drop_eq_nil_of_le (by rw [List.length_take]; omega);rw [hd] at HT;obtain rfl:mm = numP 0 0 (r.take 8):=HT.out;clear HT hd hq;obtain ⟨m,hm⟩:∃ m,numP 0 0 (r.take 8) = m:=⟨_,rfl⟩;rw [hm] at HEnd ⊢;have HM:=zi5 hm; clear hm;go_wp2_with fail
     have hS:=HS.out.set (i:=3) (v:=.int .u64 (xr s.d m)) (s':=⟨s.a,s.b,s.c,xr s.d m⟩) rfl;clear HS; have HS:=zi5 hS; clear hS;clear c0 c1 c2 c3 f0 f1 f2 f3;refine (zdx ⟨s.a,s.b,s.c,xr s.d m⟩ _).mono ?_;rintro e w1 ⟨rfl,hb⟩;have hS:=HS.out.below hb;clear HS hb; have HS:=zi5 hS; clear hS;go_wp2_with fail
     refine (zdx (rndP ⟨s.a,s.b,s.c,xr s.d m⟩) _).mono ?_;rintro e w2 ⟨rfl,hb⟩;have hS:=HS.out.below hb;clear HS hb;obtain ⟨t,ht⟩:∃ t,rndP (rndP ⟨s.a,s.b,s.c,xr s.d m⟩) = t:=⟨_,rfl⟩;rw [ht];have hw:wordP s m = ⟨xr t.a m,t.b,t.c,t.d⟩:=by rw [← ht]; rfl
     have HW:=zi5 hw;have HS:=zi5 hS;obtain ⟨⟨c0,c1,c2,c3⟩,f0,f1,f2,f3⟩:=hS.read;have lb2:=zaa hS.1;clear hS ht hw;go_wp2_with fail
     exact ⟨⟨j + 1,⟨xr t.a m,t.b,t.c,t.d⟩,congrArg (Value.int .i64) (by have:=HJ.out; omega),by have:=HJ.out; omega,(HS.out.all (s':=t)).set (i:=0) (v:=.int .u64 (xr t.a m)) rfl,zi5 (by rw [← HE.out,HEnd.out,HW.out,show 8 * (j + 1) = J + 8 by have:=HJ.out; omega,← List.drop_drop,HRD.out])⟩,by simp [intOf]; omega⟩
  ·have hmin:min (8:Int) ((l.length:Int) - (J:Int)) = (l.length:Int) - (J:Int):=by omega
   have hq8:decide ((l.length:Int) - (J:Int) < 8) = true:=by simp; omega
   have hr8:r.take 8 = r:=List.take_of_length_le (by omega);have hE:=HE.out;rw [eachP_end s r (by omega)] at hE;have HE2:=zi5 hE.symm;clear hE HE;go_wp2_with fail
   go_loopw [7,9] (fun m i wx=>wx = wr∧∃ (k:Nat) (mm:Int),i = .int .i64 k∧k≤r.length∧m = .int .u64 mm∧Hid (numP k mm ((r.take 8).drop k) = numP 0 0 (r.take 8))) (fun _ i _=>r.length - (intOf i).toNat)
   case atStart=>exact ⟨rfl,0,0,rfl,by omega,rfl,zi5 rfl⟩
   case round =>
    obtain ⟨rfl,k,mm,rfl,hk,rfl,HT⟩:=hrel;by_cases hlk:k < r.length
    ·have hq:decide ((k:Int) < (l.length:Int) - (J:Int)) = true:=by simp; omega
     obtain ⟨b,off,rfl,hb,hc⟩:=HV.out.get (J + k) (by omega);have c0:=hc 0 _ rfl;rw [Nat.mul_one,Nat.add_zero] at c0;unfold ze1 at c0;have hkr:k < (r.take 8).length:=by rw [List.length_take]; omega
     have hg:(r.take 8)[k] = l[J + k]:=by rw [List.getElem_take]; simp only [← HRD.out,List.getElem_drop]
     have ht:=HT.out;rw [List.drop_eq_getElem_cons hkr,hg] at ht;have HT2:=zi5 ht;clear ht hg HT hc;go_wp2_with fail
     go_roundw
     case rel=>exact ⟨trivial,k + 1,_,by go_num,by omega,rfl,zi5 (by rw [← HT2.out]; rfl)⟩
     case measure=>simp [intOf]; omega
    ·have hq:decide ((k:Int) < (l.length:Int) - (J:Int)) = false:=by simp; omega
     have hd:(r.take 8).drop k = []:=List.drop_eq_nil_of_le (by rw [List.length_take]; omega);rw [hd] at HT;obtain rfl:mm = numP 0 0 (r.take 8):=HT.out;clear HT hd hq;have htw:=top_wrap l.length;rw [hr8];obtain ⟨m,hm⟩:∃ m,bits .or .u64 (numP 0 0 r) (IntKind.u64.wrap ((l.length:Int) * 72057594037927936)) = m:=⟨_,rfl⟩;have hm2:bits .or .u64 (numP 0 0 r) ((l.length:Int) % 256 * 72057594037927936) = m:=by rw [htw]; exact hm
     have HM:=zi5 hm; clear hm htw;go_wp2_with fail
     clear hm2;have hS:=HS.out.set (i:=3) (v:=.int .u64 (xr s.d m)) (s':=⟨s.a,s.b,s.c,xr s.d m⟩) rfl;clear HS; have HS:=zi5 hS; clear hS;clear c0 c1 c2 c3 f0 f1 f2 f3;refine (zdx ⟨s.a,s.b,s.c,xr s.d m⟩ _).mono ?_;rintro e w1 ⟨rfl,hb⟩;have hS:=HS.out.below hb;clear HS hb; have HS:=zi5 hS; clear hS;go_wp2_with fail
     refine (zdx (rndP ⟨s.a,s.b,s.c,xr s.d m⟩) _).mono ?_;rintro e w2 ⟨rfl,hb⟩;have hS:=HS.out.below hb;clear HS hb;obtain ⟨t,ht⟩:∃ t,rndP (rndP ⟨s.a,s.b,s.c,xr s.d m⟩) = t:=⟨_,rfl⟩;rw [ht];have hw:wordP s m = ⟨xr t.a m,t.b,t.c,t.d⟩:=by rw [← ht]; rfl
     have HW:=zi5 hw;have HS:=zi5 hS;obtain ⟨⟨c0,c1,c2,c3⟩,f0,f1,f2,f3⟩:=hS.read;have lb2:=zaa hS.1;clear hS ht hw;go_upto_region 14 with fail
     refine zao (fun W1 hW1=>?_)
     have hS:RipAt W (w.heap.size + 1) t W1:=by rw [hW1]; exact HS.out.all (s':=t)
     clear HS c0 c1 c2 c3 f0 f1 f2 f3 lb2 hW1; have HS:=zi5 hS;obtain ⟨⟨c0,c1,c2,c3⟩,f0,f1,f2,f3⟩:=hS.read;have lb2:=zaa hS.1;clear hS;go_upto_region 16 with fail
     refine zao (fun W2 hW2=>?_)
     have hS:RipAt W (w.heap.size + 1) ⟨xr t.a m,t.b,t.c,t.d⟩ W2:=by rw [hW2]; exact HS.out.set (i:=0) (v:=.int .u64 (xr t.a m)) rfl
     clear HS c0 c1 c2 c3 f0 f1 f2 f3 lb2 hW2; have HS:=zi5 hS;obtain ⟨⟨c0,c1,c2,c3⟩,f0,f1,f2,f3⟩:=hS.read;have lb2:=zaa hS.1;clear hS;go_wp2_with fail
     have hS:=HS.out.set (i:=2) (v:=.int .u64 (xr t.c 255)) (s':=⟨xr t.a m,t.b,xr t.c 255,t.d⟩) rfl;clear HS c0 c1 c2 c3 f0 f1 f2 f3; have HS:=zi5 hS; clear hS;obtain ⟨u,hu⟩:∃ u:Sip,(⟨xr t.a m,t.b,t.c,t.d⟩:Sip) = u:=⟨_,rfl⟩;refine (zdx ⟨xr t.a m,t.b,xr t.c 255,t.d⟩ _).mono ?_;rintro e w3 ⟨rfl,hb⟩;have hS:=HS.out.below hb;clear HS hb; have HS:=zi5 hS; clear hS;go_wp2_with fail
     refine (zdx (rndI 1 ⟨xr t.a m,t.b,xr t.c 255,t.d⟩) _).mono ?_;rintro e w4 ⟨rfl,hb⟩;have hS:=HS.out.below hb;clear HS hb; have HS:=zi5 hS; clear hS;go_wp2_with fail
     refine (zdx (rndI 2 ⟨xr t.a m,t.b,xr t.c 255,t.d⟩) _).mono ?_;rintro e w5 ⟨rfl,hb⟩;have hS:=HS.out.below hb;clear HS hb; have HS:=zi5 hS; clear hS;go_wp2_with fail
     refine (zdx (rndI 3 ⟨xr t.a m,t.b,xr t.c 255,t.d⟩) _).mono ?_;rintro e w6 ⟨rfl,hb⟩;have hS:=HS.out.below hb;clear HS hb;obtain ⟨v,hv⟩:∃ v,rndI 4 ⟨xr t.a m,t.b,xr t.c 255,t.d⟩ = v:=⟨_,rfl⟩;rw [show rndP (rndI 3 ⟨xr t.a m,t.b,xr t.c 255,t.d⟩) = v from hv];have HVv:=zi5 hv;have HS:=zi5 hS;obtain ⟨⟨c0,c1,c2,c3⟩,f0,f1,f2,f3⟩:=hS.read;have lb2:=zaa hS.1;clear hS hv hu;go_upto_region 18 with fail
     refine zao (fun W3 hW3=>?_)
     have hS:RipAt W (w.heap.size + 1) v W3:=by rw [hW3]; exact HS.out.all (s':=v)
     clear HS hW3 c0 c1 c2 c3 f0 f1 f2 f3; have HS:=zi5 hS;obtain ⟨⟨c0,c1,c2,c3⟩,f0,f1,f2,f3⟩:=hS.read;have lb3:=zaa hS.1;clear hS;go_wp2_with fail
     go_ret;refine ⟨?_,HS.out.base HB0.out (by omega) HB0.out.size⟩;rw [← sumP_of ka kb l s r HE2.out ⟨xr t.a m,t.b,t.c,t.d⟩ (by rw [HM.out]; exact HW.out) v HVv.out];rfl
end
section
open Go.RowKit
theorem rsparts_any (S:Nat→Prop) (ka kb:Int) (v:Value) (L:List (List UInt8)) (w:World) (h:Vec w S 1 za2 v L) (hl:∀ t∈L,t.length≤60000) (hn:L.length≤1000) :
  Calls prog 150 #[.agg #[.int .u64 ka,.int .u64 kb],v] w fun e w'=>e = .returned (.int .u64 (zc8 ka kb L))∧Below w.heap.size w w':=by
 obtain ⟨a,cap,rfl⟩:=h.slice;have HV:=zi5 h.any; clear h;have HL:=zi5 hl; clear hl;go_enter func150,ntmps150
 go_wp2_with fail
 refine zao (fun W hW=>?_)
 have hb0:=xal hW
 have hk:W.heap[w.heap.size]? = some (.cells #[.int .u64 ka,.int .u64 kb] 26 (0,0)):=by rw [hW]; exact zac rfl
 have HV0:=zi5 (HV.out.below hb0);have HB0:=zi5 hb0; have HK:=zi5 hk;clear hW hb0 hk HV;go_loopw [5,6] (fun v i wr=>∃ k:Nat,i = .int .i64 k∧k≤L.length∧OwnV 5 1 encB W v ((L.take k).flatMap partP) wr) (fun _ i _=>L.length - (intOf i).toNat)
 case atStart=>exact ⟨0,rfl,by omega,OwnV.start _ _ _ _⟩
 case round =>
  obtain ⟨k,rfl,hk,ho⟩:=hrel;have HO:=zi5 ho; clear ho;by_cases hlt:k < L.length
  ·have hq:decide ((k:Int) < L.length) = true:=by simp; omega
   obtain ⟨t,ht⟩:∃ t,L[k] = t:=⟨_,rfl⟩;have htl:t.length≤60000:=HL.out t (by rw [← ht]; exact List.getElem_mem _);obtain ⟨b,off,rfl,hb,hc⟩:=(HV0.out.below HO.out.2).get k hlt;have c0:=hc 0 _ rfl;rw [Nat.mul_one,Nat.add_zero,ht] at c0;clear hc;have hm:decide ((65535:Int) < t.length) = false:=by simp; omega
   have hx:=extract_all t;obtain ⟨x,ex⟩:∃ x,UInt8.ofNat (t.length / 256) = x:=⟨_,rfl⟩;obtain ⟨y,ey⟩:∃ y,UInt8.ofNat t.length = y:=⟨_,rfl⟩;have hxa:(t.length:Int) / 256 = (x.toNat:Int):=by rw [← ex,UInt8.toNat_ofNat']; omega
   have hya:(t.length:Int) % 256 = (y.toNat:Int):=by rw [← ey,UInt8.toNat_ofNat']; omega
   have hp:=zh4 t htl;rw [ex,ey] at hp;have hts:L.take (k + 1) = L.take k ++ [t]:=by rw [List.take_succ_eq_append_getElem hlt,ht]
   have htk:=zhk (L.take k) fun u hu=>HL.out u (List.mem_of_mem_take hu)
   rw [List.length_take] at htk;have HP:=zi5 hp; have HTs:=zi5 hts;clear hp hts ex ey;obtain ⟨P,hP⟩:∃ P,(L.take k).flatMap partP = P:=⟨_,rfl⟩;rw [hP] at HO htk;have HPP:=zi5 hP; clear hP;have HO1:=zi5 (HO.out.below ((Below.refl _ _).alloc xnl (.cells #[.int .u8 (x.toNat:Int),.int .u8 (y.toNat:Int)] 5)));have HR1:=zi5 (reads_row (xs:=[x,y].flatMap encB) (n:=2) (c:=2) (heap_alloc_new wr (.cells #[.int .u8 (x.toNat:Int),.int .u8 (y.toNat:Int)] 5)) rfl);have hz0:=HO.out.2.size;have hlen:P.length + ([x,y]:List UInt8).length≤1000000000:=by simp only [List.length_cons,List.length_nil]; omega
   have hlen2:(P ++ [x,y]).length + t.length≤1000000000:=by rw [List.length_append]; simp only [List.length_cons,List.length_nil]; omega
   go_wp2_with (at_builtin; first | (refine zch rfl (.tmp 23) (.tmp 31) 181 rfl 5 (.int .u8 0) 1 1 encB (fun _=>rfl) one_encB underlying181 infoBy rfl (by decide) (by decide) (w0:=W) (v:=u5) (A:=P) (B:=[x,y]) rfl HO1.out rfl HR1.out hlen ?_; intro v2 w2 ho2 hk2 hz2) | (refine zgw rfl (.tmp 33) (.tmp 34) 181 9 rfl 5 underlying181 underlying9 infoBy (w0:=W) (v:=v2) (A:=P ++ [x,y]) t rfl ho2 rfl hlen2 ?_; intro v3 w3 ho3 hz3))
   go_roundw
   case rel=>exact ⟨k + 1,by go_num,by omega,by rw [HTs.out,List.flatMap_append,HPP.out,List.flatMap_cons,List.flatMap_nil,List.append_nil,HP.out,← List.append_assoc]; exact ho3⟩
   case measure=>simp [intOf]; omega
  ·have hq:decide ((k:Int) < L.length) = false:=by simp; omega
   have htk:=zhk L fun u hu=>HL.out u hu
   rw [List.take_of_length_le (by omega)] at HO;have hz0:=HO.out.2.size;have hk2:wr.heap[w.heap.size]? = some (.cells #[.int .u64 ka,.int .u64 kb] 26 (0,0)):=zab HO.out.2 (zaa HK.out) HK.out;obtain ⟨k0,k1⟩:=zak hk2;go_wp2_with fail
   refine (rsum_any _ ka kb _ (L.flatMap partP) _ (OwnV.vec (size:=1) (enc:=encB) (fun _=>rfl) HO.out) (by omega)).mono ?_
   rintro e w2 ⟨rfl,hb2⟩;go_wp2_with fail
   go_ret;exact ⟨rfl,HB0.out.trans ((HO.out.2.mono HB0.out.size).trans (hb2.mono (by have:=HB0.out.size; omega)))⟩
theorem zhl (ka kb:Int) (x y:List UInt8) (hx:x.length≤60000) (hy:y.length≤60000) (w:World) (g:Nat) (h:w.heap[g]? = some (.cells #[zal x,zal y] 9 (0,0))) :
  Calls prog 150 #[.agg #[.int .u64 ka,.int .u64 kb],.slice (some ⟨g,0,none⟩) 2 2] w fun e w'=>e = .returned (.int .u64 (zc8 ka kb [x,y]))∧Below w.heap.size w w':=by
 refine rsparts_any zaw ka kb _ [x,y] w ⟨_,2,rfl,by simp,fun _=>⟨g,0,rfl,trivial,zaa h,fun j z hj i u hu=>?_⟩⟩ (by intro t ht; simp at ht; rcases ht with rfl | rfl <;> omega) (by simp)
 rw [cell_of_row _ _ _ _ _ _ h]
 match j,i,hj,hu with
 | 0,0,hj,hu=>simp at hj; subst hj; simpa using hu
 | 1,0,hj,hu=>simp at hj; subst hj; simpa using hu
 | 0,i + 1,hj,hu=>simp at hu
 | 1,i + 1,hj,hu=>simp at hu
 | j + 2,_,hj,_=>simp at hj
theorem zgj (ka kb:Int) (l:List UInt8) (w:World) (hl:l.length≤60000) :
  Calls prog 94 #[.agg #[.int .u64 ka,.int .u64 kb],zal l] w fun e w'=>e = .returned (.agg #[.int .u64 (zda ka kb l).1,.int .u64 (zda ka kb l).2])∧Below w.heap.size w w':=by
 obtain ⟨p,hp⟩:∃ p,zc8 ka kb [l,[97]] = p:=⟨_,rfl⟩;obtain ⟨q,hq⟩:∃ q,zc8 ka kb [l,[98]] = q:=⟨_,rfl⟩;have hpq:zda ka kb l = (p,q):=by rw [← hp,← hq]; rfl
 rw [hpq];have HP:=zi5 hp; have HQ:=zi5 hq;clear hp hq hpq;go_enter func94,ntmps94
 go_wp2_with fail
 refine zao (fun W hW=>?_)
 have hb0:=xam hW
 have hk0:W.heap[w.heap.size]? = some (.cells #[.int .u64 ka,.int .u64 kb] 26 (0,0)):=by rw [hW]; exact zaf (zac rfl)
 have hz0:W.heap[w.heap.size + 1]? = some (.cells #[.int .u64 0,.int .u64 0] 26 (0,0)):=by rw [hW]; exact zac (by simp)
 have hW0:=zaa hk0;obtain ⟨k0,k1⟩:=zak hk0;clear hW;have bD:Below W.heap.size W W.drew:=(Below.refl _ _).drew;refine wp_region_noPanic ?_
 refine zat (by kernel_rfl) (fun w'=>w'.cell? ⟨w.heap.size,0,none⟩ = some (.int .u64 ka)∧w'.cell? ⟨w.heap.size,1,none⟩ = some (.int .u64 kb)) 9 (⟨k0,k1⟩) (fun hHeld=>?_)
 refine tK 0 (h:=?_);refine tK 1 (h:=?_);refine tK 4 (h:=?_);refine tK 5 (h:=?_);refine za8 (rs:=[2,6]) (by kernel_rfl) (by simp) ?_
 refine AllReadyK.cons rfl (fun K hK=>?_) (AllReadyK.cons rfl (fun K hK=>?_) AllReadyK.nil)
 focus
  go_simp
  refine za5 hK (⟨((bD.alloc bD.size _).cell (p:=⟨w.heap.size,0,none⟩) hW0).trans k0,((bD.alloc bD.size _).cell (p:=⟨w.heap.size,1,none⟩) hW0).trans k1⟩) (fun hHeld=>?_)
  clear hK K
  refine zbb (fun W1 hW1=>?_)
  have b1:Below W.heap.size W W1:=by rw [hW1]; exact bD.alloc bD.size (.cells #[zal l,zal [97]] 9)
  have g1:W1.heap[W.heap.size]? = some (.cells #[zal l,zal [97]] 9 (0,0)):=by rw [hW1]; exact zac rfl
  clear hW1;refine za8 (rs:=[3,6]) (by kernel_rfl) (by simp) ?_
  refine AllReadyK.cons rfl (fun K hK=>?_) (AllReadyK.cons rfl (fun K hK=>?_) AllReadyK.nil)
  focus
   go_simp;refine (zhl ka kb l [97] hl (by decide) _ _ g1).mono ?_;rintro e w2 ⟨rfl,hb⟩;have b2:=b1.trans (hb.mono b1.size);clear hb
   refine za5 hK (⟨(b2.cell (p:=⟨w.heap.size,0,none⟩) hW0).trans k0,(b2.cell (p:=⟨w.heap.size,1,none⟩) hW0).trans k1⟩) (fun hHeld=>?_)
   clear hK K
   refine xrK 6 rfl fun K hK=>?_
   go_simp
   refine za5 hK (⟨((b2.alloc b2.size _).cell (p:=⟨w.heap.size,0,none⟩) hW0).trans k0,((b2.alloc b2.size _).cell (p:=⟨w.heap.size,1,none⟩) hW0).trans k1⟩) (fun hHeld=>?_)
   clear hK K
   refine zbb (fun W3 hW3=>?_)
   have b3:Below W.heap.size W W3:=by rw [hW3]; exact b2.alloc b2.size (.cells #[zal l,zal [98]] 9)
   have g3:W3.heap[w2.heap.size]? = some (.cells #[zal l,zal [98]] 9 (0,0)):=by rw [hW3]; exact zac rfl
   clear hW3
  rotate_left 1
  focus
   go_simp
   refine za5 hK (⟨((b1.alloc b1.size _).cell (p:=⟨w.heap.size,0,none⟩) hW0).trans k0,((b1.alloc b1.size _).cell (p:=⟨w.heap.size,1,none⟩) hW0).trans k1⟩) (fun hHeld=>?_)
   clear hK K
   refine zbb (fun W2 hW2=>?_)
   have b2:Below W.heap.size W W2:=by rw [hW2]; exact b1.alloc b1.size (.cells #[zal l,zal [98]] 9)
   have g3:W2.heap[W1.heap.size]? = some (.cells #[zal l,zal [98]] 9 (0,0)):=by rw [hW2]; exact zac rfl
   have g1':W2.heap[W.heap.size]? = some (.cells #[zal l,zal [97]] 9 (0,0)):=by rw [hW2]; exact zaf g1
   clear hW2
   refine xrK 3 rfl fun K hK=>?_
   go_simp;refine (zhl ka kb l [97] hl (by decide) _ _ g1').mono ?_;rintro e W3 ⟨rfl,hb⟩;have b3:=b2.trans (hb.mono b2.size);have g3:=zab hb (zaa g3) g3;clear hb
   refine za5 hK (⟨(b3.cell (p:=⟨w.heap.size,0,none⟩) hW0).trans k0,(b3.cell (p:=⟨w.heap.size,1,none⟩) hW0).trans k1⟩) (fun hHeld=>?_)
   clear hK K
 rotate_left 2
 focus
  go_simp
  refine za5 hK (⟨((bD.alloc bD.size _).cell (p:=⟨w.heap.size,0,none⟩) hW0).trans k0,((bD.alloc bD.size _).cell (p:=⟨w.heap.size,1,none⟩) hW0).trans k1⟩) (fun hHeld=>?_)
  clear hK K
  refine zbb (fun W1 hW1=>?_)
  have b1:Below W.heap.size W W1:=by rw [hW1]; exact bD.alloc bD.size (.cells #[zal l,zal [98]] 9)
  have g3:W1.heap[W.heap.size]? = some (.cells #[zal l,zal [98]] 9 (0,0)):=by rw [hW1]; exact zac rfl
  clear hW1
  refine xrK 2 rfl fun K hK=>?_
  go_simp
  refine za5 hK (⟨((b1.alloc b1.size _).cell (p:=⟨w.heap.size,0,none⟩) hW0).trans k0,((b1.alloc b1.size _).cell (p:=⟨w.heap.size,1,none⟩) hW0).trans k1⟩) (fun hHeld=>?_)
  clear hK K
  refine zbb (fun W2 hW2=>?_)
  have b2:Below W.heap.size W W2:=by rw [hW2]; exact b1.alloc b1.size (.cells #[zal l,zal [97]] 9)
  have g1:W2.heap[W1.heap.size]? = some (.cells #[zal l,zal [97]] 9 (0,0)):=by rw [hW2]; exact zac rfl
  have g3':W2.heap[W.heap.size]? = some (.cells #[zal l,zal [98]] 9 (0,0)):=by rw [hW2]; exact zaf g3
  clear hW2
  refine xrK 3 rfl fun K hK=>?_
  go_simp;refine (zhl ka kb l [97] hl (by decide) _ _ g1).mono ?_;rintro e W3 ⟨rfl,hb⟩;have b3:=b2.trans (hb.mono b2.size);have g3:=zab hb (zaa g3') g3';clear hb
  refine za5 hK (⟨(b3.cell (p:=⟨w.heap.size,0,none⟩) hW0).trans k0,(b3.cell (p:=⟨w.heap.size,1,none⟩) hW0).trans k1⟩) (fun hHeld=>?_)
  clear hK K
 all_goals
  refine xrK 7 rfl fun K hK=>?_
  go_simp;refine (zhl ka kb l [98] hl (by decide) _ _ g3).mono ?_; rintro e w4 ⟨rfl,hb⟩; have b4:=b3.trans (hb.mono b3.size); clear hb; rw [HP.out,HQ.out]
  refine za5 hK (⟨(b4.cell (p:=⟨w.heap.size,0,none⟩) hW0).trans k0,(b4.cell (p:=⟨w.heap.size,1,none⟩) hW0).trans k1⟩) (fun hHeld=>?_)
  clear hK K;refine tK 8 (h:=?_);have hz4:=zab b4 (zaa hz0) hz0;have hz5:=zaa hz4;obtain ⟨z0,z1⟩:=zak hz4;have y0:=frozen_of_row _ _ 0 _ _ hz4;have y1:=frozen_of_row _ _ 1 _ _ hz4
  refine xrK 9 rfl fun K hK=>?_
  go_simp;refine zas hK (by decide) ?_;clear hK K;refine zap (by kernel_rfl) ?_ _;refine NoPanic.normal ?_;go_wp2_with fail
  exact za7 rfl rfl (zad (i:=1) (v:=.int .u64 q) (zad (i:=0) (v:=.int .u64 p) hz4)) underlying26 rfl (by kernel_rfl)
   ⟨rfl,((hb0.trans (b4.mono hb0.size)).setCell (p:=⟨w.heap.size + 1,0,none⟩) (Nat.le_succ _) _).setCell (p:=⟨w.heap.size + 1,1,none⟩) (Nat.le_succ _) _⟩
end
section
open Go.RowKit
attribute [local go_sem] zah zaj zaq
theorem itoa_least:Lib.itoa (-9223372036854775808) = [45,57,50,50,51,51,55,50,48,51,54,56,53,52,55,55,53,56,48,56]:=by decide +kernel
theorem rdecimal_any (n:Int) (hn:InI n) (w:World):Calls prog 95 #[.int .i64 n] w fun e w'=>e = .returned (zal (Lib.itoa n))∧Below w.heap.size w w':=by
 obtain ⟨h0,h1⟩:=hn;by_cases hp:0≤n
 ·obtain ⟨m,rfl⟩:=Int.eq_ofNat_of_zero_le hp
  have e:Lib.itoa ((m:Nat):Int) = Lib.decDigits m:=Lib.itoa_nonneg m;rw [e];have d1:decide ((0:Int)≤(m:Int)) = true:=by simp
  obtain ⟨t,ht⟩:∃ t,Lib.decDigits m = t:=⟨_,rfl⟩;have hd:=zf2 19 m;rw [ht] at hd ⊢;have HD:=zi5 hd;clear ht hd e;go_enter func95,ntmps95
  go_wp2_with fail
  refine (HD.out _ (by omega) (by omega)).mono ?_;rintro e w1 ⟨rfl,hb⟩;have HB:=zi5 hb; clear hb;go_wp2_with fail
  go_ret;exact ⟨rfl,HB.out⟩
 ·have d1:decide ((0:Int)≤n) = false:=by simpa using hp
  by_cases hm:n = -9223372036854775808
  ·subst hm
   rw [itoa_least];have hw0:IntKind.i64.wrap 9223372036854775808 = -9223372036854775808:=by rw [IntKind.wrap_i64]; omega
   have hw:wrap64 9223372036854775808 = -9223372036854775808:=by simp only [wrap64]; first | rfl | omega | decide
   have d2:((-9223372036854775808:Int) == -9223372036854775808) = true:=rfl;go_enter func95,ntmps95
   go_wp2_with fail
   go_ret;exact ⟨rfl,Below.refl _ _⟩
  ·obtain ⟨u,hu⟩:∃ u:Nat,-n = (u:Int):=⟨(-n).toNat,by omega⟩
   have hn2:n = -(u:Int):=by omega
   subst hn2;rw [Lib.itoa_neg u (by omega)];have hw:IntKind.i64.wrap (- -(u:Int)) = (u:Int):=by rw [IntKind.wrap_i64]; omega
   have d2:((-(u:Int)) == (u:Int)) = false:=beq_eq_false_iff_ne.2 (by omega);obtain ⟨t,ht⟩:∃ t,Lib.decDigits u = t:=⟨_,rfl⟩;have hl:t.length≤19:=by rw [← ht]; exact zdd (k:=19) (by decide) (by omega)
   have hc:¬ 9223372036854775807 < 1 + t.length:=by omega
   have hd:=zf2 19 u;rw [ht] at hd ⊢;have HD:=zi5 hd;clear ht hd hu;go_enter func95,ntmps95
   go_wp2_with fail
   refine (HD.out _ (by omega) (by omega)).mono ?_;rintro e w1 ⟨rfl,hb⟩;have HB:=zi5 hb; clear hb;go_wp2_with fail
   go_ret;exact ⟨rfl,HB.out⟩
theorem ze6 (k:Int × Int) (i:Int) (b:Bool) (s:List UInt8) (w:World) (hi:InI i) (hs:s.length≤50000) :
  Calls prog 33 #[.agg #[.int .u64 k.1,.int .u64 k.2],.int .i64 i,.bool b,zal s] w fun e w'=>e = .returned (.agg #[.int .u64 (keyN k (Lib.itoa i) b s).1,.int .u64 (keyN k (Lib.itoa i) b s).2])∧Below w.heap.size w w':=by
 have hd:=itoa_len hi;have hdc:=rdecimal_any i hi;obtain ⟨t,ht⟩:∃ t,Lib.itoa i = t:=⟨_,rfl⟩;rw [ht] at hd hdc ⊢;have HDc:=zi5 hdc;obtain ⟨x,hx⟩:∃ x,zda k.1 k.2 (zcg t) = x:=⟨_,rfl⟩;have hl1:¬ 9223372036854775807 < 5 + t.length:=by omega
 have hl2:¬ 9223372036854775807 < 5 + s.length:=by omega
 have hfl:(zcg t).length≤60000:=by simp [zcg]; omega
 have hsl:(zcr s).length≤60000:=by simp [zcr]; omega
 obtain ⟨ft,hft⟩:∃ ft,zcg t = ft:=⟨_,rfl⟩;obtain ⟨st,hst⟩:∃ st,zcr s = st:=⟨_,rfl⟩;rw [hft] at hx hfl; rw [hst] at hsl;have hf5:102 :: 105 :: 101 :: 108 :: 100 :: t = ft:=hft;have hs5:115 :: 97 :: 108 :: 116 :: 61 :: s = st:=hst;have HX:=zi5 hx; have HFT:=zi5 hft; have HST:=zi5 hst;clear hdc ht hx hft hst hi;obtain ⟨r,hr⟩:∃ r,keyN k t b s = r:=⟨_,rfl⟩;have hr2:(bif b then zda x.1 x.2 (zcr s) else x) = r:=by rw [← hr,← HX.out,← HFT.out]; rfl
 rw [hr];have HR:=zi5 hr2;clear hr hr2;go_enter func33,ntmps33
 go_wp2_with fail
 refine zao (fun W0 hW=>?_)
 have hb0:=xam hW
 have hk0:W0.heap[w.heap.size]? = some (.cells #[.int .u64 k.1,.int .u64 k.2] 26 (0,0)):=by rw [hW]; exact zaf (zac rfl)
 have hr0:W0.heap[w.heap.size + 1]? = some (.cells #[.int .u64 0,.int .u64 0] 26 (0,0)):=by rw [hW]; exact zac (by simp)
 clear hW;have HB0:=zi5 hb0; have HR0:=zi5 hr0;have lk:=zaa hk0; have lr:=zaa hr0;have HC:=zi5 (show ∀ w',Below W0.heap.size W0 w'→w'.cell? ⟨w.heap.size,0,none⟩ = some (.int .u64 k.1)∧w'.cell? ⟨w.heap.size,1,none⟩ = some (.int .u64 k.2) from fun w' hb=>zak (zab hb lk hk0))
 have bD:Below W0.heap.size W0 W0.drew:=(Below.refl _ _).drew;clear hb0 hk0 hr0;go_cut [9] (fun s9 wx=>∃ zb:Nat,s9 = .pointer (some ⟨zb,0,none⟩)∧W0.heap.size≤zb∧wx.heap[zb]? = some (.cells #[.int .u64 x.1,.int .u64 x.2] 26 (0,0))∧Below W0.heap.size W0 wx)
 case first =>
  refine wp_region_noPanic ?_
  refine wp_region_held_drew (S:=(fun w'=>w'.cell? ⟨w.heap.size,0,none⟩ = some (.int .u64 k.1)∧w'.cell? ⟨w.heap.size,1,none⟩ = some (.int .u64 k.2))) (by kernel_rfl) (HC.out _ bD) (fun hHeld=>?_)
  refine tH 0 (h:=?_);refine tH 1 (h:=?_);refine wpAnyH_ready (rs:=[2,5]) (by kernel_rfl) (by simp) ?_
  refine AllReadyH.cons rfl (fun K hK=>?_) (AllReadyH.cons rfl (fun K hK=>?_) AllReadyH.nil)
  ·as_aux_lemma =>
    go_simp;refine (HDc.out _).mono ?_; rintro e V1 ⟨rfl,hb⟩; have b1:=bD.trans (hb.mono bD.size);clear hb
    refine hK.out _ _ (HC.out _ b1) (fun hHeld=>?_)
    clear hK K;refine tH 3 (h:=?_);refine wpAnyH_ready (rs:=[4,5]) (by kernel_rfl) (by simp) ?_
    refine AllReadyH.cons rfl (fun K hK=>?_) (AllReadyH.cons rfl (fun K hK=>?_) AllReadyH.nil)
    ·as_aux_lemma =>
      go_simp;refine (zgj k.1 k.2 ft _ hfl).mono ?_; rw [HX.out]; rintro e V2 ⟨rfl,hb⟩; have b2:=b1.trans (hb.mono b1.size);clear hb
      refine hK.out _ _ (HC.out _ b2) (fun hHeld=>?_)
      clear hK K;refine wpAnyH_ready (rs:=[5]) (by kernel_rfl) (by simp) ?_
      refine AllReadyH.cons rfl (fun K hK=>?_) AllReadyH.nil
      go_simp
      refine hK.out _ _ (HC.out _ (b2.alloc b2.size _)) (fun hHeld=>?_)
      clear hK K
      refine zcw (fun V3 hV3=>?_)
      have b3:Below W0.heap.size W0 V3:=by rw [hV3]; exact b2.alloc b2.size _
      have z3:V3.heap[V2.heap.size]? = some (.cells #[.int .u64 0,.int .u64 0] 26 (0,0)):=by rw [hV3]; exact zac rfl
      have hzz:=b2.size;have hzd:W0.drew.heap.size = W0.heap.size:=rfl;clear hV3 hHeld;have hHeld:=HC.out _ b3;have fz:=frozen_of_row _ _ 0 _ _ z3; have fz2:=frozen_of_row _ _ 1 _ _ z3; obtain ⟨e0,e1⟩:=zak z3; have lz:=zaa z3;have hb6:=(b3.setCell (p:=⟨V2.heap.size,0,none⟩) (by show W0.heap.size≤V2.heap.size; omega) (.int .u64 x.1)).setCell (p:=⟨V2.heap.size,1,none⟩) (by show W0.heap.size≤V2.heap.size; omega) (.int .u64 x.2);refine wpAnyH_ready (rs:=[6]) (by kernel_rfl) (by simp) ?_
      refine AllReadyH.cons rfl (fun K hK=>?_) AllReadyH.nil
      go_simp;skip
      refine hK.out _ _ (HC.out _ hb6) (fun hHeld=>?_)
      clear hK K;refine wpAnyH_done (by kernel_rfl) ?_ _;refine NoPanic.normal ?_;go_wp2_with fail
      go_meet;exact ⟨V2.heap.size,rfl,by omega,zad (i:=1) (v:=.int .u64 x.2) (zad (i:=0) (v:=.int .u64 x.1) z3),hb6⟩
    ·as_aux_lemma =>
      go_simp
      refine hK.out _ _ (HC.out _ (b1.alloc b1.size _)) (fun hHeld=>?_)
      clear hK K
      refine zcw (fun V2 hV2=>?_)
      have b2:Below W0.heap.size W0 V2:=by rw [hV2]; exact b1.alloc b1.size _
      have z2:V2.heap[V1.heap.size]? = some (.cells #[.int .u64 0,.int .u64 0] 26 (0,0)):=by rw [hV2]; exact zac rfl
      have hzz:=b1.size;have hzd:W0.drew.heap.size = W0.heap.size:=rfl;clear hV2 hHeld;have hHeld:=HC.out _ b2;refine wpAnyH_ready (rs:=[4]) (by kernel_rfl) (by simp) ?_
      refine AllReadyH.cons rfl (fun K hK=>?_) AllReadyH.nil
      go_simp;refine (zgj k.1 k.2 ft _ hfl).mono ?_; rw [HX.out]; rintro e V3 ⟨rfl,hb⟩; have b3:=b2.trans (hb.mono b2.size);have z3:=zab hb (zaa z2) z2;clear hb
      refine hK.out _ _ (HC.out _ b3) (fun hHeld=>?_)
      clear hK K;have fz:=frozen_of_row _ _ 0 _ _ z3; have fz2:=frozen_of_row _ _ 1 _ _ z3; obtain ⟨e0,e1⟩:=zak z3; have lz:=zaa z3;have hb6:=(b3.setCell (p:=⟨V1.heap.size,0,none⟩) (by show W0.heap.size≤V1.heap.size; omega) (.int .u64 x.1)).setCell (p:=⟨V1.heap.size,1,none⟩) (by show W0.heap.size≤V1.heap.size; omega) (.int .u64 x.2);refine wpAnyH_ready (rs:=[6]) (by kernel_rfl) (by simp) ?_
      refine AllReadyH.cons rfl (fun K hK=>?_) AllReadyH.nil
      go_simp;skip
      refine hK.out _ _ (HC.out _ hb6) (fun hHeld=>?_)
      clear hK K;refine wpAnyH_done (by kernel_rfl) ?_ _;refine NoPanic.normal ?_;go_wp2_with fail
      go_meet;exact ⟨V1.heap.size,rfl,by omega,zad (i:=1) (v:=.int .u64 x.2) (zad (i:=0) (v:=.int .u64 x.1) z3),hb6⟩
  ·as_aux_lemma =>
    go_simp
    refine hK.out _ _ (HC.out _ (bD.alloc bD.size _)) (fun hHeld=>?_)
    clear hK K
    refine zcw (fun V1 hV1=>?_)
    have b1:Below W0.heap.size W0 V1:=by rw [hV1]; exact bD.alloc bD.size _
    have z1:V1.heap[W0.heap.size]? = some (.cells #[.int .u64 0,.int .u64 0] 26 (0,0)):=by rw [hV1]; exact zac rfl
    have hzz:=bD.size;have hzd:W0.drew.heap.size = W0.heap.size:=rfl;clear hV1 hHeld;have hHeld:=HC.out _ b1;refine wpAnyH_ready (rs:=[2]) (by kernel_rfl) (by simp) ?_
    refine AllReadyH.cons rfl (fun K hK=>?_) AllReadyH.nil
    go_simp;refine (HDc.out _).mono ?_; rintro e V2 ⟨rfl,hb⟩; have b2:=b1.trans (hb.mono b1.size);have z2:=zab hb (zaa z1) z1;clear hb
    refine hK.out _ _ (HC.out _ b2) (fun hHeld=>?_)
    clear hK K;refine tH 3 (h:=?_);refine wpAnyH_ready (rs:=[4]) (by kernel_rfl) (by simp) ?_
    refine AllReadyH.cons rfl (fun K hK=>?_) AllReadyH.nil
    go_simp;refine (zgj k.1 k.2 ft _ hfl).mono ?_; rw [HX.out]; rintro e V3 ⟨rfl,hb⟩; have b3:=b2.trans (hb.mono b2.size);have z3:=zab hb (zaa z2) z2;clear hb
    refine hK.out _ _ (HC.out _ b3) (fun hHeld=>?_)
    clear hK K;have fz:=frozen_of_row _ _ 0 _ _ z3; have fz2:=frozen_of_row _ _ 1 _ _ z3; obtain ⟨e0,e1⟩:=zak z3; have lz:=zaa z3;have hb6:=(b3.setCell (p:=⟨W0.heap.size,0,none⟩) (by show W0.heap.size≤W0.heap.size; omega) (.int .u64 x.1)).setCell (p:=⟨W0.heap.size,1,none⟩) (by show W0.heap.size≤W0.heap.size; omega) (.int .u64 x.2);refine wpAnyH_ready (rs:=[6]) (by kernel_rfl) (by simp) ?_
    refine AllReadyH.cons rfl (fun K hK=>?_) AllReadyH.nil
    go_simp;skip
    refine hK.out _ _ (HC.out _ hb6) (fun hHeld=>?_)
    clear hK K;refine wpAnyH_done (by kernel_rfl) ?_ _;refine NoPanic.normal ?_;go_wp2_with fail
    go_meet;exact ⟨W0.heap.size,rfl,by omega,zad (i:=1) (v:=.int .u64 x.2) (zad (i:=0) (v:=.int .u64 x.1) z3),hb6⟩
 case rest =>
  obtain ⟨w2,hw2⟩:∃ u,u = wc:=⟨_,rfl⟩;subst hw2;obtain ⟨zb,rfl,hzb,hz,hb⟩:=hcut;have HR2:=zi5 (zab hb lr HR0.out); have HB2:=zi5 (HB0.out.trans (hb.mono HB0.out.size)); have HZ:=zi5 hz;obtain ⟨z0,z1⟩:=zak hz;have lz:=zaa hz; have lr2:=zaa HR2.out;have f0:=frozen_of_row _ _ 0 _ _ HR2.out; have f1:=frozen_of_row _ _ 1 _ _ HR2.out;have g0:=frozen_of_row _ _ 0 _ _ hz; have g1:=frozen_of_row _ _ 1 _ _ hz;have hne:w.heap.size + 1≠zb:=by omega
  clear hb hz HC bD HR0;cases b
  ·obtain ⟨r0,r1⟩:=zak HR2.out
   go_wp2_with fail
   rw [← show x = r from HR.out]
   exact za7 rfl rfl (zad (i:=1) (v:=.int .u64 x.2) (zad (i:=0) (v:=.int .u64 x.1) HR2.out)) underlying26 rfl (by kernel_rfl)
    ⟨rfl,(HB2.out.setCell (p:=⟨w.heap.size + 1,0,none⟩) (by show w.heap.size≤w.heap.size + 1; omega) _).setCell (p:=⟨w.heap.size + 1,1,none⟩) (by show w.heap.size≤w.heap.size + 1; omega) _⟩
  ·go_wp2_with fail
   refine (zgj x.1 x.2 st _ hsl).mono ?_;rw [show zda x.1 x.2 st = r by rw [← HST.out]; exact HR.out];rintro e w3 ⟨rfl,hb⟩;have hz3:=zab hb (zaa HZ.out) HZ.out;have hr3:=zab hb (zaa HR2.out) HR2.out;have HB3:=zi5 (HB2.out.trans (hb.mono HB2.out.size)); have HR3:=zi5 hr3;obtain ⟨k2,k3⟩:=zak hz3;have f2:=frozen_of_row _ _ 0 _ _ hz3; have f3:=frozen_of_row _ _ 1 _ _ hz3;obtain ⟨r0,r1⟩:=zak hr3;have f4:=frozen_of_row _ _ 0 _ _ hr3; have f5:=frozen_of_row _ _ 1 _ _ hr3;have zk3:=zaa hz3; have zr3:=zaa hr3;clear hb hz3 hr3 z0 z1 f0 f1 g0 g1;go_wp2_with fail
   exact za7 rfl rfl (zad (i:=1) (v:=.int .u64 r.2) (zad (i:=0) (v:=.int .u64 r.1) (zam (zam HR3.out hne) hne))) underlying26 rfl (by kernel_rfl)
    ⟨rfl,(((HB3.out.setCell (p:=⟨zb,0,none⟩) (by show w.heap.size≤zb; omega) _).setCell (p:=⟨zb,1,none⟩) (by show w.heap.size≤zb; omega) _).setCell (p:=⟨w.heap.size + 1,0,none⟩) (by show w.heap.size≤w.heap.size + 1; omega) _).setCell (p:=⟨w.heap.size + 1,1,none⟩) (by show w.heap.size≤w.heap.size + 1; omega) _⟩
end
section
open Go.RowKit
theorem zh3 (p:ParL) (w:World) (hi:InI p.len) :
  Calls prog 59 #[.agg #[.int .i64 p.len,.int .i64 p.hashes,.int .i64 p.salt]] w fun e w'=>e = .returned (.int .i64 (zcv p))∧Below w.heap.size w w':=by
 obtain ⟨E,hE⟩:∃ E,zcv p = E:=⟨_,rfl⟩;rw [hE];have hyes:zc7 p = true→E = 0:=fun h=>by rw [← hE]; unfold zcv; rw [if_pos h]
 have hno:zc7 p = false→E = 10:=fun h=>by rw [← hE]; unfold zcv; rw [h]; rfl
 have HY:=zi5 hyes; have HN:=zi5 hno;clear hE hyes hno;cases hr:zb6 p.len
 ·have hE:E = 10:=HN.out (by unfold zc7; rw [hr]; rfl)
  subst hE;have HR:=zi5 hr;clear hr;go_enter func59,ntmps59
  go_wp2_with fail
  refine (rbnew_no _ _ HR.out hi.1 hi.2).mono ?_;rintro e w1 ⟨rfl,hb⟩;have HB:=zi5 (xbt hb);clear hb;go_wp2_with fail
  go_ret;first | exact ⟨rfl,HB.out.alloc HB.out.size _⟩ | exact ⟨rfl,HB.out⟩
 have HR:=zi5 hr;clear hr;by_cases h1:p.hashes < 1
 ·have d1:decide (p.hashes < (1:Int)) = true:=by simpa using h1
  have hE:E = 10:=HN.out (by rw [Bool.eq_false_iff]; intro h; have q:=ze7 h; have:=q.h1; have:=q.h2; have:=q.s1; have:=q.s2; omega);subst hE;clear h1;go_enter func59,ntmps59
  go_wp2_with fail
  refine (zf4 _ _ HR.out).mono ?_;rintro e w1 ⟨g,m,rfl,-,hg,-,hb⟩;have HB:=zi5 (xbt hb);have HX:=zi5 (xbn hb);clear hb hg;have z0:=zaa HX.out;obtain ⟨p0,p1,p2⟩:=zai HX.out;go_wp2_with fail
  go_ret;first | exact ⟨rfl,HB.out.alloc HB.out.size _⟩ | exact ⟨rfl,HB.out⟩
 have d1:decide (p.hashes < (1:Int)) = false:=by simpa using h1
 by_cases h2:16 < p.hashes
 ·have d2:decide ((16:Int) < p.hashes) = true:=by simpa using h2
  have hE:E = 10:=HN.out (by rw [Bool.eq_false_iff]; intro h; have q:=ze7 h; have:=q.h1; have:=q.h2; have:=q.s1; have:=q.s2; omega);subst hE;clear h2;go_enter func59,ntmps59
  go_wp2_with fail
  refine (zf4 _ _ HR.out).mono ?_;rintro e w1 ⟨g,m,rfl,-,hg,-,hb⟩;have HB:=zi5 (xbt hb);have HX:=zi5 (xbn hb);clear hb hg;have z0:=zaa HX.out;obtain ⟨p0,p1,p2⟩:=zai HX.out;go_wp2_with fail
  go_ret;first | exact ⟨rfl,HB.out.alloc HB.out.size _⟩ | exact ⟨rfl,HB.out⟩
 have d2:decide ((16:Int) < p.hashes) = false:=by simpa using h2
 by_cases h3:p.salt < -1
 ·have d3:decide (p.salt < (-1:Int)) = true:=by simpa using h3
  have hE:E = 10:=HN.out (by rw [Bool.eq_false_iff]; intro h; have q:=ze7 h; have:=q.h1; have:=q.h2; have:=q.s1; have:=q.s2; omega);subst hE;clear h3;go_enter func59,ntmps59
  go_wp2_with fail
  refine (zf4 _ _ HR.out).mono ?_;rintro e w1 ⟨g,m,rfl,-,hg,-,hb⟩;have HB:=zi5 (xbt hb);have HX:=zi5 (xbn hb);clear hb hg;have z0:=zaa HX.out;obtain ⟨p0,p1,p2⟩:=zai HX.out;go_wp2_with fail
  go_ret;first | exact ⟨rfl,HB.out.alloc HB.out.size _⟩ | exact ⟨rfl,HB.out⟩
 have d3:decide (p.salt < (-1:Int)) = false:=by simpa using h3
 by_cases h4:5≤p.salt
 ·have d4:decide ((5:Int)≤p.salt) = true:=by simpa using h4
  have hE:E = 10:=HN.out (by rw [Bool.eq_false_iff]; intro h; have q:=ze7 h; have:=q.h1; have:=q.h2; have:=q.s1; have:=q.s2; omega);subst hE;clear h4;go_enter func59,ntmps59
  go_wp2_with fail
  refine (zf4 _ _ HR.out).mono ?_;rintro e w1 ⟨g,m,rfl,-,hg,-,hb⟩;have HB:=zi5 (xbt hb);have HX:=zi5 (xbn hb);clear hb hg;have z0:=zaa HX.out;obtain ⟨p0,p1,p2⟩:=zai HX.out;go_wp2_with fail
  go_ret;first | exact ⟨rfl,HB.out.alloc HB.out.size _⟩ | exact ⟨rfl,HB.out⟩
 have d4:decide ((5:Int)≤p.salt) = false:=by simpa using h4
 have hE:E = 0:=HY.out (by
  unfold zc7;rw [HR.out];simp only [Bool.true_and,Bool.and_eq_true,decide_eq_true_eq]
  omega)
 subst hE;clear h1 h2 h3 h4;go_enter func59,ntmps59
 go_wp2_with fail
 refine (zf4 _ _ HR.out).mono ?_;rintro e w1 ⟨g,m,rfl,-,hg,-,hb⟩;have HB:=zi5 (xbt hb);have HX:=zi5 (xbn hb);clear hb hg;have z0:=zaa HX.out;obtain ⟨p0,p1,p2⟩:=zai HX.out;go_wp2_with fail
 go_ret;first | exact ⟨rfl,HB.out.alloc HB.out.size _⟩ | exact ⟨rfl,HB.out⟩
end
section
open Go.RowKit Cal
theorem zew (S:Nat→Prop) (vf vt vn vs:Value) (s:SchemaL) (P:List ParL) (pv:Value) (w:World) (h:SchemaAt w S vf vt vn vs s) (hp:Vec w zaw 3 zbc pv P) (hi:∀ p∈P,InI p.len) (hn:P.length≤1000000) :
  Calls prog 17 #[.agg #[vf,vt,vn,vs],pv] w fun e w'=>e = .returned (.int .i64 (zb0 s P))∧Below w.heap.size w w':=by
 obtain ⟨E,hE⟩:∃ E,zb0 s P = E:=⟨_,rfl⟩;rw [hE];obtain ⟨a,cap,rfl⟩:=hp.slice;obtain ⟨af,cf,rfl⟩:=h.1.slice;have HP:=zi5 hp; have HS:=zi5 h.any; have HE:=zi5 hE; have HI:=zi5 hi;obtain ⟨c,hc⟩:∃ c,zax s = c:=⟨_,rfl⟩;have HC:=zi5 hc;obtain ⟨m,hm⟩:∃ m,s.fields.length = m:=⟨_,rfl⟩;rw [hm];have HM:=zi5 hm;clear hp h hE hi hc hm;go_enter func17,ntmps17
 go_wp2_with fail
 refine zae (fun W hW=>?_)
 have hb0:=xal hW
 have hs0:W.heap[w.heap.size]? = some (.cells #[.slice af m cf,vt,vn,vs] 44 (0,0)):=by rw [hW]; exact zac rfl
 clear hW;refine (zds zaw _ _ _ _ s _ (by have:=HS.out.below hb0; rw [HM.out] at this; exact this)).mono ?_;rw [HC.out];rintro e w1 ⟨rfl,hb⟩;have hs1:=zab hb (zaa hs0) hs0;have HB1:=zi5 (hb0.trans (hb.mono hb0.size));obtain ⟨s0,s1,s2,s3⟩:=zan hs1;clear hb hb0 hs0 hs1;by_cases hc0:c = 0;rotate_left
 ·have dz:(c != 0) = true:=by simpa using hc0
  have hE1:E = c:=by rw [← HE.out]; unfold zb0; rw [if_neg (by rw [HC.out]; exact hc0),HC.out]
  subst hE1;clear HE HC hc0;go_wp2_with fail
  go_ret;exact ⟨rfl,HB1.out⟩
 have dz:(c != 0) = false:=by simpa using hc0
 by_cases hl:P.length = m;rotate_left
 ·have hne:((P.length:Int) != (m:Int)) = true:=by rw [bne_iff_ne]; omega
  have hE1:E = 8:=by rw [← HE.out]; unfold zb0; rw [if_pos (by rw [HC.out]; exact hc0),if_neg (by rw [HM.out]; exact hl)]
  subst hE1;clear HE HC hc0 hl;go_wp2_with fail
  go_ret;exact ⟨rfl,HB1.out⟩
 have hne:((P.length:Int) != (m:Int)) = false:=by rw [hl]; simp
 have HE2:=zi5 (show parsA P.length 0 P = E by rw [← HE.out]; unfold zb0; rw [if_pos (by rw [HC.out]; exact hc0),if_pos (by rw [HM.out]; exact hl)]);clear HE HC hc0 hl;go_wp2_with fail
 clear s0 s1 s2 s3;go_loopw [6] (fun i wr=>∃ j:Nat,i = .int .i64 j∧j≤P.length∧Hid (parsA P.length j (P.drop j) = E)∧Below w1.heap.size w1 wr) (fun i _=>P.length - (intOf i).toNat)
 case atStart=>exact ⟨0,rfl,by omega,HE2,Below.refl _ _⟩
 case round =>
  obtain ⟨j,rfl,hj,HT,hb⟩:=hrel;have HBr:=zi5 hb; clear hb;by_cases hlt:j < P.length
  ·have hq:decide ((j:Int) < P.length) = true:=by simp; omega
   have hbw:=HB1.out.trans (HBr.out.mono HB1.out.size);obtain ⟨p,hpj⟩:∃ p,P[j] = p:=⟨_,rfl⟩;have hT:=HT.out;rw [List.drop_eq_getElem_cons hlt,hpj,parsA] at hT;have HT2:=zi5 hT;have hpi:InI p.len:=HI.out p (by rw [← hpj]; exact List.getElem_mem _);obtain ⟨b,off,rfl,hb,hc⟩:=(HP.out.below hbw).get j hlt;rw [hpj] at hc;have c0:=hc 0 _ rfl; have c1:=hc 1 _ rfl; have c2:=hc 2 _ rfl;rw [Nat.add_zero] at c0;have HPI:=zi5 hpi;clear hc hpj hbw hT HT hpi;go_wp2_with fail
   refine (zh3 p _ HPI.out).mono ?_;rintro e w2 ⟨rfl,hb2⟩;have HB2:=zi5 (HBr.out.trans (hb2.mono HBr.out.size));have hb3:=Nat.lt_of_lt_of_le hb hb2.size;have x0:=(hb2.cell (p:=⟨b,off + j * 3,none⟩) hb).trans c0; have x1:=(hb2.cell (p:=⟨b,off + j * 3 + 1,none⟩) hb).trans c1; have x2:=(hb2.cell (p:=⟨b,off + j * 3 + 2,none⟩) hb).trans c2;clear hb2 c0 c1 c2;by_cases hk:zc7 p = true;rotate_left
   ·have hE1:E = 10:=by rw [← HT2.out,if_neg]; unfold ze3; simp [hk]
    have hbn:zcv p = 10:=by unfold zcv; rw [if_neg hk]
    rw [hbn];have d1:((10:Int) != 0) = true:=rfl;subst hE1;clear HT2 HE2 hk hbn;go_wp2_with fail
    go_ret;exact ⟨rfl,HB1.out.trans (HB2.out.mono HB1.out.size)⟩
   have hbn:zcv p = 0:=by unfold zcv; rw [if_pos hk]
   rw [hbn];have d1:((0:Int) != 0) = false:=rfl;by_cases h1:(P.length:Int)≤p.salt
   ·have e1:decide ((P.length:Int)≤p.salt) = true:=by simpa using h1
    have hE1:E = 10:=by rw [← HT2.out,if_neg]; unfold ze3; rw [decide_eq_false (by omega)]; simp
    subst hE1;clear HT2 HE2 hk hbn h1;go_wp2_with fail
    go_ret;exact ⟨rfl,HB1.out.trans (HB2.out.mono HB1.out.size)⟩
   have e1:decide ((P.length:Int)≤p.salt) = false:=by simpa using h1
   by_cases h2:p.salt = (j:Int)
   ·have e2:(p.salt == (j:Int)) = true:=by simpa using h2
    have hE1:E = 10:=by rw [← HT2.out,if_neg]; unfold ze3; rw [e2]; simp
    subst hE1;clear HT2 HE2 hk hbn h1 h2;go_wp2_with fail
    go_ret;exact ⟨rfl,HB1.out.trans (HB2.out.mono HB1.out.size)⟩
   have e2:(p.salt == (j:Int)) = false:=by simpa using h2
   have HT3:=zi5 (show parsA P.length (j + 1) (P.drop (j + 1)) = E by
    rw [← HT2.out,if_pos]; unfold ze3; rw [hk,e2,decide_eq_true (by omega)]; rfl)
   clear HT2 hk hbn h1 h2;go_wp2_with fail
   go_roundw
   case rel=>exact ⟨j + 1,by go_num,by omega,HT3,HB2.out⟩
   case measure=>simp [intOf]; omega
  ·have hq:decide ((j:Int) < P.length) = false:=by simp; omega
   obtain rfl:j = P.length:=by omega
   have hE1:E = 0:=by rw [← HT.out,List.drop_length]; rfl
   subst hE1;clear HE2 HT;go_wp2_with fail
   go_ret;exact ⟨rfl,HB1.out.trans (HBr.out.mono HB1.out.size)⟩
end
end Go.Proofs.YtpmpdonccgcehaaGreatDoor
