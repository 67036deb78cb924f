/- Parts of one proof: JoinT, EncH, HexB, BloomD, EncK, DeckKey, RefTextA, RefTextB, FoldPlain, RefTextC, RefTextD, RefTextE, RefNameA, RefNameB, RefNameC, RefNameD, RefSchA, RefAddrA, RefAddrB. -/
import Derived.Test.YtpmpdonccgcehaaGreatDoorPartEx4
set_option maxHeartbeats 16000000
set_option maxRecDepth 100000
open Go.Proofs.Tryz
set_option linter.unusedSimpArgs false
set_option linter.unusedVariables false
namespace Go.Proofs.YtpmpdonccgcehaaGreatDoor
section
open Go.RowKit
theorem join_sep (c:UInt8) (L:List (List UInt8)):Lib.join L [c] = ze8 c L:=by
 induction L with
 | nil=>rfl
 | cons a L ih =>
  cases L with
  | nil=>rw [Lib.join_one]; rfl
  | cons b L =>
   rw [Lib.join_cons] at *;simp only [Lib.joinTail,List.map_cons,List.flatten_cons,ze8] at *;rw [← ih];simp
theorem joinc_any (c:UInt8) (S:Nat→Prop) (v:Value) (L:List (List UInt8)) (w:World) (h:Vec w S 1 za2 v L) (hn:L.length≤1000000) (hj:(ze8 c L).length≤1000000000) :
  Calls prog 79 #[v,zal [c]] w fun e w'=>e = .returned (zal (ze8 c L))∧Below w.heap.size w w':=by
 obtain ⟨a,cap,rfl,hcap,h0⟩:=h
 have hjj:Lib.join ((L.map mkS).map (·.data.toList)) [c] = ze8 c L:=by
  rw [List.map_map,← join_sep]; congr 1; conv=>rhs; rw [← List.map_id L]
  exact List.map_congr_left fun x _=>by simp [mkS]
 by_cases hz:L = []
 ·subst hz
  exact (Tryz.strings_Join_none a cap ⟨#[c]⟩ w).mono fun e w' ⟨he,hw⟩=>⟨he,by rw [hw]; exact Below.refl _ _⟩
 ·obtain ⟨b,off,rfl,_,hb,hc⟩:=h0 (List.length_pos_iff.2 hz)
  have:=Tryz.strings_Join b off cap (L.map mkS) ⟨#[c]⟩ w (fun j x hx=>by
   rw [List.getElem?_map] at hx;obtain ⟨y,hy,rfl⟩:=Option.map_eq_some_iff.1 hx;have:=hc j y hy 0 _ rfl
   simpa [mkS] using this) hb (by simp; omega) (by simpa using hcap) (by rw [show (⟨#[c]⟩:ByteArray).data.toList = [c] from rfl,hjj]; omega)
  rw [show (⟨#[c]⟩:ByteArray).data.toList = [c] from rfl,hjj,List.length_map] at this;exact this
end
section
open Go.RowKit
attribute [local go_sem] zah zaj zaq
theorem joinC_most (c:UInt8) (m:Nat):∀ (L:List (List UInt8)),(∀ x∈L,x.length≤m)→(ze8 c L).length≤L.length * (m + 1)
 | [],_=>by simp [ze8]
 | [a],h=>by have:=h a (by simp); simp [ze8]; omega
 | a :: b :: r,h=>by
  have h1:=h a (by simp);have h2:=joinC_most c m (b :: r) (fun x hx=>h x (List.mem_cons_of_mem _ hx))
  simp only [ze8,List.length_append,List.length_cons] at *;rw [Nat.add_mul,Nat.one_mul];omega
def WordsOk (b:BitsL):Prop:=∀ x∈b.words,0≤x∧x < 18446744073709551616
def HexIn (b:BitsL):Prop:=InI b.len∧(zbv b = true→WordsOk b)
theorem zid {b:BitsL}:(zd9 b).length≤128:=by
 unfold zd9;split
 ·next h=>have:=valid_len h; rw [zhr]; omega
 ·decide
theorem line_len {x:EncL} (h:zbd x = true):(zey x).length≤2000:=by
 unfold zbd at h;simp only [Bool.and_eq_true,decide_eq_true_eq] at h
 have:=joinC_most 32 200 (zbg x) (fun t ht=>by
  unfold zbg at ht
  rcases List.mem_cons.1 ht with rfl | h1
  ·have:=zdd (n:=x.id.toNat) (k:=7) (by decide) (by omega); omega
  ·rcases List.mem_cons.1 h1 with rfl | h2
   ·have:=zdd (n:=x.ver.toNat) (k:=7) (by decide) (by omega); omega
   ·obtain ⟨b,_,rfl⟩:=List.mem_map.1 h2
    have:=@zid b; omega)
 have h2:(zbg x).length = x.fields.length + 2:=by unfold zbg; simp
 rw [h2] at this;unfold zey;omega
theorem joinS_any (S:Nat→Prop) (v:Value) (L:List (List UInt8)) (w:World) (h:Vec w S 1 za2 v L) (hn:L.length≤1000000) (hj:(ze8 32 L).length≤1000000000) :
  Calls prog 79 #[v,.string ⟨#[32]⟩] w fun e w'=>e = .returned (zal (ze8 32 L))∧Below w.heap.size w w':=joinc_any 32 S v L w h hn hj
def lineV (x:EncL):List UInt8:=if zbd x = true then zey x else []
def zfe (x:EncL):Int:=if zbd x = true then 0 else 7
theorem eline_no (S:Nat→Prop) (v:Value) (x:EncL) (w:World) (h:EncVal w S v x) (hi:∀ b∈x.fields,InI b.len) (hn:x.fields.length≤1000000) (hv:zbd x = false) :
  Calls prog 27 #[v] w fun e w'=>e = .returned (.tuple #[zal [],.int .i64 7])∧Below w.heap.size w w':=by
 obtain ⟨s,rfl,hF⟩:=h;obtain ⟨a,cap,rfl⟩:=hF.slice;obtain ⟨id,ver,F⟩:=x;dsimp only at hF hi hn ⊢;have HF:=zi5 hF; have HI:=zi5 hi; have HV:=zi5 hv;clear hF hi hv;go_enter func27,ntmps27
 go_wp2_with fail
 refine zae (fun W hW=>?_)
 have hb0:=xal hW
 clear hW;refine (zfc S _ ⟨id,ver,F⟩ _ ⟨_,rfl,HF.out.below hb0⟩ HI.out hn).mono ?_;rw [HV.out];rintro e w1 ⟨rfl,hb⟩;have HB1:=zi5 (hb0.trans (hb.mono hb0.size));clear hb hb0;go_wp2_with fail
 go_ret2;exact ⟨rfl,HB1.out⟩
theorem eline_yes (S:Nat→Prop) (v:Value) (x:EncL) (w:World) (h:EncVal w S v x) (hvr:VarsAt w) (hi:∀ b∈x.fields,HexIn b) (hv:zbd x = true) :
  Calls prog 27 #[v] w fun e w'=>e = .returned (.tuple #[zal (zey x),.int .i64 0])∧Below w.heap.size w w':=by
 have hev:=hv;have hll:=line_len hv;unfold zbd at hev;simp only [Bool.and_eq_true,decide_eq_true_eq] at hev;obtain ⟨s,rfl,hF⟩:=h;obtain ⟨a,cap,rfl⟩:=hF.slice;obtain ⟨id,ver,F⟩:=x;dsimp only at hF hi hev ⊢;obtain ⟨i,rfl⟩:∃ i:Nat,id = i:=Int.eq_ofNat_of_zero_le (by omega);obtain ⟨j,rfl⟩:∃ j:Nat,ver = j:=Int.eq_ofNat_of_zero_le (by omega);have hFl:F.length≤5:=by omega
 have hib:i≤9223372036854775807:=by omega
 have hjb:j≤9223372036854775807:=by omega
 obtain ⟨z,hz⟩:∃ z,zey ⟨(i:Int),(j:Int),F⟩ = z:=⟨_,rfl⟩;obtain ⟨T,hT⟩:∃ T,zbg ⟨(i:Int),(j:Int),F⟩ = T:=⟨_,rfl⟩;have hjz:ze8 32 T = z:=by rw [← hT,← hz]; rfl
 have htl:T.length = F.length + 2:=by rw [← hT]; unfold zbg; simp
 have hT0:[Lib.decDigits i,Lib.decDigits j] ++ (F.drop 0).map zd9 = T:=by rw [← hT]; unfold zbg; simp
 rw [hz] at hll ⊢;obtain ⟨dx,hdx⟩:∃ dx,Lib.decDigits i = dx:=⟨_,rfl⟩;obtain ⟨dy,hdy⟩:∃ dy,Lib.decDigits j = dy:=⟨_,rfl⟩;have hit1:=fun w hw=>itoa_any i hib w hw
 have hit2:=fun w hw=>itoa_any j hjb w hw
 rw [hdx] at hit1 hT0; rw [hdy] at hit2 hT0;have HF:=zi5 hF; have HI:=zi5 hi; have HV:=zi5 hv; have HVr:=zi5 hvr; have HI1:=zi5 hit1; have HI2:=zi5 hit2;have HJ:=zi5 hjz; have HT0:=zi5 hT0; have HTl:=zi5 htl; have HLl:=zi5 hll;clear hF hi hv hvr hit1 hit2 hdx hdy hz hT hjz htl hT0 hll hev;go_enter func27,ntmps27
 go_wp2_with fail
 refine zae (fun W hW=>?_)
 have hb0:=xal hW
 have hx0:W.heap[w.heap.size]? = some (.cells #[.int .i64 i,.int .i64 j,.slice a F.length cap] 32 (0,0)):=by rw [hW]; exact zac rfl
 clear hW
 refine (zfc S _ ⟨(i:Int),(j:Int),F⟩ _ ⟨_,rfl,HF.out.below hb0⟩ (fun b hb=>(HI.out b hb).1) (by show F.length≤1000000; omega)).mono ?_
 rw [HV.out];rintro e w1 ⟨rfl,hb⟩;have hx1:=zab hb (zaa hx0) hx0;have HB1:=zi5 (hb0.trans (hb.mono hb0.size)); have HX1:=zi5 hx1;have HVr1:=zi5 (HVr.out.old HB1.out);obtain ⟨x0,x1,x2⟩:=zai hx1;have lx:=zaa hx1;clear hb hb0 hx0 hx1;go_wp2_with fail
 have bD:Below w1.heap.size w1 w1.drew:=(Below.refl _ _).drew;refine wp_region_noPanic ?_
 refine wp_region_held_drew (S:=(fun w'=>w'.cell? ⟨w.heap.size,0,none⟩ = some (.int .i64 i)∧w'.cell? ⟨w.heap.size,1,none⟩ = some (.int .i64 j))) (by kernel_rfl) (⟨x0,x1⟩) (fun hHeld=>?_)
 refine tH 0 (h:=?_);refine tH 1 (h:=?_);refine tH 3 (h:=?_);refine tH 4 (h:=?_);refine wpAnyH_ready (rs:=[2]) (by kernel_rfl) (by simp) ?_
 refine AllReadyH.cons rfl (fun K hK=>?_) AllReadyH.nil
 go_simp;refine (HI1.out _ (HVr1.out.old bD)).mono ?_; rintro e wa ⟨rfl,hb⟩; have ba:=bD.trans (hb.mono bD.size); clear hb
 refine hK.out _ _ (⟨(ba.cell (p:=⟨w.heap.size,0,none⟩) lx).trans x0,(ba.cell (p:=⟨w.heap.size,1,none⟩) lx).trans x1⟩) (fun hHeld=>?_)
 clear hK K;refine wpAnyH_ready (rs:=[5]) (by kernel_rfl) (by simp) ?_
 refine AllReadyH.cons rfl (fun K hK=>?_) AllReadyH.nil
 go_simp;refine (HI2.out _ (HVr1.out.old ba)).mono ?_; rintro e wb ⟨rfl,hb⟩; have bb:=ba.trans (hb.mono ba.size); clear hb
 refine hK.out _ _ (⟨(bb.cell (p:=⟨w.heap.size,0,none⟩) lx).trans x0,(bb.cell (p:=⟨w.heap.size,1,none⟩) lx).trans x1⟩) (fun hHeld=>?_)
 clear hK K;refine wpAnyH_ready (rs:=[6]) (by kernel_rfl) (by simp) ?_
 refine AllReadyH.cons rfl (fun K hK=>?_) AllReadyH.nil
 go_simp
 refine hK.out _ _ (⟨((bb.alloc bb.size _).cell (p:=⟨w.heap.size,0,none⟩) lx).trans x0,((bb.alloc bb.size _).cell (p:=⟨w.heap.size,1,none⟩) lx).trans x1⟩) (fun hHeld=>?_)
 clear hK K;refine tH 7 (h:=?_);refine wpAnyH_done (by kernel_rfl) ?_ _;refine NoPanic.normal ?_
 refine zbw (fun W2 hW2=>?_)
 have hb2:Below w1.heap.size w1 W2:=by rw [hW2]; exact bb.alloc bb.size _
 have hg2:W2.heap[wb.heap.size]? = some (.cells ([dx,dy].flatMap za2).toArray 9 (0,0)):=by rw [hW2]; exact zac rfl
 have zg:w.heap.size≤wb.heap.size:=Nat.le_trans HB1.out.size bb.size;clear hW2 hHeld;have ho2:OwnV 9 1 za2 w (.slice (some ⟨wb.heap.size,0,none⟩) 2 2) [dx,dy] W2:=own_new (HB1.out.trans (hb2.mono HB1.out.size)) zg hg2 rfl (by simp) rfl;have hx2:=zab hb2 lx HX1.out;obtain ⟨x0',x1',x2'⟩:=zai hx2;have lx2:=zaa hx2;have HO2:=zi5 ho2;clear hg2 ho2 hx2 x0 x1 x2 bD ba bb hb2;go_wp2_with fail
 go_loopw [4,22] (fun v k wr=>∃ (n:Nat) (C:List (List UInt8)),k = .int .i64 n∧n≤F.length∧OwnV 9 1 za2 w v C wr∧C.length = n + 2∧Hid (C ++ (F.drop n).map zd9 = T)) (fun _ k _=>F.length - (intOf k).toNat)
 case atStart=>exact ⟨0,[dx,dy],rfl,by omega,HO2.out,rfl,HT0⟩
 case round =>
  obtain ⟨n,C,rfl,hn,ho,hCl,hC⟩:=hrel;have HO:=zi5 ho; have HCl:=zi5 hCl;obtain ⟨av,cv,rfl⟩:=za1 ho.1;clear ho hCl;by_cases hlt:n < F.length
  ·have hq:decide ((n:Int) < F.length) = true:=by simp; omega
   have hni:(n:Int) < (F.length:Int):=by omega
   obtain ⟨b,off,c,rfl,lb,c0,c1,hat⟩:=(HF.out.below HO.out.2).at n hlt;rw [zbi _ _ hlt] at hat;have hC1:=hC.out;rw [List.drop_eq_getElem_cons hlt,List.map_cons] at hC1;have hin:=HI.out _ (List.getElem_mem hlt);obtain ⟨x,hx⟩:∃ x,F[n] = x:=⟨_,rfl⟩;rw [hx] at hat hC1 hin;obtain ⟨cl,cA,cn,cc⟩:=c;dsimp only at c0 c1;have HAt:=zi5 (show BitsAt wr S (.agg #[.int .i64 cl,.slice cA cn cc]) x from hat);cases hvb:zbv x
   ·have hwx:zd9 x = [45]:=by unfold zd9; rw [hvb]; rfl
    rw [hwx,← List.singleton_append,← List.append_assoc] at hC1;have HC1:=zi5 hC1; have HVb:=zi5 hvb; have HIn:=zi5 hin;clear hat hC1 hC hx hvb hwx hin;go_wp2_with fail
    refine zae (fun W3 hW3=>?_)
    have hb3:=xal hW3
    clear hW3;refine (hex_no S _ x _ (HAt.out.below hb3) HIn.out.1 HVb.out).mono ?_;rintro e w4 ⟨rfl,hb⟩;have hb4:Below wr.heap.size wr w4:=hb3.trans (hb.mono hb3.size);have HO1:=zi5 ((HO.out.below hb4).below ((Below.refl w4.heap.size w4).alloc xnl (.cells #[zal [45]] 9)));have HR1:=zi5 (show zco (w4.alloc (.cells #[zal [45]] 9)) 1 (.slice (some ⟨w4.heap.size,0,none⟩) 1 1) ([[45]]:List (List UInt8)).length (([[45]]:List (List UInt8)).flatMap za2) from zav (t:=9) (fr:=(0,0)) (zac rfl) rfl);have hcn:C.length + ([[45]]:List (List UInt8)).length≤1000000000:=by have:=HCl.out; simp; omega
    clear hb hb3 c0 c1;have d8:((8:Int) != 0) = true:=rfl;go_wp2_with (at_builtin; refine zch rfl (.tmp 33) (.tmp 35) 27 rfl 9 (.string ⟨#[]⟩) 1 16 za2 (fun _=>rfl) oneG underlying27 zdi rfl (by decide) (by decide) (w0:=w) (v:=.slice av C.length cv) (A:=C) (B:=[[45]]) rfl HO1.out rfl HR1.out hcn ?_; intro v5 w5 ho5 hk5 hz5)
    go_roundw
    case rel=>exact ⟨n + 1,C ++ [[45]],by go_num,by omega,ho5,by have:=HCl.out; simp; omega,HC1⟩
    case measure=>simp [intOf]; omega
   ·have hwx:zd9 x = hexB x:=by unfold zd9; rw [hvb]; rfl
    have hxl:(hexB x).length≤128:=by rw [← hwx]; exact zid
    rw [hwx,← List.singleton_append,← List.append_assoc] at hC1;obtain ⟨hx2,hhx⟩:∃ t,hexB x = t:=⟨_,rfl⟩;have hcall:=fun w h=>hex_yes S (.agg #[.int .i64 cl,.slice cA cn cc]) x w h hvb (hin.2 hvb)
    rw [hhx] at hC1 hcall hxl;have HC1:=zi5 hC1; have HCall:=zi5 hcall;clear hat hC1 hC hx hvb hwx hin hcall hhx;go_wp2_with fail
    refine zae (fun W3 hW3=>?_)
    have hb3:=xal hW3
    clear hW3;refine (HCall.out _ (HAt.out.below hb3)).mono ?_;rintro e w4 ⟨rfl,hb⟩;have hb4:Below wr.heap.size wr w4:=hb3.trans (hb.mono hb3.size);have HO1:=zi5 ((HO.out.below hb4).below ((Below.refl w4.heap.size w4).alloc xnl (.cells #[zal hx2] 9)));have HR1:=zi5 (show zco (w4.alloc (.cells #[zal hx2] 9)) 1 (.slice (some ⟨w4.heap.size,0,none⟩) 1 1) ([hx2]:List (List UInt8)).length (([hx2]:List (List UInt8)).flatMap za2) from zav (t:=9) (fr:=(0,0)) (zac rfl) rfl);have hcn:C.length + ([hx2]:List (List UInt8)).length≤1000000000:=by have:=HCl.out; simp; omega
    clear hb hb3 c0 c1;have d8:((0:Int) != 0) = false:=rfl;go_wp2_with (at_builtin; refine zch rfl (.tmp 33) (.tmp 35) 27 rfl 9 (.string ⟨#[]⟩) 1 16 za2 (fun _=>rfl) oneG underlying27 zdi rfl (by decide) (by decide) (w0:=w) (v:=.slice av C.length cv) (A:=C) (B:=[hx2]) rfl HO1.out rfl HR1.out hcn ?_; intro v5 w5 ho5 hk5 hz5)
    go_roundw
    case rel=>exact ⟨n + 1,C ++ [hx2],by go_num,by omega,ho5,by have:=HCl.out; simp; omega,HC1⟩
    case measure=>simp [intOf]; omega
  ·have hq:decide ((n:Int) < F.length) = false:=by simp; omega
   obtain rfl:n = F.length:=by omega
   have hC1:=hC.out;rw [List.drop_length,List.map_nil,List.append_nil] at hC1;have HC1:=zi5 hC1;have HV:=zi5 (OwnV.vec (size:=1) (enc:=za2) (fun _=>rfl) HO.out)
   clear hC hC1;go_wp2_with fail
   refine (joinS_any _ _ C _ HV.out (by have:=HCl.out; omega) (by rw [HC1.out,HJ.out]; have:=HLl.out; omega)).mono ?_;rw [HC1.out,HJ.out];rintro e w5 ⟨rfl,hb⟩;go_wp2_with fail
   go_ret2;exact ⟨rfl,HO.out.2.trans (hb.mono HO.out.2.size)⟩
theorem eline_any (S:Nat→Prop) (v:Value) (x:EncL) (w:World) (h:EncVal w S v x) (hvr:VarsAt w) (hi:∀ b∈x.fields,HexIn b) (hn:x.fields.length≤1000000) :
  Calls prog 27 #[v] w fun e w'=>e = .returned (.tuple #[zal (lineV x),.int .i64 (zfe x)])∧Below w.heap.size w w':=by
 unfold lineV zfe;cases hv:zbd x
 ·exact eline_no S v x w h (fun b hb=>(hi b hb).1) hn hv
 ·exact eline_yes S v x w h hvr hi hv
end
section
open Go.RowKit
attribute [local go_sem] zah zaj
def valV (c:UInt8):Nat:=(valH c).getD 0
theorem hvalue_any (c:UInt8) (w:World):Calls prog 147 #[ze1 c] w fun e w'=>e = .returned (.tuple #[.int .u64 (valV c:Int),.bool (zfw c)])∧w = w':=by
 have hb:=c.toNat_lt;unfold valV zfw valH ze1;obtain ⟨n,hn⟩:∃ n,c.toNat = n:=⟨_,rfl⟩;rw [hn] at hb ⊢;clear hn;by_cases h1:48≤n∧n≤57
 ·rw [if_pos h1]
  have d1:decide ((48:Int)≤(n:Int)) = true:=decide_eq_true (by omega);have d2:decide ((n:Int)≤57) = true:=decide_eq_true (by omega);have hw:IntKind.u8.wrap ((n:Int) - 48) = ((n - 48:Nat):Int):=by rw [IntKind.wrap_u8]; omega
  have hw2:IntKind.u64.wrap ((n - 48:Nat):Int) = ((n - 48:Nat):Int):=by rw [IntKind.wrap_u64]; omega
  obtain ⟨m,hm⟩:∃ m,n - 48 = m:=⟨_,rfl⟩;rw [hm] at hw hw2 ⊢;have e:Ending.returned (.tuple #[.int .u64 (m:Int),.bool true]) = Ending.returned (.tuple #[.int .u64 (((some m).getD 0:Nat):Int),.bool (some m).isSome]):=rfl;rw [← e];clear e hm h1;go_enter func147,ntmps147
  go_wp2_with fail
  go_ret2;exact ⟨rfl,rfl⟩
 ·rw [if_neg h1]
  by_cases h2:97≤n∧n≤102
  ·rw [if_pos h2]
   have d1:decide ((48:Int)≤(n:Int)) = true:=decide_eq_true (by omega);have d2:decide ((n:Int)≤57) = false:=decide_eq_false (by omega);have d3:decide ((97:Int)≤(n:Int)) = true:=decide_eq_true (by omega);have d4:decide ((n:Int)≤102) = true:=decide_eq_true (by omega);have hw:IntKind.u8.wrap ((n:Int) - 97) = ((n - 97:Nat):Int):=by rw [IntKind.wrap_u8]; omega
   have hw2:IntKind.u64.wrap ((n - 97:Nat):Int) = ((n - 97:Nat):Int):=by rw [IntKind.wrap_u64]; omega
   have hw3:IntKind.u64.wrap (((n - 97:Nat):Int) + 10) = ((n - 87:Nat):Int):=by rw [IntKind.wrap_u64]; omega
   obtain ⟨m,hm⟩:∃ m,n - 87 = m:=⟨_,rfl⟩;obtain ⟨k,hk⟩:∃ k,n - 97 = k:=⟨_,rfl⟩;have hmk:(k:Int) + 10 = (m:Int):=by omega
   have hw4:IntKind.u64.wrap (m:Int) = (m:Int):=by rw [IntKind.wrap_u64]; omega
   rw [hk] at hw hw2 hw3;rw [hm] at hw3 ⊢;have e:Ending.returned (.tuple #[.int .u64 (m:Int),.bool true]) = Ending.returned (.tuple #[.int .u64 (((some m).getD 0:Nat):Int),.bool (some m).isSome]):=rfl;rw [← e];clear e hm hk h1 h2;go_enter func147,ntmps147
   go_wp2_with fail
   go_ret2;exact ⟨rfl,rfl⟩
  ·rw [if_neg h2]
   have e:Ending.returned (.tuple #[.int .u64 0,.bool false]) = Ending.returned (.tuple #[.int .u64 (((none:Option Nat).getD 0:Nat):Int),.bool (none:Option Nat).isSome]):=rfl;rw [← e];cases d1:decide ((48:Int)≤(n:Int))
   ·have d3:decide ((97:Int)≤(n:Int)) = false:=by simp at d1 ⊢; omega
    clear e h1 h2;go_enter func147,ntmps147
    go_wp2_with fail
    go_ret2;exact ⟨rfl,rfl⟩
   ·have d2:decide ((n:Int)≤57) = false:=by simp at d1 ⊢; omega
    cases d3:decide ((97:Int)≤(n:Int))
    ·clear e h1 h2
     go_enter func147,ntmps147
     go_wp2_with fail
     go_ret2;exact ⟨rfl,rfl⟩
    ·have d4:decide ((n:Int)≤102) = false:=by simp at d1 d3 ⊢; omega
     clear e h1 h2;go_enter func147,ntmps147
     go_wp2_with fail
     go_ret2;exact ⟨rfl,rfl⟩
theorem bnew_no (n:Int) (w:World) (h:zb6 n = false) (h1:-9223372036854775808≤n) (h2:n≤9223372036854775807) :
  Calls prog 116 #[.int .i64 n] w fun e w'=>e = .returned (.tuple #[.agg #[.int .i64 0,.slice none 0 0],.int .i64 2])∧Below w.heap.size w w':=by
 have HR:=zi5 h;clear h;go_enter func116,ntmps116
 go_wp2_with fail
 refine (zii n _ h1 h2).mono ?_;rw [HR.out];rintro e w1 ⟨rfl,rfl⟩;go_wp2_with fail
 exact zag rfl rfl (zac rfl) underlying78 rfl (by kernel_rfl)
  ⟨rfl,(Below.refl w.heap.size w).alloc xnl _⟩
theorem or_nib (a v:Nat) (hv:v < 16):bits .or .u64 (IntKind.u64.wrap ((a:Int) * 16)) (v:Int) = (((a * 16 + v) % 18446744073709551616:Nat):Int):=by
 obtain ⟨q,hq⟩:∃ q,a % 1152921504606846976 = q:=⟨_,rfl⟩;have hq2:q < 1152921504606846976:=by rw [← hq]; exact Nat.mod_lt _ (by decide)
 have e0:IntKind.u64.wrap ((a:Int) * 16) = ((16 * q:Nat):Int):=by rw [IntKind.wrap_u64]; omega
 have e1:(a * 16 + v) % 18446744073709551616 = 16 * q + v:=by omega
 rw [e0,e1];unfold bits;rw [IntKind.wrap_u64];have f1:(BitVec.ofInt 64 ((16 * q:Nat):Int)).toNat = 16 * q:=by rw [BitVec.toNat_ofInt]; simp; omega
 have f2:(BitVec.ofInt 64 (v:Int)).toNat = v:=by rw [BitVec.toNat_ofInt]; simp; omega
 have f3:((BitVec.ofInt 64 ((16 * q:Nat):Int)) ||| (BitVec.ofInt 64 (v:Int))).toNat = 16 * q + v:=by
  rw [BitVec.toNat_or,f1,f2];exact (Nat.two_pow_add_eq_or_of_lt (i:=4) (by simpa using hv) q).symm
 show ((((BitVec.ofInt 64 ((16 * q:Nat):Int)) ||| (BitVec.ofInt 64 (v:Int))).toNat:Nat):Int) % _ = _;rw [f3]; omega
theorem layH_len (l:List UInt8):∀ (W:List Nat) (i:Nat),(layH W i l).length = W.length:=by
 induction l with
 | nil=>intro W i; rfl
 | cons c l ih=>intro W i; rw [layH,ih,List.length_set]
theorem layH_snoc (W:List Nat) (l:List UInt8) (c:UInt8):layH W 0 (l ++ [c]) = (layH W 0 l).set (l.length / 16) (zcu ((layH W 0 l).getD (l.length / 16) 0) c):=by
 rw [zh8,Nat.zero_add]; rfl
def zd8 (t:List UInt8) (j:Nat):List Nat:=layH (List.replicate (t.length / 16) 0) 0 (t.take j)
def zei (L:List Nat):List Int:=L.map fun n:Nat=>(n:Int)
theorem wordsH_len (t:List UInt8) (j:Nat):(zd8 t j).length = t.length / 16:=by unfold zd8; rw [layH_len,List.length_replicate]
theorem wordsH_more {t:List UInt8} {j:Nat} (h:j < t.length):zd8 t (j + 1) = (zd8 t j).set (j / 16) (zcu ((zd8 t j).getD (j / 16) 0) t[j]):=by
 unfold zd8;rw [List.take_succ_eq_append_getElem h,layH_snoc,List.length_take,Nat.min_eq_left (by omega)]
theorem castU_get (L:List Nat) (q:Nat):(zei L).getD q 0 = ((L.getD q 0:Nat):Int):=by
 unfold zei;rw [List.getD,List.getD,List.getElem?_map];cases L[q]? <;> rfl
theorem castU_set (L:List Nat) (q x:Nat):(zei L).set q (x:Int) = zei (L.set q x):=by
 unfold zei; rw [List.map_set]
def errO {α:Type} (P:Option α):Int:=if P.isSome = true then 0 else 14
def zd6 (t:List UInt8) (w:World) (e:Ending) (w':World):Prop :=
 ∃ v,e = .returned (.tuple #[v,.int .i64 (errO (zc0 t))])∧BitsAt w' (fun b=>w.heap.size≤b) v ((zc0 t).getD zba)∧Below w.heap.size w w'
theorem BitsAt.none (w:World) (S:Nat→Prop):BitsAt w S (.agg #[.int .i64 0,.slice none 0 0]) zba:=⟨_,rfl,Vec.nil _ _ _ _⟩
structure PbAt (w:World) (g k m:Nat) (t:List UInt8) (j:Nat) (wr:World):Prop where
 z:wr.heap[w.heap.size]? = some (.cells #[.int .i64 0,.slice none 0 0] 78 (0,0))
 o:wr.heap[k]? = some (.cells #[.int .i64 (4 * (t.length:Int)),.slice (some ⟨g,0,none⟩) m m] 78 (0,0))
 g:wr.heap[g]? = some (.cells ((zei (zd8 t j)).flatMap zfx).toArray 24 (0,0))
 b:Below w.heap.size w wr
theorem bparse_any (t:List UInt8) (w:World) (ht:t.length≤1000000000):Calls prog 89 #[zal t] w (zd6 t w):=by
 have hw4:IntKind.i64.wrap (4 * (t.length:Int)) = 4 * (t.length:Int):=by rw [IntKind.wrap_i64]; omega
 cases hr:zb6 (4 * (t.length:Int))
 ·have hp:zc0 t = none:=by unfold zc0; rw [hr]; rfl
  unfold zd6;rw [hp];have HR:=zi5 hr;have dne:((2:Int) != 0) = true:=rfl;clear hr hp;go_enter func89,ntmps89
  go_wp2_with fail
  refine zae (fun W hW=>?_)
  have hb0:=xal hW
  have hz0:W.heap[w.heap.size]? = some (.cells #[.int .i64 0,.slice none 0 0] 78 (0,0)):=by rw [hW]; exact zac rfl
  clear hW;refine (bnew_no _ _ HR.out (by omega) (by omega)).mono ?_;rintro e w1 ⟨rfl,hb⟩;have hz1:=zab hb (zaa hz0) hz0;have HB1:=zi5 (hb0.trans (hb.mono hb0.size)); have HZ1:=zi5 hz1;obtain ⟨z0,z1⟩:=zak hz1;have f0:=frozen_of_row _ _ 0 _ _ hz1; have f1:=frozen_of_row _ _ 1 _ _ hz1;have lz:=zaa hz1;clear hb hb0 hz0 hz1;go_wp2_with fail
  refine zag rfl rfl (zaf (zad (i:=1) (v:=.slice none 0 0) (zad (i:=0) (v:=.int .i64 0) HZ1.out))) underlying78 rfl (by kernel_rfl)
   ⟨_,rfl,BitsAt.none _ _,((HB1.out.setCell (p:=⟨w.heap.size,0,none⟩) xnl _).setCell (p:=⟨w.heap.size,1,none⟩) xnl _).alloc (by simpa [World.setCell] using HB1.out.size) _⟩
 ·have hr0:=hr
  unfold zb6 at hr0;simp only [Bool.and_eq_true,decide_eq_true_eq,beq_iff_eq] at hr0;obtain ⟨P,hP⟩:∃ P,zc0 t = P:=⟨_,rfl⟩
  have hP2:(if t.all zfw = true then some (⟨4 * (t.length:Int),zei (zd8 t t.length)⟩:BitsL) else none) = P:=by
   rw [← hP]; unfold zc0; rw [if_pos hr]; unfold zd8; rw [List.take_length]; rfl
  unfold zd6;rw [hP];have HR:=zi5 hr; have HP:=zi5 hP2;have dz:((0:Int) != 0) = false:=rfl;clear hr hP hP2;go_enter func89,ntmps89
  go_wp2_with fail
  refine zae (fun W hW=>?_)
  have hb0:=xal hW
  have hz0:W.heap[w.heap.size]? = some (.cells #[.int .i64 0,.slice none 0 0] 78 (0,0)):=by rw [hW]; exact zac rfl
  clear hW;refine (zft _ W HR.out).mono ?_;rintro e w1 ⟨g,m,rfl,hn,hg,hgc,hb⟩;have hm:t.length = 16 * m:=by omega
  have hzw:zej (4 * (t.length:Int)) = zei (zd8 t 0):=by
   unfold zej zd8 zei;rw [List.take_zero];unfold layH;rw [List.map_replicate,show (4 * (t.length:Int) / 64).toNat = t.length / 16 by omega]; rfl
  rw [hzw] at hgc;have hz1:=zab hb (zaa hz0) hz0;have HB1:=zi5 (hb0.trans (hb.mono hb0.size)); have HZ1:=zi5 hz1; have HG1:=zi5 hgc;have zh:=zaa hz0;have lz:=zaa hz1; have lg:=zaa hgc;have HM:=zi5 hm;clear hb hb0 hz0 hz1 hgc hzw hm hn;go_wp2_with fail
  refine zao (fun W2 hW2=>?_)
  have hp0:PbAt w g w1.heap.size m t 0 W2:=by
   rw [hW2];exact ⟨zaf HZ1.out,zac rfl,zaf HG1.out,HB1.out.alloc HB1.out.size _⟩
  have HP0:=zi5 hp0;clear hW2 hp0;go_loopw [6,7,8,21] (fun _ _ _ i wr=>∃ j:Nat,i = .int .i64 j∧j≤t.length∧Hid ((t.take j).all zfw = true)∧PbAt w g w1.heap.size m t j wr) (fun _ _ _ i _=>t.length - (intOf i).toNat)
  case atStart=>exact ⟨0,rfl,by omega,zi5 rfl,HP0.out⟩
  case round =>
   obtain ⟨j,rfl,hj,HT,hp⟩:=hrel;have HPr:=zi5 hp;clear hp HP0;by_cases hlt:j < t.length
   ·have hq1:decide ((j:Int) < (t.length:Int)) = true:=by simp; omega
    have hji:(j:Int) < (t.length:Int):=by omega
    obtain ⟨c,hc⟩:∃ c,t[j] = c:=⟨_,rfl⟩;have hgx:∀ h:j < (⟨t.toArray⟩:ByteArray).size,(⟨t.toArray⟩:ByteArray)[j]'h = c:=fun h=>hc
    have HC:=zi5 hc;have hcall:=fun w=>hvalue_any c w
    clear hc;cases hx:zfw c
    ·have hPn:P = none:=by
      rw [← HP.out,if_neg];intro h;have:=List.all_eq_true.1 h c (by rw [← HC.out]; exact List.getElem_mem hlt);rw [hx] at this; cases this
     have HPn:=zi5 hPn;rw [hx] at hcall;obtain ⟨z0,z1⟩:=zak HPr.out.z;have f0:=frozen_of_row _ _ 0 _ _ HPr.out.z; have f1:=frozen_of_row _ _ 1 _ _ HPr.out.z;clear hx hPn HT;go_wp2_with fail
     refine (hcall _).mono ?_;rintro e w2 ⟨rfl,rfl⟩;go_wp2_with fail
     have hE:errO P = 14:=by rw [HPn.out]; rfl
     have hG:P.getD zba = zba:=by rw [HPn.out]; rfl
     rw [hE,hG]
     exact zag rfl rfl (zad (i:=1) (v:=.slice none 0 0) (zad (i:=0) (v:=.int .i64 0) HPr.out.z)) underlying78 rfl (by kernel_rfl)
      ⟨_,rfl,BitsAt.none _ _,(HPr.out.b.setCell (p:=⟨w.heap.size,0,none⟩) xnl _).setCell (p:=⟨w.heap.size,1,none⟩) xnl _⟩
    ·have hmore:(t.take (j + 1)).all zfw = true:=by
      rw [List.take_succ_eq_append_getElem hlt,List.all_append,HT.out,HC.out]; simp [hx]
     have HT2:=zi5 hmore;have hwm:=wordsH_more hlt;rw [HC.out] at hwm;obtain ⟨q,hq⟩:∃ q,j / 16 = q:=⟨_,rfl⟩;have hqm:q < m:=by have:=HM.out; omega
     obtain ⟨x,hxx⟩:∃ x,(zd8 t j).getD q 0 = x:=⟨_,rfl⟩;rw [hq,hxx] at hwm
     have hv16:valV c < 16:=by
      unfold valV;cases hv:valH c with
      | none=>simp
      | some v=>simpa using valH_lt hv
     have hst:zcu x c = (x * 16 + valV c) % 18446744073709551616:=rfl;rw [hst] at hwm;have hor:=or_nib x (valV c) hv16;obtain ⟨v,hv⟩:∃ v,valV c = v:=⟨_,rfl⟩;rw [hv] at hor hwm hcall;obtain ⟨y,hy⟩:∃ y,(x * 16 + v) % 18446744073709551616 = y:=⟨_,rfl⟩;rw [hy] at hor hwm;have hquo:IntKind.i64.wrap ((j:Int).tdiv 16) = (q:Int):=by rw [IntKind.wrap_i64,Int.tdiv_eq_ediv_of_nonneg (by omega)]; omega
     have hquo2:IntKind.i64.wrap ((j:Int) / 16) = (q:Int):=by rw [IntKind.wrap_i64]; omega
     have hqi:(q:Int) < (m:Int):=by omega
     have cg:wr.cell? ⟨g,q,none⟩ = some (.int .u64 (x:Int)):=by
      have hlen:q < (zei (zd8 t j)).length:=by unfold zei; rw [List.length_map,wordsH_len]; have:=HM.out; omega
      have h:=word_cell HPr.out.g q hlen;rw [castU_get,hxx] at h;exact h
     obtain ⟨k0,k1⟩:=zak HPr.out.o;have fg:=frozen_of_row _ _ q _ _ HPr.out.g;have HWm:=zi5 hwm; have HQ:=zi5 hq;rw [hx] at hcall;clear hwm hst hmore hxx hy hv hx hq hv16 HT;go_wp2_with fail
     refine (hcall _).mono ?_;rintro e w2 ⟨rfl,rfl⟩;go_wp2_with fail
     refine wp_region_noPanic ?_
     refine zat (by kernel_rfl) (fun w'=>w'.cell? ⟨w1.heap.size,1,none⟩ = some (.slice (some ⟨g,0,none⟩) m m)∧w'.cell? ⟨g,q,none⟩ = some (.int .u64 (x:Int))) 14 (⟨k1,cg⟩) (fun hHeld=>?_)
     refine tK 0 (h:=?_);refine tK 1 (h:=?_);refine tK 2 (h:=?_);refine tK 3 (h:=?_);refine tK 4 (h:=?_);refine tK 5 (h:=?_);refine tK 6 (h:=?_);refine tK 7 (h:=?_);refine tK 8 (h:=?_);refine tK 9 (h:=?_);refine tK 10 (h:=?_);refine tK 11 (h:=?_);refine tK 12 (h:=?_);refine tK 13 (h:=?_)
     refine xrK 14 rfl fun K hK=>?_
     go_simp;skip;refine zas hK (by decide) ?_;clear hK K;refine zap (by kernel_rfl) ?_ _;refine NoPanic.normal ?_;go_wp2_with fail
     go_roundw
     case rel =>
      refine ⟨j + 1,by go_num,by omega,HT2,?_⟩;have zk:w.heap.size < w1.heap.size:=lz;refine ⟨zam HPr.out.z (by show w.heap.size≠g; omega),zam HPr.out.o (by show w1.heap.size≠g; omega),?_,(HPr.out.b.setCell (p:=⟨g,q,none⟩) (by show w.heap.size≤g; omega) _).drew⟩;have h:=zad (i:=q) (v:=.int .u64 (y:Int)) HPr.out.g;rw [word_set,castU_set,← HWm.out] at h;exact h
     case measure=>simp [intOf]; omega
   ·have hq1:decide ((j:Int) < (t.length:Int)) = false:=by simp; omega
    obtain rfl:j = t.length:=by omega
    have hall:t.all zfw = true:=by have:=HT.out; rwa [List.take_length] at this
    have hPs:P = some (⟨4 * (t.length:Int),zei (zd8 t t.length)⟩:BitsL):=by rw [← HP.out,if_pos hall]
    have HPs:=zi5 hPs;obtain ⟨z0,z1⟩:=zak HPr.out.z; obtain ⟨k0,k1⟩:=zak HPr.out.o;have f0:=frozen_of_row _ _ 0 _ _ HPr.out.z; have f1:=frozen_of_row _ _ 1 _ _ HPr.out.z;clear hall hPs HT;go_wp2_with fail
    have hE:errO P = 0:=by rw [HPs.out]; rfl
    have hG:P.getD zba = ⟨4 * (t.length:Int),zei (zd8 t t.length)⟩:=by rw [HPs.out]; rfl
    rw [hE,hG]
    refine zag rfl rfl (zad (i:=1) (v:=.slice (some ⟨g,0,none⟩) m m) (zad (i:=0) (v:=.int .i64 (4 * (t.length:Int))) HPr.out.z)) underlying78 rfl (by kernel_rfl)
     ⟨_,rfl,⟨_,rfl,?_⟩,(HPr.out.b.setCell (p:=⟨w.heap.size,0,none⟩) xnl _).setCell (p:=⟨w.heap.size,1,none⟩) xnl _⟩
    have h:=zam (a:=⟨w.heap.size,1,none⟩) (v:=.slice (some ⟨g,0,none⟩) m m) (zam (a:=⟨w.heap.size,0,none⟩) (v:=.int .i64 (4 * (t.length:Int))) HPr.out.g (by show g≠w.heap.size; omega)) (by show g≠w.heap.size; omega);exact zcn (k:=1) (enc:=zfx) (L:=zei (zd8 t t.length)) (S:=fun b=>w.heap.size≤b) (A:=g) (fun _=>rfl) h (by show w.heap.size≤g; omega) m (by unfold zei; rw [List.length_map,wordsH_len]; have:=HM.out; omega)
end
section
open Go.RowKit
theorem ze7 {p:ParL} (h:zc7 p = true):ParOk p:=by
 unfold zc7 zb6 at h;simp only [Bool.and_eq_true,decide_eq_true_iff,beq_iff_eq] at h;exact ⟨by omega,by omega,by omega,by omega,by omega,by omega,by omega⟩
def zcv (p:ParL):Int:=if zc7 p = true then 0 else 10
theorem bcheck_any (p:ParL) (w:World) (hi:InI p.len) :
  Calls prog 57 #[.agg #[.int .i64 p.len,.int .i64 p.hashes,.int .i64 p.salt]] w fun e w'=>e = .returned (.int .i64 (zcv p))∧Below w.heap.size w w':=by
 obtain ⟨E,hE⟩:∃ E,zcv p = E:=⟨_,rfl⟩;rw [hE];have hyes:zc7 p = true→E = 0:=fun h=>by rw [← hE]; unfold zcv; rw [if_pos h]
 have hno:zc7 p = false→E = 10:=fun h=>by rw [← hE]; unfold zcv; rw [h]; rfl
 have HY:=zi5 hyes; have HN:=zi5 hno;clear hE hyes hno;cases hr:zb6 p.len
 ·have hE:E = 10:=HN.out (by unfold zc7; rw [hr]; rfl)
  subst hE;have HR:=zi5 hr;clear hr;go_enter func57,ntmps57
  go_wp2_with fail
  refine (bnew_no _ _ HR.out hi.1 hi.2).mono ?_;rintro e w1 ⟨rfl,hb⟩;have HB:=zi5 (xbt hb);clear hb;go_wp2_with fail
  go_ret;first | exact ⟨rfl,HB.out.alloc HB.out.size _⟩ | exact ⟨rfl,HB.out⟩
 have HR:=zi5 hr;clear hr;by_cases h1:p.hashes < 1
 ·have d1:decide (p.hashes < (1:Int)) = true:=by simpa using h1
  have hE:E = 10:=HN.out (by rw [Bool.eq_false_iff]; intro h; have q:=ze7 h; have:=q.h1; have:=q.h2; have:=q.s1; have:=q.s2; omega);subst hE;clear h1;go_enter func57,ntmps57
  go_wp2_with fail
  refine (zft _ _ HR.out).mono ?_;rintro e w1 ⟨g,m,rfl,-,hg,-,hb⟩;have HB:=zi5 (xbt hb);have HX:=zi5 (xbn hb);clear hb hg;have z0:=zaa HX.out;obtain ⟨p0,p1,p2⟩:=zai HX.out;go_wp2_with fail
  go_ret;first | exact ⟨rfl,HB.out.alloc HB.out.size _⟩ | exact ⟨rfl,HB.out⟩
 have d1:decide (p.hashes < (1:Int)) = false:=by simpa using h1
 by_cases h2:16 < p.hashes
 ·have d2:decide ((16:Int) < p.hashes) = true:=by simpa using h2
  have hE:E = 10:=HN.out (by rw [Bool.eq_false_iff]; intro h; have q:=ze7 h; have:=q.h1; have:=q.h2; have:=q.s1; have:=q.s2; omega);subst hE;clear h2;go_enter func57,ntmps57
  go_wp2_with fail
  refine (zft _ _ HR.out).mono ?_;rintro e w1 ⟨g,m,rfl,-,hg,-,hb⟩;have HB:=zi5 (xbt hb);have HX:=zi5 (xbn hb);clear hb hg;have z0:=zaa HX.out;obtain ⟨p0,p1,p2⟩:=zai HX.out;go_wp2_with fail
  go_ret;first | exact ⟨rfl,HB.out.alloc HB.out.size _⟩ | exact ⟨rfl,HB.out⟩
 have d2:decide ((16:Int) < p.hashes) = false:=by simpa using h2
 by_cases h3:p.salt < -1
 ·have d3:decide (p.salt < (-1:Int)) = true:=by simpa using h3
  have hE:E = 10:=HN.out (by rw [Bool.eq_false_iff]; intro h; have q:=ze7 h; have:=q.h1; have:=q.h2; have:=q.s1; have:=q.s2; omega);subst hE;clear h3;go_enter func57,ntmps57
  go_wp2_with fail
  refine (zft _ _ HR.out).mono ?_;rintro e w1 ⟨g,m,rfl,-,hg,-,hb⟩;have HB:=zi5 (xbt hb);have HX:=zi5 (xbn hb);clear hb hg;have z0:=zaa HX.out;obtain ⟨p0,p1,p2⟩:=zai HX.out;go_wp2_with fail
  go_ret;first | exact ⟨rfl,HB.out.alloc HB.out.size _⟩ | exact ⟨rfl,HB.out⟩
 have d3:decide (p.salt < (-1:Int)) = false:=by simpa using h3
 by_cases h4:5≤p.salt
 ·have d4:decide ((5:Int)≤p.salt) = true:=by simpa using h4
  have hE:E = 10:=HN.out (by rw [Bool.eq_false_iff]; intro h; have q:=ze7 h; have:=q.h1; have:=q.h2; have:=q.s1; have:=q.s2; omega);subst hE;clear h4;go_enter func57,ntmps57
  go_wp2_with fail
  refine (zft _ _ HR.out).mono ?_;rintro e w1 ⟨g,m,rfl,-,hg,-,hb⟩;have HB:=zi5 (xbt hb);have HX:=zi5 (xbn hb);clear hb hg;have z0:=zaa HX.out;obtain ⟨p0,p1,p2⟩:=zai HX.out;go_wp2_with fail
  go_ret;first | exact ⟨rfl,HB.out.alloc HB.out.size _⟩ | exact ⟨rfl,HB.out⟩
 have d4:decide ((5:Int)≤p.salt) = false:=by simpa using h4
 have hE:E = 0:=HY.out (by
  unfold zc7;rw [HR.out];simp only [Bool.true_and,Bool.and_eq_true,decide_eq_true_eq]
  omega)
 subst hE;clear h1 h2 h3 h4;go_enter func57,ntmps57
 go_wp2_with fail
 refine (zft _ _ HR.out).mono ?_;rintro e w1 ⟨g,m,rfl,-,hg,-,hb⟩;have HB:=zi5 (xbt hb);have HX:=zi5 (xbn hb);clear hb hg;have z0:=zaa HX.out;obtain ⟨p0,p1,p2⟩:=zai HX.out;go_wp2_with fail
 go_ret;first | exact ⟨rfl,HB.out.alloc HB.out.size _⟩ | exact ⟨rfl,HB.out⟩
end
section
open Go.RowKit Cal
def ze3 (n i:Nat) (p:ParL):Bool:=zc7 p && decide (p.salt < n) && !(p.salt == i)
def parsA (n:Nat):Nat→List ParL→Int
 | _,[]=>0
 | i,p :: l=>if ze3 n i p = true then parsA n (i + 1) l else 10
def zb0 (s:SchemaL) (P:List ParL):Int:=if zax s = 0 then (if P.length = s.fields.length then parsA P.length 0 P else 8) else zax s
theorem parsA_ok (n:Nat):∀ (L:List ParL) (i:Nat),parsA n i L = 0→∀ j,j < L.length→ze3 n (i + j) (L.getD j default) = true
 | [],i,_,j,hj=>by simp at hj
 | p :: l,i,h,j,hj=>by
  unfold parsA at h;split at h
  ·next h1 =>
   cases j with
   | zero=>exact h1
   | succ j =>
    have h2:=parsA_ok n l (i + 1) h j (by simpa using hj);rw [List.getD_cons_succ,show i + (j + 1) = i + 1 + j by omega];exact h2
  ·exact absurd h (by decide)
theorem checkP_ok {s:SchemaL} {P:List ParL} (h:zb0 s P = 0):zax s = 0∧P.length = s.fields.length∧ParsOk P:=by
 unfold zb0 at h;split at h
 ·next h1 =>
  split at h
  ·next h2 =>
   have h3:=parsA_ok P.length P 0 h
   refine ⟨h1,h2,fun i hi=>?_,fun i hi=>?_⟩
   ·have:=h3 i hi
    unfold ze3 at this;simp only [Bool.and_eq_true] at this;exact ze7 this.1.1
   ·have:=h3 i hi
    unfold ze3 at this;simp only [Bool.and_eq_true,decide_eq_true_eq,Bool.not_eq_true',beq_eq_false_iff_ne,ne_eq,Nat.zero_add] at this;exact ⟨this.1.2,this.2⟩
  ·exact absurd h (by decide)
 ·next h1=>exact absurd h h1
theorem zhv (S:Nat→Prop) (vf vt vn vs:Value) (s:SchemaL) (P:List ParL) (pv:Value) (w:World) (h:SchemaAt w S vf vt vn vs s) (hp:Vec w zaw 3 zbc pv P) (hi:∀ p∈P,InI p.len) (hn:P.length≤1000000) :
  Calls prog 16 #[.agg #[vf,vt,vn,vs],pv] w fun e w'=>e = .returned (.int .i64 (zb0 s P))∧Below w.heap.size w w':=by
 obtain ⟨E,hE⟩:∃ E,zb0 s P = E:=⟨_,rfl⟩;rw [hE];obtain ⟨a,cap,rfl⟩:=hp.slice;obtain ⟨af,cf,rfl⟩:=h.1.slice;have HP:=zi5 hp; have HS:=zi5 h.any; have HE:=zi5 hE; have HI:=zi5 hi;obtain ⟨c,hc⟩:∃ c,zax s = c:=⟨_,rfl⟩;have HC:=zi5 hc;obtain ⟨m,hm⟩:∃ m,s.fields.length = m:=⟨_,rfl⟩;rw [hm];have HM:=zi5 hm;clear hp h hE hi hc hm;go_enter func16,ntmps16
 go_wp2_with fail
 refine zae (fun W hW=>?_)
 have hb0:=xal hW
 have hs0:W.heap[w.heap.size]? = some (.cells #[.slice af m cf,vt,vn,vs] 44 (0,0)):=by rw [hW]; exact zac rfl
 clear hW;refine (zdw zaw _ _ _ _ s _ (by have:=HS.out.below hb0; rw [HM.out] at this; exact this)).mono ?_;rw [HC.out];rintro e w1 ⟨rfl,hb⟩;have hs1:=zab hb (zaa hs0) hs0;have HB1:=zi5 (hb0.trans (hb.mono hb0.size));obtain ⟨s0,s1,s2,s3⟩:=zan hs1;clear hb hb0 hs0 hs1;by_cases hc0:c = 0;rotate_left
 ·have dz:(c != 0) = true:=by simpa using hc0
  have hE1:E = c:=by rw [← HE.out]; unfold zb0; rw [if_neg (by rw [HC.out]; exact hc0),HC.out]
  subst hE1;clear HE HC hc0;go_wp2_with fail
  go_ret;exact ⟨rfl,HB1.out⟩
 have dz:(c != 0) = false:=by simpa using hc0
 by_cases hl:P.length = m;rotate_left
 ·have hne:((P.length:Int) != (m:Int)) = true:=by rw [bne_iff_ne]; omega
  have hE1:E = 8:=by rw [← HE.out]; unfold zb0; rw [if_pos (by rw [HC.out]; exact hc0),if_neg (by rw [HM.out]; exact hl)]
  subst hE1;clear HE HC hc0 hl;go_wp2_with fail
  go_ret;exact ⟨rfl,HB1.out⟩
 have hne:((P.length:Int) != (m:Int)) = false:=by rw [hl]; simp
 have HE2:=zi5 (show parsA P.length 0 P = E by rw [← HE.out]; unfold zb0; rw [if_pos (by rw [HC.out]; exact hc0),if_pos (by rw [HM.out]; exact hl)]);clear HE HC hc0 hl;go_wp2_with fail
 clear s0 s1 s2 s3;go_loopw [6,7,21] (fun _ _ i wr=>∃ j:Nat,i = .int .i64 j∧j≤P.length∧Hid (parsA P.length j (P.drop j) = E)∧Below w1.heap.size w1 wr) (fun _ _ i _=>P.length - (intOf i).toNat)
 case atStart=>exact ⟨0,rfl,by omega,HE2,Below.refl _ _⟩
 case round =>
  obtain ⟨j,rfl,hj,HT,hb⟩:=hrel;have HBr:=zi5 hb; clear hb;by_cases hlt:j < P.length
  ·have hq:decide ((j:Int) < P.length) = true:=by simp; omega
   have hbw:=HB1.out.trans (HBr.out.mono HB1.out.size);obtain ⟨p,hpj⟩:∃ p,P[j] = p:=⟨_,rfl⟩;have hT:=HT.out;rw [List.drop_eq_getElem_cons hlt,hpj,parsA] at hT;have HT2:=zi5 hT;have hpi:InI p.len:=HI.out p (by rw [← hpj]; exact List.getElem_mem _);obtain ⟨b,off,rfl,hb,hc⟩:=(HP.out.below hbw).get j hlt;rw [hpj] at hc;have c0:=hc 0 _ rfl; have c1:=hc 1 _ rfl; have c2:=hc 2 _ rfl;rw [Nat.add_zero] at c0;have HPI:=zi5 hpi;clear hc hpj hbw hT HT hpi;go_wp2_with fail
   refine (bcheck_any p _ HPI.out).mono ?_;rintro e w2 ⟨rfl,hb2⟩;have hx:=zab (b:=wr.heap.size) (o:=.cells (zbc p).toArray 49 (0,0)) hb2 (by simp) (zac rfl);have HB2:=zi5 ((HBr.out.alloc HBr.out.size (.cells (zbc p).toArray 49)).trans (hb2.mono (by have:=HBr.out.size; simp; omega)));obtain ⟨x0,x1,x2⟩:=zai hx;have hxl:=zaa hx;clear hb2 hx c0 c1 c2;by_cases hk:zc7 p = true;rotate_left
   ·have hE1:E = 10:=by rw [← HT2.out,if_neg]; unfold ze3; simp [hk]
    have hbn:zcv p = 10:=by unfold zcv; rw [if_neg hk]
    rw [hbn];have d1:((10:Int) != 0) = true:=rfl;subst hE1;clear HT2 HE2 hk hbn;go_wp2_with fail
    go_ret;exact ⟨rfl,HB1.out.trans (HB2.out.mono HB1.out.size)⟩
   have hbn:zcv p = 0:=by unfold zcv; rw [if_pos hk]
   rw [hbn];have d1:((0:Int) != 0) = false:=rfl;by_cases h1:(P.length:Int)≤p.salt
   ·have e1:decide ((P.length:Int)≤p.salt) = true:=by simpa using h1
    have hE1:E = 10:=by rw [← HT2.out,if_neg]; unfold ze3; rw [decide_eq_false (by omega)]; simp
    subst hE1;clear HT2 HE2 hk hbn h1;go_wp2_with fail
    go_ret;exact ⟨rfl,HB1.out.trans (HB2.out.mono HB1.out.size)⟩
   have e1:decide ((P.length:Int)≤p.salt) = false:=by simpa using h1
   by_cases h2:p.salt = (j:Int)
   ·have e2:(p.salt == (j:Int)) = true:=by simpa using h2
    have hE1:E = 10:=by rw [← HT2.out,if_neg]; unfold ze3; rw [e2]; simp
    subst hE1;clear HT2 HE2 hk hbn h1 h2;go_wp2_with fail
    go_ret;exact ⟨rfl,HB1.out.trans (HB2.out.mono HB1.out.size)⟩
   have e2:(p.salt == (j:Int)) = false:=by simpa using h2
   have HT3:=zi5 (show parsA P.length (j + 1) (P.drop (j + 1)) = E by
    rw [← HT2.out,if_pos]; unfold ze3; rw [hk,e2,decide_eq_true (by omega)]; rfl)
   clear HT2 hk hbn h1 h2;go_wp2_with fail
   go_roundw
   case rel=>exact ⟨j + 1,by go_num,by omega,HT3,HB2.out⟩
   case measure=>simp [intOf]; omega
  ·have hq:decide ((j:Int) < P.length) = false:=by simp; omega
   obtain rfl:j = P.length:=by omega
   have hE1:E = 0:=by rw [← HT.out,List.drop_length]; rfl
   subst hE1;clear HE2 HT;go_wp2_with fail
   go_ret;exact ⟨rfl,HB1.out.trans (HBr.out.mono HB1.out.size)⟩
end
section
open Go.RowKit
theorem infoPar:(prog.info? 49).map (fun i=>(i.zero,i.size,i.bytes)) = some (some (.agg #[.int .i64 0,.int .i64 0,.int .i64 0]),3,24):=by kernel_rfl
theorem zfb:∀ (x:ParL),∀ u∈zbc x,u.oneCell' = true:=by
 intro x u hu; simp at hu; rcases hu with rfl | rfl | rfl <;> rfl
structure ParsD (n j:Nat) (P:List ParL):Prop where
 len:P.length = j
 par:∀ i,i < j→ParOk (P.getD i default)∧(P.getD i default).salt < n∧(P.getD i default).salt≠i
theorem ParsD.nil (n:Nat):ParsD n 0 []:=⟨rfl,fun i hi=>by omega⟩
theorem ParsD.snoc {n j:Nat} {P:List ParL} {p:ParL} (h:ParsD n j P) (hp:ParOk p) (h1:p.salt < n) (h2:p.salt≠j):ParsD n (j + 1) (P ++ [p]):=by
 refine ⟨by simp [h.len],fun i hi=>?_⟩
 by_cases hij:i < j
 ·have e:(P ++ [p]).getD i default = P.getD i default:=by rw [List.getD,List.getD,List.getElem?_append_left (by rw [h.len]; exact hij)]
  rw [e]; exact h.par i hij
 ·have hij':i = j:=by omega
  subst hij';have e:(P ++ [p]).getD i default = p:=by rw [List.getD,List.getElem?_append_right (by rw [h.len]; exact Nat.le_refl _),h.len,Nat.sub_self]; rfl
  rw [e]; exact ⟨hp,h1,h2⟩
def ParsPost (D n:Nat) (w:World) (e:Ending) (w':World):Prop:=∃ v P,e = .returned v∧Vec w' (fun b=>w.heap.size≤b) 3 zbc v P∧ParsD n n P∧Moved D w w'
theorem OwnM.set2 {α:Type} {D e size:Nat} {enc:α→List Value} {wA w:World} {u:Value} {L:List α} (h:OwnM D e size enc wA u L w) {a:Addr} {v:Value} (ha:wA.heap.size≤a.block) (hn:∀ g cap,u = .slice (some ⟨g,0,none⟩) L.length cap→g < a.block):OwnM D e size enc wA u L (w.setCell a v):=by
 refine ⟨⟨h.1.1,?_⟩,h.2.set ha v⟩
 rcases h.1.2 with h0 | ⟨g,cap,cur,hv,hg,hh,rest⟩
 ·exact .inl h0
 ·exact .inr ⟨g,cap,cur,hv,hg,zam hh (by have:=hn g cap hv; omega),rest⟩
theorem zim (D n:Nat) (w:World) (h:DeckAt w D) (hn:n≤5) :
  Calls prog 13 #[.pointer (some ⟨D,0,none⟩),.int .i64 n] w (ParsPost D n w):=by
 have zD:=h.lt;have M0:=zi5 (Moved.start h); clear h;go_enter func13,ntmps13
 go_wp2_with fail
 go_loopw [5,6,7] (fun v i _ wr=>∃ (j:Nat) (P:List ParL),i = .int .i64 j∧j≤n∧OwnM D 49 3 zbc w v P wr∧ParsD n j P) (fun _ i _ _=>n - (intOf i).toNat)
 case atStart=>exact ⟨0,[],rfl,by omega,⟨⟨by simp,.inl ⟨rfl,rfl⟩⟩,M0.out⟩,ParsD.nil n⟩
 case round =>
  obtain ⟨j,P,rfl,hj,ho,hp⟩:=hrel;have HO:=zi5 ho; have HPD:=zi5 hp; clear ho hp;by_cases hlt:j < n
  ·have hq:decide ((j:Int) < n) = true:=by simp; omega
   go_wp2_with fail
   refine (zb5 D _ 3 HO.out.2.deck (by omega) (by omega)).mono ?_;rintro e w1 ⟨x,rfl,x0,x1,mv⟩;have HO1:=zi5 (HO.out.moved mv); clear mv HO;go_wp2_with fail
   refine (zb5 D _ 6 HO1.out.2.deck (by omega) (by omega)).mono ?_;rintro e w2 ⟨y,rfl,y0,y1,mv⟩;have HO2:=zi5 (HO1.out.moved mv); clear mv HO1;by_cases hn1:1 < n
   ·have hq1:decide ((1:Int) < n) = true:=by simp; omega
    go_wp2_with fail
    refine (ze4 D _ 3 (HO2.out.2.alloc _).deck (by omega) (by omega)).mono ?_;rintro e w3 ⟨u,rfl,mv⟩;have hbx:=mv.blk (k:=w2.heap.size) (by have:=HO2.out.2.size; omega) (zac rfl);have HO3a:=zi5 (HO2.out.moved (((Moved.start HO2.out.2.deck).alloc (.cells #[.int .i64 (64 * (1 + x)),.int .i64 (1 + y),.int .i64 (-1)] 49)).trans mv));have hz2:=HO2.out.2.size; have hz3:=zaa hbx; have hz4:=mv.size;clear mv;obtain ⟨x0',x1',x2'⟩:=zai hbx;have f2:=frozen_of_row _ _ 2 _ _ hbx
    have hz5:∀ g cap,u5 = .slice (some ⟨g,0,none⟩) P.length cap→g < w2.heap.size:=by
     intro g cap e
     rcases HO2.out.1.2 with ⟨h0,_⟩ | ⟨g',cap',cur,h0,hg,hh,_⟩
     ·rw [h0] at e; cases e
     ·rw [h0] at e; cases e; exact zaa hh
    cases u
    ·clear f2 hbx HO2
     have hpar:ParOk ⟨64 * (1 + x),1 + y,-1⟩:=⟨by dsimp only; omega,by dsimp only; omega,by dsimp only; omega,by dsimp only; omega,by dsimp only; omega,by dsimp only; omega,by dsimp only; omega⟩;have hpd:=HPD.out.snoc (p:=⟨64 * (1 + x),1 + y,-1⟩) hpar (by dsimp only; omega) (by dsimp only; omega);have HPD2:=zi5 hpd;have HO3:=zi5 (HO3a.out.moved ((Moved.start HO3a.out.2.deck).alloc (.cells #[.int .i64 (64 * (1 + x)),.int .i64 (1 + y),.int .i64 (-1)] 49)));have hpl:=HPD.out.len;have hcn:P.length + [(⟨64 * (1 + x),1 + y,-1⟩:ParL)].length≤1000000000:=by simp only [List.length_cons,List.length_nil]; omega
     clear hpl hpd hpar;have HR3:=zi5 (show zco _ 3 (.slice (some ⟨w3.heap.size,0,none⟩) 1 1) [(⟨64 * (1 + x),1 + y,-1⟩:ParL)].length ([(⟨64 * (1 + x),1 + y,-1⟩:ParL)].flatMap zbc) from zav (w:=w3.alloc (.cells #[.int .i64 (64 * (1 + x)),.int .i64 (1 + y),.int .i64 (-1)] 49)) (t:=49) (fr:=(0,0)) (zac rfl) rfl);go_wp2_with (at_builtin; refine zci rfl (.tmp 32) (.tmp 34) 23 rfl D 49 (.agg #[.int .i64 0,.int .i64 0,.int .i64 0]) 3 24 zbc (fun _=>rfl) zfb underlying23 infoPar rfl (by decide) (by decide) (wA:=w) (v:=u5) (A:=P) (B:=[⟨64 * (1 + x),1 + y,-1⟩]) rfl HO3.out rfl HR3.out hcn ?_; intro v4 w4 ho4 hk4)
     go_roundw
     case rel=>exact ⟨j + 1,P ++ [⟨64 * (1 + x),1 + y,-1⟩],by go_num,by omega,ho4,HPD2.out⟩
     case measure=>simp [intOf]; omega
    ·obtain ⟨q,hmod,hqn,hqj⟩:∃ q:Nat,((j:Int) + 1) % (n:Int) = q∧q < n∧q≠j:=by
      by_cases hjn:j + 1 = n
      ·exact ⟨0,by rw [show (j:Int) + 1 = (n:Int) by omega,Int.emod_self]; rfl,by omega,by omega⟩
      ·exact ⟨j + 1,by rw [Int.emod_eq_of_lt (by omega) (by omega)]; rfl,by omega,by omega⟩
     have hn0:(n:Int)≠0:=by omega
     have hset:=zad (i:=2) (v:=.int .i64 q) hbx;have HBX:=zi5 hset;clear hset hbx HO2;have hpar:ParOk ⟨64 * (1 + x),1 + y,q⟩:=⟨by dsimp only; omega,by dsimp only; omega,by dsimp only; omega,by dsimp only; omega,by dsimp only; omega,by dsimp only; omega,by dsimp only; omega⟩;have hpd:=HPD.out.snoc (p:=⟨64 * (1 + x),1 + y,q⟩) hpar (by dsimp only; omega) (by dsimp only; omega);have HPD2:=zi5 hpd;have HO3:=zi5 (OwnM.set2 HO3a.out (a:=⟨w2.heap.size,2,none⟩) (v:=.int .i64 q) hz2 hz5);have hpl:=HPD.out.len;have hcn:P.length + [(⟨64 * (1 + x),1 + y,q⟩:ParL)].length≤1000000000:=by simp only [List.length_cons,List.length_nil]; omega
     clear hpl hpd hpar;have HO4:=zi5 (HO3.out.moved ((Moved.start HO3.out.2.deck).alloc (.cells #[.int .i64 (64 * (1 + x)),.int .i64 (1 + y),.int .i64 (q:Int)] 49)));have HR3:=zi5 (show zco _ 3 (.slice (some ⟨w3.heap.size,0,none⟩) 1 1) [(⟨64 * (1 + x),1 + y,q⟩:ParL)].length ([(⟨64 * (1 + x),1 + y,q⟩:ParL)].flatMap zbc) from zav (w:=(w3.setCell ⟨w2.heap.size,2,none⟩ (.int .i64 q)).alloc (.cells #[.int .i64 (64 * (1 + x)),.int .i64 (1 + y),.int .i64 (q:Int)] 49)) (t:=49) (fr:=(0,0)) (zac (by simp [World.setCell])) rfl);go_wp2_with (at_builtin; refine zci rfl (.tmp 32) (.tmp 34) 23 rfl D 49 (.agg #[.int .i64 0,.int .i64 0,.int .i64 0]) 3 24 zbc (fun _=>rfl) zfb underlying23 infoPar rfl (by decide) (by decide) (wA:=w) (v:=u5) (A:=P) (B:=[⟨64 * (1 + x),1 + y,q⟩]) rfl HO4.out rfl HR3.out hcn ?_; intro v4 w4 ho4 hk4)
     go_roundw
     case rel=>exact ⟨j + 1,P ++ [⟨64 * (1 + x),1 + y,q⟩],by go_num,by omega,ho4,HPD2.out⟩
     case measure=>simp [intOf]; omega
   ·have hq1:decide ((1:Int) < n) = false:=by simp; omega
    have hz2:=HO2.out.2.size;have hpar:ParOk ⟨64 * (1 + x),1 + y,-1⟩:=⟨by dsimp only; omega,by dsimp only; omega,by dsimp only; omega,by dsimp only; omega,by dsimp only; omega,by dsimp only; omega,by dsimp only; omega⟩;have hpd:=HPD.out.snoc (p:=⟨64 * (1 + x),1 + y,-1⟩) hpar (by dsimp only; omega) (by dsimp only; omega);have HPD2:=zi5 hpd;have HO3:=zi5 (HO2.out.moved (((Moved.start HO2.out.2.deck).alloc (.cells #[.int .i64 (64 * (1 + x)),.int .i64 (1 + y),.int .i64 (-1)] 49)).alloc (.cells #[.int .i64 (64 * (1 + x)),.int .i64 (1 + y),.int .i64 (-1)] 49)));have hpl:=HPD.out.len;have hcn:P.length + [(⟨64 * (1 + x),1 + y,-1⟩:ParL)].length≤1000000000:=by simp only [List.length_cons,List.length_nil]; omega
    clear hpl hpd hpar;have HR3:=zi5 (show zco _ 3 (.slice (some ⟨w2.heap.size + 1,0,none⟩) 1 1) [(⟨64 * (1 + x),1 + y,-1⟩:ParL)].length ([(⟨64 * (1 + x),1 + y,-1⟩:ParL)].flatMap zbc) from zav (w:=(w2.alloc (.cells #[.int .i64 (64 * (1 + x)),.int .i64 (1 + y),.int .i64 (-1)] 49)).alloc (.cells #[.int .i64 (64 * (1 + x)),.int .i64 (1 + y),.int .i64 (-1)] 49)) (t:=49) (fr:=(0,0)) (zac (by simp)) rfl);go_wp2_with (at_builtin; refine zci rfl (.tmp 32) (.tmp 34) 23 rfl D 49 (.agg #[.int .i64 0,.int .i64 0,.int .i64 0]) 3 24 zbc (fun _=>rfl) zfb underlying23 infoPar rfl (by decide) (by decide) (wA:=w) (v:=u5) (A:=P) (B:=[⟨64 * (1 + x),1 + y,-1⟩]) rfl HO3.out rfl HR3.out hcn ?_; intro v4 w4 ho4 hk4)
    go_roundw
    case rel=>exact ⟨j + 1,P ++ [⟨64 * (1 + x),1 + y,-1⟩],by go_num,by omega,ho4,HPD2.out⟩
    case measure=>simp [intOf]; omega
  ·have hq:decide ((j:Int) < n) = false:=by simp; omega
   obtain rfl:j = n:=by omega
   go_wp2_with fail
   go_ret;exact ⟨_,P,rfl,Vec.owns (k:=3) (enc:=zbc) (fun _=>rfl) HO.out.1 (fun b hb _=>hb),HPD.out,HO.out.2⟩
end
section
open Go.RowKit
attribute [local go_sem] zah zaj zar
theorem ext_one (s:ByteArray) (k:Nat) (h:k < s.size):s.extract k (k + 1) = ⟨[s[k]].toArray⟩:=by
 have hl:s.data.toList.length = s.size:=by simp
 have:=ext_mk s.data.toList k (k + 1) (by omega);unfold mkS at this;have e:(⟨s.data.toList.toArray⟩:ByteArray) = s:=by simp
 rw [e] at this;rw [this];congr 2;rw [zem s k h,List.drop_append_of_le_length (by rw [List.length_take]; omega),List.drop_eq_nil_of_le (by rw [List.length_take]; omega),List.nil_append]
theorem zg0 (s:ByteArray) (w:World) (hs:s.size≤1000000) :
  Calls prog 166 #[.string s] w fun e w'=>e = .returned (zal (za6 s.data.toList))∧w = w':=by
 have hl:s.data.toList.length = s.size:=by simp
 have HL:=zi5 hl; clear hl;go_enter func166,ntmps166
 go_wp2_with fail
 go_loop [3,4] (fun o i=>∃ k:Nat,k≤s.size∧i = .int .i64 k∧o = zal (za6 (s.data.toList.take k))) (fun _ i=>s.size - (intOf i).toNat)
 case atStart=>exact ⟨0,by omega,rfl,rfl⟩
 case round =>
  obtain ⟨k,hk,rfl,rfl⟩:=hrel;by_cases hlt:k < s.size
  ·have hq:decide ((k:Int) < s.size) = true:=by simp; omega
   have ht:=zi5 (zem s k hlt);have hb:=s[k].toNat_lt;have hlen:(za6 (s.data.toList.take k)).length≤1000000:=by have:=zff (s.data.toList.take k); have:=List.length_take_le k s.data.toList; omega
   have hext:=ext_one s k hlt;cases hlo:zfl s[k]
   ·have HN:=zi5 (letters_no (s.data.toList.take k) s[k] hlo)
    have hc:=hlo;rw [zdh,decide_eq_false_iff_not] at hc;have hc':(97≤(s[k].toNat:Int)∧122 < (s[k].toNat:Int))∨(s[k].toNat:Int) < 97:=by omega
    clear hc hlo hext
    rcases hc' with ⟨g1,g2⟩ | g1
    all_goals
     go_wp2_with fail
     go_round
     case rel=>exact ⟨k + 1,by omega,by go_num,by rw [ht.out,HN.out]⟩
     case measure=>simp [intOf]; omega
   ·have HY:=zi5 (letters_yes (s.data.toList.take k) s[k] hlo)
    have hc:=hlo;rw [zdh,decide_eq_true_iff] at hc;obtain ⟨g1,g2⟩:=hc;clear hlo;go_wp2_with fail
    go_round
    case rel=>exact ⟨k + 1,by omega,by go_num,by rw [ht.out,HY.out]⟩
    case measure=>simp [intOf]; omega
  ·obtain rfl:k = s.size:=by omega
   have hq:decide ((s.size:Int) < s.size) = false:=by simp
   have HF:=zi5 (List.take_of_length_le (by rw [HL.out]; exact Nat.le_refl _):s.data.toList.take s.size = s.data.toList);go_wp2_with fail
   go_ret;exact ⟨by show Ending.returned (zal (za6 (s.data.toList.take s.size))) = _; rw [HF.out],rfl⟩
theorem join_snoc (T:List (List UInt8)) (x:List UInt8):zay (T ++ [x]) = if T = [] then x else zay T ++ [32] ++ x:=by
 induction T with
 | nil=>rfl
 | cons t T ih =>
  rw [if_neg (by simp)];by_cases hT:T = []
  ·subst hT; simp [zay]
  ·rw [if_neg hT] at ih
   rw [List.cons_append,zbk _ _ (by simp),ih,zbk _ _ hT]; simp
theorem zis (L:List (List UInt8)):∀ k,(zay (L.take k)).length≤(zay L).length:=by
 induction L with
 | nil=>intro k; simp
 | cons a L ih =>
  intro k;cases k with
  | zero=>simp [zay]
  | succ k =>
   rw [List.take_succ_cons];by_cases hk:L.take k = []
   ·rw [hk]
    by_cases hL:L = []
    ·subst hL; simp [zay]
    ·rw [zbk _ _ hL]; simp [zay]
   ·have hL:L≠[]:=by intro e; subst e; simp at hk
    rw [zbk _ _ hk,zbk _ _ hL];have:=ih k; simp; omega
theorem rjoin_any (S:Nat→Prop) (v:Value) (L:List (List UInt8)) (w:World) (h:Vec w S 1 za2 v L) (hn:L.length≤1000000) (hj:(zay L).length≤1000000000) :
  Calls prog 223 #[v] w fun e w'=>e = .returned (zal (zay L))∧w = w':=by
 obtain ⟨a,cap,rfl⟩:=h.slice;have HV:=zi5 h; clear h;go_enter func223,ntmps223
 go_wp2_with fail
 go_loop [3,4] (fun o i=>∃ k:Nat,k≤L.length∧i = .int .i64 k∧o = zal (zay (L.take k))) (fun _ i=>L.length - (intOf i).toNat)
 case atStart=>exact ⟨0,by omega,rfl,rfl⟩
 case round =>
  obtain ⟨k,hk,rfl,rfl⟩:=hrel;have hlen:=zis L k;by_cases hlt:k < L.length
  ·have hq:decide ((k:Int) < L.length) = true:=by simp; omega
   obtain ⟨b,off,rfl,_,hb,hc⟩:=zb9 HV.out (by omega);have c1:=hc k hlt;have htk:=zfa L k hlt;rw [show (default:List UInt8) = [] from rfl] at htk;have hxl:=zis L (k + 1);have hsn:=join_snoc (L.take k) (L.getD k []);rw [← htk] at hsn;obtain ⟨x,hx⟩:∃ x,L.getD k [] = x:=⟨_,rfl⟩;rw [hx] at c1 htk hsn
   have hx1:x.length≤1000000000:=by
    rw [hsn] at hxl;split at hxl
    ·omega
    ·simp at hxl; omega
   have HSn:=zi5 hsn;clear hc htk hsn hx hxl;by_cases hk0:k = 0
   ·subst hk0
    have e0:zay ([]:List (List UInt8)) = []:=rfl;rw [Nat.add_zero] at c1;go_wp2_with fail
    go_round
    case rel=>exact ⟨1,by omega,by go_num,by rw [HSn.out,if_pos (by simp)]⟩
    case measure=>simp [intOf]; omega
   ·have hq0:decide ((0:Int) < k) = true:=by simp; omega
    have hk1:0 < k:=by omega
    have hne:L.take k≠[]:=by intro e; have:=congrArg List.length e; rw [List.length_take,List.length_nil] at this; omega
    have HNe:=zi5 hne;clear hk0 hne;go_wp2_with fail
    go_round
    case rel=>exact ⟨k + 1,by omega,by go_num,by rw [HSn.out,if_neg HNe.out]; simp⟩
    case measure=>simp [intOf]; omega
  ·obtain rfl:k = L.length:=by omega
   have hq:decide ((L.length:Int) < L.length) = false:=by simp
   have HF:=zi5 (List.take_of_length_le xnl:L.take L.length = L);go_wp2_with fail
   go_ret;exact ⟨rfl,rfl⟩
end
section
open Go.RowKit
attribute [local go_sem] zah zaj zar
theorem zgf (s:ByteArray) (w:World) (hs:s.size≤1000000) :
  Calls prog 90 #[.string s] w fun e w'=>∃ v,e = .returned v∧OwnAt w v (zcl s.data.toList) w':=by
 have hl:s.data.toList.length = s.size:=by simp
 have HL:=zi5 hl; clear hl;obtain ⟨l,hl⟩:∃ l,s.data.toList = l:=⟨_,rfl⟩;rw [hl] at HL;have HLs:=zi5 hl;rw [hl];clear hl;go_enter func90,ntmps90
 go_wp2_with fail
 go_loopw [3,4,5] (fun v t i wr=>∃ (k:Nat) (C:List (List UInt8)) (p:List UInt8),k≤s.size + 1∧i = .int .i64 k∧t = zal p∧OwnAt w v C wr∧p.length≤k∧C.length≤k∧(k = s.size + 1→p = [])∧Hid (zcl l = C ++ zby p (l.drop k))) (fun _ _ i _=>s.size + 1 - (intOf i).toNat)
 case atStart=>exact ⟨0,[],[],by omega,rfl,rfl,OwnAt.start w,by simp,by simp,by omega,zi5 rfl⟩
 case round =>
  obtain ⟨k,C,p,hk,rfl,rfl,ho,hp,hC,hpe,HT⟩:=hrel;have HO:=zi5 ho; have HPe:=zi5 hpe;clear ho hpe;by_cases hlt:k < s.size
  ·have hq:decide ((k:Int)≤s.size) = true:=by simp; omega
   have hq2:decide ((k:Int) < s.size) = true:=by simp; omega
   have hdr:=drop_one s k hlt;rw [HLs.out] at hdr;by_cases hsp:s[k] = 32
   ·have e1:((s[k].toNat:Int) != 32) = false:=by rw [hsp]; rfl
    rw [hsp] at hdr;have HD:=zi5 hdr;clear hsp hdr;by_cases hp0:p = []
    ·subst hp0
     go_wp2_with fail
     go_roundw
     case rel=>exact ⟨k + 1,C,[],by omega,by go_num,rfl,HO.out,by simp,by omega,fun _=>rfl,zi5 (by rw [HT.out,HD.out,zbm])⟩
     case measure=>simp [intOf]; try omega
    ·have f1:(p == []) = false:=by simpa using hp0
     have f2:p.isEmpty = false:=by simpa using hp0
     have f3:(p != []) = true:=by simpa using hp0
     have HP0:=zi5 hp0; clear hp0;have hone:∀ u∈(#[zal p]:Array Value).toList,u.oneCell' = true:=by intro u hu; simp at hu; subst hu; rfl
     go_wp2_with (at_builtin; refine zbf rfl _ _ 27 rfl w.heap.size 9 1 16 (.string ⟨#[]⟩) underlying27 zdi rfl (by decide) (by decide) _ _ _ rfl HO.out.1 #[zal p] 1 rfl rfl hone (by omega) HO.out.2.size ?_; intro v2 w8 ho8 hw8)
     go_roundw
     case rel=>exact ⟨k + 1,C ++ [p],[],by omega,by go_num,rfl,⟨by rw [List.length_append,zdm]; exact ho8,hw8 _ HO.out.2⟩,by simp,by rw [List.length_append,List.length_singleton]; omega,fun _=>rfl,zi5 (by rw [HT.out,HD.out,zb3 _ _ HP0.out]; simp)⟩
     case measure=>simp [intOf]; try omega
   ·have e1:((s[k].toNat:Int) != 32) = true:=by
     simp only [bne_iff_ne,ne_eq]; intro e; apply hsp; rw [← UInt8.toNat_inj]; simp; omega
    have hext:=ext_one s k hlt;have HD:=zi5 hdr; have HSp:=zi5 hsp;clear hsp hdr;go_wp2_with fail
    go_roundw
    case rel=>exact ⟨k + 1,C,p ++ [s[k]],by omega,by go_num,rfl,HO.out,by simp; omega,by omega,fun h=>by omega,zi5 (by rw [HT.out,HD.out,zb4 _ _ _ HSp.out])⟩
    case measure=>simp [intOf]; omega
  ·by_cases hke:k = s.size
   ·subst hke
    have hq:decide ((s.size:Int)≤s.size) = true:=by simp
    have hq2:decide ((s.size:Int) < s.size) = false:=by simp
    have hdr:l.drop s.size = []:=List.drop_eq_nil_of_le (by rw [HL.out]; exact Nat.le_refl _);have hdr2:l.drop (s.size + 1) = []:=List.drop_eq_nil_of_le (by rw [HL.out]; omega);have HD:=zi5 hdr; have HD2:=zi5 hdr2;clear hdr hdr2;by_cases hp0:p = []
    ·subst hp0
     go_wp2_with fail
     go_roundw
     case rel=>exact ⟨s.size + 1,C,[],by omega,by go_num,rfl,HO.out,by simp,by omega,fun _=>rfl,zi5 (by rw [HT.out,HD.out,HD2.out])⟩
     case measure=>simp [intOf]; try omega
    ·have f1:(p == []) = false:=by simpa using hp0
     have f2:p.isEmpty = false:=by simpa using hp0
     have f3:(p != []) = true:=by simpa using hp0
     have HP0:=zi5 hp0; clear hp0;have hone:∀ u∈(#[zal p]:Array Value).toList,u.oneCell' = true:=by intro u hu; simp at hu; subst hu; rfl
     go_wp2_with (at_builtin; refine zbf rfl _ _ 27 rfl w.heap.size 9 1 16 (.string ⟨#[]⟩) underlying27 zdi rfl (by decide) (by decide) _ _ _ rfl HO.out.1 #[zal p] 1 rfl rfl hone (by omega) HO.out.2.size ?_; intro v2 w8 ho8 hw8)
     go_roundw
     case rel=>exact ⟨s.size + 1,C ++ [p],[],by omega,by go_num,rfl,⟨by rw [List.length_append,zdm]; exact ho8,hw8 _ HO.out.2⟩,by simp,by rw [List.length_append,List.length_singleton]; omega,fun _=>rfl,zi5 (by rw [HT.out,HD.out,HD2.out,zea _ HP0.out]; simp [zby])⟩
     case measure=>simp [intOf]; try omega
   ·have hq:decide ((k:Int)≤s.size) = false:=by simp; omega
    obtain rfl:k = s.size + 1:=by omega
    obtain rfl:p = []:=HPe.out rfl;have hdr2:l.drop (s.size + 1) = []:=List.drop_eq_nil_of_le (by rw [HL.out]; omega);have hT:=HT.out;rw [hdr2] at hT;have hT':zcl l = C:=by rw [hT]; simp [zby]
    rw [← hT'] at HO;clear hT hT' hdr2 hke;go_wp2_with fail
    go_ret;exact ⟨_,rfl,HO.out⟩
end
section
open Go.RowKit
def zfr:List UInt8→Bool
 | []=>false
 | [c]=>c == 32
 | _ :: d :: r=>zfr (d :: r)
theorem zhc (c:UInt8) {R:List UInt8} (h:R≠[]):zfr (c :: R) = zfr R:=by
 cases R with
 | nil=>exact absurd rfl h
 | cons d r=>rfl
theorem ends_snoc (R:List UInt8) (c:UInt8):zfr (R ++ [c]) = (c == 32):=by
 induction R with
 | nil=>rfl
 | cons d R ih=>rw [List.cons_append,zhc _ (by simp),ih]
theorem ends_app (R:List UInt8) {x:List UInt8} (h:x≠[]) (h2:∀ b∈x,b≠32):zfr (R ++ x) = false:=by
 obtain ⟨y,c,rfl⟩:∃ y c,x = y ++ [c]:=⟨_,_,(List.dropLast_concat_getLast h).symm⟩;rw [← List.append_assoc,ends_snoc];simpa using h2 c (by simp)
theorem toksA_only (x:List UInt8) (h2:∀ b∈x,b≠32):∀ p,p ++ x≠[]→zby p x = [p ++ x]:=by
 induction x with
 | nil=>intro p h; rw [List.append_nil] at h; rw [zea _ h,List.append_nil]
 | cons c x ih =>
  intro p _;rw [zb4 _ _ _ (h2 c List.mem_cons_self),ih (fun b hb=>h2 b (List.mem_cons_of_mem _ hb)) _ (by simp)]
  simp
theorem join_nil {T:List (List UInt8)} (h:∀ t∈T,t≠[]) (e:zay T = []):T = []:=by
 cases T with
 | nil=>rfl
 | cons t T =>
  exfalso;by_cases hT:T = []
  ·subst hT; exact h t List.mem_cons_self (by simpa [zay] using e)
  ·rw [zbk _ _ hT] at e; simp at e
theorem spaces_end (R:List UInt8):zby [] R = []→zfr (32 :: R) = true:=by
 induction R with
 | nil=>intro _; rfl
 | cons c R ih =>
  intro h;rw [zhc _ (by simp)];by_cases hc:c = 32
  ·subst hc
   rw [zbm] at h;exact ih h
  ·exfalso
   rw [zb4 _ _ _ hc] at h;have:=(zdl R ([] ++ [c])).2
   have h3:∀ (R:List UInt8) p,p≠[]→zby p R≠[]:=by
    intro R;induction R with
    | nil=>intro p hp; rw [zea _ hp]; simp
    | cons d R ih2 =>
     intro p hp;by_cases hd:d = 32
     ·subst hd; rw [zb3 _ _ hp]; simp
     ·rw [zb4 _ _ _ hd]; exact ih2 _ (by simp)
   exact h3 R _ (by simp) h
theorem toksA_more (R:List UInt8) {x:List UInt8} (h:x≠[]) (h2:∀ b∈x,b≠32):∀ p,zby p (R ++ x)≠[]:=by
 induction R with
 | nil=>intro p; rw [List.nil_append,toksA_only x h2 p (by simp [h])]; simp
 | cons c R ih =>
  intro p;rw [List.cons_append];by_cases hc:c = 32
  ·subst hc
   by_cases hp:p = []
   ·subst hp; rw [zbm]; exact ih []
   ·rw [zb3 _ _ hp]; simp
  ·rw [zb4 _ _ _ hc]; exact ih _
theorem join_more {x:List UInt8} (h:x≠[]) (h2:∀ b∈x,b≠32) (R:List UInt8):∀ p,zay (zby p (R ++ x)) = zay (zby p R) ++ (if zfr R = true∧zay (zby p R)≠[] then [32] else []) ++ x:=by
 induction R with
 | nil =>
  intro p;rw [List.nil_append,toksA_only x h2 p (by simp [h]),if_neg (by simp [zfr])];by_cases hp:p = []
  ·subst hp; simp [zby,zay]
  ·rw [zea _ hp]; simp [zay]
 | cons c R ih =>
  intro p;rw [List.cons_append];by_cases hc:c = 32
  ·subst hc
   by_cases hp:p = []
   ·subst hp
    rw [zbm,zbm,ih []];by_cases hR:R = []
    ·subst hR; simp [zfr,zby,zay]
    ·rw [zhc _ hR]
   ·rw [zb3 _ _ hp,zb3 _ _ hp,zbk _ _ (toksA_more R h h2 []),ih []]
    by_cases hT:zby [] R = []
    ·rw [hT]
     have he:=spaces_end R hT;rw [if_neg (by simp [zay]),if_pos ⟨he,by simpa [zay] using hp⟩];simp [zay]
    ·have hR:R≠[]:=by intro e; subst e; exact hT rfl
     have hj:zay (zby [] R)≠[]:=fun e=>hT (join_nil (toksA_ne R []) e)
     rw [zbk _ _ hT,zhc _ hR];by_cases he:zfr R = true
     ·rw [if_pos ⟨he,hj⟩,if_pos ⟨he,by simp⟩]; simp
     ·rw [if_neg (fun h=>he h.1),if_neg (fun h=>he h.1)]; simp
  ·rw [zb4 _ _ _ hc,zb4 _ _ _ hc,ih]
   by_cases hR:R = []
   ·subst hR
    rw [if_neg (by simp [zfr]),if_neg (by simp [zfr,hc])]
   ·rw [zhc _ hR]
theorem fold_more {x:List UInt8} (h:x≠[]) (h2:∀ b∈x,b≠32) (R:List UInt8):zay (zcl (R ++ x)) = zay (zcl R) ++ (if zfr R = true∧zay (zcl R)≠[] then [32] else []) ++ x:=join_more h h2 R []
theorem fold_space (R:List UInt8):zcl (R ++ [32]) = zcl R:=toksA_last R []
end
section
open Go.RowKit
attribute [local go_sem] zah zaj zar
theorem ok_not_pair (s:ByteArray) (k:Nat) (hk:k < s.size) (h:ze5 s[k] = true):zde (s.data.toList.drop k) = false:=by
 by_cases h2:k + 1 < s.size
 ·rw [ze9 s k h2]; exact byte_pair h
 ·rw [zhd s k (by omega)]; rfl
theorem zh5 (s:ByteArray) (k:Nat) (h2:k + 1 < s.size) (h:zde (s.data.toList.drop k) = true):s[k] = 195∧128≤(s[k + 1].toNat:Int)∧(s[k + 1].toNat:Int)≤191:=by
 rw [ze9 s k h2] at h;have h':zit s[k] s[k + 1] = true:=h;rw [zhp,decide_eq_true_iff] at h';exact ⟨by rw [← UInt8.toNat_inj]; simp; omega,h'.2⟩
theorem rvalid_text (s:ByteArray) (w:World) (hs:s.size≤9223372036854775000) :
  Calls prog 257 #[.string s] w fun e w'=>e = .returned (.bool (zc6 s.data.toList))∧w = w':=by
 have hl:s.data.toList.length = s.size:=by simp
 have HL:=zi5 hl; clear hl;unfold zc6;by_cases h64:s.size≤64
 ·have d1:decide ((64:Int) < s.size) = false:=by simp; omega
  go_enter func257,ntmps257
  go_wp2_with fail
  clear d1;go_loop [3] (fun i=>∃ k:Nat,k≤s.size∧i = .int .i64 k∧Hid (zcq s.data.toList = zcq (s.data.toList.drop k))) (fun i=>s.size - (intOf i).toNat)
  case atStart=>exact ⟨0,by omega,rfl,zi5 rfl⟩
  case round =>
   obtain ⟨k,hk,rfl,HV⟩:=hrel;by_cases hlt:k < s.size
   ·have hq:decide ((k:Int) < s.size) = true:=by simp; omega
    have hb:=s[k].toNat_lt;cases hok:ze5 s[k]
    ·cases hp:zde (s.data.toList.drop k)
     ·have hv:=zi5 (zfy s k hlt hp)
      have HOk:=zi5 hok;rw [ok_iff,decide_eq_false_iff_not] at hok;have hc:(s[k].toNat:Int) < 32∨(32≤(s[k].toNat:Int)∧126 < (s[k].toNat:Int)):=by omega
      clear hok;have hfalse:zcq s.data.toList = false:=by rw [HV.out,hv.out,HOk.out]; rfl
      have HF:=zi5 hfalse;clear hfalse;by_cases h195:s[k] = 195
      ·have e1:((s[k].toNat:Int) != 195) = false:=by rw [h195]; rfl
       by_cases h2:k + 1 < s.size
       ·have e2:((k:Int) + 1 == (s.size:Int)) = false:=by simp only [beq_eq_false_iff_ne,ne_eq]; omega
        rw [ze9 s k h2] at hp;have hp':zit s[k] s[k + 1] = false:=hp;rw [zhp,decide_eq_false_iff_not] at hp';have h195':(s[k].toNat:Int) = 195:=by rw [h195]; rfl
        have hc2:(s[k + 1].toNat:Int) < 128∨(128≤(s[k + 1].toNat:Int)∧191 < (s[k + 1].toNat:Int)):=by omega
        clear hp hp' h195 h195'
        rcases hc with g1 | ⟨g1,g2⟩ <;> rcases hc2 with g3 | ⟨g3,g4⟩
        all_goals
         go_wp2_with fail
         go_ret;exact ⟨za0 (by rw [HF.out]; try rfl),rfl⟩
       ·have e2:((k:Int) + 1 == (s.size:Int)) = true:=by simp only [beq_iff_eq]; omega
        clear hp h195
        rcases hc with g1 | ⟨g1,g2⟩
        all_goals
         go_wp2_with fail
         go_ret;exact ⟨za0 (by rw [HF.out]; try rfl),rfl⟩
      ·have e1:((s[k].toNat:Int) != 195) = true:=by
        simp only [bne_iff_ne,ne_eq]; intro e; apply h195; rw [← UInt8.toNat_inj]; simp; omega
       clear hp h195
       rcases hc with g1 | ⟨g1,g2⟩
       all_goals
        go_wp2_with fail
        go_ret;exact ⟨za0 (by rw [HF.out]; try rfl),rfl⟩
     ·have h2:=zg4 s k hlt hp
      have hv:=zi5 (valid_two s k hlt hp);obtain ⟨g0,g3,g4⟩:=zh5 s k h2 hp;have e1:((s[k].toNat:Int) != 195) = false:=by rw [g0]; rfl
      have e2:((k:Int) + 1 == (s.size:Int)) = false:=by simp only [beq_eq_false_iff_ne,ne_eq]; omega
      have g1:32≤(s[k].toNat:Int):=by rw [g0]; decide
      have g2:126 < (s[k].toNat:Int):=by rw [g0]; decide
      clear hok hp g0;go_wp2_with fail
      go_round
      case rel=>exact ⟨k + 2,by omega,by go_num,zi5 (HV.out.trans hv.out)⟩
      case measure=>simp [intOf]; omega
    ·have hp:=ok_not_pair s k hlt hok
     have hv:=zi5 (zfy s k hlt hp);have HOk:=zi5 hok;rw [ok_iff,decide_eq_true_iff] at hok;obtain ⟨g1,g2⟩:=hok;clear hp;go_wp2_with fail
     go_round
     case rel=>exact ⟨k + 1,by omega,by go_num,zi5 (HV.out.trans (by rw [hv.out,HOk.out]; rfl))⟩
     case measure=>simp [intOf]; omega
   ·have hq:decide ((k:Int) < s.size) = false:=by simp; omega
    have hd:s.data.toList.drop k = []:=List.drop_eq_nil_of_le (by rw [HL.out]; omega);have HD:=zi5 hd; clear hd;go_wp2_with fail
    go_ret;refine ⟨za0 ?_,rfl⟩;rw [HV.out,HD.out];first | rfl | (rw [HL.out,decide_eq_true (by omega)]; rfl)
 ·have d1:decide ((64:Int) < s.size) = true:=by simp; omega
  go_enter func257,ntmps257
  go_wp2_with fail
  go_ret;exact ⟨za0 (by rw [HL.out,decide_eq_false (by omega)]; simp),rfl⟩
end
section
open Go.RowKit
attribute [local go_sem] zah zaj zar
def tabR:List UInt8:=[97,97,97,97,97,97,63,63,101,101,101,101,105,105,105,105,100,110,111,111,111,111,111,63,111,117,117,117,117,121,63,63]
def replR (n:Nat):List UInt8:=if n % 32 = 6 then [97,101] else if n % 32 = 7 then [99] else if n % 32 = 23 then [] else if n % 32 = 30 then [116,104] else if n = 31 then [115,115] else if n = 63 then [121] else [tabR.getD (n % 32) 0]
theorem replB_is:∀ n:Fin 64,zhy (UInt8.ofNat (128 + n)) = replR n:=by decide
theorem and_31:((List.range 64).all fun n=>bits .and .u8 ((128 + n:Nat):Int) 31 == ((n % 32:Nat):Int)) = true:=by kernel_rfl
theorem tab_ext (r:Nat) (h:r < 32):(⟨#[97,97,97,97,97,97,63,63,101,101,101,101,105,105,105,105,100,110,111,111,111,111,111,63,111,117,117,117,117,121,63,63]⟩:ByteArray).extract r (r + 1) = ⟨[tabR.getD r 0].toArray⟩:=by
 have h':r < (⟨tabR.toArray⟩:ByteArray).size:=h;have:=ext_one ⟨tabR.toArray⟩ r h';refine this.trans ?_;congr 3;rw [List.getD,List.getElem?_eq_getElem (show r < tabR.length from h)]; rfl
theorem rrepl_any (x:UInt8) (w:World) (h1:128≤(x.toNat:Int)) (h2:(x.toNat:Int)≤191) :
  Calls prog 258 #[.int .u8 x.toNat] w fun e w'=>e = .returned (zal (zhy x))∧w = w':=by
 obtain ⟨n,hn⟩:∃ n:Nat,x.toNat = 128 + n:=⟨x.toNat - 128,by omega⟩;have hn64:n < 64:=by omega
 have hx:x = UInt8.ofNat (128 + n):=by rw [← hn]; simp
 have hR:zhy x = replR n:=by rw [hx]; exact replB_is ⟨n,hn64⟩
 have hand:bits .and .u8 (x.toNat:Int) 31 = ((n % 32:Nat):Int):=by
  have:=List.all_eq_true.1 and_31 n (List.mem_range.2 hn64);rw [hn]; simpa using this
 obtain ⟨r,hr⟩:∃ r,n % 32 = r:=⟨_,rfl⟩;have hr32:r < 32:=by omega
 have hRr:replR n = if r = 6 then [97,101] else if r = 7 then [99] else if r = 23 then [] else if r = 30 then [116,104] else if n = 31 then [115,115] else if n = 63 then [121] else [tabR.getD r 0]:=by unfold replR; rw [hr]
 rw [hR,hRr];rw [hr] at hand;have hn1:(x.toNat:Int) = 128 + (n:Int):=by omega
 have hb:=x.toNat_lt;have HR:=zi5 hr; have HN:=zi5 hn1;clear hx hR hRr hr hn hn1;by_cases c6:r = 6
 ·subst c6
  go_enter func258,ntmps258
  go_wp2_with fail
  go_ret;exact ⟨rfl,rfl⟩
 ·have e6:((r:Int) == 6) = false:=by simp only [beq_eq_false_iff_ne,ne_eq]; omega
  rw [if_neg c6];by_cases c7:r = 7
  ·subst c7
   clear c6;go_enter func258,ntmps258
   go_wp2_with fail
   go_ret;exact ⟨rfl,rfl⟩
  ·have e7:((r:Int) == 7) = false:=by simp only [beq_eq_false_iff_ne,ne_eq]; omega
   rw [if_neg c7];by_cases c23:r = 23
   ·subst c23
    clear c6 c7;go_enter func258,ntmps258
    go_wp2_with fail
    go_ret;exact ⟨rfl,rfl⟩
   ·have e23:((r:Int) == 23) = false:=by simp only [beq_eq_false_iff_ne,ne_eq]; omega
    rw [if_neg c23];by_cases c30:r = 30
    ·subst c30
     clear c6 c7 c23;go_enter func258,ntmps258
     go_wp2_with fail
     go_ret;exact ⟨rfl,rfl⟩
    ·have e30:((r:Int) == 30) = false:=by simp only [beq_eq_false_iff_ne,ne_eq]; omega
     rw [if_neg c30];by_cases n31:n = 31
     ·have e31:((x.toNat:Int) == 159) = true:=by simp only [beq_iff_eq]; rw [HN.out]; omega
      rw [if_pos n31];clear c6 c7 c23 c30 n31;go_enter func258,ntmps258
      go_wp2_with fail
      go_ret;exact ⟨rfl,rfl⟩
     ·have e31:((x.toNat:Int) == 159) = false:=by simp only [beq_eq_false_iff_ne,ne_eq]; rw [HN.out]; omega
      rw [if_neg n31];by_cases n63:n = 63
      ·have e63:((x.toNat:Int) == 191) = true:=by simp only [beq_iff_eq]; rw [HN.out]; omega
       rw [if_pos n63];clear c6 c7 c23 c30 n31 n63;go_enter func258,ntmps258
       go_wp2_with fail
       go_ret;exact ⟨rfl,rfl⟩
      ·have e63:((x.toNat:Int) == 191) = false:=by simp only [beq_eq_false_iff_ne,ne_eq]; rw [HN.out]; omega
       rw [if_neg n63];have hext:=tab_ext r hr32;clear c6 c7 c23 c30 n31 n63;go_enter func258,ntmps258
       go_wp2_with fail
       go_ret;exact ⟨rfl,rfl⟩
end
section
open Go.RowKit
attribute [local go_sem] zah zaj zar
structure FoldSt (s:ByteArray) (k:Nat) (b:Bool) (k':Nat) (b':Bool) (x y:List UInt8):Prop where
 raw:rawL (s.data.toList.drop k) = y ++ rawL (s.data.toList.drop (k' + 1))
 val:zcq (s.data.toList.drop (k' + 1)) = true
 lo:k≤k'
 hi:k' < s.size
 len:x.length≤2
 way:(x = y∧b' = b∧∀ c∈x,c≠32)∨(x = []∧y = [32]∧b' = true)
theorem replB_sp:∀ n:Fin 64,((zhy (UInt8.ofNat (128 + n))).all fun c=>c != 32) = true:=by decide
theorem FoldSt.pair {s:ByteArray} {k:Nat} {b:Bool} (h2:k + 1 < s.size) (hp:zde (s.data.toList.drop k) = true) (hv:zcq (s.data.toList.drop k) = true):FoldSt s k b (k + 1) b (zhy s[k + 1]) (zhy s[k + 1]):=by
 obtain ⟨_,g1,g2⟩:=zh5 s k h2 hp
 refine ⟨raw_two s k h2 hp,by rw [← valid_two s k (by omega) hp]; exact hv,by omega,h2,(replB_ok _).2,.inl ⟨rfl,rfl,fun c hc=>?_⟩⟩
 obtain ⟨n,hn⟩:∃ n:Nat,s[k + 1].toNat = 128 + n:=⟨s[k + 1].toNat - 128,by omega⟩;have hx:s[k + 1] = UInt8.ofNat (128 + n):=by rw [← hn]; simp
 have:=replB_sp ⟨n,by omega⟩;rw [hx] at hc;simpa using List.all_eq_true.1 this c hc
theorem FoldSt.one {s:ByteArray} {k:Nat} {b:Bool} (hk:k < s.size) (hp:zde (s.data.toList.drop k) = false) (hv:zcq (s.data.toList.drop k) = true) {x:List UInt8} (hx:zbr s[k] = x) (h32:∀ c∈x,c≠32):FoldSt s k b k b x x:=by
 have h1:=zfy s k hk hp;rw [h1,Bool.and_eq_true] at hv;exact ⟨by rw [raw_one s k hk hp,hx],hv.2,Nat.le_refl _,hk,by rw [← hx]; have:=(zf6 s[k]).2; omega,.inl ⟨rfl,rfl,h32⟩⟩
theorem FoldSt.sep {s:ByteArray} {k:Nat} {b:Bool} (hk:k < s.size) (hp:zde (s.data.toList.drop k) = false) (hv:zcq (s.data.toList.drop k) = true) (hx:zbr s[k] = [32]):FoldSt s k b k true [] [32]:=by
 have h1:=zfy s k hk hp;rw [h1,Bool.and_eq_true] at hv;exact ⟨by rw [raw_one s k hk hp,hx],hv.2,Nat.le_refl _,hk,by simp,.inr ⟨rfl,rfl,rfl⟩⟩
theorem plain_no32 {c:UInt8} (h:isUp c = true∨zfl c = true∨isDgt c = true):∀ d∈zbr c,d≠32:=by
 intro d hd;unfold zbr at hd;split at hd
 ·rename_i hu
  simp at hd; subst hd;rw [up_iff,decide_eq_true_iff] at hu;intro e;have:(c + 32).toNat = 32:=by rw [e]; rfl
  rw [UInt8.toNat_add] at this;simp at this; omega
 ·split at hd
  ·rename_i h1 h2
   simp at hd; subst hd;simp only [Bool.or_eq_true] at h2;intro e; subst e
   rcases h2 with h2 | h2
   ·rw [zdh] at h2; simp at h2
   ·rw [zer] at h2; simp at h2
  ·rename_i h1 h2
   exfalso
   rcases h with h | h | h
   ·exact h1 h
   ·exact h2 (by simp [h])
   ·exact h2 (by simp [h])
structure FoldIn (s:ByteArray) (w:World) (k:Nat) (R:List UInt8) (b:Bool) (wr:World):Prop where
 raw:R ++ rawL (s.data.toList.drop k) = rawL s.data.toList
 sep:b = zfr R
 val:zcq (s.data.toList.drop k) = true
 bel:Below w.heap.size w wr
theorem FoldIn.len {s:ByteArray} {w:World} {k:Nat} {R:List UInt8} {b:Bool} {wr:World} (h:FoldIn s w k R b wr) (hs:s.size≤64):(zay (zcl R)).length≤64:=by
 have h1:=congrArg List.length h.raw;have h2:=(raw_ok s.data.toList).2;have h3:=(zdl R []).1;have hl:s.data.toList.length = s.size:=by simp
 unfold zcl;simp at h1 h3; omega
theorem rfold_yes (s:ByteArray) (w:World) (hv:zc6 s.data.toList = true) :
  Calls prog 220 #[.string s] w fun e w'=>e = .returned (.tuple #[zal (zb2 s.data.toList),.int .i64 0])∧Below w.heap.size w w':=by
 have hl:s.data.toList.length = s.size:=by simp
 have hv':=hv;unfold zc6 at hv';rw [Bool.and_eq_true,decide_eq_true_iff,hl] at hv';obtain ⟨hval,hs⟩:=hv';have HL:=zi5 hl; have HV:=zi5 hv;have K0:=zi5 (show FoldIn s w 0 [] false w from ⟨rfl,rfl,hval,Below.refl _ _⟩);clear hl hv hval;go_enter func220,ntmps220
 go_wp2_with fail
 refine (rvalid_text s _ (by omega)).mono ?_;rw [HV.out];rintro e w' ⟨rfl,rfl⟩;go_wp2_with fail
 go_loopw [4,5,6] (fun o t i wr=>∃ (k:Nat) (R:List UInt8) (b:Bool),k≤s.size∧o = zal (zay (zcl R))∧t = .bool b∧i = .int .i64 k∧FoldIn s w k R b wr) (fun _ _ i _=>s.size - (intOf i).toNat)
 case atStart=>exact ⟨0,[],false,by omega,rfl,rfl,rfl,K0.out⟩
 case round =>
  obtain ⟨k,R,b,hk,rfl,rfl,rfl,hin⟩:=hrel;have hO:=hin.len hs;have HI:=zi5 hin;clear hin K0;obtain ⟨O,hOe⟩:∃ O,zay (zcl R) = O:=⟨_,rfl⟩;have HOe:=zi5 hOe;rw [hOe] at hO ⊢;clear hOe;by_cases hlt:k < s.size
  ·have hq:decide ((k:Int) < s.size) = true:=by simp; omega
   have hb:=s[k].toNat_lt;go_upto_block 2 with (fail)
   go_cut [5,6,8] (fun s5 s6 s8 wx=>∃ (k':Nat) (b':Bool) (x y:List UInt8),s5 = .bool b'∧s6 = .int .i64 k'∧s8 = zal x∧FoldSt s k b k' b' x y∧Below w.heap.size w wx)
   case first =>
    cases hp:zde (s.data.toList.drop k)
    ·have hval:=HI.out.val
     have hval2:=hval;rw [zfy s k hlt hp,Bool.and_eq_true] at hval2;have hok:=hval2.1;rw [ok_iff,decide_eq_true_iff] at hok;have e195:((s[k].toNat:Int) == 195) = false:=by simp only [beq_eq_false_iff_ne,ne_eq]; omega
     have HP:=zi5 hp; have HVl:=zi5 hval;clear hp hval hval2;cases hu:isUp s[k]
     ·have hu':=hu
      rw [up_iff,decide_eq_false_iff_not] at hu';have hcu:(65≤(s[k].toNat:Int)∧90 < (s[k].toNat:Int))∨(s[k].toNat:Int) < 65:=by omega
      cases hlo:zfl s[k]
      ·have hlo':=hlo
       rw [zdh,decide_eq_false_iff_not] at hlo';have hcl:(97≤(s[k].toNat:Int)∧122 < (s[k].toNat:Int))∨(s[k].toNat:Int) < 97:=by omega
       cases hdi:isDgt s[k]
       ·have hdi':=hdi
        rw [zer,decide_eq_false_iff_not] at hdi';have hcd:(48≤(s[k].toNat:Int)∧57 < (s[k].toNat:Int))∨(s[k].toNat:Int) < 48:=by omega
        cases ha:((s[k].toNat:Int) == 39)
        ·have this:(s[k] == 39) = false:=by simp at ha ⊢; intro h; rw [h] at ha; simp at ha
         have hpl:zbr s[k] = [32]:=by simp [zbr,hu,hlo,hdi,this]
         have ha2:((s[k].toNat:Int) != 39) = true:=by simpa using ha
         have HS:=zi5 (FoldSt.sep (b:=b) hlt HP.out HVl.out hpl);clear hu hu' hlo hlo' hdi hdi' this hpl hok
         rcases hcu with ⟨g1,g2⟩ | g1 <;> rcases hcl with ⟨g3,g4⟩ | g3 <;> rcases hcd with ⟨g5,g6⟩ | g5
         all_goals first
          | (exfalso; omega)
          | (go_wp2_with fail; go_meet; exact ⟨k,true,[],[32],rfl,rfl,rfl,HS.out,HI.out.bel⟩)
        ·have this:(s[k] == 39) = true:=by simp [← UInt8.toNat_inj] at ha ⊢; omega
         have hpl:zbr s[k] = []:=by simp [zbr,hu,hlo,hdi,this]
         have ha2:((s[k].toNat:Int) != 39) = false:=by simpa using ha
         have HS:=zi5 (FoldSt.one (b:=b) hlt HP.out HVl.out hpl (by simp));clear hu hu' hlo hlo' hdi hdi' this hpl hok
         rcases hcu with ⟨g1,g2⟩ | g1 <;> rcases hcl with ⟨g3,g4⟩ | g3 <;> rcases hcd with ⟨g5,g6⟩ | g5
         all_goals first
          | (exfalso; simp at ha; omega)
          | (go_wp2_with fail; go_meet; exact ⟨k,b,[],[],rfl,rfl,rfl,HS.out,HI.out.bel⟩)
       ·have hdi':=hdi
        rw [zer,decide_eq_true_iff] at hdi';obtain ⟨g5,g6⟩:=hdi';have hpl:zbr s[k] = [s[k]]:=by simp [zbr,hu,hlo,hdi]
        have HS:=zi5 (FoldSt.one (b:=b) hlt HP.out HVl.out hpl (by rw [← hpl]; exact plain_no32 (.inr (.inr hdi))));have hcv:=one_byte wr s[k];have g1:(s[k].toNat:Int) < 65:=by omega
        have g3:(s[k].toNat:Int) < 97:=by omega
        clear hu hu' hlo hlo' hdi hpl hok hcu hcl;go_wp2_with fail
        go_meet;exact ⟨k,b,[s[k]],[s[k]],rfl,rfl,rfl,HS.out,HI.out.bel.alloc HI.out.bel.size _⟩
      ·have hlo':=hlo
       rw [zdh,decide_eq_true_iff] at hlo';obtain ⟨g3,g4⟩:=hlo';have hpl:zbr s[k] = [s[k]]:=by simp [zbr,hu,hlo]
       have HS:=zi5 (FoldSt.one (b:=b) hlt HP.out HVl.out hpl (by rw [← hpl]; exact plain_no32 (.inr (.inl hlo))));have hcv:=one_byte wr s[k];have g1:65≤(s[k].toNat:Int):=by omega
       have g2:90 < (s[k].toNat:Int):=by omega
       clear hu hu' hlo hpl hok hcu;go_wp2_with fail
       go_meet;exact ⟨k,b,[s[k]],[s[k]],rfl,rfl,rfl,HS.out,HI.out.bel.alloc HI.out.bel.size _⟩
     ·have hu':=hu
      rw [up_iff,decide_eq_true_iff] at hu';obtain ⟨g1,g2⟩:=hu';have hpl:zbr s[k] = [s[k] + 32]:=by simp [zbr,hu]
      have HS:=zi5 (FoldSt.one (b:=b) hlt HP.out HVl.out hpl (by rw [← hpl]; exact plain_no32 (.inl hu)));have hcv:=one_byte wr (s[k] + 32);have e2:((s[k] + 32).toNat:Int) = (s[k].toNat:Int) + 32:=by rw [UInt8.toNat_add]; simp; omega
      rw [e2] at hcv;clear hu hpl hok e2;go_wp2_with fail
      go_meet;exact ⟨k,b,[s[k] + 32],[s[k] + 32],rfl,rfl,rfl,HS.out,HI.out.bel.alloc HI.out.bel.size _⟩
    ·have h2:=zg4 s k hlt hp
     obtain ⟨g0,g1,g2⟩:=zh5 s k h2 hp;have HS:=zi5 (FoldSt.pair (b:=b) h2 hp HI.out.val);have e195:((s[k].toNat:Int) == 195) = true:=by rw [g0]; rfl
     clear hp g0;go_wp2_with fail
     refine (rrepl_any s[k + 1] _ g1 g2).mono ?_;rintro e w' ⟨rfl,rfl⟩;go_wp2_with fail
     go_meet;exact ⟨k + 1,b,zhy s[k + 1],zhy s[k + 1],rfl,by go_num,rfl,HS.out,HI.out.bel⟩
   case rest =>
    obtain ⟨k',b',x,y,rfl,rfl,rfl,hst,hbl⟩:=hcut;have HS:=zi5 hst; have HB:=zi5 hbl;have hk1:=hst.lo;have hk2:=hst.hi;have hxl:=hst.len;clear hst hbl;by_cases hx:x = []
    ·subst hx
     have KN:∃ R',FoldIn s w (k' + 1) R' b' wc∧zay (zcl R') = O:=by
      have hi:=HI.out;have hst:=HS.out
      rcases hst.way with ⟨h1,h2,_⟩ | ⟨_,h1,h2⟩
      ·subst h1; subst h2
       exact ⟨R,⟨by have:=hst.raw; simp only [List.nil_append] at this; rw [← this]; exact hi.raw,hi.sep,hst.val,HB.out⟩,HOe.out⟩
      ·subst h1; subst h2
       exact ⟨R ++ [32],⟨by rw [List.append_assoc,← hst.raw]; exact hi.raw,(ends_snoc R 32).symm,hst.val,HB.out⟩,by rw [fold_space,HOe.out]⟩
     obtain ⟨R',hR1,hR2⟩:=KN;have HR1:=zi5 hR1; have HR2:=zi5 hR2;clear hR1 hR2;go_wp2_with fail
     go_roundw
     case rel=>exact ⟨k' + 1,R',b',by omega,by rw [HR2.out],rfl,by go_num,HR1.out⟩
     case measure=>simp [intOf]; omega
    ·have f1:(x == []) = false:=by simpa using hx
     have f2:x.isEmpty = false:=by simpa using hx
     have hst:=HS.out;obtain ⟨h1,h2,h3⟩:=hst.way.resolve_right (fun h=>hx h.1)
     subst h1 h2;have hmore:=fold_more hx h3 R;have hends:=ends_app R hx h3;have KN:=zi5 (show FoldIn s w (k' + 1) (R ++ x) false wc from ⟨by rw [List.append_assoc,← hst.raw]; exact HI.out.raw,hends.symm,hst.val,HB.out⟩);rw [← HI.out.sep,HOe.out] at hmore;have HMore:=zi5 hmore;clear hst hmore hends h3 hx;cases b'
     ·go_wp2_with fail
      go_roundw
      case rel=>exact ⟨k' + 1,R ++ x,false,by omega,by rw [HMore.out]; simp,rfl,by go_num,KN.out⟩
      case measure=>simp [intOf]; omega
     ·by_cases hO0:O = []
      ·have f3:(O == []) = true:=by rw [hO0]; rfl
       have f4:(O != []) = false:=by rw [hO0]; rfl
       have HO0:=zi5 hO0;clear hO0;go_wp2_with fail
       go_roundw
       case rel=>exact ⟨k' + 1,R ++ x,false,by omega,by rw [HMore.out,HO0.out]; simp,rfl,by go_num,KN.out⟩
       case measure=>simp [intOf]; omega
      ·have f3:(O == []) = false:=by simpa using hO0
       have f4:(O != []) = true:=by simpa using hO0
       have f5:O.isEmpty = false:=by simpa using hO0
       have HO0:=zi5 hO0;clear hO0;go_wp2_with fail
       go_roundw
       case rel=>exact ⟨k' + 1,R ++ x,false,by omega,by rw [HMore.out,if_pos ⟨rfl,HO0.out⟩]; simp,rfl,by go_num,KN.out⟩
       case measure=>simp [intOf]; omega
  ·have hq:decide ((k:Int) < s.size) = false:=by simp; omega
   have hfin:zb2 s.data.toList = O:=by
    have hi:=HI.out;have hd:s.data.toList.drop k = []:=List.drop_eq_nil_of_le (by rw [HL.out]; omega);have hr:=hi.raw;rw [hd,show rawL [] = [] from rfl,List.append_nil] at hr;unfold zb2;rw [← hr]; exact HOe.out
   have HF:=zi5 hfin;clear hfin;go_wp2_with fail
   go_ret2;exact ⟨by show Ending.returned (.tuple #[zal O,.int .i64 0]) = _; rw [HF.out],HI.out.bel⟩
theorem rfold_no (s:ByteArray) (w:World) (hs:s.size≤9223372036854775000) (hv:zc6 s.data.toList = false) :
  Calls prog 220 #[.string s] w fun e w'=>e = .returned (.tuple #[zal [],.int .i64 3])∧Below w.heap.size w w':=by
 have HV:=zi5 hv; clear hv;go_enter func220,ntmps220
 go_wp2_with fail
 refine (rvalid_text s _ hs).mono ?_; rw [HV.out]; rintro e w' ⟨rfl,rfl⟩;go_wp2_with fail
 go_ret2;exact ⟨rfl,Below.refl _ _⟩
end
section
open Go.RowKit
attribute [local go_sem] zah zaj zar
theorem rtoken_any (l:List UInt8) (w:World) :
  Calls prog 167 #[zal l] w fun e w'=>e = .returned (.bool (zca l))∧w = w':=by
 unfold zca;by_cases h0:l = []
 ·subst h0
  go_enter func167,ntmps167
  go_wp2
  go_ret;exact ⟨rfl,rfl⟩
 ·have h1:l.isEmpty = false:=by simpa using h0
  have h2:(l == []) = false:=by simpa using h0
  have h2':(l != []) = true:=by simpa using h0
  rw [h1];by_cases h3:l.length≤64
  ·have h4:decide (l.length≤64) = true:=by simpa using h3
   have h5:decide ((l.length:Int)≤64) = true:=by simp; omega
   rw [h4];clear h0 h4;go_enter func167,ntmps167
   go_wp2_with fail
   refine (zg0 ⟨l.toArray⟩ _ (by rw [zaj]; omega)).mono ?_;rw [show (⟨l.toArray⟩:ByteArray).data.toList = l by simp];rintro e w1 ⟨rfl,rfl⟩;go_wp2_with fail
   go_ret;exact ⟨rfl,rfl⟩
  ·have h4:decide (l.length≤64) = false:=by simpa using h3
   have h5:decide ((l.length:Int)≤64) = false:=by simp; omega
   rw [h4];clear h0 h4;go_enter func167,ntmps167
   go_wp2_with fail
   go_ret;exact ⟨rfl,rfl⟩
def ascAt (L:List (List UInt8)) (j:Nat):Bool:=decide (j = 0) || ltB (L.getD (j - 1) []) (L.getD j [])
def ascL (L:List (List UInt8)):Bool:=(List.range L.length).all (ascAt L)
theorem leq_less (x y:List UInt8):(Op.bytesLess x y || x == y) = !Op.bytesLess y x:=by
 rw [bytesLess_eq,bytesLess_eq,Bool.eq_iff_iff];simp only [Bool.or_eq_true,decide_eq_true_eq,beq_iff_eq,Bool.not_eq_true',decide_eq_false_iff_not];exact List.le_iff_lt_or_eq.symm
theorem rasc_any (S:Nat→Prop) (v:Value) (L:List (List UInt8)) (w:World) (h:Vec w S 1 za2 v L) (hn:L.length≤1000000) :
  Calls prog 168 #[v] w fun e w'=>e = .returned (.bool (ascL L))∧Below w.heap.size w w':=by
 obtain ⟨a,cap,rfl⟩:=h.slice;have HV:=zi5 h; clear h;go_enter func168,ntmps168
 go_wp2_with fail
 go_loopw [3] (fun i wr=>∃ m:Nat,i = .int .i64 (m + 1)∧m≤L.length∧Below w.heap.size w wr∧Hid (∀ j,j < m + 1→j < L.length→ascAt L j = true)) (fun i _=>L.length + 1 - (intOf i).toNat)
 case atStart=>exact ⟨0,rfl,by omega,Below.refl _ _,zi5 fun j hj _=>by (obtain rfl:j = 0:=by omega); rfl⟩
 case round =>
  obtain ⟨m,rfl,hm,hbw,HA⟩:=hrel;have HW:=zi5 hbw;by_cases hlt:m + 1 < L.length
  ·have hq:decide ((m:Int) + 1 < L.length) = true:=by simp; omega
   obtain ⟨b,off,rfl,_,hb,hc⟩:=zb9 HV.out (by omega);have c1:=(hbw.cell (p:=⟨b,off + (m + 1),none⟩) hb).trans (hc (m + 1) hlt);have c2:=(hbw.cell (p:=⟨b,off + m,none⟩) hb).trans (hc m (by omega));have hat:ascAt L (m + 1) = Op.bytesLess (L.getD m []) (L.getD (m + 1) []):=by simp [ascAt,ltB]
   obtain ⟨x,hx⟩:∃ x,L.getD (m + 1) [] = x:=⟨_,rfl⟩;obtain ⟨y,hy⟩:∃ y,L.getD m [] = y:=⟨_,rfl⟩;rw [hx] at c1 hat;rw [hy] at c2 hat;have hi1:(m:Int) + 1 < (L.length:Int):=by omega
   have hi2:(m:Int) < (L.length:Int):=by omega
   have hi3:(0:Int)≤(m:Int) + 1:=by omega
   have hleq:=leq_less x y;clear hc hx hy hbw;cases hl:Op.bytesLess y x
   ·rw [hl] at hat hleq
    have HAt:=zi5 hat; clear hat hl;have hleq':(Op.bytesLess x y || x == y) = true:=hleq;clear hleq;go_wp2_with fail
    go_quiet (fail)
    go_wp2_with fail
    go_ret;exact ⟨za0 (by rw [ascL,zcb hlt HAt.out]),below_drewN HW.out _⟩
   ·rw [hl] at hat hleq
    have HAt:=zi5 hat; clear hat hl;have hleq':(Op.bytesLess x y || x == y) = false:=hleq;have g1:Op.bytesLess x y = false:=(Bool.or_eq_false_iff.1 hleq').1;have g2:(x == y) = false:=(Bool.or_eq_false_iff.1 hleq').2;clear hleq hleq';go_wp2_with fail
    go_quiet (fail)
    go_wp2_with fail
    go_roundw
    case rel=>exact ⟨m + 1,by go_num,by omega,below_drewN HW.out _,zi5 fun j hj hjl=>by
     by_cases e:j = m + 1
     ·subst e; exact HAt.out
     ·exact HA.out j (by omega) hjl⟩
    case measure=>simp [intOf]; omega
  ·have hq:decide ((m:Int) + 1 < L.length) = false:=by simp; omega
   go_wp2_with fail
   go_ret;exact ⟨za0 (by rw [ascL,zi2 fun j hj=>HA.out j (by omega) hj]),HW.out⟩
theorem rhas_any (S:Nat→Prop) (v:Value) (L:List (List UInt8)) (x:List UInt8) (w:World) (h:Vec w S 1 za2 v L) (hn:L.length≤1000000) :
  Calls prog 170 #[v,zal x] w fun e w'=>e = .returned (.bool (zg9 L x))∧w = w':=by
 obtain ⟨a,cap,rfl⟩:=h.slice;have HV:=zi5 h; clear h;go_enter func170,ntmps170
 go_wp2_with fail
 go_loop [5] (fun i=>∃ k:Nat,k≤L.length∧i = .int .i64 k∧Hid (∀ j,j < k→L.getD j []≠x)) (fun i=>L.length - (intOf i).toNat)
 case atStart=>exact ⟨0,by omega,rfl,zi5 fun j hj=>by omega⟩
 case round =>
  obtain ⟨k,hk,rfl,HA⟩:=hrel;by_cases hlt:k < L.length
  ·have hq:decide ((k:Int) < L.length) = true:=by simp; omega
   obtain ⟨b,off,rfl,_,hb,hc⟩:=zb9 HV.out (by omega);have c1:=hc k hlt;have hm:L.getD k []∈L:=by rw [List.getD,List.getElem?_eq_getElem hlt]; exact List.getElem_mem hlt
   obtain ⟨y,hy⟩:∃ y,L.getD k [] = y:=⟨_,rfl⟩;rw [hy] at c1 hm;have HY:=zi5 hy; have HM:=zi5 hm;clear hc hy hm;by_cases he:y = x
   ·subst he
    go_wp2_with fail
    go_ret;exact ⟨za0 (by unfold zg9; rw [List.any_eq_true.2 ⟨y,HM.out,by simp⟩]),rfl⟩
   ·have e1:(y == x) = false:=by simpa using he
    have HE:=zi5 he; clear he;go_wp2_with fail
    go_round
    case rel=>exact ⟨k + 1,by omega,by go_num,zi5 fun j hj=>by
     by_cases e:j = k
     ·subst e; rw [HY.out]; exact HE.out
     ·exact HA.out j (by omega)⟩
    case measure=>simp [intOf]; omega
  ·have hq:decide ((k:Int) < L.length) = false:=by simp; omega
   go_wp2_with fail
   go_ret;refine ⟨za0 ?_,rfl⟩;symm;unfold zg9;rw [List.any_eq_false];intro y hy;obtain ⟨j,hj,rfl⟩:=List.getElem_of_mem hy;have:=HA.out j (by omega);rw [List.getD,List.getElem?_eq_getElem hj] at this;simpa using this
end
section
open Go.RowKit
attribute [local go_sem] zah zaj zar
theorem canon_drop {L:List P2} {s:List UInt8} (k:Nat) (hk:k < L.length):zbe (L.drop k) s = if (L.getD k default).1 = s then (L.getD k default).2 else zbe (L.drop (k + 1)) s:=by
 rw [List.drop_eq_getElem_cons hk,List.getD,List.getElem?_eq_getElem hk];simp only [Option.getD_some,zbe,beq_iff_eq]
theorem rreplace_any (S:Nat→Prop) (v:Value) (L:List P2) (x:List UInt8) (w:World) (h:Vec w S 2 encP v L) (hn:L.length≤1000000) :
  Calls prog 225 #[v,zal x] w fun e w'=>e = .returned (zal (zbe L x))∧w = w':=by
 obtain ⟨a,cap,rfl⟩:=h.slice;have HV:=zi5 h; clear h;go_enter func225,ntmps225
 go_wp2_with fail
 go_loop [5] (fun i=>∃ k:Nat,k≤L.length∧i = .int .i64 k∧Hid (zbe L x = zbe (L.drop k) x)) (fun i=>L.length - (intOf i).toNat)
 case atStart=>exact ⟨0,by omega,rfl,zi5 rfl⟩
 case round =>
  obtain ⟨k,hk,rfl,HA⟩:=hrel;by_cases hlt:k < L.length
  ·have hq:decide ((k:Int) < L.length) = true:=by simp; omega
   obtain ⟨b,off,rfl,_,hb,hc⟩:=zcm HV.out (by omega);have c0:=hc k hlt 0 _ rfl;have c1:=hc k hlt 1 _ rfl;rw [Nat.add_zero] at c0;have hd:=canon_drop (s:=x) k hlt;obtain ⟨⟨y,z⟩,hy⟩:∃ y,L.getD k default = y:=⟨_,rfl⟩;rw [hy] at c0 c1 hd;dsimp only at c0 c1 hd;have HD:=zi5 hd;clear hc hy hd;by_cases he:y = x
   ·subst he
    go_wp2_with fail
    go_ret;exact ⟨by show Ending.returned (zal z) = .returned (zal (zbe L y)); rw [HA.out,HD.out]; simp,rfl⟩
   ·have e1:(y == x) = false:=by simpa using he
    have HE:=zi5 he; clear he;go_wp2_with fail
    go_round
    case rel=>exact ⟨k + 1,by omega,by go_num,zi5 (by rw [HA.out,HD.out,if_neg HE.out])⟩
    case measure=>simp [intOf]; omega
  ·have hq:decide ((k:Int) < L.length) = false:=by simp; omega
   have hfin:zbe L x = x:=by rw [HA.out,List.drop_eq_nil_of_le (by omega)]; rfl
   have HF:=zi5 hfin; clear hfin;go_wp2_with fail
   go_ret;exact ⟨by show Ending.returned (zal x) = .returned (zal (zbe L x)); rw [HF.out],rfl⟩
theorem rcanonical_any (S:Nat→Prop) (vt vn vs:Value) (L:List P2) (x:List UInt8) (w:World) (h:Vec w S 2 encP vn L) (hn:L.length≤1000000) :
  Calls prog 222 #[.agg #[vt,vn,vs],zal x] w fun e w'=>e = .returned (zal (zbe L x))∧Below w.heap.size w w':=by
 have HV:=zi5 h; clear h;go_enter func222,ntmps222
 go_wp2_with fail
 refine (rreplace_any S vn L x _ (HV.out.below ((Below.refl _ _).alloc xnl _)) hn).mono ?_;rintro e w' ⟨rfl,rfl⟩;go_wp2_with fail
 go_ret;exact ⟨rfl,(Below.refl _ _).alloc xnl _⟩
theorem rdropped_any (S:Nat→Prop) (vt vn vs:Value) (L:List (List UInt8)) (x:List UInt8) (w:World) (h:Vec w S 1 za2 vt L) (hn:L.length≤1000000) :
  Calls prog 221 #[.agg #[vt,vn,vs],zal x] w fun e w'=>e = .returned (.bool (zg9 L x))∧Below w.heap.size w w':=by
 have HV:=zi5 h; clear h;go_enter func221,ntmps221
 go_wp2_with fail
 refine (rhas_any S vt L x _ (HV.out.below ((Below.refl _ _).alloc xnl _)) hn).mono ?_;rintro e w' ⟨rfl,rfl⟩;go_wp2_with fail
 go_ret;exact ⟨rfl,(Below.refl _ _).alloc xnl _⟩
theorem find_has_from (s:List UInt8):∀ (L:List P2) (i:Nat),decide (Lib.idxByFrom (fun _ (y:P2)=>y.1 == s) default L i < 0) = !zg9 (L.map (·.1)) s:=by
 intro L;induction L with
 | nil=>intro i; simp [Lib.idxByFrom,zg9]
 | cons p L ih =>
  intro i;have e:zg9 ((p :: L).map (·.1)) s = (p.1 == s || zg9 (L.map (·.1)) s):=by simp [zg9]
  rw [e];cases h:p.1 == s
  ·simp only [Lib.idxByFrom,h,Bool.false_eq_true,if_false,Bool.false_or]
   exact ih (i + 1)
  ·simp only [Lib.idxByFrom,h,if_true,Bool.true_or,Bool.not_true]
   simp
theorem find_has (L:List P2) (s:List UInt8):decide (zix L s < 0) = !zg9 (L.map (·.1)) s:=find_has_from s L 0
theorem map_getD (L:List P2) (j:Nat) (h:j < L.length):(L.map (·.1)).getD j [] = (L.getD j default).1:=by
 rw [List.getD,List.getD,List.getElem?_map,List.getElem?_eq_getElem h]; rfl
theorem zin (L:List P2) (j:Nat) (h:j < L.length):zdg L j = (zca (L.getD j default).1 && zca (L.getD j default).2 && ascAt (L.map (·.1)) j && !zg9 (L.map (·.1)) (L.getD j default).2):=by
 unfold zdg ascAt;rw [find_has,map_getD L j h];by_cases h0:j = 0
 ·subst h0; simp
 ·rw [map_getD L (j - 1) (by omega)]
theorem pairs_no_tok {L:List P2} {j:Nat} (h:j < L.length) (ht:(zca (L.getD j default).1 && zca (L.getD j default).2) = false):zcj L = false:=by
 unfold zcj;exact zcb h (by rw [zin L j h,ht]; simp)
theorem pairs_no_has {L:List P2} {j:Nat} (h:j < L.length) (ht:zg9 (L.map (·.1)) (L.getD j default).2 = true):zcj L = false:=by
 unfold zcj;exact zcb h (by rw [zin L j h,ht]; simp)
theorem pairs_asc {L:List P2} (h1:∀ j,j < L.length→(zca (L.getD j default).1 && zca (L.getD j default).2) = true) (h2:∀ j,j < L.length→zg9 (L.map (·.1)) (L.getD j default).2 = false):zcj L = ascL (L.map (·.1)):=by
 unfold zcj ascL;rw [List.length_map]
 refine Bool.eq_iff_iff.2 ⟨fun h=>?_,fun h=>?_⟩
 ·refine List.all_eq_true.2 fun j hj=>?_
  have:=List.all_eq_true.1 h j hj;rw [zin L j (List.mem_range.1 hj)] at this;simp only [Bool.and_eq_true] at this;exact this.1.2
 ·refine List.all_eq_true.2 fun j hj=>?_
  have:=List.all_eq_true.1 h j hj;have hj':=List.mem_range.1 hj;rw [zin L j hj',h1 j hj',h2 j hj',this]; rfl
theorem flat_fst_snoc (L:List P2) (k:Nat) (h:k < L.length):(L.take (k + 1)).map (·.1) = (L.take k).map (·.1) ++ [(L.getD k default).1]:=by
 rw [zfa L k h,List.map_append]; rfl
theorem rpairs_any (S:Nat→Prop) (v:Value) (L:List P2) (w:World) (h:Vec w S 2 encP v L) (hn:L.length≤1000000) :
  Calls prog 169 #[v] w fun e w'=>e = .returned (.bool (zcj L))∧Below w.heap.size w w':=by
 obtain ⟨a,cap,rfl⟩:=h.slice;have HV:=zi5 h; clear h;go_enter func169,ntmps169
 go_wp2_with fail
 go_loopw [3,4] (fun f i wr=>∃ k:Nat,k≤L.length∧i = .int .i64 k∧OwnAt w f ((L.take k).map (·.1)) wr∧Hid (∀ j,j < k→(zca (L.getD j default).1 && zca (L.getD j default).2) = true)) (fun _ i _=>L.length - (intOf i).toNat)
 case atStart=>exact ⟨0,by omega,rfl,OwnAt.start w,zi5 fun j hj=>by omega⟩
 case round =>
  obtain ⟨k,hk,rfl,ho,HA⟩:=hrel;have HO:=zi5 ho; clear ho;by_cases hlt:k < L.length
  ·have hq:decide ((k:Int) < L.length) = true:=by simp; omega
   obtain ⟨b,off,rfl,_,hb,hc⟩:=zcm HV.out (by omega);have k0:=hc k hlt 0 _ rfl;rw [Nat.add_zero] at k0;have c0:=(HO.out.2.cell (p:=⟨b,off + k * 2,none⟩) hb).trans k0;clear k0;have c1:=(HO.out.2.cell (p:=⟨b,off + k * 2 + 1,none⟩) hb).trans (hc k hlt 1 _ rfl);have hfs:=flat_fst_snoc L k hlt;have hno:=pairs_no_tok (L:=L) (j:=k) hlt;obtain ⟨⟨y,z⟩,hy⟩:∃ y,L.getD k default = y:=⟨_,rfl⟩;rw [hy] at c0 c1 hfs hno;dsimp only at c0 c1 hfs hno;have HFs:=zi5 hfs; have HNo:=zi5 hno; have HY:=zi5 hy;clear hc hy hfs hno;go_wp2_with fail
   refine (rtoken_any y _).mono ?_;cases ht:zca y
   ·rintro e w' ⟨rfl,rfl⟩
    have HT:=zi5 ht; clear ht;go_wp2_with fail
    go_ret;exact ⟨za0 (by rw [HNo.out (by rw [HT.out]; rfl)]),HO.out.2⟩
   ·rintro e w' ⟨rfl,rfl⟩
    have HT:=zi5 ht; clear ht;go_wp2_with fail
    refine (rtoken_any z _).mono ?_;cases ht2:zca z
    ·rintro e w' ⟨rfl,rfl⟩
     have HT2:=zi5 ht2; clear ht2;go_wp2_with fail
     go_ret;exact ⟨za0 (by rw [HNo.out (by rw [HT.out,HT2.out]; rfl)]),HO.out.2⟩
    ·rintro e w' ⟨rfl,rfl⟩
     have HT2:=zi5 ht2; clear ht2;have hlen:((L.take k).map (·.1)).length < 1099511627776:=by have:=List.length_take_le k L; rw [List.length_map]; omega
     have hone:∀ u∈(#[zal y]:Array Value).toList,u.oneCell' = true:=by intro u hu; simp at hu; subst hu; rfl
     go_wp2_with (at_builtin; refine zbf rfl _ _ 27 rfl w.heap.size 9 1 16 (.string ⟨#[]⟩) underlying27 zdi rfl (by decide) (by decide) _ _ _ rfl HO.out.1 #[zal y] 1 rfl rfl hone hlen HO.out.2.size ?_; intro v2 w8 ho8 hw8)
     go_roundw
     case rel=>exact ⟨k + 1,by omega,by go_num,⟨by rw [HFs.out,List.length_append,zdm]; exact ho8,hw8 _ HO.out.2⟩,zi5 fun j hj=>by
      by_cases e:j = k
      ·subst e; rw [HY.out,HT.out,HT2.out]; rfl
      ·exact HA.out j (by omega)⟩
     case measure=>simp [intOf]; omega
  ·have hq:decide ((k:Int) < L.length) = false:=by simp; omega
   obtain rfl:k = L.length:=by omega
   rw [List.take_of_length_le xnl] at HO;have HF:=zi5 (Vec.owns (S:=zaw) (k:=1) (enc:=za2) (fun _=>rfl) HO.out.1 (fun _ _ _=>trivial))
   have hml:(L.map (·.1)).length≤1000000:=by rw [List.length_map]; exact hn
   obtain ⟨wo,rfl⟩:∃ wo:World,wo = wr:=⟨_,rfl⟩;go_wp2_with fail
   go_loopw [5] (fun i wr=>∃ k:Nat,k≤L.length∧i = .int .i64 k∧wr = wo∧Hid (∀ j,j < k→zg9 (L.map (·.1)) (L.getD j default).2 = false)) (fun i _=>L.length - (intOf i).toNat)
   case atStart=>exact ⟨0,by omega,rfl,rfl,zi5 fun j hj=>by omega⟩
   case round =>
    obtain ⟨k,hk2,rfl,rfl,HB⟩:=hrel;by_cases hlt2:k < L.length
    ·have hq2:decide ((k:Int) < L.length) = true:=by simp; omega
     obtain ⟨b,off,rfl,_,hb,hc⟩:=zcm HV.out (by omega);have c1:=(HO.out.2.cell (p:=⟨b,off + k * 2 + 1,none⟩) hb).trans (hc k hlt2 1 _ rfl);have hno:=pairs_no_has (L:=L) (j:=k) hlt2;obtain ⟨⟨y,z⟩,hy⟩:∃ y,L.getD k default = y:=⟨_,rfl⟩;rw [hy] at c1 hno;dsimp only at c1 hno;have HNo:=zi5 hno; have HY:=zi5 hy;clear hc hy hno;go_wp2_with fail
     refine (rhas_any zaw _ (L.map (·.1)) z _ HF.out hml).mono ?_;cases ht:zg9 (L.map (·.1)) z
     ·rintro e w' ⟨rfl,rfl⟩
      have HT:=zi5 ht; clear ht;go_wp2_with fail
      go_roundw
      case rel=>exact ⟨k + 1,by omega,by go_num,by trivial,zi5 fun j hj=>by
       by_cases e:j = k
       ·subst e; rw [HY.out]; exact HT.out
       ·exact HB.out j (by omega)⟩
      case measure=>simp [intOf]; omega
     ·rintro e w' ⟨rfl,rfl⟩
      have HT:=zi5 ht; clear ht;go_wp2_with fail
      go_ret;exact ⟨za0 (by rw [HNo.out HT.out]),HO.out.2⟩
    ·have hq2:decide ((k:Int) < L.length) = false:=by simp; omega
     have hfin:=pairs_asc (L:=L) HA.out (fun j hj=>HB.out j (by omega))
     have HFin:=zi5 hfin; clear hfin;go_wp2_with fail
     refine (rasc_any zaw _ (L.map (·.1)) _ HF.out hml).mono ?_;rintro e w2 ⟨rfl,hb2⟩;have HB2:=zi5 (HO.out.2.trans (hb2.mono HO.out.2.size));clear hb2;go_wp2_with fail
     go_ret;exact ⟨za0 (by rw [HFin.out]),HB2.out⟩
end
section
open Go.RowKit
attribute [local go_sem] zah zaj zar
theorem titles_is {L:List (List UInt8)} (h:∀ j,j < L.length→zca (L.getD j []) = true):ze2 L = ascL L:=by
 unfold ze2 ascL
 refine Bool.eq_iff_iff.2 ⟨fun g=>?_,fun g=>?_⟩
 ·refine List.all_eq_true.2 fun j hj=>?_
  have:=List.all_eq_true.1 g j hj;unfold zfd at this;rw [Bool.and_eq_true] at this;exact this.2
 ·refine List.all_eq_true.2 fun j hj=>?_
  have:=List.all_eq_true.1 g j hj;unfold zfd;rw [h j (List.mem_range.1 hj)];exact this
theorem titles_no {L:List (List UInt8)} {j:Nat} (h:j < L.length) (ht:zca (L.getD j []) = false):ze2 L = false:=by
 unfold ze2;exact zcb h (by unfold zfd; rw [ht]; rfl)
theorem zdt (S:Nat→Prop) (vt vn vs:Value) (r:RulesL) (w:World) (h:RulesAt w S vt vn vs r) :
  Calls prog 118 #[.agg #[vt,vn,vs]] w fun e w'=>e = .returned (.int .i64 (zaz r))∧Below w.heap.size w w':=by
 obtain ⟨lt,ln,ls⟩:=r;obtain ⟨h1,h2,h3⟩:=h;dsimp only at h1 h2 h3;obtain ⟨at1,ct,rfl⟩:=h1.slice;obtain ⟨an,cn,rfl⟩:=h2.slice;obtain ⟨as',cs,rfl⟩:=h3.slice;have H1:=zi5 h1.any; have H2:=zi5 h2.any; have H3:=zi5 h3.any;clear h1 h2 h3;have hfin:∀ n:Int,zaz ⟨lt,ln,ls⟩ = n→Ending.returned (.int .i64 n) = .returned (.int .i64 (zaz ⟨lt,ln,ls⟩)):=fun n h=>by rw [h]
 have HF:=zi5 hfin; clear hfin;by_cases g1:32 < lt.length
 ·have e1:decide ((32:Int) < lt.length) = true:=by simp; omega
  go_enter func118,ntmps118
  go_wp2_with fail
  go_ret;exact ⟨HF.out 1 (by unfold zaz; rw [if_pos (.inl g1)]),(Below.refl _ _).alloc xnl _⟩
 ·have e1:decide ((32:Int) < lt.length) = false:=by simp; omega
  by_cases g2:32 < ln.length
  ·have e2:decide ((32:Int) < ln.length) = true:=by simp; omega
   go_enter func118,ntmps118
   go_wp2_with fail
   go_ret;exact ⟨HF.out 1 (by unfold zaz; rw [if_pos (.inr (.inl g2))]),(Below.refl _ _).alloc xnl _⟩
  ·have e2:decide ((32:Int) < ln.length) = false:=by simp; omega
   by_cases g3:32 < ls.length
   ·have e3:decide ((32:Int) < ls.length) = true:=by simp; omega
    go_enter func118,ntmps118
    go_wp2_with fail
    go_ret;exact ⟨HF.out 1 (by unfold zaz; rw [if_pos (.inr (.inr g3))]),(Below.refl _ _).alloc xnl _⟩
   ·have e3:decide ((32:Int) < ls.length) = false:=by simp; omega
    have hle:¬ (32 < lt.length∨32 < ln.length∨32 < ls.length):=by omega
    have HLe:=zi5 hle; clear hle;go_enter func118,ntmps118
    go_wp2_with fail
    clear e1 e2 e3
    refine zao (fun W hW=>?_)
    have HX:=zi5 (show W.heap[w.heap.size]? = some (.cells #[.slice at1 lt.length ct,.slice an ln.length cn,.slice as' ls.length cs] 42 (0,0)) from by rw [hW]; exact zac rfl);have HB:=zi5 (show Below w.heap.size w W from by rw [hW]; exact (Below.refl _ _).alloc xnl _);have zW:w.heap.size < W.heap.size:=zaa HX.out;clear hW;obtain ⟨p0,p1,p2⟩:=zai HX.out;go_loop [3] (fun i=>∃ k:Nat,k≤lt.length∧i = .int .i64 k∧Hid (∀ j,j < k→zca (lt.getD j []) = true)) (fun i=>lt.length - (intOf i).toNat)
    case atStart=>exact ⟨0,by omega,rfl,zi5 fun j hj=>by omega⟩
    case round =>
     obtain ⟨k,hk,rfl,HA⟩:=hrel;by_cases hlt:k < lt.length
     ·have hq:decide ((k:Int) < lt.length) = true:=by simp; omega
      obtain ⟨b,off,rfl,_,hb,hc⟩:=zb9 (H1.out.below HB.out) (by omega);have c1:=hc k hlt;obtain ⟨x,hx⟩:∃ x,lt.getD k [] = x:=⟨_,rfl⟩;rw [hx] at c1;have HXx:=zi5 hx;clear hc hx;go_wp2_with fail
      refine (rtoken_any x _).mono ?_;cases ht:zca x
      ·rintro e w' ⟨rfl,rfl⟩
       have HT:=zi5 ht; clear ht;go_wp2_with fail
       go_ret;exact ⟨HF.out 5 (by unfold zaz; rw [if_neg HLe.out,titles_no (j:=k) hlt (by rw [HXx.out]; exact HT.out)]; simp),HB.out⟩
      ·rintro e w' ⟨rfl,rfl⟩
       have HT:=zi5 ht; clear ht;go_wp2_with fail
       go_round
       case rel=>exact ⟨k + 1,by omega,by go_num,zi5 fun j hj=>by
        by_cases e:j = k
        ·subst e; rw [HXx.out]; exact HT.out
        ·exact HA.out j (by omega)⟩
       case measure=>simp [intOf]; omega
     ·have hq:decide ((k:Int) < lt.length) = false:=by simp; omega
      have hti:=zi5 (titles_is (L:=lt) (fun j hj=>HA.out j (by omega)))
      go_wp2_with fail
      refine (rasc_any zaw _ lt _ (H1.out.below HB.out) (by omega)).mono ?_;rw [← hti.out];rintro e w1 ⟨rfl,hb1⟩;have HX1:=zi5 (zab hb1 zW HX.out);have HB1:=zi5 (HB.out.trans (hb1.mono HB.out.size));clear hb1 p0 p1 p2;obtain ⟨p0,p1,p2⟩:=zai HX1.out;have z1:w.heap.size < w1.heap.size:=zaa HX1.out;cases ht:ze2 lt
      ·have HT:=zi5 ht; clear ht
       go_wp2_with fail
       go_ret;exact ⟨HF.out 5 (by unfold zaz; rw [if_neg HLe.out,HT.out]; simp),HB1.out⟩
      ·have HT:=zi5 ht; clear ht
       go_wp2_with fail
       refine (rpairs_any zaw _ ln _ (H2.out.below HB1.out) (by omega)).mono ?_;rintro e w2 ⟨rfl,hb2⟩;have HX2:=zi5 (zab hb2 z1 HX1.out);have HB2:=zi5 (HB1.out.trans (hb2.mono HB1.out.size));clear hb2 p0 p1 p2;obtain ⟨p0,p1,p2⟩:=zai HX2.out;have z2:w.heap.size < w2.heap.size:=zaa HX2.out;cases hp:zcj ln
       ·have HP:=zi5 hp; clear hp
        go_wp2_with fail
        go_ret;exact ⟨HF.out 5 (by unfold zaz; rw [if_neg HLe.out,HT.out,HP.out]; simp),HB2.out⟩
       ·have HP:=zi5 hp; clear hp
        go_wp2_with fail
        refine (rpairs_any zaw _ ls _ (H3.out.below HB2.out) (by omega)).mono ?_;rintro e w3 ⟨rfl,hb3⟩;have HX3:=zi5 (zab hb3 z2 HX2.out);have HB3:=zi5 (HB2.out.trans (hb3.mono HB2.out.size));clear hb3 p0 p1 p2;cases hs:zcj ls
        ·have HS:=zi5 hs; clear hs
         go_wp2_with fail
         go_ret;exact ⟨HF.out 5 (by unfold zaz; rw [if_neg HLe.out,HT.out,HP.out,HS.out]; simp),HB3.out⟩
        ·have HS:=zi5 hs; clear hs
         have hck:zaz ⟨lt,ln,ls⟩ = if (ln.any fun x=>zg9 lt x.2) = true then 5 else 0:=by
          unfold zaz;rw [if_neg HLe.out,HT.out,HP.out,HS.out]; simp
         have HCk:=zi5 hck; clear hck;go_wp2_with fail
         go_loopw [4] (fun i wr=>∃ k:Nat,k≤ln.length∧i = .int .i64 k∧Below w3.heap.size w3 wr∧Hid (∀ j,j < k→zg9 lt (ln.getD j default).2 = false)) (fun i _=>ln.length - (intOf i).toNat)
         case atStart=>exact ⟨0,by omega,rfl,Below.refl _ _,zi5 fun j hj=>by omega⟩
         case round =>
          obtain ⟨k,hk2,rfl,hbw,HH⟩:=hrel;have HW:=zi5 (HB3.out.trans (hbw.mono HB3.out.size));have HXw:=zi5 (zab hbw (zaa HX3.out) HX3.out);have HBw:=zi5 hbw;clear hbw;have zw:=zaa HXw.out;obtain ⟨p0,p1,p2⟩:=zai HXw.out;by_cases hlt2:k < ln.length
          ·have hq2:decide ((k:Int) < ln.length) = true:=by simp; omega
           have hi:(k:Int) < (ln.length:Int):=by omega
           obtain ⟨b,off,rfl,_,hb,hc⟩:=zcm (H2.out.below HW.out) (by omega);have c1:=hc k hlt2 1 _ rfl;obtain ⟨⟨y,z⟩,hy⟩:∃ y,ln.getD k default = y:=⟨_,rfl⟩;have hmem:ln.getD k default∈ln:=by rw [List.getD,List.getElem?_eq_getElem hlt2]; exact List.getElem_mem hlt2
           rw [hy] at c1 hmem;dsimp only at c1;have HY:=zi5 hy; have HM:=zi5 hmem;clear hc hy hmem;go_wp2_with fail
           refine wp_region_noPanic ?_
           refine wp_region_held_drew (S:=(fun w'=>w'.cell? ⟨w.heap.size,0,none⟩ = some (.slice at1 lt.length ct)∧w'.cell? ⟨w.heap.size,1,none⟩ = some (.slice (some ⟨b,off,none⟩) ln.length cn)∧w'.cell? ⟨b,off + k * 2 + 1,none⟩ = some (zal z))) (by kernel_rfl) (⟨p0,p1,c1⟩) (fun hHeld=>?_)
           refine tH 0 (h:=?_);refine tH 1 (h:=?_);refine tH 2 (h:=?_);refine tH 3 (h:=?_);refine tH 4 (h:=?_);refine tH 5 (h:=?_);refine tH 6 (h:=?_);refine tH 7 (h:=?_);refine wpAnyH_ready (rs:=[8]) (by kernel_rfl) (by simp) ?_
           refine AllReadyH.cons rfl (fun K hK=>?_) AllReadyH.nil
           go_simp;refine (rhas_any zaw _ lt z _ ((H1.out.below HW.out).below (Below.refl _ _).drew) (by omega)).mono ?_; rintro e w' ⟨rfl,rfl⟩
           refine hK.out _ _ (hHeld) (fun hHeld=>?_)
           clear hK K;refine wpAnyH_done (by kernel_rfl) ?_ _;refine NoPanic.normal ?_;cases hh:zg9 lt z
           ·have HHz:=zi5 hh; clear hh
            go_wp2_with fail
            go_roundw
            case rel=>exact ⟨k + 1,by omega,by go_num,HBw.out.drew,zi5 fun j hj=>by
             by_cases e:j = k
             ·subst e; rw [HY.out]; exact HHz.out
             ·exact HH.out j (by omega)⟩
            case measure=>simp [intOf]; omega
           ·have HHz:=zi5 hh; clear hh
            go_wp2_with fail
            go_ret;exact ⟨HF.out 5 (by rw [HCk.out,if_pos (List.any_eq_true.2 ⟨_,HM.out,HHz.out⟩)]),HW.out.drew⟩
          ·have hq2:decide ((k:Int) < ln.length) = false:=by simp; omega
           have hany:(ln.any fun x=>zg9 lt x.2) = false:=by
            rw [List.any_eq_false];intro y hy;obtain ⟨j,hj,rfl⟩:=List.getElem_of_mem hy;have:=HH.out j (by omega);rw [List.getD,List.getElem?_eq_getElem hj] at this;simpa using this
           have HAny:=zi5 hany; clear hany;go_wp2_with fail
           go_ret;exact ⟨HF.out 0 (by rw [HCk.out,HAny.out]; simp),HW.out⟩
end
section
open Go.RowKit
attribute [local go_sem] zah zaj
theorem rnorm_yes (S:Nat→Prop) (vt vn vs:Value) (r:RulesL) (s:ByteArray) (w:World) (h:RulesAt w S vt vn vs r) (hc:zaz r = 0) (hv:zc6 s.data.toList = true) :
  Calls prog 173 #[.agg #[vt,vn,vs],.string s] w fun e w'=>e = .returned (zdf (zc2 r s.data.toList))∧Below w.heap.size w w':=by
 have hs:s.size≤64:=by
  have:=zf9 hv;have h2:s.data.toList.length = s.size:=by simp
  omega
 obtain ⟨⟨k1,k2,k3⟩,g1,g2,g3,g4⟩:=zes hc;have G2:=zi5 g2;have HR:=zi5 h.any;have HC:=zi5 hc; have HV:=zi5 hv;clear h hc hv g1 g2 g3 g4
 have hfin:zc2 r s.data.toList = (if 6 < (za9 r (zcl (zb2 s.data.toList))).length∨64 < (zay (za9 r (zcl (zb2 s.data.toList)))).length then ([],1) else (zay (za9 r (zcl (zb2 s.data.toList))),0)):=by
  unfold zc2; rw [if_pos HC.out,if_pos HV.out]
 have HF:=zi5 hfin; clear hfin;go_enter func173,ntmps173
 go_wp2_with fail
 refine (zdt zaw vt vn vs r _ (HR.out.below ((Below.refl _ _).alloc xnl _))).mono ?_;rw [HC.out];rintro e w1 ⟨rfl,hb1⟩;have X1:w1.heap[w.heap.size]? = some (.cells #[vt,vn,vs] 42 (0,0)):=zab hb1 (by simp) (zac rfl);have HX1:=zi5 X1;have HB1:=zi5 (xbt hb1);clear X1 hb1;go_wp2_with fail
 refine (rfold_yes s _ HV.out).mono ?_;rintro e w2 ⟨rfl,hb2⟩;have HX2:=zi5 (zab hb2 (zaa HX1.out) HX1.out);have HB2:=zi5 (HB1.out.trans (hb2.mono HB1.out.size));clear hb2 HX1 HB1;go_wp2_with fail
 have hfl:(zb2 s.data.toList).length≤64:=by
  have:=zgn s.data.toList;have h2:s.data.toList.length = s.size:=by simp
  omega
 obtain ⟨fl,hfl'⟩:∃ fl,zb2 s.data.toList = fl:=⟨_,rfl⟩;have hasc:ascii fl:=hfl' ▸ zhs _;have HA:=zi5 hasc;rw [hfl'] at hfl HF ⊢;clear hasc hfl';refine (zgf ⟨fl.toArray⟩ _ (by rw [zaj]; omega)).mono ?_;rw [show (⟨fl.toArray⟩:ByteArray).data.toList = fl by simp];rintro e w4 ⟨v4,rfl,ho⟩;obtain ⟨aT,cT,rfl⟩:=za1 ho.1;have hb4:=ho.2;have HX4:=zi5 (zab hb4 (zaa HX2.out) HX2.out);have HB4:=zi5 (HB2.out.trans (hb4.mono HB2.out.size));have hV:=Vec.owns (S:=zaw) (k:=1) (enc:=za2) (fun _=>rfl) ho.1 (fun _ _ _=>trivial)
 have htl:∀ t∈zcl fl,t.length≤64:=fun t ht=>by have:=toks_le fl [] t ht; simp at this; omega
 have htn:(zcl fl).length≤65:=by have:=(zdl fl []).2.1; unfold zcl; omega
 obtain ⟨T,hT⟩:∃ T,zcl fl = T:=⟨_,rfl⟩;rw [hT] at hV htl htn HF ⊢;have HV4:=zi5 hV; have HTL:=zi5 htl;clear hb4 HX2 HB2 ho hV hT htl;go_wp2_with fail
 go_loopw [10,11] (fun v i wr=>∃ k:Nat,k≤T.length∧i = .int .i64 k∧OwnAt w4 v (za9 r (T.take k)) wr) (fun _ i _=>T.length - (intOf i).toNat)
 case atStart=>exact ⟨0,by omega,rfl,OwnAt.start w4⟩
 case round =>
  obtain ⟨k,hk,rfl,ho⟩:=hrel;by_cases hlt:k < T.length
  ·have hq:decide ((k:Int) < T.length) = true:=by simp; omega
   have hi:(k:Int) < (T.length:Int):=by omega
   obtain ⟨b,off,rfl,_,hb,hcx⟩:=zb9 HV4.out (by omega)
   have htk:T.take (k + 1) = T.take k ++ [T.getD k []]:=by
    rw [List.take_succ_eq_append_getElem hlt,List.getD,List.getElem?_eq_getElem hlt]; rfl
   have hxl:(T.getD k []).length≤64:=TL_get HTL.out k hlt;have hcx':=hcx k hlt;obtain ⟨x,hx⟩:∃ x,T.getD k [] = x:=⟨_,rfl⟩;rw [hx] at htk hxl hcx';have c1:wr.cell? ⟨b,off + k,none⟩ = some (zal x):=(ho.2.cell (p:=⟨b,off + k,none⟩) hb).trans hcx';have HT:=zi5 htk; have HO:=zi5 ho;have hnl:=zfp r (T.take k);have hnl2:(za9 r (T.take k)).length < 1099511627776:=by have:=List.length_take_le k T; omega
   clear hx htk hcx hcx' ho hnl;go_wp2_with fail
   refine (zg0 (mkS x) _ (by rw [show (mkS x).size = x.length from zaj x]; omega)).mono ?_;rw [show (mkS x).data.toList = x by simp [mkS]];rintro e w' ⟨rfl,rfl⟩;have HO5:=HO;have hX5:=zab (HO5.out.2) (zaa HX4.out) HX4.out;clear HO;have HNT:=zi5 (show zct r x = if (za6 x).isEmpty || zg9 r.titles (za6 x) then [] else [zbe r.nicks (za6 x)] from rfl);have hyl:=zff x;obtain ⟨y,hy⟩:∃ y,za6 x = y:=⟨_,rfl⟩;rw [hy] at HNT hyl ⊢;clear hy;have HX5:=zi5 hX5;obtain ⟨p0,p1,p2⟩:=zai hX5;clear hX5;by_cases hye:y = []
   ·have e1:(y == []) = true:=by simpa using hye
    have e2:y.isEmpty = true:=by simpa using hye
    have HN:=zi5 (show zct r x = [] by rw [HNT.out,e2]; rfl);clear hye HNT;go_wp2_with fail
    go_roundw
    case rel=>exact ⟨k + 1,by omega,by go_num,by rw [HT.out,zdc,HN.out,List.append_nil]; exact HO5.out⟩
    case measure=>simp [intOf]; omega
   ·have e1:(y == []) = false:=by simpa using hye
    have e2:y.isEmpty = false:=by simpa using hye
    rw [e2,Bool.false_or] at HNT;clear hye;go_wp2_with fail
    refine (rdropped_any zaw vt vn vs r.titles y _ (HR.out.1.below (HB4.out.trans (HO5.out.2.mono HB4.out.size))) (by omega)).mono ?_;rintro e w6 ⟨rfl,hb6⟩;have HO6:=zi5 (HO5.out.below hb6);have hX6:=zab hb6 (zaa HX5.out) HX5.out;clear p0 p1 p2 HX5 hb6 HO5;obtain ⟨p0,p1,p2⟩:=zai hX6;have HX6:=zi5 hX6; clear hX6;cases hd:zg9 r.titles y
    ·have HN:=zi5 (show zct r x = [zbe r.nicks y] by rw [HNT.out,hd]; rfl)
     clear hd HNT;go_wp2_with fail
     refine (rcanonical_any zaw vt vn vs r.nicks y _ (HR.out.2.1.below (HB4.out.trans (HO6.out.2.mono HB4.out.size))) (by omega)).mono ?_;rintro e w7 ⟨rfl,hb7⟩;have HO7:=zi5 (HO6.out.below hb7);clear p0 p1 p2 HX6 hb7 HO6;obtain ⟨z,hz⟩:∃ z,zbe r.nicks y = z:=⟨_,rfl⟩;rw [hz] at HN ⊢;clear hz;have hbz:w4.heap.size≤w7.heap.size:=HO7.out.2.size;go_wp2_with (at_builtin; refine zbf rfl _ _ 27 rfl w4.heap.size 9 1 16 (.string ⟨#[]⟩) underlying27 zdi rfl (by decide) (by decide) _ _ _ rfl HO7.out.1 #[zal z] 1 rfl rfl (by simp [Value.oneCell']) hnl2 hbz ?_; intro v2 w8 ho8 hw8)
     go_roundw
     case rel=>exact ⟨k + 1,by omega,by go_num,by rw [HT.out,zdc,HN.out]; exact ⟨by rw [List.length_append,zdm]; exact ho8,hw8 _ HO7.out.2⟩⟩
     case measure=>simp [intOf]; omega
    ·have HN:=zi5 (show zct r x = [] by rw [HNT.out,hd]; rfl)
     clear hd HNT;go_wp2_with fail
     go_roundw
     case rel=>exact ⟨k + 1,by omega,by go_num,by rw [HT.out,zdc,HN.out,List.append_nil]; exact HO6.out⟩
     case measure=>simp [intOf]; omega
  ·have hq:decide ((k:Int) < T.length) = false:=by simp; omega
   rw [List.take_of_length_le (by omega)] at ho;have HV5:=zi5 (Vec.owns (S:=zaw) (k:=1) (enc:=za2) (fun _=>rfl) ho.1 (fun _ _ _=>trivial))
   have HW:=zi5 (HB4.out.trans (ho.2.mono HB4.out.size));have hnl:=zfp r T;have hjl:=join_le (za9 r T) (nameToks_le G2.out HTL.out);clear ho;obtain ⟨N,hN⟩:∃ N,za9 r T = N:=⟨_,rfl⟩;rw [hN] at HV5 hnl hjl HF;clear hN
   have hjb:(zay N).length≤1000000:=by
    have:N.length * 65≤65 * 65:=Nat.mul_le_mul_right 65 (by omega);omega
   clear hjl;obtain ⟨av,cv,rfl⟩:=HV5.out.slice;go_wp2_with fail
   refine (rjoin_any zaw _ N _ HV5.out (by omega) (by omega)).mono ?_;rintro e w' ⟨rfl,rfl⟩;have HW9:=HW;obtain ⟨J,hJ⟩:∃ J,zay N = J:=⟨_,rfl⟩;rw [hJ] at HF hjb ⊢;clear hJ;by_cases g1:6 < N.length
   ·have d1:decide ((6:Int) < N.length) = true:=by simp; omega
    rw [if_pos (.inl g1)] at HF;go_wp2_with fail
    go_ret2;exact ⟨by rw [HF.out]; rfl,HW9.out⟩
   ·have d1:decide ((6:Int) < N.length) = false:=by simp; omega
    by_cases g2:64 < J.length
    ·have d2:decide ((64:Int) < J.length) = true:=by simp; omega
     rw [if_pos (.inr g2)] at HF;go_wp2_with fail
     go_ret2;exact ⟨by rw [HF.out]; rfl,HW9.out⟩
    ·have d2:decide ((64:Int) < J.length) = false:=by simp; omega
     rw [if_neg (by omega)] at HF;go_wp2_with fail
     go_ret2;exact ⟨by rw [HF.out]; rfl,HW9.out⟩
theorem rnorm_no (S:Nat→Prop) (vt vn vs:Value) (r:RulesL) (s:ByteArray) (w:World) (h:RulesAt w S vt vn vs r) (hs:s.size≤9223372036854775000) (hc:zaz r = 0) (hv:zc6 s.data.toList = false) :
  Calls prog 173 #[.agg #[vt,vn,vs],.string s] w fun e w'=>e = .returned (zdf (zc2 r s.data.toList))∧Below w.heap.size w w':=by
 have HR:=zi5 h.any;have HC:=zi5 hc; have HV:=zi5 hv;clear h hc hv;have HF:=zi5 (show zc2 r s.data.toList = ([],3) by unfold zc2; rw [if_pos HC.out,if_neg (by rw [HV.out]; simp)]);go_enter func173,ntmps173
 go_wp2_with fail
 refine (zdt zaw vt vn vs r _ (HR.out.below ((Below.refl _ _).alloc xnl _))).mono ?_;rw [HC.out];rintro e w1 ⟨rfl,hb1⟩;have HB1:=zi5 (xbt hb1);clear hb1;go_wp2_with fail
 refine (rfold_no s _ hs HV.out).mono ?_;rintro e w2 ⟨rfl,hb2⟩;have HB2:=zi5 (HB1.out.trans (hb2.mono HB1.out.size));clear hb2 HB1;go_wp2_with fail
 go_ret2;exact ⟨by rw [HF.out]; rfl,HB2.out⟩
theorem rnorm_bad (S:Nat→Prop) (vt vn vs:Value) (r:RulesL) (s:ByteArray) (w:World) (h:RulesAt w S vt vn vs r) (hc:zaz r≠0) :
  Calls prog 173 #[.agg #[vt,vn,vs],.string s] w fun e w'=>e = .returned (zdf (zc2 r s.data.toList))∧Below w.heap.size w w':=by
 have HR:=zi5 h.any;have HF:=zi5 (show zc2 r s.data.toList = ([],zaz r) by unfold zc2; rw [if_neg hc]);have hne:(zaz r != 0) = true:=by simpa using hc
 clear h hc;go_enter func173,ntmps173
 go_wp2_with fail
 refine (zdt zaw vt vn vs r _ (HR.out.below ((Below.refl _ _).alloc xnl _))).mono ?_;obtain ⟨c,hcc⟩:∃ c,zaz r = c:=⟨_,rfl⟩;rw [hcc] at hne HF ⊢;clear hcc;rintro e w1 ⟨rfl,hb1⟩;have HB1:=zi5 (xbt hb1);clear hb1;go_wp2_with fail
 go_ret2;exact ⟨by rw [HF.out]; rfl,HB1.out⟩
theorem rnorm_any (S:Nat→Prop) (vt vn vs:Value) (r:RulesL) (s:ByteArray) (w:World) (h:RulesAt w S vt vn vs r) (hs:s.size≤9223372036854775000) :
  Calls prog 173 #[.agg #[vt,vn,vs],.string s] w fun e w'=>e = .returned (zdf (zc2 r s.data.toList))∧Below w.heap.size w w':=by
 by_cases hc:zaz r = 0
 ·cases hv:zc6 s.data.toList with
  | true=>exact rnorm_yes S vt vn vs r s w h hc hv
  | false=>exact rnorm_no S vt vn vs r s w h hs hc hv
 ·exact rnorm_bad S vt vn vs r s w h hc
theorem rnormal_any (S:Nat→Prop) (vt vn vs:Value) (r:RulesL) (s:ByteArray) (w:World) (h:RulesAt w S vt vn vs r) (hs:s.size≤9223372036854775000) :
  Calls prog 182 #[.agg #[vt,vn,vs],.string s] w fun e w'=>e = .returned (.bool (zee (zc2 r s.data.toList) s.data.toList))∧Below w.heap.size w w':=by
 have HR:=zi5 h.any; clear h;have HS:=zi5 (Lib.toList_data s);go_enter func182,ntmps182
 go_wp2_with fail
 refine (rnorm_any zaw vt vn vs r s _ (HR.out.below ((Below.refl _ _).alloc xnl _)) hs).mono ?_;obtain ⟨p,hp⟩:∃ p,zc2 r s.data.toList = p:=⟨_,rfl⟩;rw [hp];have HP:=zi5 hp; clear hp;obtain ⟨pl,pe⟩:=p;unfold zdf;rintro e w1 ⟨rfl,hb1⟩;have HB1:=zi5 (xbt hb1);clear hb1;cases he:(pe == 0)
 all_goals
  go_wp2_with fail
  go_ret;refine ⟨za0 ?_,HB1.out⟩;rw [HP.out];simp [zee,he,HS.out]
end
section
open Go.RowKit
attribute [local go_sem] zah zaj zar
theorem rword_any (l:List UInt8) (w:World) :
  Calls prog 117 #[zal l] w fun e w'=>e = .returned (.bool (wordB l))∧w = w':=by
 unfold wordB;by_cases h0:l = []
 ·subst h0
  go_enter func117,ntmps117
  go_wp2
  go_ret;exact ⟨rfl,rfl⟩
 ·have h1:l.isEmpty = false:=by simpa using h0
  have h2:(l == []) = false:=by simpa using h0
  have h2':(l != []) = true:=by simpa using h0
  rw [h1];by_cases h3:l.length≤12
  ·have h4:decide (l.length≤12) = true:=by simpa using h3
   have h5:decide ((l.length:Int)≤12) = true:=by simp; omega
   rw [h4];clear h0 h4;go_enter func117,ntmps117
   go_wp2_with fail
   refine (zg0 ⟨l.toArray⟩ _ (by rw [zaj]; omega)).mono ?_;rw [show (⟨l.toArray⟩:ByteArray).data.toList = l by simp];rintro e w1 ⟨rfl,rfl⟩;go_wp2_with fail
   go_ret;exact ⟨rfl,rfl⟩
  ·have h4:decide (l.length≤12) = false:=by simpa using h3
   have h5:decide ((l.length:Int)≤12) = false:=by simp; omega
   rw [h4];clear h0 h4;go_enter func117,ntmps117
   go_wp2_with fail
   go_ret;exact ⟨rfl,rfl⟩
theorem any_take_true {F:List F2} {k j:Nat} {nm:List UInt8} (hj:j < k) (hk:k≤F.length) (h:((F.getD j default).1 == nm) = true) :
  (F.take k).any (fun y=>y.1 == nm) = true:=by
 rw [List.any_eq_true];refine ⟨F.getD j default,?_,h⟩;have h1:j < F.length:=by omega
 rw [List.mem_take_iff_getElem];exact ⟨j,by omega,by simp [List.getD,List.getElem?_eq_getElem h1]⟩
theorem any_take_false {F:List F2} {k:Nat} {nm:List UInt8} (h:∀ j,j < k→((F.getD j default).1 == nm) = false) :
  (F.take k).any (fun y=>y.1 == nm) = false:=by
 rw [List.any_eq_false];intro x hx;obtain ⟨j,hj,rfl⟩:=List.mem_take_iff_getElem.1 hx;have h1:j < F.length:=by omega
 have:=h j (by omega);simp [List.getD,List.getElem?_eq_getElem h1] at this;simpa using this
theorem zds (S:Nat→Prop) (vf vt vn vs:Value) (s:SchemaL) (w:World) (h:SchemaAt w S vf vt vn vs s) :
  Calls prog 58 #[.agg #[vf,vt,vn,vs]] w fun e w'=>e = .returned (.int .i64 (zax s))∧Below w.heap.size w w':=by
 obtain ⟨F,r⟩:=s;obtain ⟨h1,h2⟩:=h;dsimp only at h1 h2;obtain ⟨af,cf,rfl⟩:=h1.slice;have H1:=zi5 h1.any; have H2:=zi5 h2.any;clear h1 h2;have hfin:∀ n:Int,zax ⟨F,r⟩ = n→Ending.returned (.int .i64 n) = .returned (.int .i64 (zax ⟨F,r⟩)):=fun n h=>by rw [h]
 have HF:=zi5 hfin; clear hfin;by_cases g1:F.length < 1
 ·have d1:decide ((F.length:Int) < 1) = true:=by simp; omega
  go_enter func58,ntmps58
  go_wp2_with fail
  go_ret;exact ⟨HF.out 6 (by unfold zax; rw [if_pos (.inl g1)]),(Below.refl _ _).alloc xnl _⟩
 ·have d1:decide ((F.length:Int) < 1) = false:=by simp; omega
  by_cases g2:5 < F.length
  ·have d2:decide ((5:Int) < F.length) = true:=by simp; omega
   go_enter func58,ntmps58
   go_wp2_with fail
   go_ret;exact ⟨HF.out 6 (by unfold zax; rw [if_pos (.inr g2)]),(Below.refl _ _).alloc xnl _⟩
  ·have d2:decide ((5:Int) < F.length) = false:=by simp; omega
   have HN:=zi5 (show ¬ (F.length < 1∨5 < F.length) by omega);obtain ⟨b,off,rfl,_,hb,hc⟩:=zcm H1.out (by omega);have HC:=zi5 hc; clear hc;go_enter func58,ntmps58
   go_wp2_with fail
   clear d1 d2;go_loopw [3] (fun i wr=>∃ k:Nat,k≤F.length∧i = .int .i64 k∧wr.heap[w.heap.size]? = some (.cells #[.slice (some ⟨b,off,none⟩) F.length cf,vt,vn,vs] 44 (0,0))∧Below w.heap.size w wr∧∀ j,j < k→zcd F j = true) (fun i _=>F.length - (intOf i).toNat)
   case atStart=>exact ⟨0,by omega,rfl,zac rfl,(Below.refl _ _).alloc xnl _,fun j hj=>by omega⟩
   case round =>
    obtain ⟨k,hk,rfl,hX,hbw,ha⟩:=hrel;have HA:=zi5 ha; clear ha;obtain ⟨p0,p1,p2,p3⟩:=zbz hX;have zX:=zaa hX;have HX:=zi5 hX; clear hX;have HW:=zi5 hbw;by_cases hlt:k < F.length
    ·obtain ⟨wu,rfl⟩:∃ wu:World,wu = wr:=⟨_,rfl⟩
     have hq:decide ((k:Int) < F.length) = true:=by simp; omega
     have hi:(k:Int) < (F.length:Int):=by omega
     obtain ⟨x,hx⟩:∃ x,F.getD k default = x:=⟨_,rfl⟩;have hc:=HC.out k hlt;rw [hx] at hc;have c0:wu.cell? ⟨b,off + k * 2,none⟩ = some (zal x.1):=(hbw.cell (p:=⟨b,off + k * 2,none⟩) hb).trans (hc 0 _ rfl);have c1:wu.cell? ⟨b,off + k * 2 + 1,none⟩ = some (.int .i64 x.2):=(hbw.cell (p:=⟨b,off + k * 2 + 1,none⟩) hb).trans (hc 1 _ rfl);have hfa:zcd F k = (wordB x.1 && !((F.take k).any fun y=>y.1 == x.1) && decide (1≤x.2) && decide (x.2≤4)):=by simp only [zcd]; rw [hx]
     have HFa:=zi5 hfa;obtain ⟨nm,kd⟩:=x;dsimp only at c0 c1 HFa;clear hx hc hbw hfa;have hYF:∀ x:Bool,zcd F k = false→Ending.returned (.int .i64 6) = Ending.returned (.int .i64 (zax ⟨F,r⟩)):=fun _ hf=>HF.out 6 (by unfold zax; rw [if_neg HN.out,if_neg (by rw [zfi,zcb hlt hf]; simp)])
     have HYF:=zi5 (hYF true); clear hYF;go_wp2_with fail
     refine (rword_any nm _).mono ?_;obtain ⟨wb,hwb⟩:∃ wb,wordB nm = wb:=⟨_,rfl⟩;rw [hwb] at HFa ⊢;clear hwb;rintro e w3 ⟨rfl,rfl⟩;cases wb
     ·have HFa:=zi5 (show zcd F k = false by rw [HFa.out]; rfl)
      go_wp2_with fail
      go_ret;exact ⟨HYF.out HFa.out,HW.out.alloc HW.out.size _⟩
     ·by_cases k1:1≤kd
      ·have k1':decide (kd < 1) = false:=by simp; omega
       by_cases k4:kd≤4
       ·have k4':decide (4 < kd) = false:=by simp; omega
        have HFa:=zi5 (show zcd F k = !((F.take k).any fun y=>y.1 == nm) by rw [HFa.out]; simp [k1,k4])
        go_wp2_with fail
        go_loopw [5] (fun i wr=>∃ j:Nat,j≤k∧i = .int .i64 j∧wr.heap[w.heap.size]? = some (.cells #[.slice (some ⟨b,off,none⟩) F.length cf,vt,vn,vs] 44 (0,0))∧wr.heap[wu.heap.size]? = some (.cells #[zal nm,.int .i64 kd] 95 (0,0))∧Below w.heap.size w wr∧∀ m,m < j→((F.getD m default).1 == nm) = false) (fun i _=>k - (intOf i).toNat)
        case atStart=>exact ⟨0,by omega,rfl,zaf HX.out,zac rfl,HW.out.alloc HW.out.size _,fun m hm=>by omega⟩
        case round =>
         obtain ⟨j,hj,rfl,hX,hY2,hbi,ha⟩:=hrel;have HAi:=zi5 ha; clear ha;obtain ⟨p0,p1,p2,p3⟩:=zbz hX;have q0:wr.cell? ⟨wu.heap.size,0,none⟩ = some (zal nm):=by rw [cell_of_row _ _ _ _ _ _ hY2]; rfl
         have zXi:=zaa hX; have zYi:=zaa hY2;have HXi:=zi5 hX; have HYi:=zi5 hY2; have HWi:=zi5 hbi;clear hX hY2;by_cases hjk:j < k
         ·have hqj:decide ((j:Int) < k) = true:=by simp; omega
          have hij:(j:Int) < (F.length:Int):=by omega
          obtain ⟨y,hy⟩:∃ y,F.getD j default = y:=⟨_,rfl⟩;have hcj:=HC.out j (by omega);rw [hy] at hcj;have e0:wr.cell? ⟨b,off + j * 2,none⟩ = some (zal y.1):=(hbi.cell (p:=⟨b,off + j * 2,none⟩) hb).trans (hcj 0 _ rfl);have HE:=zi5 (show ((F.getD j default).1 == nm) = (y.1 == nm) by rw [hy]);obtain ⟨ny,ky⟩:=y;dsimp only at e0 HE;clear hcj hy hbi;cases hn:ny == nm
          ·rw [hn] at HE
           go_wp2_with fail
           go_quiet (fail)
           go_wp2_with fail
           go_roundw
           case rel=>exact ⟨j + 1,by omega,by go_num,zab (below_drewN (Below.refl _ _) _) zXi HXi.out,zab (below_drewN (Below.refl _ _) _) zYi HYi.out,below_drewN HWi.out _,fun m hm=>by
            by_cases e:m = j
            ·subst e; exact HE.out
            ·exact HAi.out m (by omega)⟩
           case measure=>simp [intOf]; omega
          ·rw [hn] at HE
           go_wp2_with fail
           go_quiet (fail)
           go_wp2_with fail
           go_ret;exact ⟨HYF.out (by rw [HFa.out,any_take_true hjk hk HE.out]; rfl),below_drewN HWi.out _⟩
         ·have hqj:decide ((j:Int) < k) = false:=by simp; omega
          have hjk':j = k:=by omega
          subst hjk';clear hbi;go_wp2_with fail
          go_roundw
          case rel=>exact ⟨j + 1,by omega,by go_num,HXi.out,HWi.out,fun m hm=>by
           by_cases e:m = j
           ·subst e; rw [HFa.out,any_take_false HAi.out]; rfl
           ·exact HA.out m (by omega)⟩
          case measure=>simp [intOf]; omega
       ·have k4':decide (4 < kd) = true:=by simp; omega
        have HFa:=zi5 (show zcd F k = false by rw [HFa.out]; simp [k4]);go_wp2_with fail
        go_ret;exact ⟨HYF.out HFa.out,HW.out.alloc HW.out.size _⟩
      ·have k1':decide (kd < 1) = true:=by simp; omega
       have HFa:=zi5 (show zcd F k = false by rw [HFa.out]; simp [k1]);go_wp2_with fail
       go_ret;exact ⟨HYF.out HFa.out,HW.out.alloc HW.out.size _⟩
    ·have hq:decide ((k:Int) < F.length) = false:=by simp; omega
     clear hbw;go_wp2_with fail
     refine (zdt zaw vt vn vs r _ (H2.out.below HW.out)).mono ?_;obtain ⟨c,hc⟩:∃ c,zaz r = c:=⟨_,rfl⟩;rw [hc];have HCc:=zi5 hc; clear hc;rintro e w3 ⟨rfl,hb3⟩;have HW3:=zi5 (HW.out.trans (hb3.mono HW.out.size));clear hb3;go_wp2_with fail
     go_ret;exact ⟨HF.out c (by unfold zax; rw [if_neg HN.out,if_pos (by rw [zfi]; exact zi2 fun j hj=>HA.out j (by have hj':j < F.length:=hj; omega))]; exact HCc.out),HW3.out⟩
end
section
open Go.RowKit
attribute [local go_sem] zah zaj zar
@[local go_sem] theorem get_zero4 (c:UInt8) (l:List UInt8) (h:0 < (⟨(c :: l).toArray⟩:ByteArray).size):(⟨(c :: l).toArray⟩:ByteArray)[0]'h = c:=rfl
@[local go_sem] theorem get_one4 (c d:UInt8) (l:List UInt8) (h:1 < (⟨(c :: d :: l).toArray⟩:ByteArray).size):(⟨(c :: d :: l).toArray⟩:ByteArray)[1]'h = d:=rfl
theorem rnumeral_any (l:List UInt8) (w:World) :
  Calls prog 259 #[zal l] w fun e w'=>e = .returned (.bool (zc1 l))∧w = w':=by
 cases l with
 | nil =>
  go_enter func259,ntmps259
  go_wp2
  go_ret;exact ⟨rfl,rfl⟩
 | cons c l =>
  have HD:=zi5 (zer c)
  by_cases h1:48≤(c.toNat:Int) <;> by_cases h2:(c.toNat:Int)≤57
  all_goals
   go_enter func259,ntmps259
   go_wp2
   go_ret;exact ⟨za0 (by rw [show zc1 (c :: l) = isDgt c from rfl,HD.out]; simp; try omega),rfl⟩
theorem short_stop {c:UInt8} {l:List UInt8} (h:zc1 (c :: l) = true) (hs:c≠48∨zc1 l = false):zbn (c :: l) = c :: l:=by
 by_cases hc:c = 48
 ·subst hc
  have hn:zc1 l = false:=hs.resolve_left (fun h=>h rfl)
  have hd:l.dropWhile (· == 48) = l:=by
   cases l with
   | nil=>rfl
   | cons d r =>
    rw [List.dropWhile_cons,if_neg];intro e;have:d = 48:=by simpa using e
    subst this;have h48:zc1 (48 :: r) = true:=rfl;rw [h48] at hn; cases hn
  unfold zbn;rw [show (48 :: l).dropWhile (· == 48) = l.dropWhile (· == 48) from rfl,hd,if_neg (by rw [hn]; simp)]
 ·unfold zbn
  have hd:(c :: l).dropWhile (· == 48) = c :: l:=by rw [List.dropWhile_cons,if_neg (by simpa using hc)]
  rw [hd,if_pos h]
theorem short_next {l:List UInt8}:zbn (48 :: l) = zbn l:=by
 unfold zbn; rfl
theorem rtrimmed_any (x:List UInt8) (w:World) (hx:zc1 x = true) (hl:x.length≤1000000) :
  Calls prog 226 #[zal x] w fun e w'=>e = .returned (zal (zbn x))∧w = w':=by
 have HX:=zi5 hx; clear hx;go_enter func226,ntmps226
 go_wp2_with fail
 go_loop [0] (fun s=>∃ l:List UInt8,s = zal l∧l.length≤1000000∧Hid (zc1 l = true)∧Hid (zbn x = zbn l)) (fun s=>match s with | .string b=>b.size | _=>0)
 case atStart=>exact ⟨x,rfl,hl,HX,zi5 rfl⟩
 case round =>
  obtain ⟨l,rfl,hlen,HN,HS⟩:=hrel;cases l with
  | nil=>exact absurd HN.out (by decide)
  | cons c l =>
   cases l with
   | nil =>
    have hfin:zbn x = [c]:=by rw [HS.out]; exact short_stop HN.out (.inr rfl)
    have HF:=zi5 hfin; clear hfin;go_wp2_with fail
    go_ret;exact ⟨by show Ending.returned (zal [c]) = _; rw [HF.out],rfl⟩
   | cons d r =>
    have hb:=c.toNat_lt;have hb2:=d.toNat_lt;have hl2:1 < (c :: d :: r).length:=by simp
    by_cases hc:c = 48
    ·have e1:((c.toNat:Int) == 48) = true:=by rw [hc]; rfl
     cases hd:isDgt d
     ·have hfin:zbn x = c :: d :: r:=by rw [HS.out]; exact short_stop HN.out (.inr hd)
      have HF:=zi5 hfin; clear hfin;rw [zer,decide_eq_false_iff_not] at hd;have hcd:(48≤(d.toNat:Int)∧57 < (d.toNat:Int))∨(d.toNat:Int) < 48:=by omega
      clear hd hc
      rcases hcd with ⟨g1,g2⟩ | g1
      all_goals
       go_wp2_with fail
       go_ret;exact ⟨by show Ending.returned (zal (c :: d :: r)) = _; rw [HF.out],rfl⟩
     ·have HN2:=zi5 (show zc1 (d :: r) = true from hd)
      have HS2:=zi5 (show zbn x = zbn (d :: r) by rw [HS.out,hc]; exact short_next);rw [zer,decide_eq_true_iff] at hd;obtain ⟨g1,g2⟩:=hd
      have hext:(⟨(c :: d :: r).toArray⟩:ByteArray).extract 1 (r.length + 1 + 1) = ⟨(d :: r).toArray⟩:=by
       have:=ext_mk (c :: d :: r) 1 (r.length + 1 + 1) (by simp);unfold mkS at this;rw [this,List.take_of_length_le (by simp)]; rfl
      clear hc;go_wp2_with fail
      go_round
      case rel=>exact ⟨d :: r,rfl,by simp at hlen ⊢; omega,HN2,HS2⟩
      case measure=>simp [zaj]
    ·have e1:((c.toNat:Int) == 48) = false:=by
      simp only [beq_eq_false_iff_ne,ne_eq]; intro e; apply hc; rw [← UInt8.toNat_inj]; simp; omega
     have hfin:zbn x = c :: d :: r:=by rw [HS.out]; exact short_stop HN.out (.inl hc)
     have HF:=zi5 hfin; clear hfin hc;go_wp2_with fail
     go_ret;exact ⟨by show Ending.returned (zal (c :: d :: r)) = _; rw [HF.out],rfl⟩
def PartsPost (L:List (List UInt8)) (w:World) (e:Ending) (w':World):Prop:=∃ u v,e = .returned (.tuple #[u,v])∧TwoAt w v u (L.filter zc1) (L.filter fun x=>!zc1 x) w'
theorem rparts_any (S:Nat→Prop) (v:Value) (L:List (List UInt8)) (w:World) (h:Vec w S 1 za2 v L) (hn:L.length≤1000000) :
  Calls prog 224 #[v] w (PartsPost L w):=by
 obtain ⟨a,cap,rfl⟩:=h.slice;have HV:=zi5 h; clear h;go_enter func224,ntmps224
 go_wp2_with fail
 go_loopw [4,5,6] (fun n y i wr=>∃ k:Nat,k≤L.length∧i = .int .i64 k∧TwoAt w y n ((L.take k).filter zc1) ((L.take k).filter fun x=>!zc1 x) wr) (fun _ _ i _=>L.length - (intOf i).toNat)
 case atStart=>exact ⟨0,by omega,rfl,TwoAt.start w⟩
 case round =>
  obtain ⟨k,hk,rfl,ho⟩:=hrel;have HO:=zi5 ho; clear ho;by_cases hlt:k < L.length
  ·have hq:decide ((k:Int) < L.length) = true:=by simp; omega
   have hi:(k:Int) < (L.length:Int):=by omega
   obtain ⟨b,off,rfl,_,hb,hcx⟩:=zb9 HV.out (by omega);have htk:=zhj L k hlt;have hcx':=hcx k hlt;obtain ⟨x,hx⟩:∃ x,L.getD k [] = x:=⟨_,rfl⟩;rw [hx] at htk hcx';have c1:wr.cell? ⟨b,off + k,none⟩ = some (zal x):=(HO.out.2.2.2.cell (p:=⟨b,off + k,none⟩) hb).trans hcx';have HT:=zi5 htk;have l1:((L.take k).filter zc1).length < 1099511627776:=by have:=List.length_filter_le zc1 (L.take k); have:=List.length_take_le k L; omega
   have l2:((L.take k).filter fun x=>!zc1 x).length < 1099511627776:=by have:=List.length_filter_le (fun x=>!zc1 x) (L.take k); have:=List.length_take_le k L; omega
   have hbz:w.heap.size≤wr.heap.size:=HO.out.2.2.2.size;clear hx htk hcx hcx';go_wp2_with fail
   refine (rnumeral_any x _).mono ?_;rintro e w' ⟨rfl,rfl⟩;cases hd:zc1 x
   ·have F1:=zi5 (zev (p:=zc1) (L.take k) x hd)
    have F2:=zi5 (zef (p:=fun x=>!zc1 x) (L.take k) x (by simp [hd]))
    clear hd;go_wp2_with (at_builtin; refine zcx rfl _ _ 27 rfl w.heap.size 9 1 16 (.string ⟨#[]⟩) underlying27 zdi rfl (by decide) (by decide) _ _ _ rfl HO.out.2.1 #[zal x] 1 rfl rfl (by simp [Value.oneCell']) l2 hbz ?_; intro v2 w8 ho8 hg8 hat8 hw8)
    go_roundw
    case rel=>exact ⟨k + 1,by omega,by go_num,by rw [HT.out,F1.out,F2.out]; exact (HO.out.swap.put ho8 hg8 hat8 hw8).swap⟩
    case measure=>simp [intOf]; omega
   ·have F1:=zi5 (zef (p:=zc1) (L.take k) x hd)
    have F2:=zi5 (zev (p:=fun x=>!zc1 x) (L.take k) x (by simp [hd]))
    clear hd;go_wp2_with (at_builtin; refine zcx rfl _ _ 27 rfl w.heap.size 9 1 16 (.string ⟨#[]⟩) underlying27 zdi rfl (by decide) (by decide) _ _ _ rfl HO.out.1 #[zal x] 1 rfl rfl (by simp [Value.oneCell']) l1 hbz ?_; intro v2 w8 ho8 hg8 hat8 hw8)
    go_roundw
    case rel=>exact ⟨k + 1,by omega,by go_num,by rw [HT.out,F1.out,F2.out]; exact HO.out.put ho8 hg8 hat8 hw8⟩
    case measure=>simp [intOf]; omega
  ·have hq:decide ((k:Int) < L.length) = false:=by simp; omega
   rw [List.take_of_length_le (by omega)] at HO;go_wp2_with fail
   go_ret2;exact ⟨_,_,rfl,HO.out⟩
end
section
open Go.RowKit
attribute [local go_sem] zah zaj zar
def noSp (l:List UInt8):List UInt8:=l.filter (· != 32)
theorem flat_noSp (l:List UInt8):∀ p,(zby p l).flatten = p ++ noSp l:=by
 induction l with
 | nil =>
  intro p;by_cases hp:p = []
  ·subst hp; simp [zby,noSp]
  ·rw [zea _ hp]; simp [noSp]
 | cons c l ih =>
  intro p;by_cases hc:c = 32
  ·subst hc
   have e:noSp (32 :: l) = noSp l:=by simp [noSp]
   by_cases hp:p = []
   ·subst hp; rw [zbm,ih,e]
   ·rw [zb3 _ _ hp,List.flatten_cons,ih,e]; simp
  ·have e:noSp (c :: l) = c :: noSp l:=by simp [noSp,hc]
   rw [zb4 _ _ _ hc,ih,e]; simp
theorem noSp_snoc (l:List UInt8) (c:UInt8):noSp (l ++ [c]) = if c = 32 then noSp l else noSp l ++ [c]:=by
 unfold noSp
 by_cases h:c = 32 <;> simp [List.filter_append,h]
theorem rcode_yes (s:ByteArray) (w:World) (hv:zc6 s.data.toList = true) :
  Calls prog 174 #[.string s] w fun e w'=>e = .returned (zdf (zdn s.data.toList))∧Below w.heap.size w w':=by
 have hfl:=zgn s.data.toList;have h64:=zf9 hv
 have hcode:zdn s.data.toList = if 12 < (noSp (zb2 s.data.toList)).length then ([],1) else (noSp (zb2 s.data.toList),0):=by
  unfold zdn zcl;rw [if_pos hv,flat_noSp]; rfl
 have HV:=zi5 hv;obtain ⟨fl,hfl'⟩:∃ fl,zb2 s.data.toList = fl:=⟨_,rfl⟩;have hc:=rfold_yes s w hv;rw [hfl'] at hfl hcode hc;have HC:=zi5 hc; have HCode:=zi5 hcode;have hl:fl.length≤64:=by omega
 clear hv hfl' hcode hc hfl h64;go_enter func174,ntmps174
 go_wp2_with fail
 refine HC.out.mono ?_;rintro e w1 ⟨rfl,hb1⟩;have HB1:=zi5 hb1; clear hb1 HC;obtain ⟨sf,hsf⟩:∃ sf:ByteArray,(⟨fl.toArray⟩:ByteArray) = sf:=⟨_,rfl⟩;have hsl:sf.data.toList = fl:=by rw [← hsf]
 have hss:sf.size = fl.length:=by rw [← hsf]; exact zaj fl
 rw [show zal fl = .string sf by rw [← hsf]];have HSL:=zi5 hsl; have HSS:=zi5 hss;have hsb:sf.size≤64:=by omega
 clear hsf hsl hss hl;go_wp2_with fail
 go_loop [6,7] (fun o i=>∃ k:Nat,k≤sf.size∧i = .int .i64 k∧o = zal (noSp (fl.take k))) (fun _ i=>sf.size - (intOf i).toNat)
 case atStart=>exact ⟨0,by omega,rfl,rfl⟩
 case round =>
  obtain ⟨k,hk,rfl,rfl⟩:=hrel
  have hol:(noSp (fl.take k)).length≤64:=by
   have:=List.length_filter_le (fun c:UInt8=>c != 32) (fl.take k)
   have:=List.length_take_le k fl;unfold noSp; omega
  by_cases hlt:k < sf.size
  ·have hq:decide ((k:Int) < sf.size) = true:=by simp; omega
   have hb:=sf[k].toNat_lt;have hts:=zem sf k hlt;rw [HSL.out] at hts;have hns:=noSp_snoc (fl.take k) sf[k];rw [← hts] at hns;have HNs:=zi5 hns;clear hts hns;by_cases hsp:sf[k] = 32
   ·have e1:((sf[k].toNat:Int) != 32) = false:=by rw [hsp]; rfl
    have HSp:=zi5 hsp; clear hsp;go_wp2_with fail
    go_round
    case rel=>exact ⟨k + 1,by omega,by go_num,by rw [HNs.out,if_pos HSp.out]⟩
    case measure=>simp [intOf]; omega
   ·have e1:((sf[k].toNat:Int) != 32) = true:=by
     simp only [bne_iff_ne,ne_eq]; intro e; apply hsp; rw [← UInt8.toNat_inj]; simp; omega
    have hext:=ext_one sf k hlt;have HSp:=zi5 hsp; clear hsp;go_wp2_with fail
    go_round
    case rel=>exact ⟨k + 1,by omega,by go_num,by rw [HNs.out,if_neg HSp.out]⟩
    case measure=>simp [intOf]; omega
  ·have hq:decide ((k:Int) < sf.size) = false:=by simp; omega
   have htk:fl.take k = fl:=List.take_of_length_le (by rw [← HSS.out]; omega);rw [htk] at hol ⊢;obtain ⟨O,hO⟩:∃ O,noSp fl = O:=⟨_,rfl⟩;rw [hO] at hol HCode ⊢;clear htk hO;by_cases g:12 < O.length
   ·have d1:decide ((12:Int) < O.length) = true:=by simp; omega
    have HF:=zi5 (show zdn s.data.toList = ([],1) by rw [HCode.out,if_pos g]);clear g;go_wp2_with fail
    go_ret2;exact ⟨by rw [HF.out]; rfl,HB1.out⟩
   ·have d1:decide ((12:Int) < O.length) = false:=by simp; omega
    have HF:=zi5 (show zdn s.data.toList = (O,0) by rw [HCode.out,if_neg g]);clear g;go_wp2_with fail
    go_ret2;exact ⟨by rw [HF.out]; rfl,HB1.out⟩
theorem rcode_no (s:ByteArray) (w:World) (hs:s.size≤9223372036854775000) (hv:zc6 s.data.toList = false) :
  Calls prog 174 #[.string s] w fun e w'=>e = .returned (zdf (zdn s.data.toList))∧Below w.heap.size w w':=by
 have HF:=zi5 (show zdn s.data.toList = ([],3) by unfold zdn; rw [if_neg (by rw [hv]; simp)]);have HV:=zi5 hv; clear hv;go_enter func174,ntmps174
 go_wp2_with fail
 refine (rfold_no s _ hs HV.out).mono ?_;rintro e w1 ⟨rfl,hb1⟩;have HB1:=zi5 hb1; clear hb1;go_wp2_with fail
 go_ret2;exact ⟨by rw [HF.out]; rfl,HB1.out⟩
theorem rcode_any (s:ByteArray) (w:World) (hs:s.size≤9223372036854775000) :
  Calls prog 174 #[.string s] w fun e w'=>e = .returned (zdf (zdn s.data.toList))∧Below w.heap.size w w':=by
 cases hv:zc6 s.data.toList with
 | true=>exact rcode_yes s w hv
 | false=>exact rcode_no s w hs hv
theorem rnormed_any (s:ByteArray) (w:World) (hs:s.size≤9223372036854775000) :
  Calls prog 183 #[.string s] w fun e w'=>e = .returned (.bool (zee (zdn s.data.toList) s.data.toList))∧Below w.heap.size w w':=by
 have HS:=zi5 (Lib.toList_data s);go_enter func183,ntmps183
 go_wp2_with fail
 refine (rcode_any s _ hs).mono ?_;obtain ⟨p,hp⟩:∃ p,zdn s.data.toList = p:=⟨_,rfl⟩;rw [hp];have HP:=zi5 hp; clear hp;obtain ⟨pl,pe⟩:=p;unfold zdf;rintro e w1 ⟨rfl,hb1⟩;have HB1:=zi5 hb1; clear hb1;cases he:(pe == 0)
 all_goals
  go_wp2_with fail
  go_ret;refine ⟨za0 ?_,HB1.out⟩;rw [HP.out];simp [zee,he,HS.out]
end
end Go.Proofs.YtpmpdonccgcehaaGreatDoor
