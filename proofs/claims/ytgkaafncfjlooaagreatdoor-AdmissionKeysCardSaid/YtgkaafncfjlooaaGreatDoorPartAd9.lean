/- Parts of one proof: Ref18C, RefGrow, Ref18F, EncM, RefBitsE, RefSipA, RefSipB, RefSipC, Ref16A, RefBloomA, Ref16B, RefBloomB, RefBloomC, RefGramB, RefSchF, RefRecD, RefRecE. -/
import Derived.Test.YtgkaafncfjlooaaGreatDoorPartAd8
set_option maxHeartbeats 16000000
set_option maxRecDepth 100000
open Go.Proofs.Tryz
set_option linter.unusedSimpArgs false
set_option linter.unusedVariables false
namespace Go.Proofs.YtgkaafncfjlooaaGreatDoor
section
open Go.RowKit
theorem rsizes_any (S:Nat→Prop) (v:Value) (G:List GrpL) (w:World) (h:GroupsAt w S v G) (hn:G.length≤1000000) :
  Calls prog 49 #[v] w fun e w'=>∃ v',e = .returned v'∧OwnV 3 1 zjh w v' (zaz G) w':=by
 obtain ⟨a,cap,rfl⟩:=h.slice;have HK:=zjp h; clear h;obtain ⟨n,hln⟩:∃ n,G.length = n:=⟨_,rfl⟩;have HN:=zjp hln;rw [hln] at hn HK ⊢;clear hln;go_enter func49,ntmps49
 go_wp2_with fail
 go_loopw [3,4] (fun o j wr=>∃ k:Nat,j = .int .i64 k∧k≤n∧OwnV 3 1 zjh w o (zaz (G.take k)) wr) (fun _ j _=>n - (intOf j).toNat)
 case atStart=>exact ⟨0,rfl,by omega,by simpa [zaz] using OwnV.start _ _ _ _⟩
 case round =>
  obtain ⟨k,rfl,hk,ho⟩:=hrel;have HO:=zjp ho; clear ho;by_cases hlt:k < n
  ·have hq:decide ((k:Int) < n) = true:=by simp; omega
   have hki:(k:Int) < (n:Int):=by omega
   have hlt':k < G.length:=by rw [HN.out]; exact hlt
   obtain ⟨b,off,⟨len,wa,wn,wc,ma,mn,mc,ws,mem⟩,e,lb,⟨c0,c1,c2⟩,hw,hm,hp⟩:=(HK.out.below HO.out.2).at k hlt';cases e;have hmn:=hm.lenN;dsimp only at hmn c0 c1 c2;have hmem:G[k].mem.length = mn:=by rw [← hp,hmn]; rfl
   have hmore:=sizesG_more G k hlt';rw [hmem] at hmore;have HM:=zjp hmore;have hsl:(zaz (G.take k)).length = k:=by simp [zaz]; omega
   have HSl:=zjp hsl;clear hw hm hp hmn hmem hmore hsl;have hbz:=HO.out.2.size;have ho5:=HO.out;have ho6:=ho5.1;rw [HSl.out] at ho6;have HO6:=zjp ho6; have HB6:=zjp ho5.2;clear ho5 ho6;go_wp2_with (at_builtin; refine zcj rfl _ _ 22 rfl w.heap.size 3 1 8 (.int .i64 0) underlying22 infoZ rfl (by decide) (by decide) _ _ _ rfl HO6.out wr.heap.size (by simp) #[.int .i64 mn] 1 rfl rfl (by simp [Value.oneCell']) (by omega) HB6.out.size ?_; intro v8 w8 ho8 hw8)
   go_roundw
   case rel =>
    refine ⟨k + 1,by go_num,by omega,?_⟩;rw [HM.out];exact ⟨by rw [List.length_append,HSl.out,List.flatMap_append]; exact ho8,hw8 _ HB6.out⟩
   case measure=>simp [intOf]; omega
  ·have hq:decide ((k:Int) < n) = false:=by simp; omega
   have hfin:zaz (G.take k) = zaz G:=by rw [List.take_of_length_le (by rw [HN.out]; omega)]
   rw [hfin] at HO;clear hfin;go_wp2_with fail
   go_ret;exact ⟨_,rfl,HO.out⟩
theorem rsingular_any (S:Nat→Prop) (v:Value) (G:List GrpL) (w:World) (h:GroupsAt w S v G) (hn:G.length≤1000) (hm:∀ g∈G,g.mem.length≤1000) :
  Calls prog 18 #[v] w fun e w'=>e = .returned (.int .i64 (zbx G))∧Below w.heap.size w w':=by
 obtain ⟨a,cap,rfl⟩:=h.slice;have HK:=zjp h; have HMm:=zjp hm;have hl:(zaz G).length = G.length:=by simp [zaz]
 obtain ⟨r,hr⟩:∃ r,zbx G = r:=⟨_,rfl⟩;rw [hr];have HR:=zjp hr;obtain ⟨n,hln⟩:∃ n,G.length = n:=⟨_,rfl⟩;have HN:=zjp hln;rw [hln] at hl hn HK ⊢;have HLs:=zjp hl;clear h hr hm hln hl;go_enter func18,ntmps18
 go_wp2_with fail
 go_loopw [3,4,5,6] (fun o j _ _ wr=>∃ k:Nat,j = .int .i64 k∧k≤n∧Below w.heap.size w wr∧∃ q:Int,o = .int .i64 q∧0≤q∧q≤1000 * k∧Hid ((((zaz G).take k).map fun x=>if (zbz (zaz G) x).2 = true then x else 0).sum = q)) (fun _ j _ _ _=>n - (intOf j).toNat)
 case atStart=>exact ⟨0,rfl,by omega,Below.refl _ _,0,rfl,by omega,by omega,zjp (by simp)⟩
 case round =>
  obtain ⟨k,rfl,hk,hbw,q,rfl,hq0,hq1,HQ⟩:=hrel;obtain ⟨WR,hWR⟩:∃ u,u = wr:=⟨_,rfl⟩;subst hWR;have HB:=zjp hbw;by_cases hlt:k < n
  ·have hq:decide ((k:Int) < n) = true:=by simp; omega
   have hki:(k:Int) < (n:Int):=by omega
   have hlt':k < (zaz G).length:=by rw [HLs.out]; exact hlt
   have hltG:k < G.length:=by rw [HN.out]; exact hlt
   have hmore:=zis (zaz G) k hlt';have hgk:(zaz G)[k] = (G[k].mem.length:Int):=by simp [zaz]
   have hmm:=HMm.out _ (List.getElem_mem hltG);rw [HQ.out,hgk] at hmore;obtain ⟨s,hs⟩:∃ s,zaz G = s:=⟨_,rfl⟩
   have hrk:∀ (u:Value) (W:World),OwnV 3 1 zjh WR u s W→Calls prog 48 #[u,.int .i64 k] W fun e w'=>e = .returned (.tuple #[.int .i64 (zbz s (G[k].mem.length:Int)).1,.bool (zbz s (G[k].mem.length:Int)).2])∧Below W.heap.size W w':=by
    intro u W ho;have h:=rrank_any _ u s k W (OwnV.vec (size:=1) (enc:=zjh) (fun _=>rfl) ho) (by rw [← hs]; exact hlt') (by rw [← hs,HLs.out]; omega)
    have e:s[k]'(by rw [← hs]; exact hlt') = (G[k].mem.length:Int):=by subst hs; exact hgk
    rwa [e] at h
   rw [hs] at hmore;obtain ⟨g0,hg0⟩:∃ g,G[k] = g:=⟨_,rfl⟩;rw [hg0] at hmore hrk hmm;obtain ⟨⟨ra,rb⟩,hra⟩:∃ p,zbz s (g0.mem.length:Int) = p:=⟨_,rfl⟩;rw [hra] at hmore hrk;have HRk:=zjp hrk; have HS:=zjp hs; have HG0:=zjp hg0; have HMore:=zjp hmore;clear hgk hrk hra hmore HQ hbw hs hg0;go_wp2_with fail
   refine (rsizes_any S _ G _ (by have:=HK.out.below HB.out; exact this) (by rw [HN.out]; omega)).mono ?_;rw [HS.out];rintro e w1 ⟨v',rfl,ho⟩;have HO:=zjp ho;obtain ⟨oa,oc,eo⟩:=zau ho.1;subst eo;have HB1:=zjp (HB.out.trans (ho.2.mono HB.out.size));clear ho;go_wp2_with fail
   refine (HRk.out _ _ HO.out).mono ?_;rintro e w2 ⟨rfl,hb2⟩;have HB2:=zjp (HB1.out.trans (hb2.mono HB1.out.size));clear hb2;cases rb
   ·have M:=zjp (show (((zaz G).take (k + 1)).map fun x=>if (zbz (zaz G) x).2 = true then x else 0).sum = q by rw [HS.out]; simpa using HMore.out)
    go_wp2_with fail
    go_roundw
    case rel=>exact ⟨k + 1,by go_num,by omega,HB2.out,q,rfl,by omega,by omega,M⟩
    case measure=>simp [intOf]; omega
   ·have M:=zjp (show (((zaz G).take (k + 1)).map fun x=>if (zbz (zaz G) x).2 = true then x else 0).sum = q + (g0.mem.length:Int) by rw [HS.out]; simpa using HMore.out)
    obtain ⟨b,off,⟨len,wa,wn,wc,ma,mn,mc,ws,mem⟩,e,lb,⟨c0,c1,c2⟩,hw,hmv,hp⟩:=(HK.out.below HB2.out).at k hltG;cases e;have hmn:=hmv.lenN;dsimp only at hmn c0 c1 c2;have hmem:g0.mem.length = mn:=by rw [← HG0.out,← hp,hmn]; rfl
    rw [hmem] at M hmm;have hwr:IntKind.i64.wrap (q + (mn:Int)) = q + (mn:Int):=by rw [IntKind.wrap_i64]; omega
    clear hw hmv hp hmn hmem;go_wp2_with fail
    go_roundw
    case rel=>exact ⟨k + 1,by go_num,by omega,HB2.out,q + mn,rfl,by omega,by omega,M⟩
    case measure=>simp [intOf]; omega
  ·have hq:decide ((k:Int) < n) = false:=by simp; omega
   have hfin:q = r:=by
    rw [← HQ.out,← HR.out,List.take_of_length_le (by rw [HLs.out]; omega)]; rfl
   clear HQ hbw;go_wp2_with fail
   go_ret;subst hfin;exact ⟨rfl,HB.out⟩
end
section
open Go.RowKit
structure RRow (w0:World) (v:Value) (C:List GV) (w:World):Prop where
 own:OwnV 107 3 zfx w0 v C w
 ids:∀ x∈C,w.ownsRow w0.heap.size 3 1 (ze6 x) x.mem.length (x.mem.map (Value.int .i64))
 off:∀ x∈C,(ze6 x).ownBlock = none∨(ze6 x).ownBlock≠v.ownBlock
 apart:C.Pairwise fun x y=>(ze6 x).ownBlock = none∨(ze6 x).ownBlock≠(ze6 y).ownBlock
 wds:∀ x∈C,Vec w (WS w0 v C) 1 zc2 (wdV x) x.ws
theorem RRow.nil {w0 w:World} (hb:Below w0.heap.size w0 w):RRow w0 (.slice none 0 0) [] w:=⟨OwnV.nil hb,fun x h=>by simp at h,fun x h=>by simp at h,List.Pairwise.nil,fun x h=>by simp at h⟩
theorem RRow.below {w0 w w':World} {v:Value} {C:List GV} (h:RRow w0 v C w) (hb:Below w.heap.size w w'):RRow w0 v C w' :=
 ⟨h.own.below hb,fun x hx=>zcb (h.ids x hx) hb,h.off,h.apart,fun x hx=>(h.wds x hx).below hb⟩
theorem RRow.put {w0 w w':World} {v v':Value} {C:List GV} (h:RRow w0 v C w) (x:GV) (hx:ze6 x = .slice none 0 0) (hm:x.mem = []) (hw:Vec w (WS w0 v C) 1 zc2 (wdV x) x.ws) (ho:OwnV 107 3 zfx w0 v' (C ++ [x]) w')
  (hk:∀ k o,some k≠v.ownBlock→w.heap[k]? = some o→w'.heap[k]? = some o) (hz:w.heap.size≤w'.heap.size) (hv:v'.ownBlock = none∨v.ownBlock = v'.ownBlock∨v'.ownBlock = some w.heap.size):RRow w0 v' (C ++ [x]) w':=by
 have hmm:∀ y,y∈C ++ [x]→y = x∨y∈C:=by
  intro y hy
  rcases List.mem_append.1 hy with h1 | h1
  ·exact .inr h1
  ·exact .inl (by simpa using h1)
 have hws:∀ {z:GV},Vec w (WS w0 v C) 1 zc2 (wdV z) z.ws→Vec w' (WS w0 v' (C ++ [x])) 1 zc2 (wdV z) z.ws:=by
  intro z hz'
  refine hz'.move hz fun b hb hs=>⟨?_,hs.1,?_,fun y hy=>?_⟩
  ·have e1:w.heap[b]? = some w.heap[b]:=Array.getElem?_eq_getElem hb
   rw [e1];exact hk b _ hs.2.1 e1
  ·rcases hv with h3 | h3 | h3
   ·rw [h3]; simp
   ·rw [← h3]; exact hs.2.1
   ·rw [h3]; simp; omega
  ·rcases hmm y hy with rfl | h1
   ·rw [hx]; simp [Value.ownBlock]
   ·exact hs.2.2 y h1
 refine ⟨ho,fun y hy=>?_,fun y hy=>?_,?_,fun y hy=>?_⟩
 ·rcases hmm y hy with rfl | h1
  ·rw [hx,hm]; exact ⟨rfl,.inl ⟨rfl,rfl⟩⟩
  ·exact zc7 (h.ids y h1) hk (h.off y h1)
 ·rcases hmm y hy with rfl | h1
  ·rw [hx]; exact .inl rfl
  ·rcases h.off y h1 with h2 | h2
   ·exact .inl h2
   ·rcases hv with h3 | h3 | h3
    ·rw [h3]
     by_cases h4:(ze6 y).ownBlock = none
     ·exact .inl h4
     ·exact .inr h4
    ·rw [← h3]; exact .inr h2
    ·right
     rw [h3];intro e;have:=((h.ids y h1).lt _ e).2;omega
 ·refine List.pairwise_append.2 ⟨h.apart,by simp,fun y hy z hz'=>?_⟩
  obtain rfl:z = x:=by simpa using hz'
  rw [hx];by_cases h2:(ze6 y).ownBlock = none
  ·exact .inl h2
  ·exact .inr h2
 ·rcases hmm y hy with rfl | h1
  ·exact hws hw
  ·exact hws (h.wds y h1)
theorem RRow.add {w0 w w1:World} {v:Value} {C:List GV} (h:RRow w0 v C w) (j:Nat) (hj:j < C.length) (g:Nat) (hg:v.ownBlock = some g) (u:Value) (id:Int) (a:Option Addr) (n c:Nat) (hu:u = .slice a n c)
  (ho:w1.ownsRow w0.heap.size 3 1 u (C[j].mem.length + 1) ((C[j].mem ++ [id]).map (Value.int .i64)))
  (hk:∀ k o,some k≠(ze6 C[j]).ownBlock→w.heap[k]? = some o→w1.heap[k]? = some o) (hb:Below w0.heap.size w0 w1) (hv:(ze6 C[j]).ownBlock = u.ownBlock∨u.ownBlock = some w.heap.size) (hz:w.heap.size≤w1.heap.size) :
  RRow w0 v (C.set j ⟨C[j].len,C[j].wa,C[j].wn,C[j].wc,a,n,c,C[j].ws,C[j].mem ++ [id]⟩) (w1.setCell ⟨g,j * 3 + 2,none⟩ u):=by
 subst hu;obtain ⟨B,hB⟩:∃ B,w0.heap.size = B:=⟨_,rfl⟩;have hgw:=h.own.1.lt g hg;have hoff:=h.off C[j] (List.getElem_mem hj)
 have hug:∀ k,(Value.slice a n c).ownBlock = some k→k≠g:=by
  intro k hk' e;subst e
  rcases hv with h1 | h1
  ·rw [← h1] at hk'
   rcases hoff with h2 | h2
   ·rw [h2] at hk'; cases hk'
   ·rw [hk',hg] at h2; exact h2 rfl
  ·rw [h1] at hk'
   have:w.heap.size = k:=by simpa using hk'
   omega
 have hrow1:=zc7 h.own.1 hk (by
  by_cases h0:v.ownBlock = none
  ·exact .inl h0
  ·right
   rcases hoff with h2 | h2
   ·rw [h2]; exact h0
   ·exact Ne.symm h2)
 have hset:=own_setG (x:=⟨C[j].len,C[j].wa,C[j].wn,C[j].wc,a,n,c,C[j].ws,C[j].mem ++ [id]⟩) hrow1 hg j hj ⟨rfl,rfl⟩
 have hown:OwnV 107 3 zfx w0 v (C.set j ⟨C[j].len,C[j].wa,C[j].wn,C[j].wc,a,n,c,C[j].ws,C[j].mem ++ [id]⟩) (w1.setCell ⟨g,j * 3 + 2,none⟩ (.slice a n c)):=by
  refine ⟨?_,hb.setCell (p:=⟨g,j * 3 + 2,none⟩) hgw.1 _⟩;rw [List.length_set];exact hset
 have hfar:∀ {e size m:Nat} {u:Value} {xs:List Value},w1.ownsRow w0.heap.size e size u m xs→(u.ownBlock = none∨u.ownBlock≠some g)→(w1.setCell ⟨g,j * 3 + 2,none⟩ (.slice a n c)).ownsRow w0.heap.size e size u m xs:=by
  intro e size n' u xs h1 h2
  refine zc7 (r:=some g) h1 (fun k o hk' hko=>?_) h2
  exact zan hko (fun e=>hk' (by rw [e]))
 have hap:∀ i k (hi:i < C.length) (hk2:k < C.length),i≠k→(ze6 C[i]).ownBlock = none∨(ze6 C[i]).ownBlock≠(ze6 C[k]).ownBlock:=by
  intro i k hi hk2 hne
  rcases Nat.lt_or_ge i k with h1 | h1
  ·exact List.pairwise_iff_getElem.1 h.apart i k hi hk2 h1
  ·rcases List.pairwise_iff_getElem.1 h.apart k i hk2 hi (by omega) with h2 | h2
   ·by_cases h3:(ze6 C[i]).ownBlock = none
    ·exact .inl h3
    ·exact .inr (by rw [h2]; exact h3)
   ·exact .inr (Ne.symm h2)
 have hlt:∀ i (hi:i < C.length) b,(ze6 C[i]).ownBlock = some b→b < w.heap.size:=fun i hi b e=>((h.ids C[i] (List.getElem_mem hi)).lt b e).2
 have hnew:∀ i (hi:i < C.length),i≠j→(Value.slice a n c).ownBlock = none∨(Value.slice a n c).ownBlock≠(ze6 C[i]).ownBlock:=by
  intro i hi hij
  rcases hv with h1 | h1
  ·rw [← h1]; exact hap j i hj hi (Ne.symm hij)
  ·right
   rw [h1];intro e;have:=hlt i hi _ e.symm;omega
 have hmem:∀ {x:GV},x∈C.set j ⟨C[j].len,C[j].wa,C[j].wn,C[j].wc,a,n,c,C[j].ws,C[j].mem ++ [id]⟩→x = ⟨C[j].len,C[j].wa,C[j].wn,C[j].wc,a,n,c,C[j].ws,C[j].mem ++ [id]⟩∨∃ i,∃ hi:i < C.length,i≠j∧x = C[i]:=by
  intro x hx;obtain ⟨i,hi,rfl⟩:=List.mem_iff_getElem.1 hx;by_cases hij:j = i
  ·subst hij; left; rw [List.getElem_set_self]
  ·right
   exact ⟨i,by simpa using hi,Ne.symm hij,by rw [List.getElem_set_ne hij]⟩
 refine ⟨hown,fun x hx=>?_,fun x hx=>?_,?_,?_⟩
 ·rcases hmem hx with rfl | ⟨i,hi,hij,rfl⟩
  ·refine hfar (show w1.ownsRow w0.heap.size 3 1 (.slice a n c) (C[j].mem ++ [id]).length ((C[j].mem ++ [id]).map (Value.int .i64)) by rw [List.length_append]; exact ho) ?_
   by_cases h0:(Value.slice a n c).ownBlock = none
   ·exact .inl h0
   ·exact .inr fun e=>hug g e rfl
  ·refine hfar (zc7 (h.ids C[i] (List.getElem_mem hi)) hk (hap i j hi hj hij)) ?_
   rw [← hg]; exact h.off C[i] (List.getElem_mem hi)
 ·rcases hmem hx with rfl | ⟨i,hi,hij,rfl⟩
  ·by_cases h0:(Value.slice a n c).ownBlock = none
   ·exact .inl h0
   ·exact .inr fun e=>hug g (by rw [← hg]; exact e) rfl
  ·exact h.off C[i] (List.getElem_mem hi)
 ·refine List.pairwise_iff_getElem.2 fun p q hp hq hpq=>?_
  have hp':p < C.length:=by simpa using hp
  have hq':q < C.length:=by simpa using hq
  by_cases e1:j = p
  ·subst e1
   rw [List.getElem_set_self,List.getElem_set_ne (by omega)];exact hnew q hq' (by omega)
  ·by_cases e2:j = q
   ·subst e2
    rw [List.getElem_set_ne e1,List.getElem_set_self]
    rcases hnew p hp' (by omega) with h1 | h1
    ·by_cases h2:(ze6 C[p]).ownBlock = none
     ·exact .inl h2
     ·exact .inr (by rw [show (ze6 ⟨C[j].len,C[j].wa,C[j].wn,C[j].wc,a,n,c,C[j].ws,C[j].mem ++ [id]⟩).ownBlock = none from h1]; exact h2)
    ·exact .inr (Ne.symm h1)
   ·rw [List.getElem_set_ne e1,List.getElem_set_ne e2]
    exact hap p q hp' hq' (by omega)
 ·have hws:∀ {z:GV},Vec w (WS w0 v C) 1 zc2 (wdV z) z.ws→Vec (w1.setCell ⟨g,j * 3 + 2,none⟩ (.slice a n c)) (WS w0 v (C.set j ⟨C[j].len,C[j].wa,C[j].wn,C[j].wc,a,n,c,C[j].ws,C[j].mem ++ [id]⟩)) 1 zc2 (wdV z) z.ws:=by
   intro z hz'
   refine hz'.move (by simpa [World.setCell] using hz) fun b hb hs=>⟨?_,hs.1,hs.2.1,fun y hy=>?_⟩
   ·have e1:w.heap[b]? = some w.heap[b]:=Array.getElem?_eq_getElem hb
    rw [e1];refine zan (hk b _ (hs.2.2 _ (List.getElem_mem hj)) e1) ?_;intro e;have e2:b = g:=e;exact hs.2.1 (by rw [hg,e2])
   ·rcases hmem hy with rfl | ⟨i,hi,hij,rfl⟩
    ·rcases hv with h1 | h1
     ·show some b≠(Value.slice a n c).ownBlock
      rw [← h1]; exact hs.2.2 _ (List.getElem_mem hj)
     ·show some b≠(Value.slice a n c).ownBlock
      rw [h1]; simp; omega
    ·exact hs.2.2 _ (List.getElem_mem hi)
  intro x hx
  rcases hmem hx with rfl | ⟨i,hi,hij,rfl⟩
  ·exact hws (h.wds C[j] (List.getElem_mem hj))
  ·exact hws (h.wds _ (List.getElem_mem hi))
end
section
open Go.RowKit
theorem grp_only {C:List GV} {n:Nat} {x:BitsL} (h:GOk (C.map pG) n) {t:Nat} (ht:t < C.length) (he:ze9 x (pG C[t]) = true):∀ y∈C.take t,ze9 x (pG y) = false:=by
 intro y hy;obtain ⟨u,hu,rfl⟩:=List.mem_iff_getElem.1 hy;rw [List.length_take] at hu;rw [List.getElem_take];cases hc:ze9 x (pG C[u])
 ·rfl
 ·exfalso
  unfold ze9 at he hc;have e1:=cmpB_eq (of_decide_eq_true he); have e2:=cmpB_eq (of_decide_eq_true hc);have hd:=List.pairwise_iff_getElem.1 h.dist u t (by rw [List.length_map]; omega) (by rw [List.length_map]; omega) (by omega);rw [List.getElem_map,List.getElem_map] at hd;exact hd (by rw [e1,e2])
theorem rgroups_any (S:Nat→Prop) (v:Value) (L:List BitsL) (w:World) (h:BitsVec w S v L) (hi:∀ b∈L,InI b.len) (hn:L.length≤100000) :
  Calls prog 19 #[v] w (GroupsPost (zce L) w):=by
 obtain ⟨a,cap,rfl⟩:=h.slice;have HV:=zjp h; have HI:=zjp hi;obtain ⟨G,hG⟩:∃ G,zce L = G:=⟨_,rfl⟩;rw [hG];have HG:=zjp hG;obtain ⟨n,hln⟩:∃ n,L.length = n:=⟨_,rfl⟩;have HN:=zjp hln;rw [hln] at HV hn ⊢;clear h hi hG hln;go_enter func19,ntmps19
 go_wp2_with fail
 go_loopw [3,4,5,6] (fun v t _ _ wr=>∃ (j:Nat) (C:List GV),t = .int .i64 j∧j≤n∧C.length≤j∧RRow w v C wr∧Hid (GOk (C.map pG) j)∧Hid (zc1 (C.map pG) j (L.drop j) = G)) (fun _ t _ _ _=>n - (intOf t).toNat)
 case atStart=>exact ⟨0,[],rfl,by omega,by simp,RRow.nil (Below.refl _ _),zjp (GOk.nil 0),HG⟩
 case round =>
  obtain ⟨j,C,rfl,hj,hCl,hrow,HOk,HT⟩:=hrel;obtain ⟨WR,hWR⟩:∃ u,u = wr:=⟨_,rfl⟩;subst hWR;have HRow:=zjp hrow;clear hrow;have hbw:=HRow.out.own.2;obtain ⟨nC,hnC⟩:∃ nC,C.length = nC:=⟨_,rfl⟩;obtain ⟨av,cv,ev⟩:=zau HRow.out.own.1;rw [hnC] at ev hCl;subst ev;have HNc:=zjp hnC;by_cases hlt:j < n
  ·have hq:decide ((j:Int) < (n:Int)) = true:=by simp; omega
   have hji:(j:Int) < (n:Int):=by omega
   have hjL:j < L.length:=by rw [HN.out]; exact hlt
   obtain ⟨b,off,⟨xl,xa,xn,xc⟩,e,lb,c0,c1,hat⟩:=(HV.out.below hbw).at j hjL;cases e;dsimp only at c0 c1;rw [za5 _ _ hjL] at hat;have hin:=HI.out _ (List.getElem_mem hjL);have hT:=HT.out;rw [List.drop_eq_getElem_cons hjL] at hT;obtain ⟨x,hx⟩:∃ x,L[j] = x:=⟨_,rfl⟩;rw [hx] at hat hin hT;have hT2:zc1 (if zap x = true then zho (C.map pG) j x else C.map pG) (j + 1) (L.drop (j + 1)) = G:=hT;have HT2:=zjp hT2; have HAt:=zjp hat; have HIn:=zjp hin;have HBw:=zjp hbw;obtain ⟨vx,hvx⟩:∃ vx,zap x = vx:=⟨_,rfl⟩;have hvz:=zd9 S _ x WR hat hin.1 hin.2;rw [hvx] at HT2 hvz;have HVx:=zjp hvx; have HVz:=zjp hvz;clear hT hT2 hat hin hx HT hbw hvx hvz hnC;go_wp2_with fail
   refine HVz.out.mono ?_;rintro e w2 ⟨rfl,hb2⟩;have HB2:=zjp hb2;have HRow2:=zjp (HRow.out.below hb2);have HAt2:=zjp (HAt.out.below hb2);have k0:=(hb2.cell (p:=⟨b,off + j * 2,none⟩) lb).trans c0;have k1:=(hb2.cell (p:=⟨b,off + j * 2 + 1,none⟩) lb).trans c1;have lb2:b < w2.heap.size:=Nat.lt_of_lt_of_le lb hb2.size;clear hb2 c0 c1 lb;cases vx
   ·have HT3:=zjp (show zc1 (C.map pG) (j + 1) (L.drop (j + 1)) = G by have:=HT2.out; simpa using this)
    clear HT2;go_wp2_with fail
    go_roundw
    case rel=>exact ⟨j + 1,C,by go_num,by omega,by rw [HNc.out]; omega,HRow2.out,zjp HOk.out.skip,HT3⟩
    case measure=>simp [intOf]; omega
   ·have HT3:=zjp (show zc1 (zho (C.map pG) j x) (j + 1) (L.drop (j + 1)) = G by have:=HT2.out; simpa using this)
    have hx8:x.words.length≤8:=(zcs HVx.out).2;clear HT2;go_wp2_with fail
    go_loopw [5,6] (fun s5 s6 wr=>∃ (k:Nat) (at_:Int),s6 = .int .i64 k∧k≤nC∧s5 = .int .i64 at_∧Below w2.heap.size w2 wr∧-1≤at_∧at_ < k∧Hid ((at_ = -1∧∀ y∈C.take k,ze9 x (pG y) = false)∨∃ t,∃ ht:t < C.length,at_ = (t:Int)∧ze9 x (pG C[t]) = true)) (fun _ s6 _=>nC - (intOf s6).toNat)
    case atStart=>exact ⟨0,-1,rfl,by omega,rfl,Below.refl _ _,by omega,by omega,zjp (.inl ⟨rfl,by simp⟩)⟩
    case round =>
     obtain ⟨k,at_,rfl,hk,rfl,hbk,hm1,hak,HAt_⟩:=hrel;obtain ⟨WK,hWK⟩:∃ u,u = wr:=⟨_,rfl⟩;subst hWK;have HBk:=zjp hbk;have k0k:=(hbk.cell (p:=⟨b,off + j * 2,none⟩) lb2).trans k0;have k1k:=(hbk.cell (p:=⟨b,off + j * 2 + 1,none⟩) lb2).trans k1;have lbk:b < WK.heap.size:=Nat.lt_of_lt_of_le lb2 hbk.size;have HAtk:=zjp (HAt2.out.below hbk);have HRowk:=zjp (HRow2.out.below hbk);by_cases hlk:k < nC
     ·have hq2:decide ((k:Int) < (nC:Int)) = true:=by simp; omega
      have hki:(k:Int) < (nC:Int):=by omega
      have hkC:k < C.length:=by rw [HNc.out]; exact hlk
      have hvec:=OwnV.vec (size:=3) (enc:=zfx) (fun _=>rfl) HRowk.out.own
      have hwd:=(HRowk.out.wds _ (List.getElem_mem hkC)).any;have hval:=HOk.out.val (pG C[k]) (List.mem_map_of_mem (List.getElem_mem hkC));have htk:C.take (k + 1) = C.take k ++ [C[k]]:=List.take_succ_eq_append_getElem hkC;obtain ⟨g0,o0,e,lg0,hc⟩:=hvec.get k hkC;have c0:=hc 0 _ rfl; have c1:=hc 1 _ rfl;rw [Nat.add_zero] at c0;obtain ⟨y,hy⟩:∃ y,C[k] = y:=⟨_,rfl⟩;have hge:∀ t,(ht:t < C.length)→t = k→ze9 x (pG C[t]) = ze9 x (pG y):=fun t ht e=>by subst e; rw [hy]
      rw [hy] at c0 c1 hwd hval htk;have HGe:=zjp hge; have HTk:=zjp htk;obtain ⟨yl,ya,yn,yc,ma,mn,mc,yw,ym⟩:=y;dsimp only at c0 c1;cases e;have hyw:yw.length≤8:=(zcs hval).2;have hatY:BitsAt WK zav (.agg #[.int .i64 yl,.slice ya yn yc]) ⟨yl,yw⟩:=⟨_,rfl,hwd⟩;have HatY:=zjp hatY;have hgeq:ze9 x (pG ⟨yl,ya,yn,yc,ma,mn,mc,yw,ym⟩) = decide (zg1 (⟨yl,yw⟩:BitsL) x = 0):=rfl;obtain ⟨cr,hcr⟩:∃ cr,zg1 (⟨yl,yw⟩:BitsL) x = cr:=⟨_,rfl⟩;have cP:=zfj WK (fun W' hb=>by have h:=rcmpB_any zav S _ _ ⟨yl,yw⟩ x W' (HatY.out.below hb) (HAtk.out.below hb) (by dsimp only; omega); rw [hcr] at h; exact h)
      rw [hcr] at hgeq;have HGeq:=zjp hgeq;have s0:=cell_regrown c0; have s1:=cell_regrown c1; have s2:=cell_regrown k0k; have s3:=cell_regrown k1k;clear hvec hc hy hge htk hwd hval hatY hgeq hcr hbk;go_wp2_with fail
      refine wp_region_quiet_below (by kernel_rfl) (by kernel_rfl) ?_;repeat (go_big_quiet_step (with_reducible exact cP _ _))
      refine wpQuiet_nil ?_;intro w4 hw'
      have hb4:Below WK.heap.size WK w4:=by
       obtain ⟨⟨dq,osq⟩,hw''⟩:=hw';rw [hw'']; exact below_regrown WK dq osq
      have HB4:=zjp (HBk.out.trans (hb4.mono HBk.out.size));clear hw' cP s0 s1 s2 s3 hb4 c0 c1;by_cases hc0:cr = 0
      ·have dc:(cr == 0) = true:=by simpa using hc0
       have hyes:ze9 x (pG ⟨yl,ya,yn,yc,ma,mn,mc,yw,ym⟩) = true:=by rw [HGeq.out]; simpa using hc0
       have HYes:=zjp hyes;clear hc0 hyes;go_wp2_with fail
       go_roundw
       case rel=>exact ⟨k + 1,k,by go_num,by omega,rfl,HB4.out,by omega,by omega,zjp (.inr ⟨k,hkC,rfl,by rw [HGe.out k hkC rfl]; exact HYes.out⟩)⟩
       case measure=>simp [intOf]; omega
      ·have dc:(cr == 0) = false:=by simpa using hc0
       have hno:ze9 x (pG ⟨yl,ya,yn,yc,ma,mn,mc,yw,ym⟩) = false:=by rw [HGeq.out]; simpa using hc0
       have HNo:=zjp hno;clear hc0 hno;go_wp2_with fail
       go_roundw
       case rel =>
        refine ⟨k + 1,at_,by go_num,by omega,rfl,HB4.out,by omega,by omega,?_⟩
        rcases HAt_.out with ⟨h1,h2⟩ | h1
        ·refine zjp (.inl ⟨h1,fun y hy=>?_⟩)
         rw [HTk.out] at hy
         rcases List.mem_append.1 hy with h3 | h3
         ·exact h2 y h3
         ·rw [List.mem_singleton.1 h3]; exact HNo.out
        ·exact zjp (.inr h1)
       case measure=>simp [intOf]; omega
     ·have hq2:decide ((k:Int) < (nC:Int)) = false:=by simp; omega
      have hsp:(at_ = -1∧∀ y∈C,ze9 x (pG y) = false)∨∃ t,∃ ht:t < C.length,at_ = (t:Int)∧ze9 x (pG C[t]) = true:=by
       rcases HAt_.out with ⟨h1,h2⟩ | h1
       ·rw [List.take_of_length_le (by rw [HNc.out]; omega)] at h2
        exact .inl ⟨h1,h2⟩
       ·exact .inr h1
      have HSp:=zjp hsp;have HBW:=zjp (HBw.out.trans ((HB2.out.trans (HBk.out.mono HB2.out.size)).mono HBw.out.size));clear hsp HAt_ hbk;go_upto_if 38 with (fail)
      go_cut [3,5] (fun s3 s5 wx=>∃ (C':List GV) (t:Nat) (ht:t < C'.length),s5 = .int .i64 t∧RRow w s3 C' wx∧C'.length≤j + 1∧Hid (∀ y∈C',y.mem.length≤j)∧Hid (∀ a n c,(C'.set t ⟨C'[t].len,C'[t].wa,C'[t].wn,C'[t].wc,a,n,c,C'[t].ws,C'[t].mem ++ [(j:Int)]⟩).map pG = zho (C.map pG) j x))
      case first =>
       have hmj:∀ y∈C,y.mem.length≤j:=fun y hy=>HOk.out.mems (pG y) (List.mem_map_of_mem hy)
       have HMj:=zjp hmj;clear hmj
       rcases HSp.out with ⟨rfl,hall⟩ | ⟨t,ht,rfl,h1⟩
       ·have HAll:=zjp hall
        have hcopy:=rcopy9_any S (.agg #[.int .i64 xl,.slice xa xn xc]) x WK HAtk.out (by omega);obtain ⟨sx,es,hvx⟩:=HAtk.out;have es2:xl = x.len∧sx = .slice xa xn xc:=by simpa [eq_comm] using es
        obtain ⟨hxl,rfl⟩:=es2;have HXl:=zjp hxl;rw [← hxl] at hcopy;have HCopy:=zjp hcopy;obtain ⟨i0,hi0,hz0,hz1,hz2⟩:=info_parts infoAg;have HI0:=zjp hi0; have HZ0:=zjp hz0; have HZ1:=zjp hz1; have HZ2:=zjp hz2;clear hi0 hz0 hz1 hz2 hall hcopy hxl es hvx;go_wp2_with fail
        refine HCopy.out.mono ?_;rintro e w4 ⟨v',rfl,ho4⟩;obtain ⟨ua,uc,e4⟩:=zau ho4.1;obtain ⟨un,hun⟩:∃ un,x.words.length = un:=⟨_,rfl⟩;have hvec4:=OwnV.vec (size:=1) (enc:=zc2) (fun _=>rfl) ho4
        rw [hun] at e4;subst e4;have HU4:=zjp hvec4;have HB4:=zjp ho4.2;have bA:=HB4.out.trans ((Below.refl w4.heap.size w4).alloc xnl (.cells #[.int .i64 xl,.slice ua un uc,.slice none 0 0] 107) |>.mono HB4.out.size);have HbA:=zjp bA;have hA4:(w4.alloc (.cells #[.int .i64 xl,.slice ua un uc,.slice none 0 0] 107)).heap[w4.heap.size]? = some (.cells #[.int .i64 xl,.slice ua un uc,.slice none 0 0] 107 (0,0)):=zac rfl
        have hnews:∀ i u,(zfx (⟨xl,ua,un,uc,none,0,0,x.words,[]⟩:GV))[i]? = some u→(w4.alloc (.cells #[.int .i64 xl,.slice ua un uc,.slice none 0 0] 107)).cell? ((⟨w4.heap.size,0,none⟩:Addr).add i) = some u:=fun i u hu=>by
         rw [zch,cell_of_row _ _ _ _ _ _ hA4,Nat.zero_add]; simpa using hu
        have HNews:=zjp hnews;have HRow4:=zjp (HRowk.out.below HbA.out);have hown4:=HRow4.out.own.1;rw [HNc.out] at hown4;have HOwn4:=zjp hown4;have hz3:w.heap.size≤WK.heap.size:=HRowk.out.own.2.size;have hz4:WK.heap.size≤w4.heap.size:=HB4.out.size;have hXv:=zjp (show ∀ k,(Value.slice av nC cv).ownBlock = some k→w.heap.size≤k∧k < WK.heap.size from fun k hk=>HRowk.out.own.1.lt k hk)
        have hnj:nC≤j:=by omega
        clear hA4 hnews hown4 bA ho4 hun hvec4;go_wp2_with (at_builtin; refine wpList_append_lies _ rfl (.tmp 39) (.tmp 46) 64 (by rfl) w.heap.size 107 i0 (.agg #[.int .i64 0,.slice none 0 0,.slice none 0 0]) 3 56 underlying64 HI0.out HZ0.out HZ1.out HZ2.out rfl (by decide) (.slice av nC cv) nC (C.flatMap zfx) (by rfl) HOwn4.out ⟨w4.heap.size,0,none⟩ 1 1 (zfx ⟨xl,ua,un,uc,none,0,0,x.words,[]⟩) (by rfl) rfl HNews.out (one_encG _) (by omega) (by unfold maxLen; omega) (by omega) (by simp; omega) (w4.heap.size + 1) (by simp) ?_; intro g5 cp5 w5 hown5 hg5 hat5 hlt5; have HOw5:=zjp hown5; have HG5:=zjp hg5; have HAt5:=zjp hat5; have hn1:IntKind.i64.wrap (((nC + 1:Nat):Int) - 1) = (nC:Int):=(by rw [IntKind.wrap_i64]; omega); clear hown5 hg5 hat5)
        go_meet;obtain ⟨N,hN⟩:∃ N,N = (⟨xl,ua,un,uc,none,0,0,x.words,[]⟩:GV):=⟨_,rfl⟩;have hl5:nC < (C ++ [N]).length:=by simp; have:=HNc.out; omega
        have hWw:Below w.heap.size w (w4.alloc (.cells #[.int .i64 xl,.slice ua un uc,.slice none 0 0] 107)):=HRow4.out.own.2
        have hown:OwnV 107 3 zfx w (.slice (some ⟨g5,0,none⟩) (nC + 1) cp5) (C ++ [N]) w5:=by
         refine ⟨?_,hWw.grown HG5.out hWw.size (fun q hq=>(hXv.out q hq).1)⟩
         rw [List.length_append,HNc.out,List.flatMap_append,hN];simpa using HOw5.out
        have hput:=HRow4.out.put (w':=w5) (v':=.slice (some ⟨g5,0,none⟩) (nC + 1) cp5) N (by rw [hN]) (by rw [hN]) (by
         rw [hN]
         refine (HU4.out.below ((Below.refl w4.heap.size w4).alloc xnl _)).move xnl fun b hb hs=>⟨rfl,?_,?_,fun y hy=>?_⟩
         ·exact Nat.le_trans hz3 hs
         ·intro e; have h1:=(hXv.out b e.symm).2; have h2:WK.heap.size≤b:=hs; omega
         ·intro e; have h1:=((HRowk.out.ids y hy).lt b e.symm).2; have h2:WK.heap.size≤b:=hs; omega) hown (fun k o hk hko=>(HG5.out.block k (zaa hko) hk).trans hko) HG5.out.size (by
         rcases HAt5.out with h1 | h1
         ·exact .inr (.inl h1)
         ·exact .inr (.inr (by rw [h1]; simp [Value.ownBlock])))
        refine ⟨C ++ [N],nC,hl5,by first | rfl | simp [hn1],hput,by simp; have:=HNc.out; omega,zjp fun y hy=>?_,zjp fun a n c=>?_⟩
        ·rcases List.mem_append.1 hy with h1 | h1
         ·exact HMj.out y h1
         ·have:y = N:=by simpa using h1
          rw [this,hN]; simp
        ·have e1:=HNc.out
         have e2:=HXl.out;subst e1;rw [e2] at hN;subst hN;exact gput_new C x j ua un uc HAll.out a n c hl5
       ·have H1:=zjp h1
        have H2:=zjp (grp_only HOk.out ht h1);have dt:decide ((t:Int) < 0) = false:=by simp
        clear h1;go_wp2_with fail
        go_meet;exact ⟨C,t,ht,rfl,HRowk.out,by rw [HNc.out]; omega,HMj,zjp fun a n c=>gput_at C x j t ht H1.out H2.out a n c⟩
      case rest =>
       obtain ⟨C',at2,ht,rfl,hrow',hl',HLen',HPut⟩:=hcut;have HRow':=zjp hrow'
       rcases hrow'.own.1.2 with ⟨_,h0⟩ | ⟨g,cap5,cur,rfl,hg,hgc,hn1,hn2,hn3,hn4⟩
       ·have:C'.length = 0:=h0
        omega
       obtain ⟨y,hy⟩:∃ y,C'[at2] = y:=⟨_,rfl⟩;have hids:=hrow'.ids _ (List.getElem_mem ht)
       have hc1:wc.cell? ⟨g,at2 * 3 + 2,none⟩ = some (ze6 C'[at2]):=by
        obtain ⟨b0,o0,e0,_,hc⟩:=(OwnV.vec (size:=3) (enc:=zfx) (fun _=>rfl) hrow'.own).get at2 ht
        cases e0;have:=hc 2 _ rfl;rwa [Nat.zero_add] at this
       rw [hy] at hids hc1;obtain ⟨yl,ya,yn,yc,ma,mn,mc,yw,ym⟩:=y;dsimp only [ze6] at hids hc1;have hfr:=(frozen_of_row _ _ _ _ _ hgc:wc.frozen? ⟨g,at2 * 3 + 2,none⟩ = false);have lgc:=zaa hgc;have HPut2:=HPut.out;rw [hy] at HPut2;have HP2:=zjp HPut2;have HIds:=zjp hids; have HY:=zjp hy;obtain ⟨nP,hnP⟩:∃ nP,C'.length = nP:=⟨_,rfl⟩;have HNp:=zjp hnP;have htn:(at2:Int) < (nP:Int):=by omega
       obtain ⟨i0,hi0,hz0,hz1,hz2⟩:=info_parts infoZ;have HI0:=zjp hi0; have HZ0:=zjp hz0; have HZ1:=zjp hz1; have HZ2:=zjp hz2;have hoff:=hrow'.off _ (List.getElem_mem ht);rw [hy] at hoff;have hWc:=hrow'.own.2;have HWc:=zjp hWc;have hWz:=hWc.size
       have HOff:=zjp (show some g≠(Value.slice ma mn mc).ownBlock from by
        rcases hoff with h1 | h1
        ·rw [show (Value.slice ma mn mc).ownBlock = none from h1]; simp
        ·exact fun e=>h1 (by rw [show (ze6 ⟨yl,ya,yn,yc,ma,mn,mc,yw,ym⟩).ownBlock = some g from e.symm]; rfl))
       have hyl:ym.length≤j:=by have:=HLen'.out _ (List.getElem_mem ht); rw [HY.out] at this; exact this
       have bA:=(Below.refl wc.heap.size wc).alloc xnl (.cells #[.int .i64 j] 3);have hown:=zfn HIds.out bA
       have hnews:∀ i u,[Value.int .i64 j][i]? = some u→(wc.alloc (.cells #[.int .i64 j] 3)).cell? ((⟨wc.heap.size,0,none⟩:Addr).add i) = some u:=fun i u hu=>by
        have hX:(wc.alloc (.cells #[.int .i64 j] 3)).heap[wc.heap.size]? = some (.cells #[.int .i64 j] 3 (0,0)):=zac rfl;rw [zch,cell_of_row _ _ _ _ _ _ hX,Nat.zero_add]; simpa using hu
       have hone:∀ u∈[Value.int .i64 j],u.oneCell' = true:=by intro u hu; simp at hu; subst hu; rfl
       have hcY:=(bA.cell (p:=⟨g,at2 * 3 + 2,none⟩) lgc).trans hc1;have hfY:=(bA.frozen (p:=⟨g,at2 * 3 + 2,none⟩) lgc).trans hfr;have HbA:=zjp bA; have HOwn:=zjp hown; have HNews:=zjp hnews; have HOne:=zjp hone; have HcY:=zjp hcY; have HfY:=zjp hfY;clear hgc hn1 hn2 hn3 hn4 hrow' HPut HPut2 hids hy hi0 hz0 hz1 hz2 hoff hWc bA hown hnews hone hcY hfY k0k k1k k0 k1;rw [hnP] at hl' HRow' ⊢;clear hnP
       go_wp2_with (at_builtin; refine wpList_append_lies _ rfl (.tmp 57) (.tmp 59) 22 rfl w.heap.size 3 i0 (.int .i64 0) 1 8 underlying22 HI0.out HZ0.out HZ1.out HZ2.out rfl (by decide) (.slice ma mn mc) ym.length (ym.map (Value.int .i64)) (by first | rfl | exact (zau HIds.out).elim fun _ h=>h.elim fun _ h=>h) HOwn.out ⟨wc.heap.size,0,none⟩ 1 1 [.int .i64 j] rfl rfl HNews.out HOne.out (by omega) (by unfold maxLen; omega) (by omega) (by simp; omega) (wc.heap.size + 1) (by simp) ?_; intro g5 cp5 w5 hown5 hg5 hat5 hlt5; have cY5:w5.cell? ⟨g,at2 * 3 + 2,none⟩ = some (.slice ma mn mc):=(hg5.cell_far ⟨g,at2 * 3 + 2,none⟩ (by simp; omega) HOff.out).trans HcY.out; have fY5:w5.frozen? ⟨g,at2 * 3 + 2,none⟩ = false:=(hg5.frozen_far ⟨g,at2 * 3 + 2,none⟩ (by simp; omega) HOff.out).trans HfY.out; have HRA:=zjp (show RRow w (.slice (some ⟨g,0,none⟩) nP cap5) (C'.set at2 ⟨yl,ya,yn,yc,some ⟨g5,0,none⟩,ym.length + 1,cp5,yw,ym ++ [(j:Int)]⟩) (w5.setCell ⟨g,at2 * 3 + 2,none⟩ (.slice (some ⟨g5,0,none⟩) (ym.length + 1) cp5)) from by
        have hrA:=(HRow'.out.below HbA.out).add at2 ht g rfl (.slice (some ⟨g5,0,none⟩) (ym.length + 1) cp5) (j:Int) _ _ _ rfl (w1:=w5) (by rw [HY.out,List.map_append]; exact hown5) (by rw [HY.out]; exact fun k o hk hko=>(hg5.block k (zaa hko) hk).trans hko) ((HWc.out.trans (HbA.out.mono hWz)).grown hg5 (Nat.le_trans hWz HbA.out.size) (fun q hq=>((zcb HIds.out HbA.out).lt q hq).1)) (by rw [HY.out]; exact hat5.elim Or.inl fun h1=>Or.inr (by rw [h1]; simp [Value.ownBlock])) hg5.size
        rw [HY.out] at hrA
        exact hrA); clear hown5 hg5 hat5)
       have hpm:=HP2.out (some ⟨g5,0,none⟩) (ym.length + 1) cp5;have HPM:=zjp hpm;clear hpm;go_roundw
       case rel =>
        refine ⟨j + 1,C'.set at2 ⟨yl,ya,yn,yc,some ⟨g5,0,none⟩,ym.length + 1,cp5,yw,ym ++ [(j:Int)]⟩,by go_num,by omega,by rw [List.length_set,HNp.out]; omega,HRA.out,?_,?_⟩
        ·exact zjp (by rw [HPM.out]; exact HOk.out.add HVx.out)
        ·exact zjp (by rw [HPM.out]; exact HT3.out)
       case measure=>simp [intOf]; omega
  ·have hq:decide ((j:Int) < (n:Int)) = false:=by simp; omega
   have hjL:j = L.length:=by rw [HN.out]; omega
   have hT:=HT.out;rw [hjL,List.drop_length] at hT;have HT2:=zjp (show C.map pG = G from hT);clear hT HT hjL hbw hnC;go_wp2_with fail
   go_ret
   refine ⟨_,rfl,⟨C,?_,HT2.out,fun y hy=>⟨?_,?_⟩⟩,HRow.out.own.2⟩
   ·exact OwnV.vec (size:=3) (enc:=zfx) (fun _=>rfl) HRow.out.own
   ·exact (HRow.out.wds y hy).move xnl fun b _ hs=>⟨rfl,hs.1⟩
   ·exact Vec.owns (k:=1) (enc:=zjh) (S:=fun b=>w.heap.size≤b) (fun _=>rfl) (by rw [show y.mem.flatMap zjh = y.mem.map (Value.int .i64) from encIn_flat _]; exact HRow.out.ids y hy) (fun b hb _=>hb)
end
section
open Go.RowKit
attribute [local go_sem] zag zaj za7
theorem itoa_len {n:Int} (h:InI n):(Lib.itoa n).length≤21:=by
 obtain ⟨h0,h1⟩:=h;unfold Lib.itoa;split
 ·have:=zjk (n:=n.natAbs) (k:=19) (by decide) (by omega)
  simp only [List.length_cons]; omega
 ·have:=zjk (n:=n.toNat) (k:=19) (by decide) (by omega)
  omega
end
section
open Go.RowKit Cal
attribute [local go_sem] zag zaj za7
theorem zha (n:Nat) (w:World) (hn:n < 10):Calls prog 162 #[.int .i64 n] w fun e w'=>e = .returned (zal (Lib.decDigits n))∧Below w.heap.size w w':=by
 obtain ⟨c,hc⟩:∃ c:UInt8,UInt8.ofNat (48 + n) = c:=⟨_,rfl⟩;have hcv:48 + (n:Int) = (c.toNat:Int):=by rw [← hc,UInt8.toNat_ofNat']; omega
 rw [digs_one n hn,hc];have d1:decide ((n:Int) < 10) = true:=by simp; omega
 have hm:max (n:Int) 0 = (n:Int):=by omega
 have hown:=(own_new (w0:=w) (w:=w.alloc (.cells #[.int .u8 (48 + (n:Int))] 5)) (enc:=encB) (L:=[c]) (size:=1) (n:=1) (e:=5) (g:=w.heap.size) ((Below.refl _ _).alloc xnl _) xnl (by rw [hcv]; exact zac rfl) rfl (by simp) rfl).1;have hconv:=zca (P:=prog) [c] hown underlying175 underlying5 underlying9;clear hown hc hcv;go_enter func162,ntmps162
 go_wp2_with fail
 go_ret;exact ⟨rfl,(Below.refl _ _).alloc xnl _⟩
theorem dec_cut9 {n:Nat} (h:¬ n < 10):Lib.decDigits n = Lib.decDigits (n / 10) ++ Lib.decDigits (n % 10):=by
 rw [Lib.decDigits,dif_neg h,Lib.decDigits_one (show n % 10 < 10 by omega)]
theorem rnum9_any:∀ (k n:Nat) (w:World),n < 10 ^ k→n≤9223372036854775807→Calls prog 162 #[.int .i64 n] w fun e w'=>e = .returned (zal (Lib.decDigits n))∧Below w.heap.size w w'
 | 0,n,w,h,_=>zha n w (by omega)
 | k + 1,n,w,h,hm=>by
  by_cases h10:n < 10
  ·exact zha n w h10
  ·obtain ⟨q,hq⟩:∃ q,n / 10 = q:=⟨_,rfl⟩
   obtain ⟨r,hr⟩:∃ r,n % 10 = r:=⟨_,rfl⟩;have e1:(n:Int).tdiv 10 = (q:Int):=by rw [← hq]; exact (Int.ofNat_tdiv n 10).symm
   have e2:(n:Int).tmod 10 = (r:Int):=by rw [← hr]; exact (Int.ofNat_tmod n 10).symm
   have e3:(n:Int) / 10 = (q:Int):=by omega
   have e4:(n:Int) % 10 = (r:Int):=by omega
   have e5:IntKind.i64.wrap (q:Int) = q:=by rw [IntKind.wrap_i64]; omega
   have i1:=fun w=>rnum9_any k q w (by rw [← hq]; rw [Nat.pow_succ] at h; omega) (by omega)
   have i2:=fun w=>zha r w (by omega)
   rw [dec_cut9 h10,hq,hr];have l1:(Lib.decDigits q).length≤19:=zjk (k:=19) (by decide) (by omega);have l2:(Lib.decDigits r).length≤1:=zjk (k:=1) (by decide) (by omega);obtain ⟨X,hX⟩:∃ X,Lib.decDigits q = X:=⟨_,rfl⟩;obtain ⟨Y,hY⟩:∃ Y,Lib.decDigits r = Y:=⟨_,rfl⟩;rw [hX] at i1 l1; rw [hY] at i2 l2; rw [hX,hY];have d1:decide ((n:Int) < 10) = false:=by simp; omega
   have I1:=zjp i1; have I2:=zjp i2;have c1:¬ 9223372036854775807 < X.length + Y.length:=by omega
   clear i1 i2 hX hY hq hr h h10;go_enter func162,ntmps162
   go_wp2_with fail
   refine (I1.out _).mono ?_;rintro e w1 ⟨rfl,hb⟩;have HB1:=zjp hb; clear hb;go_wp2_with fail
   refine (I2.out _).mono ?_;rintro e w2 ⟨rfl,hb⟩;have HB2:=zjp (HB1.out.trans (hb.mono HB1.out.size)); clear hb;go_wp2_with fail
   go_ret;exact ⟨rfl,HB2.out⟩
end
section
open Go.RowKit
theorem rrot13 (x:Int) (w:World):Calls prog 246 #[.int .u64 x,.int .i64 13] w fun e w'=>e = .returned (.int .u64 (ziw 8192 2251799813685248 x))∧Below w.heap.size w w':=by
 have hw:IntKind.i64.wrap 51 = 51:=by decide
 go_enter func246,ntmps246
 go_wp2_with fail
 refine wp_region_noPanic ?_
 refine wp_region_held_drew (S:=(fun _=>True)) (by kernel_rfl) (trivial) (fun hHeld=>?_)
 refine tH 0 (h:=?_);refine tH 1 (h:=?_);refine tH 2 (h:=?_);refine tH 3 (h:=?_);refine tH 4 (h:=?_);refine tH 5 (h:=?_);refine tH 6 (h:=?_);refine tH 7 (h:=?_);refine tH 8 (h:=?_);refine wpAnyH_done (by kernel_rfl) ?_ _;refine NoPanic.normal ?_;go_wp2_with fail
 go_ret;exact ⟨rfl,(Below.refl _ _).drew⟩
theorem rrot32 (x:Int) (w:World):Calls prog 246 #[.int .u64 x,.int .i64 32] w fun e w'=>e = .returned (.int .u64 (ziw 4294967296 4294967296 x))∧Below w.heap.size w w':=by
 have hw:IntKind.i64.wrap 32 = 32:=by decide
 go_enter func246,ntmps246
 go_wp2_with fail
 refine wp_region_noPanic ?_
 refine wp_region_held_drew (S:=(fun _=>True)) (by kernel_rfl) (trivial) (fun hHeld=>?_)
 refine tH 0 (h:=?_);refine tH 1 (h:=?_);refine tH 2 (h:=?_);refine tH 3 (h:=?_);refine tH 4 (h:=?_);refine tH 5 (h:=?_);refine tH 6 (h:=?_);refine tH 7 (h:=?_);refine tH 8 (h:=?_);refine wpAnyH_done (by kernel_rfl) ?_ _;refine NoPanic.normal ?_;go_wp2_with fail
 go_ret;exact ⟨rfl,(Below.refl _ _).drew⟩
theorem rrot16 (x:Int) (w:World):Calls prog 246 #[.int .u64 x,.int .i64 16] w fun e w'=>e = .returned (.int .u64 (ziw 65536 281474976710656 x))∧Below w.heap.size w w':=by
 have hw:IntKind.i64.wrap 48 = 48:=by decide
 go_enter func246,ntmps246
 go_wp2_with fail
 refine wp_region_noPanic ?_
 refine wp_region_held_drew (S:=(fun _=>True)) (by kernel_rfl) (trivial) (fun hHeld=>?_)
 refine tH 0 (h:=?_);refine tH 1 (h:=?_);refine tH 2 (h:=?_);refine tH 3 (h:=?_);refine tH 4 (h:=?_);refine tH 5 (h:=?_);refine tH 6 (h:=?_);refine tH 7 (h:=?_);refine tH 8 (h:=?_);refine wpAnyH_done (by kernel_rfl) ?_ _;refine NoPanic.normal ?_;go_wp2_with fail
 go_ret;exact ⟨rfl,(Below.refl _ _).drew⟩
theorem rrot21 (x:Int) (w:World):Calls prog 246 #[.int .u64 x,.int .i64 21] w fun e w'=>e = .returned (.int .u64 (ziw 2097152 8796093022208 x))∧Below w.heap.size w w':=by
 have hw:IntKind.i64.wrap 43 = 43:=by decide
 go_enter func246,ntmps246
 go_wp2_with fail
 refine wp_region_noPanic ?_
 refine wp_region_held_drew (S:=(fun _=>True)) (by kernel_rfl) (trivial) (fun hHeld=>?_)
 refine tH 0 (h:=?_);refine tH 1 (h:=?_);refine tH 2 (h:=?_);refine tH 3 (h:=?_);refine tH 4 (h:=?_);refine tH 5 (h:=?_);refine tH 6 (h:=?_);refine tH 7 (h:=?_);refine tH 8 (h:=?_);refine wpAnyH_done (by kernel_rfl) ?_ _;refine NoPanic.normal ?_;go_wp2_with fail
 go_ret;exact ⟨rfl,(Below.refl _ _).drew⟩
theorem rrot17 (x:Int) (w:World):Calls prog 246 #[.int .u64 x,.int .i64 17] w fun e w'=>e = .returned (.int .u64 (ziw 131072 140737488355328 x))∧Below w.heap.size w w':=by
 have hw:IntKind.i64.wrap 47 = 47:=by decide
 go_enter func246,ntmps246
 go_wp2_with fail
 refine wp_region_noPanic ?_
 refine wp_region_held_drew (S:=(fun _=>True)) (by kernel_rfl) (trivial) (fun hHeld=>?_)
 refine tH 0 (h:=?_);refine tH 1 (h:=?_);refine tH 2 (h:=?_);refine tH 3 (h:=?_);refine tH 4 (h:=?_);refine tH 5 (h:=?_);refine tH 6 (h:=?_);refine tH 7 (h:=?_);refine tH 8 (h:=?_);refine wpAnyH_done (by kernel_rfl) ?_ _;refine NoPanic.normal ?_;go_wp2_with fail
 go_ret;exact ⟨rfl,(Below.refl _ _).drew⟩
theorem zeb (s:Sip) (w:World):Calls prog 228 #[.agg (sipC s)] w fun e w'=>e = .returned (.agg (sipC (rndP s)))∧Below w.heap.size w w':=by
 obtain ⟨a,b,c,d⟩:=s;go_enter func228,ntmps228
 go_wp2_with fail
 refine zam (fun W hW=>?_)
 have hb0:=xam hW
 have hv0:W.heap[w.heap.size]? = some (.cells (sipC ⟨a,b,c,d⟩) 242 (0,0)):=by rw [hW]; exact zaf (zac rfl)
 have hr0:W.heap[w.heap.size + 1]? = some (.cells (sipC ⟨0,0,0,0⟩) 242 (0,0)):=by rw [hW]; exact zac (by simp)
 clear hW;have HB0:=zjp hb0; have HR0:=zjp hr0;obtain ⟨c0,c1,c2,c3⟩:=zak hv0;clear hb0 hv0 hr0;refine wp_region_noPanic ?_
 refine wp_region_held_drew (S:=(fun w'=>w'.cell? ⟨w.heap.size,0,none⟩ = some (.int .u64 a)∧w'.cell? ⟨w.heap.size,1,none⟩ = some (.int .u64 b)∧w'.cell? ⟨w.heap.size,2,none⟩ = some (.int .u64 c)∧w'.cell? ⟨w.heap.size,3,none⟩ = some (.int .u64 d))) (by kernel_rfl) (⟨c0,c1,c2,c3⟩) (fun hHeld=>?_)
 refine tH 0 (h:=?_);refine tH 1 (h:=?_);refine tH 2 (h:=?_);refine tH 3 (h:=?_);refine tH 4 (h:=?_);refine tH 5 (h:=?_);refine tH 6 (h:=?_);refine tH 7 (h:=?_);refine tH 8 (h:=?_);refine tH 9 (h:=?_);refine tH 10 (h:=?_);refine tH 11 (h:=?_);refine wpAnyH_done (by kernel_rfl) ?_ _;refine NoPanic.normal ?_
 refine zcf (fun W1 hW1=>?_)
 have hb1:Below w.heap.size w W1:=by rw [hW1]; exact HB0.out.drew
 have hr1:W1.heap[w.heap.size + 1]? = some (.cells (sipC ⟨0,0,0,0⟩) 242 (0,0)):=by rw [hW1]; exact HR0.out
 clear hW1 c0 c1 c2 c3 hHeld HB0 HR0;have HB:=zjp hb1; have HR:=zjp hr1; clear hb1 hr1;go_wp2_with fail
 refine (rrot13 _ _).mono ?_;rintro e w1 ⟨rfl,hb⟩;have hB:=HB.out.trans (hb.mono HB.out.size); have hR:=zab hb (zaa HR.out) HR.out;clear HB HR hb; have HB:=zjp hB; have HR:=zjp hR; clear hB hR;go_wp2_with fail
 refine (rrot32 _ _).mono ?_;rintro e w2 ⟨rfl,hb⟩;have hB:=HB.out.trans (hb.mono HB.out.size); have hR:=zab hb (zaa HR.out) HR.out;clear HB HR hb; have HB:=zjp hB; have HR:=zjp hR; clear hB hR;go_wp2_with fail
 refine (rrot16 _ _).mono ?_;rintro e w3 ⟨rfl,hb⟩;have hB:=HB.out.trans (hb.mono HB.out.size); have hR:=zab hb (zaa HR.out) HR.out;clear HB HR hb; have HB:=zjp hB; have HR:=zjp hR; clear hB hR;go_wp2_with fail
 refine (rrot21 _ _).mono ?_;rintro e w4 ⟨rfl,hb⟩;have hB:=HB.out.trans (hb.mono HB.out.size); have hR:=zab hb (zaa HR.out) HR.out;clear HB HR hb; have HB:=zjp hB; have HR:=zjp hR; clear hB hR;go_wp2_with fail
 refine (rrot17 _ _).mono ?_;rintro e w5 ⟨rfl,hb⟩;have hB:=HB.out.trans (hb.mono HB.out.size); have hR:=zab hb (zaa HR.out) HR.out;clear HB HR hb; have HB:=zjp hB; have HR:=zjp hR; clear hB hR;go_wp2_with fail
 refine (rrot32 _ _).mono ?_;rintro e w6 ⟨rfl,hb⟩;have hB:=HB.out.trans (hb.mono HB.out.size); have hR:=zab hb (zaa HR.out) HR.out;clear HB HR hb; have HB:=zjp hB; have HR:=zjp hR;obtain ⟨r0,r1,r2,r3⟩:=zak hR;obtain ⟨f0,f1,f2,f3⟩:=freeS hR;have lr:=zaa hR;clear hB hR;go_wp2_with fail
 exact za4 rfl rfl (zad (i:=3) (zad (i:=2) (zad (i:=1) (zad (i:=0) HR.out)))) underlying242 rfl (by kernel_rfl)
  ⟨rfl,(((HB.out.setCell (p:=⟨w.heap.size + 1,0,none⟩) (Nat.le_succ _) _).setCell (p:=⟨w.heap.size + 1,1,none⟩) (Nat.le_succ _) _).setCell (p:=⟨w.heap.size + 1,2,none⟩) (Nat.le_succ _) _).setCell (p:=⟨w.heap.size + 1,3,none⟩) (Nat.le_succ _) _⟩
end
section
open Go.RowKit
def RipAt (w:World) (b:Nat) (s:Sip) (w':World):Prop:=w'.heap[b]? = some (.cells (sipC s) 242 (0,0))∧w.grownBy w' (some b)
theorem RipAt.read {w w':World} {b:Nat} {s:Sip} (h:RipAt w b s w'):(w'.cell? ⟨b,0,none⟩ = some (.int .u64 s.a)∧w'.cell? ⟨b,1,none⟩ = some (.int .u64 s.b)∧w'.cell? ⟨b,2,none⟩ = some (.int .u64 s.c)∧w'.cell? ⟨b,3,none⟩ = some (.int .u64 s.d)) ∧
  (w'.frozen? ⟨b,0,none⟩ = false∧w'.frozen? ⟨b,1,none⟩ = false∧w'.frozen? ⟨b,2,none⟩ = false∧w'.frozen? ⟨b,3,none⟩ = false):=⟨zak h.1,freeS h.1⟩
theorem RipAt.set {w w':World} {b i:Nat} {s s':Sip} {v:Value} (h:RipAt w b s w') (e:(sipC s).setIfInBounds i v = sipC s'):RipAt w b s' (w'.setCell ⟨b,i,none⟩ v) :=
 ⟨by rw [← e]; exact zad h.1,zcw h.2⟩
theorem RipAt.below {w w' w'':World} {b:Nat} {s:Sip} (h:RipAt w b s w') (hb:Below w'.heap.size w' w''):RipAt w b s w'' :=
 ⟨zab hb (zaa h.1) h.1,zcm h.2 (zgx hb)⟩
theorem RipAt.all {w w':World} {b:Nat} {s s':Sip} (h:RipAt w b s w'):RipAt w b s' ((((w'.setCell ⟨b,0,none⟩ (.int .u64 s'.a)).setCell ⟨b,1,none⟩ (.int .u64 s'.b)).setCell ⟨b,2,none⟩ (.int .u64 s'.c)).setCell ⟨b,3,none⟩ (.int .u64 s'.d)) :=
 (((h.set (s':=⟨s'.a,s.b,s.c,s.d⟩) rfl).set (s':=⟨s'.a,s'.b,s.c,s.d⟩) rfl).set (s':=⟨s'.a,s'.b,s'.c,s.d⟩) rfl).set rfl
theorem RipAt.base {w W w':World} {b B:Nat} {s:Sip} (h:RipAt W b s w') (hb:Below B w W) (hB:B≤b) (hW:B≤W.heap.size):Below B w w' :=
 hb.trans ⟨h.2.os,h.2.tape,h.2.output,h.2.size,fun k hk=>h.2.block k (by omega) (by simp; omega)⟩
theorem top_wrap (n:Nat):(n:Int) % 256 * 72057594037927936 = IntKind.u64.wrap ((n:Int) * 72057594037927936):=by
 have h:∀ x:Int,IntKind.u64.wrap x = x % 18446744073709551616:=fun x=>rfl
 rw [h]; omega
theorem rsum_any (S:Nat→Prop) (ka kb:Int) (v:Value) (l:List UInt8) (w:World) (h:Vec w S 1 encB v l) (hl:l.length≤1000000000) :
  Calls prog 197 #[.agg #[.int .u64 ka,.int .u64 kb],v] w fun e w'=>e = .returned (.int .u64 (sumP ka kb l))∧Below w.heap.size w w':=by
 obtain ⟨a,cap,rfl⟩:=h.slice;have hcap:=h.len.2;have HV:=zjp (h.any.move (S':=fun b=>b < w.heap.size) (w':=w) xnl fun b hb _=>⟨rfl,hb⟩); clear h
 go_enter func197,ntmps197
 go_wp2_with fail
 refine zam (fun W hW=>?_)
 have hb0:=xam hW
 have hs0:RipAt W (w.heap.size + 1) ⟨xr ka 8317987319222330741,xr kb 7237128888997146477,xr ka 7816392313619706465,xr kb 8387220255154660723⟩ W:=by rw [hW]; exact ⟨zac (by simp),zdo _ _⟩
 have hv0:=HV.out.below hb0;clear hW HV;have HB0:=zjp hb0; have HS0:=zjp hs0; have HV0:=zjp hv0;clear hb0 hs0 hv0;go_loopw [6] (fun at_ wr=>∃ (j:Nat) (s:Sip),at_ = .int .i64 ((8 * j:Nat):Int)∧8 * j≤l.length∧RipAt W (w.heap.size + 1) s wr∧Hid (zji s (l.drop (8 * j)) ((l.drop (8 * j)).length / 8) = zji ⟨xr ka 8317987319222330741,xr kb 7237128888997146477,xr ka 7816392313619706465,xr kb 8387220255154660723⟩ l (l.length / 8))) (fun at_ _=>l.length + 1 - (intOf at_).toNat)
 case atStart=>exact ⟨0,_,rfl,by omega,HS0.out,zjp rfl⟩
 case round =>
  obtain ⟨j,s,rfl,hj,hs,HE⟩:=hrel;obtain ⟨J,hJ⟩:∃ J,8 * j = J:=⟨_,rfl⟩;rw [hJ] at hj HE ⊢;obtain ⟨r,hr⟩:∃ r,l.drop J = r:=⟨_,rfl⟩;have hrl:r.length = l.length - J:=by rw [← hr,List.length_drop]
  rw [hr] at HE;have HRD:=zjp hr; have HJ:=zjp hJ;have HV:=zjp (HV0.out.grown (b:=w.heap.size + 1) (fun x hx=>by omega) hs.2)
  have HS:=zjp hs;obtain ⟨⟨c0,c1,c2,c3⟩,f0,f1,f2,f3⟩:=hs.read;have lb:=zaa hs.1;clear hs hr hJ;by_cases hlt:8≤r.length
  ·have hmin:min (8:Int) ((l.length:Int) - (J:Int)) = 8:=by omega
   have hq8:decide ((8:Int) < 8) = false:=rfl;have hend:zji s r (r.length / 8) = zji (wordP s (numP 0 0 (r.take 8))) (r.drop 8) ((r.drop 8).length / 8):=eachP_more s r hlt;have HEnd:=zjp hend; clear hend;go_wp2_with fail
   go_loopw [7,9] (fun m i wx=>wx = wr∧∃ (k:Nat) (mm:Int),i = .int .i64 k∧k≤8∧m = .int .u64 mm∧Hid (numP k mm ((r.take 8).drop k) = numP 0 0 (r.take 8))) (fun _ i _=>8 - (intOf i).toNat)
   case atStart=>exact ⟨rfl,0,0,rfl,by omega,rfl,zjp rfl⟩
   case round =>
    obtain ⟨rfl,k,mm,rfl,hk,rfl,HT⟩:=hrel;by_cases hlk:k < 8
    ·have hq:decide ((k:Int) < 8) = true:=by simp; omega
     obtain ⟨b,off,rfl,hb,hc⟩:=HV.out.get (J + k) (by omega);have c0:=hc 0 _ rfl;rw [Nat.mul_one,Nat.add_zero] at c0;unfold zf2 at c0;have hkr:k < (r.take 8).length:=by rw [List.length_take]; omega
     have hg:(r.take 8)[k] = l[J + k]:=by rw [List.getElem_take]; simp only [← HRD.out,List.getElem_drop]
     have ht:=HT.out;rw [List.drop_eq_getElem_cons hkr,hg] at ht;have HT2:=zjp ht;clear ht hg HT hc;go_wp2_with fail
     go_roundw
     case rel=>exact ⟨trivial,k + 1,_,by go_num,by omega,rfl,zjp (by rw [← HT2.out]; rfl)⟩
     case measure=>simp [intOf]; omega
    ·have hq:decide ((k:Int) < 8) = false:=by simp; omega
     have hd:(r.take 8).drop k = []:=List.drop_eq_nil_of_le (by rw [List.length_take]; omega);rw [hd] at HT;obtain rfl:mm = numP 0 0 (r.take 8):=HT.out;clear HT hd hq;obtain ⟨m,hm⟩:∃ m,numP 0 0 (r.take 8) = m:=⟨_,rfl⟩;rw [hm] at HEnd ⊢;have HM:=zjp hm; clear hm;go_wp2_with fail
     have hS:=HS.out.set (i:=3) (v:=.int .u64 (xr s.d m)) (s':=⟨s.a,s.b,s.c,xr s.d m⟩) rfl;clear HS; have HS:=zjp hS; clear hS;clear c0 c1 c2 c3 f0 f1 f2 f3;refine (zeb ⟨s.a,s.b,s.c,xr s.d m⟩ _).mono ?_;rintro e w1 ⟨rfl,hb⟩;have hS:=HS.out.below hb;clear HS hb; have HS:=zjp hS; clear hS;go_wp2_with fail
     refine (zeb (rndP ⟨s.a,s.b,s.c,xr s.d m⟩) _).mono ?_;rintro e w2 ⟨rfl,hb⟩;have hS:=HS.out.below hb;clear HS hb;obtain ⟨t,ht⟩:∃ t,rndP (rndP ⟨s.a,s.b,s.c,xr s.d m⟩) = t:=⟨_,rfl⟩;rw [ht];have hw:wordP s m = ⟨xr t.a m,t.b,t.c,t.d⟩:=by rw [← ht]; rfl
     have HW:=zjp hw;have HS:=zjp hS;obtain ⟨⟨c0,c1,c2,c3⟩,f0,f1,f2,f3⟩:=hS.read;have lb2:=zaa hS.1;clear hS ht hw;go_wp2_with fail
     exact ⟨⟨j + 1,⟨xr t.a m,t.b,t.c,t.d⟩,congrArg (Value.int .i64) (by have:=HJ.out; omega),by have:=HJ.out; omega,(HS.out.all (s':=t)).set (i:=0) (v:=.int .u64 (xr t.a m)) rfl,zjp (by rw [← HE.out,HEnd.out,HW.out,show 8 * (j + 1) = J + 8 by have:=HJ.out; omega,← List.drop_drop,HRD.out])⟩,by simp [intOf]; omega⟩
  ·have hmin:min (8:Int) ((l.length:Int) - (J:Int)) = (l.length:Int) - (J:Int):=by omega
   have hq8:decide ((l.length:Int) - (J:Int) < 8) = true:=by simp; omega
   have hr8:r.take 8 = r:=List.take_of_length_le (by omega);have hE:=HE.out;rw [eachP_end s r (by omega)] at hE;have HE2:=zjp hE.symm;clear hE HE;go_wp2_with fail
   go_loopw [7,9] (fun m i wx=>wx = wr∧∃ (k:Nat) (mm:Int),i = .int .i64 k∧k≤r.length∧m = .int .u64 mm∧Hid (numP k mm ((r.take 8).drop k) = numP 0 0 (r.take 8))) (fun _ i _=>r.length - (intOf i).toNat)
   case atStart=>exact ⟨rfl,0,0,rfl,by omega,rfl,zjp rfl⟩
   case round =>
    obtain ⟨rfl,k,mm,rfl,hk,rfl,HT⟩:=hrel;by_cases hlk:k < r.length
    ·have hq:decide ((k:Int) < (l.length:Int) - (J:Int)) = true:=by simp; omega
     obtain ⟨b,off,rfl,hb,hc⟩:=HV.out.get (J + k) (by omega);have c0:=hc 0 _ rfl;rw [Nat.mul_one,Nat.add_zero] at c0;unfold zf2 at c0;have hkr:k < (r.take 8).length:=by rw [List.length_take]; omega
     have hg:(r.take 8)[k] = l[J + k]:=by rw [List.getElem_take]; simp only [← HRD.out,List.getElem_drop]
     have ht:=HT.out;rw [List.drop_eq_getElem_cons hkr,hg] at ht;have HT2:=zjp ht;clear ht hg HT hc;go_wp2_with fail
     go_roundw
     case rel=>exact ⟨trivial,k + 1,_,by go_num,by omega,rfl,zjp (by rw [← HT2.out]; rfl)⟩
     case measure=>simp [intOf]; omega
    ·have hq:decide ((k:Int) < (l.length:Int) - (J:Int)) = false:=by simp; omega
     have hd:(r.take 8).drop k = []:=List.drop_eq_nil_of_le (by rw [List.length_take]; omega);rw [hd] at HT;obtain rfl:mm = numP 0 0 (r.take 8):=HT.out;clear HT hd hq;have htw:=top_wrap l.length;rw [hr8];obtain ⟨m,hm⟩:∃ m,bits .or .u64 (numP 0 0 r) (IntKind.u64.wrap ((l.length:Int) * 72057594037927936)) = m:=⟨_,rfl⟩;have hm2:bits .or .u64 (numP 0 0 r) ((l.length:Int) % 256 * 72057594037927936) = m:=by rw [htw]; exact hm
     have HM:=zjp hm; clear hm htw;go_wp2_with fail
     clear hm2;have hS:=HS.out.set (i:=3) (v:=.int .u64 (xr s.d m)) (s':=⟨s.a,s.b,s.c,xr s.d m⟩) rfl;clear HS; have HS:=zjp hS; clear hS;clear c0 c1 c2 c3 f0 f1 f2 f3;refine (zeb ⟨s.a,s.b,s.c,xr s.d m⟩ _).mono ?_;rintro e w1 ⟨rfl,hb⟩;have hS:=HS.out.below hb;clear HS hb; have HS:=zjp hS; clear hS;go_wp2_with fail
     refine (zeb (rndP ⟨s.a,s.b,s.c,xr s.d m⟩) _).mono ?_;rintro e w2 ⟨rfl,hb⟩;have hS:=HS.out.below hb;clear HS hb;obtain ⟨t,ht⟩:∃ t,rndP (rndP ⟨s.a,s.b,s.c,xr s.d m⟩) = t:=⟨_,rfl⟩;rw [ht];have hw:wordP s m = ⟨xr t.a m,t.b,t.c,t.d⟩:=by rw [← ht]; rfl
     have HW:=zjp hw;have HS:=zjp hS;obtain ⟨⟨c0,c1,c2,c3⟩,f0,f1,f2,f3⟩:=hS.read;have lb2:=zaa hS.1;clear hS ht hw;go_upto_region 14 with fail
     refine zam (fun W1 hW1=>?_)
     have hS:RipAt W (w.heap.size + 1) t W1:=by rw [hW1]; exact HS.out.all (s':=t)
     clear HS c0 c1 c2 c3 f0 f1 f2 f3 lb2 hW1; have HS:=zjp hS;obtain ⟨⟨c0,c1,c2,c3⟩,f0,f1,f2,f3⟩:=hS.read;have lb2:=zaa hS.1;clear hS;go_upto_region 16 with fail
     refine zam (fun W2 hW2=>?_)
     have hS:RipAt W (w.heap.size + 1) ⟨xr t.a m,t.b,t.c,t.d⟩ W2:=by rw [hW2]; exact HS.out.set (i:=0) (v:=.int .u64 (xr t.a m)) rfl
     clear HS c0 c1 c2 c3 f0 f1 f2 f3 lb2 hW2; have HS:=zjp hS;obtain ⟨⟨c0,c1,c2,c3⟩,f0,f1,f2,f3⟩:=hS.read;have lb2:=zaa hS.1;clear hS;go_wp2_with fail
     have hS:=HS.out.set (i:=2) (v:=.int .u64 (xr t.c 255)) (s':=⟨xr t.a m,t.b,xr t.c 255,t.d⟩) rfl;clear HS c0 c1 c2 c3 f0 f1 f2 f3; have HS:=zjp hS; clear hS;obtain ⟨u,hu⟩:∃ u:Sip,(⟨xr t.a m,t.b,t.c,t.d⟩:Sip) = u:=⟨_,rfl⟩;refine (zeb ⟨xr t.a m,t.b,xr t.c 255,t.d⟩ _).mono ?_;rintro e w3 ⟨rfl,hb⟩;have hS:=HS.out.below hb;clear HS hb; have HS:=zjp hS; clear hS;go_wp2_with fail
     refine (zeb (rndI 1 ⟨xr t.a m,t.b,xr t.c 255,t.d⟩) _).mono ?_;rintro e w4 ⟨rfl,hb⟩;have hS:=HS.out.below hb;clear HS hb; have HS:=zjp hS; clear hS;go_wp2_with fail
     refine (zeb (rndI 2 ⟨xr t.a m,t.b,xr t.c 255,t.d⟩) _).mono ?_;rintro e w5 ⟨rfl,hb⟩;have hS:=HS.out.below hb;clear HS hb; have HS:=zjp hS; clear hS;go_wp2_with fail
     refine (zeb (rndI 3 ⟨xr t.a m,t.b,xr t.c 255,t.d⟩) _).mono ?_;rintro e w6 ⟨rfl,hb⟩;have hS:=HS.out.below hb;clear HS hb;obtain ⟨v,hv⟩:∃ v,rndI 4 ⟨xr t.a m,t.b,xr t.c 255,t.d⟩ = v:=⟨_,rfl⟩;rw [show rndP (rndI 3 ⟨xr t.a m,t.b,xr t.c 255,t.d⟩) = v from hv];have HVv:=zjp hv;have HS:=zjp hS;obtain ⟨⟨c0,c1,c2,c3⟩,f0,f1,f2,f3⟩:=hS.read;have lb2:=zaa hS.1;clear hS hv hu;go_upto_region 18 with fail
     refine zam (fun W3 hW3=>?_)
     have hS:RipAt W (w.heap.size + 1) v W3:=by rw [hW3]; exact HS.out.all (s':=v)
     clear HS hW3 c0 c1 c2 c3 f0 f1 f2 f3; have HS:=zjp hS;obtain ⟨⟨c0,c1,c2,c3⟩,f0,f1,f2,f3⟩:=hS.read;have lb3:=zaa hS.1;clear hS;go_wp2_with fail
     go_ret;refine ⟨?_,HS.out.base HB0.out (by omega) HB0.out.size⟩;rw [← sumP_of ka kb l s r HE2.out ⟨xr t.a m,t.b,t.c,t.d⟩ (by rw [HM.out]; exact HW.out) v HVv.out];rfl
end
section
open Go.RowKit
theorem rsparts_any (S:Nat→Prop) (ka kb:Int) (v:Value) (L:List (List UInt8)) (w:World) (h:Vec w S 1 zba v L) (hl:∀ t∈L,t.length≤60000) (hn:L.length≤1000) :
  Calls prog 161 #[.agg #[.int .u64 ka,.int .u64 kb],v] w fun e w'=>e = .returned (.int .u64 (zde ka kb L))∧Below w.heap.size w w':=by
 obtain ⟨a,cap,rfl⟩:=h.slice;have HV:=zjp h.any; clear h;have HL:=zjp hl; clear hl;go_enter func161,ntmps161
 go_wp2_with fail
 refine zam (fun W hW=>?_)
 have hb0:=xal hW
 have hk:W.heap[w.heap.size]? = some (.cells #[.int .u64 ka,.int .u64 kb] 41 (0,0)):=by rw [hW]; exact zac rfl
 have HV0:=zjp (HV.out.below hb0);have HB0:=zjp hb0; have HK:=zjp hk;clear hW hb0 hk HV;go_loopw [5,6] (fun v i wr=>∃ k:Nat,i = .int .i64 k∧k≤L.length∧OwnV 5 1 encB W v ((L.take k).flatMap partP) wr) (fun _ i _=>L.length - (intOf i).toNat)
 case atStart=>exact ⟨0,rfl,by omega,OwnV.start _ _ _ _⟩
 case round =>
  obtain ⟨k,rfl,hk,ho⟩:=hrel;have HO:=zjp ho; clear ho;by_cases hlt:k < L.length
  ·have hq:decide ((k:Int) < L.length) = true:=by simp; omega
   obtain ⟨t,ht⟩:∃ t,L[k] = t:=⟨_,rfl⟩;have htl:t.length≤60000:=HL.out t (by rw [← ht]; exact List.getElem_mem _);obtain ⟨b,off,rfl,hb,hc⟩:=(HV0.out.below HO.out.2).get k hlt;have c0:=hc 0 _ rfl;rw [Nat.mul_one,Nat.add_zero,ht] at c0;clear hc;have hm:decide ((65535:Int) < t.length) = false:=by simp; omega
   have hx:=extract_all t;obtain ⟨x,ex⟩:∃ x,UInt8.ofNat (t.length / 256) = x:=⟨_,rfl⟩;obtain ⟨y,ey⟩:∃ y,UInt8.ofNat t.length = y:=⟨_,rfl⟩;have hxa:(t.length:Int) / 256 = (x.toNat:Int):=by rw [← ex,UInt8.toNat_ofNat']; omega
   have hya:(t.length:Int) % 256 = (y.toNat:Int):=by rw [← ey,UInt8.toNat_ofNat']; omega
   have hp:=zie t htl;rw [ex,ey] at hp;have hts:L.take (k + 1) = L.take k ++ [t]:=by rw [List.take_succ_eq_append_getElem hlt,ht]
   have htk:=zhq (L.take k) fun u hu=>HL.out u (List.mem_of_mem_take hu)
   rw [List.length_take] at htk;have HP:=zjp hp; have HTs:=zjp hts;clear hp hts ex ey;obtain ⟨P,hP⟩:∃ P,(L.take k).flatMap partP = P:=⟨_,rfl⟩;rw [hP] at HO htk;have HPP:=zjp hP; clear hP;have HO1:=zjp (HO.out.below ((Below.refl _ _).alloc xnl (.cells #[.int .u8 (x.toNat:Int),.int .u8 (y.toNat:Int)] 5)));have HR1:=zjp (reads_row (xs:=[x,y].flatMap encB) (n:=2) (c:=2) (heap_alloc_new wr (.cells #[.int .u8 (x.toNat:Int),.int .u8 (y.toNat:Int)] 5)) rfl);have hz0:=HO.out.2.size;have hlen:P.length + ([x,y]:List UInt8).length≤1000000000:=by simp only [List.length_cons,List.length_nil]; omega
   have hlen2:(P ++ [x,y]).length + t.length≤1000000000:=by rw [List.length_append]; simp only [List.length_cons,List.length_nil]; omega
   go_wp2_with (at_builtin; first | (refine zcr rfl (.tmp 23) (.tmp 31) 175 rfl 5 (.int .u8 0) 1 1 encB (fun _=>rfl) one_encB underlying175 infoBy rfl (by decide) (by decide) (w0:=W) (v:=u5) (A:=P) (B:=[x,y]) rfl HO1.out rfl HR1.out hlen ?_; intro v2 w2 ho2 hk2 hz2) | (refine zg7 rfl (.tmp 33) (.tmp 34) 175 9 rfl 5 underlying175 underlying9 infoBy (w0:=W) (v:=v2) (A:=P ++ [x,y]) t rfl ho2 rfl hlen2 ?_; intro v3 w3 ho3 hz3))
   go_roundw
   case rel=>exact ⟨k + 1,by go_num,by omega,by rw [HTs.out,List.flatMap_append,HPP.out,List.flatMap_cons,List.flatMap_nil,List.append_nil,HP.out,← List.append_assoc]; exact ho3⟩
   case measure=>simp [intOf]; omega
  ·have hq:decide ((k:Int) < L.length) = false:=by simp; omega
   have htk:=zhq L fun u hu=>HL.out u hu
   rw [List.take_of_length_le (by omega)] at HO;have hz0:=HO.out.2.size;have hk2:wr.heap[w.heap.size]? = some (.cells #[.int .u64 ka,.int .u64 kb] 41 (0,0)):=zab HO.out.2 (zaa HK.out) HK.out;obtain ⟨k0,k1⟩:=zae hk2;go_wp2_with fail
   refine (rsum_any _ ka kb _ (L.flatMap partP) _ (OwnV.vec (size:=1) (enc:=encB) (fun _=>rfl) HO.out) (by omega)).mono ?_
   rintro e w2 ⟨rfl,hb2⟩;go_wp2_with fail
   go_ret;exact ⟨rfl,HB0.out.trans ((HO.out.2.mono HB0.out.size).trans (hb2.mono (by have:=HB0.out.size; omega)))⟩
theorem zhr (ka kb:Int) (x y:List UInt8) (hx:x.length≤60000) (hy:y.length≤60000) (w:World) (g:Nat) (h:w.heap[g]? = some (.cells #[zal x,zal y] 9 (0,0))) :
  Calls prog 161 #[.agg #[.int .u64 ka,.int .u64 kb],.slice (some ⟨g,0,none⟩) 2 2] w fun e w'=>e = .returned (.int .u64 (zde ka kb [x,y]))∧Below w.heap.size w w':=by
 refine rsparts_any zav ka kb _ [x,y] w ⟨_,2,rfl,by simp,fun _=>⟨g,0,rfl,trivial,zaa h,fun j z hj i u hu=>?_⟩⟩ (by intro t ht; simp at ht; rcases ht with rfl | rfl <;> omega) (by simp)
 rw [cell_of_row _ _ _ _ _ _ h]
 match j,i,hj,hu with
 | 0,0,hj,hu=>simp at hj; subst hj; simpa using hu
 | 1,0,hj,hu=>simp at hj; subst hj; simpa using hu
 | 0,i + 1,hj,hu=>simp at hu
 | 1,i + 1,hj,hu=>simp at hu
 | j + 2,_,hj,_=>simp at hj
theorem zgt (ka kb:Int) (l:List UInt8) (w:World) (hl:l.length≤60000) :
  Calls prog 116 #[.agg #[.int .u64 ka,.int .u64 kb],zal l] w fun e w'=>e = .returned (.agg #[.int .u64 (zeo ka kb l).1,.int .u64 (zeo ka kb l).2])∧Below w.heap.size w w':=by
 obtain ⟨p,hp⟩:∃ p,zde ka kb [l,[97]] = p:=⟨_,rfl⟩;obtain ⟨q,hq⟩:∃ q,zde ka kb [l,[98]] = q:=⟨_,rfl⟩;have hpq:zeo ka kb l = (p,q):=by rw [← hp,← hq]; rfl
 rw [hpq];have HP:=zjp hp; have HQ:=zjp hq;clear hp hq hpq;go_enter func116,ntmps116
 go_wp2_with fail
 refine zam (fun W hW=>?_)
 have hb0:=xam hW
 have hk0:W.heap[w.heap.size]? = some (.cells #[.int .u64 ka,.int .u64 kb] 41 (0,0)):=by rw [hW]; exact zaf (zac rfl)
 have hz0:W.heap[w.heap.size + 1]? = some (.cells #[.int .u64 0,.int .u64 0] 41 (0,0)):=by rw [hW]; exact zac (by simp)
 have hW0:=zaa hk0;obtain ⟨k0,k1⟩:=zae hk0;clear hW;have bD:Below W.heap.size W W.drew:=(Below.refl _ _).drew;refine wp_region_noPanic ?_
 refine zat (by kernel_rfl) (fun w'=>w'.cell? ⟨w.heap.size,0,none⟩ = some (.int .u64 ka)∧w'.cell? ⟨w.heap.size,1,none⟩ = some (.int .u64 kb)) 9 (⟨k0,k1⟩) (fun hHeld=>?_)
 refine tK 0 (h:=?_);refine tK 1 (h:=?_);refine tK 4 (h:=?_);refine tK 5 (h:=?_);refine zbf (rs:=[2,6]) (by kernel_rfl) (by simp) ?_
 refine AllReadyK.cons rfl (fun K hK=>?_) (AllReadyK.cons rfl (fun K hK=>?_) AllReadyK.nil)
 focus
  go_simp
  refine zbe hK (⟨((bD.alloc bD.size _).cell (p:=⟨w.heap.size,0,none⟩) hW0).trans k0,((bD.alloc bD.size _).cell (p:=⟨w.heap.size,1,none⟩) hW0).trans k1⟩) (fun hHeld=>?_)
  clear hK K
  refine zbi (fun W1 hW1=>?_)
  have b1:Below W.heap.size W W1:=by rw [hW1]; exact bD.alloc bD.size (.cells #[zal l,zal [97]] 9)
  have g1:W1.heap[W.heap.size]? = some (.cells #[zal l,zal [97]] 9 (0,0)):=by rw [hW1]; exact zac rfl
  clear hW1;refine zbf (rs:=[3,6]) (by kernel_rfl) (by simp) ?_
  refine AllReadyK.cons rfl (fun K hK=>?_) (AllReadyK.cons rfl (fun K hK=>?_) AllReadyK.nil)
  focus
   go_simp;refine (zhr ka kb l [97] hl (by decide) _ _ g1).mono ?_;rintro e w2 ⟨rfl,hb⟩;have b2:=b1.trans (hb.mono b1.size);clear hb
   refine zbe hK (⟨(b2.cell (p:=⟨w.heap.size,0,none⟩) hW0).trans k0,(b2.cell (p:=⟨w.heap.size,1,none⟩) hW0).trans k1⟩) (fun hHeld=>?_)
   clear hK K
   refine xrK 6 rfl fun K hK=>?_
   go_simp
   refine zbe hK (⟨((b2.alloc b2.size _).cell (p:=⟨w.heap.size,0,none⟩) hW0).trans k0,((b2.alloc b2.size _).cell (p:=⟨w.heap.size,1,none⟩) hW0).trans k1⟩) (fun hHeld=>?_)
   clear hK K
   refine zbi (fun W3 hW3=>?_)
   have b3:Below W.heap.size W W3:=by rw [hW3]; exact b2.alloc b2.size (.cells #[zal l,zal [98]] 9)
   have g3:W3.heap[w2.heap.size]? = some (.cells #[zal l,zal [98]] 9 (0,0)):=by rw [hW3]; exact zac rfl
   clear hW3
  rotate_left 1
  focus
   go_simp
   refine zbe hK (⟨((b1.alloc b1.size _).cell (p:=⟨w.heap.size,0,none⟩) hW0).trans k0,((b1.alloc b1.size _).cell (p:=⟨w.heap.size,1,none⟩) hW0).trans k1⟩) (fun hHeld=>?_)
   clear hK K
   refine zbi (fun W2 hW2=>?_)
   have b2:Below W.heap.size W W2:=by rw [hW2]; exact b1.alloc b1.size (.cells #[zal l,zal [98]] 9)
   have g3:W2.heap[W1.heap.size]? = some (.cells #[zal l,zal [98]] 9 (0,0)):=by rw [hW2]; exact zac rfl
   have g1':W2.heap[W.heap.size]? = some (.cells #[zal l,zal [97]] 9 (0,0)):=by rw [hW2]; exact zaf g1
   clear hW2
   refine xrK 3 rfl fun K hK=>?_
   go_simp;refine (zhr ka kb l [97] hl (by decide) _ _ g1').mono ?_;rintro e W3 ⟨rfl,hb⟩;have b3:=b2.trans (hb.mono b2.size);have g3:=zab hb (zaa g3) g3;clear hb
   refine zbe hK (⟨(b3.cell (p:=⟨w.heap.size,0,none⟩) hW0).trans k0,(b3.cell (p:=⟨w.heap.size,1,none⟩) hW0).trans k1⟩) (fun hHeld=>?_)
   clear hK K
 rotate_left 2
 focus
  go_simp
  refine zbe hK (⟨((bD.alloc bD.size _).cell (p:=⟨w.heap.size,0,none⟩) hW0).trans k0,((bD.alloc bD.size _).cell (p:=⟨w.heap.size,1,none⟩) hW0).trans k1⟩) (fun hHeld=>?_)
  clear hK K
  refine zbi (fun W1 hW1=>?_)
  have b1:Below W.heap.size W W1:=by rw [hW1]; exact bD.alloc bD.size (.cells #[zal l,zal [98]] 9)
  have g3:W1.heap[W.heap.size]? = some (.cells #[zal l,zal [98]] 9 (0,0)):=by rw [hW1]; exact zac rfl
  clear hW1
  refine xrK 2 rfl fun K hK=>?_
  go_simp
  refine zbe hK (⟨((b1.alloc b1.size _).cell (p:=⟨w.heap.size,0,none⟩) hW0).trans k0,((b1.alloc b1.size _).cell (p:=⟨w.heap.size,1,none⟩) hW0).trans k1⟩) (fun hHeld=>?_)
  clear hK K
  refine zbi (fun W2 hW2=>?_)
  have b2:Below W.heap.size W W2:=by rw [hW2]; exact b1.alloc b1.size (.cells #[zal l,zal [97]] 9)
  have g1:W2.heap[W1.heap.size]? = some (.cells #[zal l,zal [97]] 9 (0,0)):=by rw [hW2]; exact zac rfl
  have g3':W2.heap[W.heap.size]? = some (.cells #[zal l,zal [98]] 9 (0,0)):=by rw [hW2]; exact zaf g3
  clear hW2
  refine xrK 3 rfl fun K hK=>?_
  go_simp;refine (zhr ka kb l [97] hl (by decide) _ _ g1).mono ?_;rintro e W3 ⟨rfl,hb⟩;have b3:=b2.trans (hb.mono b2.size);have g3:=zab hb (zaa g3') g3';clear hb
  refine zbe hK (⟨(b3.cell (p:=⟨w.heap.size,0,none⟩) hW0).trans k0,(b3.cell (p:=⟨w.heap.size,1,none⟩) hW0).trans k1⟩) (fun hHeld=>?_)
  clear hK K
 all_goals
  refine xrK 7 rfl fun K hK=>?_
  go_simp;refine (zhr ka kb l [98] hl (by decide) _ _ g3).mono ?_; rintro e w4 ⟨rfl,hb⟩; have b4:=b3.trans (hb.mono b3.size); clear hb; rw [HP.out,HQ.out]
  refine zbe hK (⟨(b4.cell (p:=⟨w.heap.size,0,none⟩) hW0).trans k0,(b4.cell (p:=⟨w.heap.size,1,none⟩) hW0).trans k1⟩) (fun hHeld=>?_)
  clear hK K;refine tK 8 (h:=?_);have hz4:=zab b4 (zaa hz0) hz0;have hz5:=zaa hz4;obtain ⟨z0,z1⟩:=zae hz4;have y0:=frozen_of_row _ _ 0 _ _ hz4;have y1:=frozen_of_row _ _ 1 _ _ hz4
  refine xrK 9 rfl fun K hK=>?_
  go_simp;refine zas hK (by decide) ?_;clear hK K;refine zar (by kernel_rfl) ?_ _;refine NoPanic.normal ?_;go_wp2_with fail
  exact za4 rfl rfl (zad (i:=1) (v:=.int .u64 q) (zad (i:=0) (v:=.int .u64 p) hz4)) underlying41 rfl (by kernel_rfl)
   ⟨rfl,((hb0.trans (b4.mono hb0.size)).setCell (p:=⟨w.heap.size + 1,0,none⟩) (Nat.le_succ _) _).setCell (p:=⟨w.heap.size + 1,1,none⟩) (Nat.le_succ _) _⟩
end
section
open Go.RowKit
attribute [local go_sem] zag zaj za7
theorem itoa_least:Lib.itoa (-9223372036854775808) = [45,57,50,50,51,51,55,50,48,51,54,56,53,52,55,55,53,56,48,56]:=by decide +kernel
theorem rdecimal_any (n:Int) (hn:InI n) (w:World):Calls prog 117 #[.int .i64 n] w fun e w'=>e = .returned (zal (Lib.itoa n))∧Below w.heap.size w w':=by
 obtain ⟨h0,h1⟩:=hn;by_cases hp:0≤n
 ·obtain ⟨m,rfl⟩:=Int.eq_ofNat_of_zero_le hp
  have e:Lib.itoa ((m:Nat):Int) = Lib.decDigits m:=Lib.itoa_nonneg m;rw [e];have d1:decide ((0:Int)≤(m:Int)) = true:=by simp
  obtain ⟨t,ht⟩:∃ t,Lib.decDigits m = t:=⟨_,rfl⟩;have hd:=rnum9_any 19 m;rw [ht] at hd ⊢;have HD:=zjp hd;clear ht hd e;go_enter func117,ntmps117
  go_wp2_with fail
  refine (HD.out _ (by omega) (by omega)).mono ?_;rintro e w1 ⟨rfl,hb⟩;have HB:=zjp hb; clear hb;go_wp2_with fail
  go_ret;exact ⟨rfl,HB.out⟩
 ·have d1:decide ((0:Int)≤n) = false:=by simpa using hp
  by_cases hm:n = -9223372036854775808
  ·subst hm
   rw [itoa_least];have hw0:IntKind.i64.wrap 9223372036854775808 = -9223372036854775808:=by rw [IntKind.wrap_i64]; omega
   have hw:wrap64 9223372036854775808 = -9223372036854775808:=by simp only [wrap64]; first | rfl | omega | decide
   have d2:((-9223372036854775808:Int) == -9223372036854775808) = true:=rfl;go_enter func117,ntmps117
   go_wp2_with fail
   go_ret;exact ⟨rfl,Below.refl _ _⟩
  ·obtain ⟨u,hu⟩:∃ u:Nat,-n = (u:Int):=⟨(-n).toNat,by omega⟩
   have hn2:n = -(u:Int):=by omega
   subst hn2;rw [Lib.itoa_neg u (by omega)];have hw:IntKind.i64.wrap (- -(u:Int)) = (u:Int):=by rw [IntKind.wrap_i64]; omega
   have d2:((-(u:Int)) == (u:Int)) = false:=beq_eq_false_iff_ne.2 (by omega);obtain ⟨t,ht⟩:∃ t,Lib.decDigits u = t:=⟨_,rfl⟩;have hl:t.length≤19:=by rw [← ht]; exact zjk (k:=19) (by decide) (by omega)
   have hc:¬ 9223372036854775807 < 1 + t.length:=by omega
   have hd:=rnum9_any 19 u;rw [ht] at hd ⊢;have HD:=zjp hd;clear ht hd hu;go_enter func117,ntmps117
   go_wp2_with fail
   refine (HD.out _ (by omega) (by omega)).mono ?_;rintro e w1 ⟨rfl,hb⟩;have HB:=zjp hb; clear hb;go_wp2_with fail
   go_ret;exact ⟨rfl,HB.out⟩
theorem ziz (k:Int × Int) (i:Int) (b:Bool) (s:List UInt8) (w:World) (hi:InI i) (hs:s.length≤50000) :
  Calls prog 77 #[.agg #[.int .u64 k.1,.int .u64 k.2],.int .i64 i,.bool b,zal s] w fun e w'=>e = .returned (.agg #[.int .u64 (keyN k (Lib.itoa i) b s).1,.int .u64 (keyN k (Lib.itoa i) b s).2])∧Below w.heap.size w w':=by
 have hd:=itoa_len hi;have hdc:=rdecimal_any i hi;obtain ⟨t,ht⟩:∃ t,Lib.itoa i = t:=⟨_,rfl⟩;rw [ht] at hd hdc ⊢;have HDc:=zjp hdc;obtain ⟨x,hx⟩:∃ x,zeo k.1 k.2 (zdp t) = x:=⟨_,rfl⟩;have hl1:¬ 9223372036854775807 < 5 + t.length:=by omega
 have hl2:¬ 9223372036854775807 < 5 + s.length:=by omega
 have hfl:(zdp t).length≤60000:=by simp [zdp]; omega
 have hsl:(zeh s).length≤60000:=by simp [zeh]; omega
 obtain ⟨ft,hft⟩:∃ ft,zdp t = ft:=⟨_,rfl⟩;obtain ⟨st,hst⟩:∃ st,zeh s = st:=⟨_,rfl⟩;rw [hft] at hx hfl; rw [hst] at hsl;have hf5:102 :: 105 :: 101 :: 108 :: 100 :: t = ft:=hft;have hs5:115 :: 97 :: 108 :: 116 :: 61 :: s = st:=hst;have HX:=zjp hx; have HFT:=zjp hft; have HST:=zjp hst;clear hdc ht hx hft hst hi;obtain ⟨r,hr⟩:∃ r,keyN k t b s = r:=⟨_,rfl⟩;have hr2:(bif b then zeo x.1 x.2 (zeh s) else x) = r:=by rw [← hr,← HX.out,← HFT.out]; rfl
 rw [hr];have HR:=zjp hr2;clear hr hr2;go_enter func77,ntmps77
 go_wp2_with fail
 refine zam (fun W0 hW=>?_)
 have hb0:=xam hW
 have hk0:W0.heap[w.heap.size]? = some (.cells #[.int .u64 k.1,.int .u64 k.2] 41 (0,0)):=by rw [hW]; exact zaf (zac rfl)
 have hr0:W0.heap[w.heap.size + 1]? = some (.cells #[.int .u64 0,.int .u64 0] 41 (0,0)):=by rw [hW]; exact zac (by simp)
 clear hW;have HB0:=zjp hb0; have HR0:=zjp hr0;have lk:=zaa hk0; have lr:=zaa hr0;have HC:=zjp (show ∀ w',Below W0.heap.size W0 w'→w'.cell? ⟨w.heap.size,0,none⟩ = some (.int .u64 k.1)∧w'.cell? ⟨w.heap.size,1,none⟩ = some (.int .u64 k.2) from fun w' hb=>zae (zab hb lk hk0))
 have bD:Below W0.heap.size W0 W0.drew:=(Below.refl _ _).drew;clear hb0 hk0 hr0;go_cut [9] (fun s9 wx=>∃ zb:Nat,s9 = .pointer (some ⟨zb,0,none⟩)∧W0.heap.size≤zb∧wx.heap[zb]? = some (.cells #[.int .u64 x.1,.int .u64 x.2] 41 (0,0))∧Below W0.heap.size W0 wx)
 case first =>
  refine wp_region_noPanic ?_
  refine wp_region_held_drew (S:=(fun w'=>w'.cell? ⟨w.heap.size,0,none⟩ = some (.int .u64 k.1)∧w'.cell? ⟨w.heap.size,1,none⟩ = some (.int .u64 k.2))) (by kernel_rfl) (HC.out _ bD) (fun hHeld=>?_)
  refine tH 0 (h:=?_);refine tH 1 (h:=?_);refine wpAnyH_ready (rs:=[2,5]) (by kernel_rfl) (by simp) ?_
  refine AllReadyH.cons rfl (fun K hK=>?_) (AllReadyH.cons rfl (fun K hK=>?_) AllReadyH.nil)
  ·as_aux_lemma =>
    go_simp;refine (HDc.out _).mono ?_; rintro e V1 ⟨rfl,hb⟩; have b1:=bD.trans (hb.mono bD.size);clear hb
    refine hK.out _ _ (HC.out _ b1) (fun hHeld=>?_)
    clear hK K;refine tH 3 (h:=?_);refine wpAnyH_ready (rs:=[4,5]) (by kernel_rfl) (by simp) ?_
    refine AllReadyH.cons rfl (fun K hK=>?_) (AllReadyH.cons rfl (fun K hK=>?_) AllReadyH.nil)
    ·as_aux_lemma =>
      go_simp;refine (zgt k.1 k.2 ft _ hfl).mono ?_; rw [HX.out]; rintro e V2 ⟨rfl,hb⟩; have b2:=b1.trans (hb.mono b1.size);clear hb
      refine hK.out _ _ (HC.out _ b2) (fun hHeld=>?_)
      clear hK K;refine wpAnyH_ready (rs:=[5]) (by kernel_rfl) (by simp) ?_
      refine AllReadyH.cons rfl (fun K hK=>?_) AllReadyH.nil
      go_simp
      refine hK.out _ _ (HC.out _ (b2.alloc b2.size _)) (fun hHeld=>?_)
      clear hK K
      refine zbr (fun V3 hV3=>?_)
      have b3:Below W0.heap.size W0 V3:=by rw [hV3]; exact b2.alloc b2.size _
      have z3:V3.heap[V2.heap.size]? = some (.cells #[.int .u64 0,.int .u64 0] 41 (0,0)):=by rw [hV3]; exact zac rfl
      have hzz:=b2.size;have hzd:W0.drew.heap.size = W0.heap.size:=rfl;clear hV3 hHeld;have hHeld:=HC.out _ b3;have fz:=frozen_of_row _ _ 0 _ _ z3; have fz2:=frozen_of_row _ _ 1 _ _ z3; obtain ⟨e0,e1⟩:=zae z3; have lz:=zaa z3;have hb6:=(b3.setCell (p:=⟨V2.heap.size,0,none⟩) (by show W0.heap.size≤V2.heap.size; omega) (.int .u64 x.1)).setCell (p:=⟨V2.heap.size,1,none⟩) (by show W0.heap.size≤V2.heap.size; omega) (.int .u64 x.2);refine wpAnyH_ready (rs:=[6]) (by kernel_rfl) (by simp) ?_
      refine AllReadyH.cons rfl (fun K hK=>?_) AllReadyH.nil
      go_simp;skip
      refine hK.out _ _ (HC.out _ hb6) (fun hHeld=>?_)
      clear hK K;refine wpAnyH_done (by kernel_rfl) ?_ _;refine NoPanic.normal ?_;go_wp2_with fail
      go_meet;exact ⟨V2.heap.size,rfl,by omega,zad (i:=1) (v:=.int .u64 x.2) (zad (i:=0) (v:=.int .u64 x.1) z3),hb6⟩
    ·as_aux_lemma =>
      go_simp
      refine hK.out _ _ (HC.out _ (b1.alloc b1.size _)) (fun hHeld=>?_)
      clear hK K
      refine zbr (fun V2 hV2=>?_)
      have b2:Below W0.heap.size W0 V2:=by rw [hV2]; exact b1.alloc b1.size _
      have z2:V2.heap[V1.heap.size]? = some (.cells #[.int .u64 0,.int .u64 0] 41 (0,0)):=by rw [hV2]; exact zac rfl
      have hzz:=b1.size;have hzd:W0.drew.heap.size = W0.heap.size:=rfl;clear hV2 hHeld;have hHeld:=HC.out _ b2;refine wpAnyH_ready (rs:=[4]) (by kernel_rfl) (by simp) ?_
      refine AllReadyH.cons rfl (fun K hK=>?_) AllReadyH.nil
      go_simp;refine (zgt k.1 k.2 ft _ hfl).mono ?_; rw [HX.out]; rintro e V3 ⟨rfl,hb⟩; have b3:=b2.trans (hb.mono b2.size);have z3:=zab hb (zaa z2) z2;clear hb
      refine hK.out _ _ (HC.out _ b3) (fun hHeld=>?_)
      clear hK K;have fz:=frozen_of_row _ _ 0 _ _ z3; have fz2:=frozen_of_row _ _ 1 _ _ z3; obtain ⟨e0,e1⟩:=zae z3; have lz:=zaa z3;have hb6:=(b3.setCell (p:=⟨V1.heap.size,0,none⟩) (by show W0.heap.size≤V1.heap.size; omega) (.int .u64 x.1)).setCell (p:=⟨V1.heap.size,1,none⟩) (by show W0.heap.size≤V1.heap.size; omega) (.int .u64 x.2);refine wpAnyH_ready (rs:=[6]) (by kernel_rfl) (by simp) ?_
      refine AllReadyH.cons rfl (fun K hK=>?_) AllReadyH.nil
      go_simp;skip
      refine hK.out _ _ (HC.out _ hb6) (fun hHeld=>?_)
      clear hK K;refine wpAnyH_done (by kernel_rfl) ?_ _;refine NoPanic.normal ?_;go_wp2_with fail
      go_meet;exact ⟨V1.heap.size,rfl,by omega,zad (i:=1) (v:=.int .u64 x.2) (zad (i:=0) (v:=.int .u64 x.1) z3),hb6⟩
  ·as_aux_lemma =>
    go_simp
    refine hK.out _ _ (HC.out _ (bD.alloc bD.size _)) (fun hHeld=>?_)
    clear hK K
    refine zbr (fun V1 hV1=>?_)
    have b1:Below W0.heap.size W0 V1:=by rw [hV1]; exact bD.alloc bD.size _
    have z1:V1.heap[W0.heap.size]? = some (.cells #[.int .u64 0,.int .u64 0] 41 (0,0)):=by rw [hV1]; exact zac rfl
    have hzz:=bD.size;have hzd:W0.drew.heap.size = W0.heap.size:=rfl;clear hV1 hHeld;have hHeld:=HC.out _ b1;refine wpAnyH_ready (rs:=[2]) (by kernel_rfl) (by simp) ?_
    refine AllReadyH.cons rfl (fun K hK=>?_) AllReadyH.nil
    go_simp;refine (HDc.out _).mono ?_; rintro e V2 ⟨rfl,hb⟩; have b2:=b1.trans (hb.mono b1.size);have z2:=zab hb (zaa z1) z1;clear hb
    refine hK.out _ _ (HC.out _ b2) (fun hHeld=>?_)
    clear hK K;refine tH 3 (h:=?_);refine wpAnyH_ready (rs:=[4]) (by kernel_rfl) (by simp) ?_
    refine AllReadyH.cons rfl (fun K hK=>?_) AllReadyH.nil
    go_simp;refine (zgt k.1 k.2 ft _ hfl).mono ?_; rw [HX.out]; rintro e V3 ⟨rfl,hb⟩; have b3:=b2.trans (hb.mono b2.size);have z3:=zab hb (zaa z2) z2;clear hb
    refine hK.out _ _ (HC.out _ b3) (fun hHeld=>?_)
    clear hK K;have fz:=frozen_of_row _ _ 0 _ _ z3; have fz2:=frozen_of_row _ _ 1 _ _ z3; obtain ⟨e0,e1⟩:=zae z3; have lz:=zaa z3;have hb6:=(b3.setCell (p:=⟨W0.heap.size,0,none⟩) (by show W0.heap.size≤W0.heap.size; omega) (.int .u64 x.1)).setCell (p:=⟨W0.heap.size,1,none⟩) (by show W0.heap.size≤W0.heap.size; omega) (.int .u64 x.2);refine wpAnyH_ready (rs:=[6]) (by kernel_rfl) (by simp) ?_
    refine AllReadyH.cons rfl (fun K hK=>?_) AllReadyH.nil
    go_simp;skip
    refine hK.out _ _ (HC.out _ hb6) (fun hHeld=>?_)
    clear hK K;refine wpAnyH_done (by kernel_rfl) ?_ _;refine NoPanic.normal ?_;go_wp2_with fail
    go_meet;exact ⟨W0.heap.size,rfl,by omega,zad (i:=1) (v:=.int .u64 x.2) (zad (i:=0) (v:=.int .u64 x.1) z3),hb6⟩
 case rest =>
  obtain ⟨w2,hw2⟩:∃ u,u = wc:=⟨_,rfl⟩;subst hw2;obtain ⟨zb,rfl,hzb,hz,hb⟩:=hcut;have HR2:=zjp (zab hb lr HR0.out); have HB2:=zjp (HB0.out.trans (hb.mono HB0.out.size)); have HZ:=zjp hz;obtain ⟨z0,z1⟩:=zae hz;have lz:=zaa hz; have lr2:=zaa HR2.out;have f0:=frozen_of_row _ _ 0 _ _ HR2.out; have f1:=frozen_of_row _ _ 1 _ _ HR2.out;have g0:=frozen_of_row _ _ 0 _ _ hz; have g1:=frozen_of_row _ _ 1 _ _ hz;have hne:w.heap.size + 1≠zb:=by omega
  clear hb hz HC bD HR0;cases b
  ·obtain ⟨r0,r1⟩:=zae HR2.out
   go_wp2_with fail
   rw [← show x = r from HR.out]
   exact za4 rfl rfl (zad (i:=1) (v:=.int .u64 x.2) (zad (i:=0) (v:=.int .u64 x.1) HR2.out)) underlying41 rfl (by kernel_rfl)
    ⟨rfl,(HB2.out.setCell (p:=⟨w.heap.size + 1,0,none⟩) (by show w.heap.size≤w.heap.size + 1; omega) _).setCell (p:=⟨w.heap.size + 1,1,none⟩) (by show w.heap.size≤w.heap.size + 1; omega) _⟩
  ·go_wp2_with fail
   refine (zgt x.1 x.2 st _ hsl).mono ?_;rw [show zeo x.1 x.2 st = r by rw [← HST.out]; exact HR.out];rintro e w3 ⟨rfl,hb⟩;have hz3:=zab hb (zaa HZ.out) HZ.out;have hr3:=zab hb (zaa HR2.out) HR2.out;have HB3:=zjp (HB2.out.trans (hb.mono HB2.out.size)); have HR3:=zjp hr3;obtain ⟨k2,k3⟩:=zae hz3;have f2:=frozen_of_row _ _ 0 _ _ hz3; have f3:=frozen_of_row _ _ 1 _ _ hz3;obtain ⟨r0,r1⟩:=zae hr3;have f4:=frozen_of_row _ _ 0 _ _ hr3; have f5:=frozen_of_row _ _ 1 _ _ hr3;have zk3:=zaa hz3; have zr3:=zaa hr3;clear hb hz3 hr3 z0 z1 f0 f1 g0 g1;go_wp2_with fail
   exact za4 rfl rfl (zad (i:=1) (v:=.int .u64 r.2) (zad (i:=0) (v:=.int .u64 r.1) (zan (zan HR3.out hne) hne))) underlying41 rfl (by kernel_rfl)
    ⟨rfl,(((HB3.out.setCell (p:=⟨zb,0,none⟩) (by show w.heap.size≤zb; omega) _).setCell (p:=⟨zb,1,none⟩) (by show w.heap.size≤zb; omega) _).setCell (p:=⟨w.heap.size + 1,0,none⟩) (by show w.heap.size≤w.heap.size + 1; omega) _).setCell (p:=⟨w.heap.size + 1,1,none⟩) (by show w.heap.size≤w.heap.size + 1; omega) _⟩
end
section
open Go.RowKit
theorem zid (p:ParL) (w:World) (hi:InI p.len) :
  Calls prog 75 #[.agg #[.int .i64 p.len,.int .i64 p.hashes,.int .i64 p.salt]] w fun e w'=>e = .returned (.int .i64 (zcy p))∧Below w.heap.size w w':=by
 obtain ⟨E,hE⟩:∃ E,zcy p = E:=⟨_,rfl⟩;rw [hE];have hyes:zdk p = true→E = 0:=fun h=>by rw [← hE]; unfold zcy; rw [if_pos h]
 have hno:zdk p = false→E = 10:=fun h=>by rw [← hE]; unfold zcy; rw [h]; rfl
 have HY:=zjp hyes; have HN:=zjp hno;clear hE hyes hno;cases hr:zc6 p.len
 ·have hE:E = 10:=HN.out (by unfold zdk; rw [hr]; rfl)
  subst hE;have HR:=zjp hr;clear hr;go_enter func75,ntmps75
  go_wp2_with fail
  refine (rbnew_no _ _ HR.out hi.1 hi.2).mono ?_;rintro e w1 ⟨rfl,hb⟩;have HB:=zjp (xbt hb);clear hb;go_wp2_with fail
  go_ret;first | exact ⟨rfl,HB.out.alloc HB.out.size _⟩ | exact ⟨rfl,HB.out⟩
 have HR:=zjp hr;clear hr;by_cases h1:p.hashes < 1
 ·have d1:decide (p.hashes < (1:Int)) = true:=by simpa using h1
  have hE:E = 10:=HN.out (by rw [Bool.eq_false_iff]; intro h; have q:=zfg h; have:=q.h1; have:=q.h2; have:=q.s1; have:=q.s2; omega);subst hE;clear h1;go_enter func75,ntmps75
  go_wp2_with fail
  refine (zgg _ _ HR.out).mono ?_;rintro e w1 ⟨g,m,rfl,-,hg,-,hb⟩;have HB:=zjp (xbt hb);have HX:=zjp (xbn hb);clear hb hg;have z0:=zaa HX.out;obtain ⟨p0,p1,p2⟩:=zao HX.out;go_wp2_with fail
  go_ret;first | exact ⟨rfl,HB.out.alloc HB.out.size _⟩ | exact ⟨rfl,HB.out⟩
 have d1:decide (p.hashes < (1:Int)) = false:=by simpa using h1
 by_cases h2:16 < p.hashes
 ·have d2:decide ((16:Int) < p.hashes) = true:=by simpa using h2
  have hE:E = 10:=HN.out (by rw [Bool.eq_false_iff]; intro h; have q:=zfg h; have:=q.h1; have:=q.h2; have:=q.s1; have:=q.s2; omega);subst hE;clear h2;go_enter func75,ntmps75
  go_wp2_with fail
  refine (zgg _ _ HR.out).mono ?_;rintro e w1 ⟨g,m,rfl,-,hg,-,hb⟩;have HB:=zjp (xbt hb);have HX:=zjp (xbn hb);clear hb hg;have z0:=zaa HX.out;obtain ⟨p0,p1,p2⟩:=zao HX.out;go_wp2_with fail
  go_ret;first | exact ⟨rfl,HB.out.alloc HB.out.size _⟩ | exact ⟨rfl,HB.out⟩
 have d2:decide ((16:Int) < p.hashes) = false:=by simpa using h2
 by_cases h3:p.salt < -1
 ·have d3:decide (p.salt < (-1:Int)) = true:=by simpa using h3
  have hE:E = 10:=HN.out (by rw [Bool.eq_false_iff]; intro h; have q:=zfg h; have:=q.h1; have:=q.h2; have:=q.s1; have:=q.s2; omega);subst hE;clear h3;go_enter func75,ntmps75
  go_wp2_with fail
  refine (zgg _ _ HR.out).mono ?_;rintro e w1 ⟨g,m,rfl,-,hg,-,hb⟩;have HB:=zjp (xbt hb);have HX:=zjp (xbn hb);clear hb hg;have z0:=zaa HX.out;obtain ⟨p0,p1,p2⟩:=zao HX.out;go_wp2_with fail
  go_ret;first | exact ⟨rfl,HB.out.alloc HB.out.size _⟩ | exact ⟨rfl,HB.out⟩
 have d3:decide (p.salt < (-1:Int)) = false:=by simpa using h3
 by_cases h4:5≤p.salt
 ·have d4:decide ((5:Int)≤p.salt) = true:=by simpa using h4
  have hE:E = 10:=HN.out (by rw [Bool.eq_false_iff]; intro h; have q:=zfg h; have:=q.h1; have:=q.h2; have:=q.s1; have:=q.s2; omega);subst hE;clear h4;go_enter func75,ntmps75
  go_wp2_with fail
  refine (zgg _ _ HR.out).mono ?_;rintro e w1 ⟨g,m,rfl,-,hg,-,hb⟩;have HB:=zjp (xbt hb);have HX:=zjp (xbn hb);clear hb hg;have z0:=zaa HX.out;obtain ⟨p0,p1,p2⟩:=zao HX.out;go_wp2_with fail
  go_ret;first | exact ⟨rfl,HB.out.alloc HB.out.size _⟩ | exact ⟨rfl,HB.out⟩
 have d4:decide ((5:Int)≤p.salt) = false:=by simpa using h4
 have hE:E = 0:=HY.out (by
  unfold zdk;rw [HR.out];simp only [Bool.true_and,Bool.and_eq_true,decide_eq_true_eq]
  omega)
 subst hE;clear h1 h2 h3 h4;go_enter func75,ntmps75
 go_wp2_with fail
 refine (zgg _ _ HR.out).mono ?_;rintro e w1 ⟨g,m,rfl,-,hg,-,hb⟩;have HB:=zjp (xbt hb);have HX:=zjp (xbn hb);clear hb hg;have z0:=zaa HX.out;obtain ⟨p0,p1,p2⟩:=zao HX.out;go_wp2_with fail
 go_ret;first | exact ⟨rfl,HB.out.alloc HB.out.size _⟩ | exact ⟨rfl,HB.out⟩
end
section
open Go.RowKit Cal
theorem rcheck16_any (S:Nat→Prop) (vf vt vn vs:Value) (s:SchemaL) (P:List ParL) (pv:Value) (w:World) (h:SchemaAt w S vf vt vn vs s) (hp:Vec w zav 3 zdi pv P) (hi:∀ p∈P,InI p.len) (hn:P.length≤1000000) :
  Calls prog 41 #[.agg #[vf,vt,vn,vs],pv] w fun e w'=>e = .returned (.int .i64 (zby s P))∧Below w.heap.size w w':=by
 obtain ⟨E,hE⟩:∃ E,zby s P = E:=⟨_,rfl⟩;rw [hE];obtain ⟨a,cap,rfl⟩:=hp.slice;obtain ⟨af,cf,rfl⟩:=h.1.slice;have HP:=zjp hp; have HS:=zjp h.any; have HE:=zjp hE; have HI:=zjp hi;obtain ⟨c,hc⟩:∃ c,zax s = c:=⟨_,rfl⟩;have HC:=zjp hc;obtain ⟨m,hm⟩:∃ m,s.fields.length = m:=⟨_,rfl⟩;rw [hm];have HM:=zjp hm;clear hp h hE hi hc hm;go_enter func41,ntmps41
 go_wp2_with fail
 refine zai (fun W hW=>?_)
 have hb0:=xal hW
 have hs0:W.heap[w.heap.size]? = some (.cells #[.slice af m cf,vt,vn,vs] 33 (0,0)):=by rw [hW]; exact zac rfl
 clear hW;refine (zd7 zav _ _ _ _ s _ (by have:=HS.out.below hb0; rw [HM.out] at this; exact this)).mono ?_;rw [HC.out];rintro e w1 ⟨rfl,hb⟩;have hs1:=zab hb (zaa hs0) hs0;have HB1:=zjp (hb0.trans (hb.mono hb0.size));obtain ⟨s0,s1,s2,s3⟩:=zak hs1;clear hb hb0 hs0 hs1;by_cases hc0:c = 0;rotate_left
 ·have dz:(c != 0) = true:=by simpa using hc0
  have hE1:E = c:=by rw [← HE.out]; unfold zby; rw [if_neg (by rw [HC.out]; exact hc0),HC.out]
  subst hE1;clear HE HC hc0;go_wp2_with fail
  go_ret;exact ⟨rfl,HB1.out⟩
 have dz:(c != 0) = false:=by simpa using hc0
 by_cases hl:P.length = m;rotate_left
 ·have hne:((P.length:Int) != (m:Int)) = true:=by rw [bne_iff_ne]; omega
  have hE1:E = 8:=by rw [← HE.out]; unfold zby; rw [if_pos (by rw [HC.out]; exact hc0),if_neg (by rw [HM.out]; exact hl)]
  subst hE1;clear HE HC hc0 hl;go_wp2_with fail
  go_ret;exact ⟨rfl,HB1.out⟩
 have hne:((P.length:Int) != (m:Int)) = false:=by rw [hl]; simp
 have HE2:=zjp (show zi3 P.length 0 P = E by rw [← HE.out]; unfold zby; rw [if_pos (by rw [HC.out]; exact hc0),if_pos (by rw [HM.out]; exact hl)]);clear HE HC hc0 hl;go_wp2_with fail
 clear s0 s1 s2 s3;go_loopw [6] (fun i wr=>∃ j:Nat,i = .int .i64 j∧j≤P.length∧Hid (zi3 P.length j (P.drop j) = E)∧Below w1.heap.size w1 wr) (fun i _=>P.length - (intOf i).toNat)
 case atStart=>exact ⟨0,rfl,by omega,HE2,Below.refl _ _⟩
 case round =>
  obtain ⟨j,rfl,hj,HT,hb⟩:=hrel;have HBr:=zjp hb; clear hb;by_cases hlt:j < P.length
  ·have hq:decide ((j:Int) < P.length) = true:=by simp; omega
   have hbw:=HB1.out.trans (HBr.out.mono HB1.out.size);obtain ⟨p,hpj⟩:∃ p,P[j] = p:=⟨_,rfl⟩;have hT:=HT.out;rw [List.drop_eq_getElem_cons hlt,hpj,zi3] at hT;have HT2:=zjp hT;have hpi:InI p.len:=HI.out p (by rw [← hpj]; exact List.getElem_mem _);obtain ⟨b,off,rfl,hb,hc⟩:=(HP.out.below hbw).get j hlt;rw [hpj] at hc;have c0:=hc 0 _ rfl; have c1:=hc 1 _ rfl; have c2:=hc 2 _ rfl;rw [Nat.add_zero] at c0;have HPI:=zjp hpi;clear hc hpj hbw hT HT hpi;go_wp2_with fail
   refine (zid p _ HPI.out).mono ?_;rintro e w2 ⟨rfl,hb2⟩;have HB2:=zjp (HBr.out.trans (hb2.mono HBr.out.size));have hb3:=Nat.lt_of_lt_of_le hb hb2.size;have x0:=(hb2.cell (p:=⟨b,off + j * 3,none⟩) hb).trans c0; have x1:=(hb2.cell (p:=⟨b,off + j * 3 + 1,none⟩) hb).trans c1; have x2:=(hb2.cell (p:=⟨b,off + j * 3 + 2,none⟩) hb).trans c2;clear hb2 c0 c1 c2;by_cases hk:zdk p = true;rotate_left
   ·have hE1:E = 10:=by rw [← HT2.out,if_neg]; unfold zej; simp [hk]
    have hbn:zcy p = 10:=by unfold zcy; rw [if_neg hk]
    rw [hbn];have d1:((10:Int) != 0) = true:=rfl;subst hE1;clear HT2 HE2 hk hbn;go_wp2_with fail
    go_ret;exact ⟨rfl,HB1.out.trans (HB2.out.mono HB1.out.size)⟩
   have hbn:zcy p = 0:=by unfold zcy; rw [if_pos hk]
   rw [hbn];have d1:((0:Int) != 0) = false:=rfl;by_cases h1:(P.length:Int)≤p.salt
   ·have e1:decide ((P.length:Int)≤p.salt) = true:=by simpa using h1
    have hE1:E = 10:=by rw [← HT2.out,if_neg]; unfold zej; rw [decide_eq_false (by omega)]; simp
    subst hE1;clear HT2 HE2 hk hbn h1;go_wp2_with fail
    go_ret;exact ⟨rfl,HB1.out.trans (HB2.out.mono HB1.out.size)⟩
   have e1:decide ((P.length:Int)≤p.salt) = false:=by simpa using h1
   by_cases h2:p.salt = (j:Int)
   ·have e2:(p.salt == (j:Int)) = true:=by simpa using h2
    have hE1:E = 10:=by rw [← HT2.out,if_neg]; unfold zej; rw [e2]; simp
    subst hE1;clear HT2 HE2 hk hbn h1 h2;go_wp2_with fail
    go_ret;exact ⟨rfl,HB1.out.trans (HB2.out.mono HB1.out.size)⟩
   have e2:(p.salt == (j:Int)) = false:=by simpa using h2
   have HT3:=zjp (show zi3 P.length (j + 1) (P.drop (j + 1)) = E by
    rw [← HT2.out,if_pos]; unfold zej; rw [hk,e2,decide_eq_true (by omega)]; rfl)
   clear HT2 hk hbn h1 h2;go_wp2_with fail
   go_roundw
   case rel=>exact ⟨j + 1,by go_num,by omega,HT3,HB2.out⟩
   case measure=>simp [intOf]; omega
  ·have hq:decide ((j:Int) < P.length) = false:=by simp; omega
   obtain rfl:j = P.length:=by omega
   have hE1:E = 0:=by rw [← HT.out,List.drop_length]; rfl
   subst hE1;clear HE2 HT;go_wp2_with fail
   go_ret;exact ⟨rfl,HB1.out.trans (HBr.out.mono HB1.out.size)⟩
end
section
open Go.RowKit
theorem itN_mul (len y x:Int) (hl:0 < len) (h0:0≤x) (h1:x < len):∀ n:Nat,itN len y n x = (x + n * y) % len
 | 0=>by simp [itN,Int.emod_eq_of_lt h0 h1]
 | n + 1=>by
  rw [itN_succ,itN_mul len y x hl h0 h1 n,Int.emod_add_emod];congr 1;rw [Int.natCast_succ,Int.add_mul,Int.one_mul]; omega
theorem rpartsx (ka kb:Int) (x g:List UInt8) (v:Value) (w:World) (h:Vec w zav 1 zba v [x,g]) (hg:g.length≤60000) (hx:x.length≤60000:=by simp) :
  Calls prog 161 #[.agg #[.int .u64 ka,.int .u64 kb],v] w fun e w'=>e = .returned (.int .u64 (zde ka kb [x,g]))∧Below w.heap.size w w' :=
 rsparts_any zav ka kb v [x,g] w h (by intro t ht; simp at ht; rcases ht with rfl | rfl; exact hx; exact hg) (by simp)
theorem one_encI:∀ x:Int,∀ u∈encI x,u.oneCell' = true:=by intro x u hu; simp at hu; subst hu; rfl
theorem rpositions_yes (p:ParL) (k:Int × Int) (g:List UInt8) (w:World) (hp:ParOk p) (hg:g.length≤60000) :
  Calls prog 120 #[.agg (parC p),.agg #[.int .u64 k.1,.int .u64 k.2],zal g] w (PosPost p k g w):=by
 have hl1:=hp.len1; have hl2:=hp.len2; have hh1:=hp.h1; have hh2:=hp.h2;have hl0:p.len≠0:=by omega
 have hl3:p.len - 1≠0:=by omega
 obtain ⟨H,hH⟩:∃ H:Nat,p.hashes = H:=⟨p.hashes.toNat,by omega⟩;obtain ⟨h0,h1⟩:=zi2 k.1 k.2 [[49],g];obtain ⟨h2,h3⟩:=zi2 k.1 k.2 [[50],g];have hw1:IntKind.u64.wrap p.len = p.len:=by rw [IntKind.wrap_u64]; omega
 have hw2:IntKind.i64.wrap (p.len - 1) = p.len - 1:=by rw [IntKind.wrap_i64]; omega
 have hw3:IntKind.u64.wrap (p.len - 1) = p.len - 1:=by rw [IntKind.wrap_u64]; omega
 obtain ⟨X,hX⟩:∃ X,zgm p k g = X:=⟨_,rfl⟩;obtain ⟨Y,hY⟩:∃ Y,(zde k.1 k.2 [[50],g]) % (p.len - 1) = Y:=⟨_,rfl⟩;have hm1:(zde k.1 k.2 [[49],g]).tmod p.len = X:=by rw [← hX,Int.tmod_eq_emod_of_nonneg h0]; rfl
 have hm2:(zde k.1 k.2 [[50],g]).tmod (p.len - 1) = Y:=by rw [← hY,Int.tmod_eq_emod_of_nonneg h2]
 have x0:0≤X:=by rw [← hX]; exact Int.emod_nonneg _ hl0
 have x1:X < p.len:=by rw [← hX]; exact Int.emod_lt_of_pos _ (by omega)
 have y0:0≤Y:=by rw [← hY]; exact Int.emod_nonneg _ hl3
 have y1:Y < p.len - 1:=by rw [← hY]; exact Int.emod_lt_of_pos _ (by omega)
 have hc1:IntKind.i64.wrap X = X:=by rw [IntKind.wrap_i64]; omega
 have hc2:IntKind.i64.wrap Y = Y:=by rw [IntKind.wrap_i64]; omega
 have hc3:IntKind.i64.wrap (1 + Y) = 1 + Y:=by rw [IntKind.wrap_i64]; omega
 have hpos:zbt p k g = posN p.len (1 + Y) H X:=by unfold zbt; rw [hX,hH,Int.toNat_natCast,← hY]; rfl
 unfold PosPost;rw [hpos];have hHb:H≤16:=by omega
 have hH1:1≤H:=by omega
 have HP:=zjp hp; have HH:=zjp hH;clear hX hY h0 h1 h2 h3 hp hH hpos hh1 hh2;go_enter func120,ntmps120
 go_wp2_with fail
 refine zai (fun W hW=>?_)
 have hb0:=xam hW
 have hp0:W.heap[w.heap.size]? = some (.cells (parC p) 87 (0,0)):=by rw [hW]; exact zaf (zac rfl)
 have hk0:W.heap[w.heap.size + 1]? = some (.cells #[.int .u64 k.1,.int .u64 k.2] 41 (0,0)):=by rw [hW]; exact zac (by simp)
 clear hW;have hi:InI p.len:=⟨by omega,by omega⟩;refine (zid p W hi).mono ?_;have hbn:zcy p = 0:=by unfold zcy; rw [if_pos HP.out.bloom]
 rw [hbn];rintro e w1 ⟨rfl,hb⟩;have HB1:=zjp (hb0.trans (hb.mono hb0.size)); have HP1:=zjp (zab hb (zaa hp0) hp0); have HK1:=zjp (zab hb (zaa hk0) hk0);have hpW:=zaa HP1.out; have hkW:=zaa HK1.out;have dz:((0:Int) != 0) = false:=rfl;clear hb0 hp0 hk0 hb hbn hi
 have HC:=zjp (show ∀ w',Below w1.heap.size w1 w'→w'.cell? ⟨w.heap.size + 1,0,none⟩ = some (.int .u64 k.1)∧w'.cell? ⟨w.heap.size + 1,1,none⟩ = some (.int .u64 k.2)∧w'.cell? ⟨w.heap.size,0,none⟩ = some (.int .i64 p.len) from fun w' hb =>
  ⟨(zae (zab hb hkW HK1.out)).1,(zae (zab hb hkW HK1.out)).2,(zao (zab hb hpW HP1.out)).1⟩)
 go_wp2_with fail
 have bD:Below w1.heap.size w1 w1.drew:=(Below.refl _ _).drew;go_cut [9] (fun s9 wx=>s9 = .int .i64 X∧Below w1.heap.size w1 wx)
 case first =>
  refine wp_region_noPanic ?_
  refine wp_region_held_drew (S:=(fun w'=>w'.cell? ⟨w.heap.size + 1,0,none⟩ = some (.int .u64 k.1)∧w'.cell? ⟨w.heap.size + 1,1,none⟩ = some (.int .u64 k.2)∧w'.cell? ⟨w.heap.size,0,none⟩ = some (.int .i64 p.len))) (by kernel_rfl) (HC.out _ bD) (fun hHeld=>?_)
  refine tH 0 (h:=?_);refine tH 1 (h:=?_);refine tH 4 (h:=?_);refine tH 5 (h:=?_);refine tH 6 (h:=?_);refine wpAnyH_ready (rs:=[2]) (by kernel_rfl) (by simp) ?_
  refine AllReadyH.cons rfl (fun K hK=>?_) AllReadyH.nil
  go_simp;skip
  refine hK.out _ _ (HC.out _ (bD.alloc bD.size _)) (fun hHeld=>?_)
  clear hK K
  refine zbr (fun W1 hW1=>?_)
  have b1:Below w1.heap.size w1 W1:=by rw [hW1]; exact bD.alloc bD.size (.cells #[zal [49],zal g] 9)
  have gs:W1.heap[w1.heap.size]? = some (.cells (([[49],g]:List (List UInt8)).flatMap zba).toArray 9 (0,0)):=by rw [hW1]; exact zac rfl
  have hvs:Vec W1 zav 1 zba (.slice (some ⟨w1.heap.size,0,none⟩) 2 2) [[49],g]:=ze0 (k:=1) (enc:=zba) (fun _=>rfl) gs trivial 2 rfl
  clear hW1 hHeld;have hHeld:=HC.out _ b1;refine wpAnyH_ready (rs:=[3]) (by kernel_rfl) (by simp) ?_
  refine AllReadyH.cons rfl (fun K hK=>?_) AllReadyH.nil
  go_simp;refine (rpartsx k.1 k.2 [49] g _ _ hvs hg).mono ?_; rintro e W2 ⟨rfl,hb⟩; have b2:=b1.trans (hb.mono b1.size); clear hb
  refine hK.out _ _ (HC.out _ b2) (fun hHeld=>?_)
  clear hK K;refine tH 7 (h:=?_);refine tH 8 (h:=?_);refine tH 9 (h:=?_);refine wpAnyH_done (by kernel_rfl) ?_ _;refine NoPanic.normal ?_;go_wp2_with fail
  go_meet;exact ⟨rfl,b2⟩
 case rest =>
  obtain ⟨w2,hw2⟩:∃ u,u = wc:=⟨_,rfl⟩;subst hw2;obtain ⟨rfl,hb12⟩:=hcut;have HB12:=zjp hb12;clear hb12 bD;have bD:Below w2.heap.size w2 w2.drew:=(Below.refl _ _).drew;have HC2:=zjp (show ∀ w',Below w2.heap.size w2 w'→w'.cell? ⟨w.heap.size + 1,0,none⟩ = some (.int .u64 k.1)∧w'.cell? ⟨w.heap.size + 1,1,none⟩ = some (.int .u64 k.2)∧w'.cell? ⟨w.heap.size,0,none⟩ = some (.int .i64 p.len) from fun w' hb=>HC.out _ (HB12.out.trans (hb.mono HB12.out.size)))
  go_wp2_with fail
  go_cut [10] (fun s10 wx=>s10 = .int .i64 (1 + Y)∧Below w2.heap.size w2 wx)
  case first =>
   refine wp_region_noPanic ?_
   refine wp_region_held_drew (S:=(fun w'=>w'.cell? ⟨w.heap.size + 1,0,none⟩ = some (.int .u64 k.1)∧w'.cell? ⟨w.heap.size + 1,1,none⟩ = some (.int .u64 k.2)∧w'.cell? ⟨w.heap.size,0,none⟩ = some (.int .i64 p.len))) (by kernel_rfl) (HC2.out _ bD) (fun hHeld=>?_)
   refine tH 0 (h:=?_);refine tH 1 (h:=?_);refine tH 4 (h:=?_);refine tH 5 (h:=?_);refine tH 6 (h:=?_);refine tH 7 (h:=?_);refine wpAnyH_ready (rs:=[2]) (by kernel_rfl) (by simp) ?_
   refine AllReadyH.cons rfl (fun K hK=>?_) AllReadyH.nil
   go_simp;skip
   refine hK.out _ _ (HC2.out _ (bD.alloc bD.size _)) (fun hHeld=>?_)
   clear hK K
   refine zbr (fun W1 hW1=>?_)
   have b1:Below w2.heap.size w2 W1:=by rw [hW1]; exact bD.alloc bD.size (.cells #[zal [50],zal g] 9)
   have gs:W1.heap[w2.heap.size]? = some (.cells (([[50],g]:List (List UInt8)).flatMap zba).toArray 9 (0,0)):=by rw [hW1]; exact zac rfl
   have hvs:Vec W1 zav 1 zba (.slice (some ⟨w2.heap.size,0,none⟩) 2 2) [[50],g]:=ze0 (k:=1) (enc:=zba) (fun _=>rfl) gs trivial 2 rfl
   clear hW1 hHeld;have hHeld:=HC2.out _ b1;refine wpAnyH_ready (rs:=[3]) (by kernel_rfl) (by simp) ?_
   refine AllReadyH.cons rfl (fun K hK=>?_) AllReadyH.nil
   go_simp;refine (rpartsx k.1 k.2 [50] g _ _ hvs hg).mono ?_; rintro e W2 ⟨rfl,hb⟩; have b2:=b1.trans (hb.mono b1.size); clear hb
   refine hK.out _ _ (HC2.out _ b2) (fun hHeld=>?_)
   clear hK K;refine tH 8 (h:=?_);refine tH 9 (h:=?_);refine tH 10 (h:=?_);refine tH 11 (h:=?_);refine wpAnyH_done (by kernel_rfl) ?_ _;refine NoPanic.normal ?_;go_wp2_with fail
   go_meet;exact ⟨rfl,b2⟩
  case rest =>
   obtain ⟨w3,hw3⟩:∃ u,u = wc:=⟨_,rfl⟩;subst hw3;obtain ⟨rfl,hb23⟩:=hcut;have HB3:=zjp (HB12.out.trans (hb23.mono HB12.out.size));clear hb23 bD HC2 hm1 hm2 hw1 hw2 hw3;have HB03:=zjp (HB1.out.trans (HB3.out.mono HB1.out.size));have HP3:=zjp (zab HB3.out hpW HP1.out);have lp3:=zaa HP3.out;go_wp2_with fail
   go_loopw [11,12] (fun v i wr=>∃ n:Nat,n≤H∧i = .int .i64 n∧OwnV 3 1 encI w3 v (posN p.len (1 + Y) n X) wr) (fun _ i _=>H - (intOf i).toNat)
   case atStart=>exact ⟨0,by omega,rfl,OwnV.start _ _ _ _⟩
   case round =>
    obtain ⟨n,hn,rfl,ho⟩:=hrel;have HO:=zjp ho;obtain ⟨q0,q1,q2⟩:=zao (zab ho.2 lp3 HP3.out);have lpr:=Nat.lt_of_lt_of_le lp3 ho.2.size;rw [HH.out] at q1;obtain ⟨av,cv,rfl⟩:=zau ho.1;rw [zei];clear ho;by_cases hlt:n < H
    ·have hq:decide ((n:Int) < (H:Int)) = true:=by simp; omega
     obtain ⟨Z,hZ⟩:∃ Z,(X + n * (1 + Y)) % p.len = Z:=⟨_,rfl⟩
     have hny:0≤(n:Int) * (1 + Y)∧(n:Int) * (1 + Y)≤16 * 1024:=by
      constructor
      ·exact Int.mul_nonneg (by omega) (by omega)
      ·exact Int.mul_le_mul (by omega) (by omega) (by omega) (by omega)
     have hwm:IntKind.i64.wrap ((n:Int) * (1 + Y)) = (n:Int) * (1 + Y):=by rw [IntKind.wrap_i64]; omega
     have hwa:IntKind.i64.wrap (X + (n:Int) * (1 + Y)) = X + (n:Int) * (1 + Y):=by rw [IntKind.wrap_i64]; omega
     have hwt:(X + (n:Int) * (1 + Y)).tmod p.len = Z:=by rw [Int.tmod_eq_emod_of_nonneg (by omega)]; exact hZ
     have hstep:posN p.len (1 + Y) (n + 1) X = posN p.len (1 + Y) n X ++ [Z]:=by rw [posN_snoc,itN_mul _ _ _ (by omega) x0 x1,hZ]
     have HSt:=zjp hstep;have hb1:Below wr.heap.size wr (wr.alloc (.cells #[.int .i64 Z] 3)):=(Below.refl _ _).alloc xnl _;have HO1:=zjp (HO.out.below hb1);have HR1:=zjp (show zcn (wr.alloc (.cells #[.int .i64 Z] 3)) 1 (.slice (some ⟨wr.heap.size,0,none⟩) 1 1) [Z].length ([Z].flatMap encI) from za2 (xs:=[Z].flatMap encI) (fr:=(0,0)) (t:=3) (zac rfl) rfl);have hcn:(posN p.len (1 + Y) n X).length + [Z].length≤1000000000:=by rw [zei]; simp; omega
     rw [zei] at HO1;obtain ⟨PL,hPL⟩:∃ PL,posN p.len (1 + Y) n X = PL:=⟨_,rfl⟩;rw [hPL] at HO1 hcn HSt;have hny1:=hny.1; have hny2:=hny.2;obtain ⟨M,hMe⟩:∃ M,(n:Int) * (1 + Y) = M:=⟨_,rfl⟩;rw [hMe] at hwm hwa hwt hny1 hny2;clear hZ hb1 hstep hny HO;go_wp2_with (at_builtin; refine zcr rfl (.tmp 44) (.tmp 53) 22 rfl 3 (.int .i64 0) 1 8 encI (fun _=>rfl) one_encI underlying22 infoI rfl (by decide) (by decide) (w0:=w3) (v:=.slice av n cv) (A:=PL) (B:=[Z]) rfl HO1.out rfl HR1.out hcn ?_; intro v5 w5 ho5 hk5 hz5)
     go_roundw
     case rel=>exact ⟨n + 1,by omega,by go_num,by rw [HSt.out]; exact ho5⟩
     case measure=>simp [intOf]; omega
    ·have hq:decide ((n:Int) < (H:Int)) = false:=by simp; omega
     obtain rfl:n = H:=by omega
     have hv:=zjp ((OwnV.vec (size:=1) (enc:=encI) (fun _=>rfl) HO.out).move (S':=fun b=>w.heap.size≤b) xnl fun b _ hs=>⟨rfl,by have hs':w3.heap.size≤b:=hs; have:=HB03.out.size; omega⟩)
     have HBe:=zjp (HB03.out.trans (HO.out.2.mono HB03.out.size));rw [zei] at hv;go_wp2_with fail
     go_ret2;exact ⟨_,rfl,hv.out,HBe.out⟩
end
section
open Go.RowKit
structure EncR (w:World) (p:ParL) (k:Int × Int) (bx:Nat) (a:Option Addr) (cap:Nat) (W:List Int) (wr:World):Prop where
 hp:wr.heap[w.heap.size]? = some (.cells (parC p) 87 (0,0))
 hk:wr.heap[w.heap.size + 1]? = some (.cells #[.int .u64 k.1,.int .u64 k.2] 41 (0,0))
 hr:wr.heap[w.heap.size + 2]? = some (.cells #[.int .i64 0,.slice none 0 0] 56 (0,0))
 hb:wr.heap[bx]? = some (.cells #[.int .i64 p.len,.slice a W.length cap] 56 (0,0))
 hv:Vec wr (fun b=>b≠bx∧w.heap.size + 2 < b) 1 zc2 (.slice a W.length cap) W
 ne:w.heap.size + 2 < bx
 b:Below w.heap.size w wr
theorem EncR.below {w:World} {p:ParL} {k:Int × Int} {bx:Nat} {a:Option Addr} {cap:Nat} {W:List Int} {wr wx:World} (h:EncR w p k bx a cap W wr) (hb:Below wr.heap.size wr wx):EncR w p k bx a cap W wx :=
 ⟨zab hb (zaa h.hp) h.hp,zab hb (zaa h.hk) h.hk,zab hb (zaa h.hr) h.hr,zab hb (zaa h.hb) h.hb,h.hv.below hb,h.ne,h.b.trans (hb.mono h.b.size)⟩
theorem EncR.step {w:World} {p:ParL} {k:Int × Int} {bx:Nat} {a a':Option Addr} {cap cap':Nat} {W W':List Int} {wr wx:World} (h:EncR w p k bx a cap W wr) (hb:Below wr.heap.size wr wx) (hv:Vec wx (fun b=>wr.heap.size≤b) 1 zc2 (.slice a' W'.length cap') W') :
  EncR w p k bx a' cap' W' ((wx.setCell ⟨bx,0,none⟩ (.int .i64 p.len)).setCell ⟨bx,1,none⟩ (.slice a' W'.length cap')):=by
 have h':=h.below hb;have n:=h.ne;have l:=zaa h.hb;refine ⟨zan (zan h'.hp (by show w.heap.size≠bx; omega)) (by show w.heap.size≠bx; omega),zan (zan h'.hk (by show w.heap.size + 1≠bx; omega)) (by show w.heap.size + 1≠bx; omega),zan (zan h'.hr (by show w.heap.size + 2≠bx; omega)) (by show w.heap.size + 2≠bx; omega),zad (i:=1) (v:=.slice a' W'.length cap') (zad (i:=0) (v:=.int .i64 p.len) h'.hb),?_,n,(h'.b.setCell (p:=⟨bx,0,none⟩) (by show w.heap.size≤bx; omega) _).setCell (p:=⟨bx,1,none⟩) (by show w.heap.size≤bx; omega) _⟩;have hv':=hv.move (S':=fun b=>b≠bx∧w.heap.size + 2 < b) xnl fun b _ hs=>⟨rfl,by have hs':wr.heap.size≤b:=hs; omega,by have hs':wr.heap.size≤b:=hs; omega⟩
 exact (hv'.set1 (a:=⟨bx,0,none⟩) (fun b hb=>hb.1) _).set1 (a:=⟨bx,1,none⟩) (fun b hb=>hb.1) _
theorem rbencode_yes (S:Nat→Prop) (p:ParL) (k:Int × Int) (v:Value) (G:List (List UInt8)) (w:World) (hp:ParOk p) (hv:Vec w S 1 zba v G) (hg:∀ g∈G,g.length≤60000) (hn:G.length≤80) :
  Calls prog 79 #[.agg (parC p),.agg #[.int .u64 k.1,.int .u64 k.2],v] w (EncodePost (zg3 p k G).1 w):=by
 obtain ⟨a,cap,rfl⟩:=hv.slice;have hl1:=hp.len1; have hl2:=hp.len2;have hbm:(zg3 p k G).1 = ⟨p.len,G.foldl (zek p k) (ze1 p.len)⟩:=by unfold zg3; rw [if_pos hp.bloom,if_pos hn]
 rw [hbm];have HP:=zjp hp; have HV:=zjp hv.any; have HGl:=zjp hg;have hn80:decide ((80:Int) < G.length) = false:=by simp; omega
 clear hp hbm hv hg;go_enter func79,ntmps79
 go_wp2_with fail
 refine zai (fun W hW=>?_)
 have hb0:Below w.heap.size w W:=by rw [hW]; exact (((Below.refl _ _).alloc xnl _).alloc (by simp) _).alloc (by simp; omega) _
 have hp0:W.heap[w.heap.size]? = some (.cells (parC p) 87 (0,0)):=by rw [hW]; exact zaf (zaf (zac rfl))
 have hk0:W.heap[w.heap.size + 1]? = some (.cells #[.int .u64 k.1,.int .u64 k.2] 41 (0,0)):=by rw [hW]; exact zaf (zac (by simp))
 have hr0:W.heap[w.heap.size + 2]? = some (.cells #[.int .i64 0,.slice none 0 0] 56 (0,0)):=by rw [hW]; exact zac (by simp)
 clear hW;have hi:InI p.len:=⟨by omega,by omega⟩;have hbn:zcy p = 0:=by unfold zcy; rw [if_pos HP.out.bloom]
 refine (zid p W hi).mono ?_;rw [hbn];rintro e w1 ⟨rfl,hb⟩;have hp1:=zab hb (zaa hp0) hp0; have hk1:=zab hb (zaa hk0) hk0; have hr1:=zab hb (zaa hr0) hr0;have hb1:=hb0.trans (hb.mono hb0.size);have HB1:=zjp hb1; have HP1:=zjp hp1; have HK1:=zjp hk1; have HR1:=zjp hr1;obtain ⟨q0,q1,q2⟩:=zao hp1; obtain ⟨k0,k1⟩:=zae hk1;have lp1:=zaa hp1;clear hb0 hp0 hk0 hr0 hb hp1 hk1 hr1 hb1 hbn hi;go_wp2_with fail
 refine (zgg p.len _ HP.out.right).mono ?_;rintro e w2 ⟨gw,m,rfl,hm,hgw,hw0,hb⟩;have hz0:=zaa HR1.out;have hzl:(ze1 p.len).length = m:=by unfold ze1; rw [List.length_replicate]; omega
 have hm8:m≤8:=by omega
 have hE:EncR w p k w2.heap.size (some ⟨gw,0,none⟩) m (ze1 p.len) (w2.alloc (.cells #[.int .i64 p.len,.slice (some ⟨gw,0,none⟩) m m] 56)):=by
  have hz1:=zaa hw0;refine ⟨zaf (zab hb (zaa HP1.out) HP1.out),zaf (zab hb (zaa HK1.out) HK1.out),zaf (zab hb (zaa HR1.out) HR1.out),by rw [hzl]; exact zac rfl,?_,by have:=hb.size; omega,(HB1.out.trans (hb.mono HB1.out.size)).alloc (by have:=HB1.out.size; have:=hb.size; omega) _⟩;have h:=ze0 (S:=fun b=>b≠w2.heap.size∧w.heap.size + 2 < b) (w:=w2.alloc (.cells #[.int .i64 p.len,.slice (some ⟨gw,0,none⟩) m m] 56)) (k:=1) (enc:=zc2) (fun _=>rfl) (zaf hw0) (show (fun b=>b≠w2.heap.size∧w.heap.size + 2 < b) gw from ⟨by omega,by omega⟩) m hzl.symm
  rw [hzl]; exact h
 have HM:=zjp hm; have HZL:=zjp hzl;have HE:=zjp hE;have hlt2:w.heap.size + 2 < w2.heap.size:=by have:=hb.size; omega
 clear hE hm hgw hw0 hb q0 q1 q2 k0 k1 HB1 HP1 HK1 HR1 hz0 hzl;obtain ⟨bx,hbx⟩:∃ bx,w2.heap.size = bx:=⟨_,rfl⟩;go_wp2_with fail
 refine zam (fun W0 hW0=>?_)
 rw [← hW0] at HE;rw [hbx] at HE hlt2;try rw [hbx]
 clear hW0 hbx;go_loopw [11] (fun i wr=>∃ (j:Nat) (a:Option Addr) (cap:Nat),i = .int .i64 j∧j≤G.length∧EncR w p k bx a cap ((G.take j).foldl (zek p k) (ze1 p.len)) wr) (fun i _=>G.length - (intOf i).toNat)
 case atStart=>exact ⟨0,_,_,rfl,by omega,HE.out⟩
 case round =>
  obtain ⟨j,av,cv,rfl,hj,he⟩:=hrel;have HE2:=zjp he; clear he HE;by_cases hlt:j < G.length
  ·have hq:decide ((j:Int) < G.length) = true:=by simp; omega
   have hji:(j:Int) < (G.length:Int):=by omega
   obtain ⟨g,hg⟩:∃ g,G[j] = g:=⟨_,rfl⟩;have hgl:g.length≤60000:=HGl.out g (by rw [← hg]; exact List.getElem_mem _);have hts:(G.take (j + 1)).foldl (zek p k) (ze1 p.len) = zek p k ((G.take j).foldl (zek p k) (ze1 p.len)) g:=by rw [List.take_succ_eq_append_getElem hlt,hg,List.foldl_append]; rfl
   have HTs:=zjp hts; clear hts;obtain ⟨b,off,rfl,hbb,hc⟩:=(HV.out.below HE2.out.b).get j hlt;have c0:=hc 0 _ rfl;rw [Nat.mul_one,Nat.add_zero,hg] at c0;obtain ⟨q0,q1,q2⟩:=zao HE2.out.hp; obtain ⟨k0,k1⟩:=zae HE2.out.hk;obtain ⟨Wj,hWj⟩:∃ Wj,(G.take j).foldl (zek p k) (ze1 p.len) = Wj:=⟨_,rfl⟩;have hWl:Wj.length = m:=by rw [← hWj,orGrams_len,HZL.out]
   rw [hWj] at HE2 HTs;have HWl:=zjp hWl;obtain ⟨WR,hWR⟩:∃ u,u = wr:=⟨_,rfl⟩;subst hWR;have lpr:=zaa HE2.out.hp; have lkr:=zaa HE2.out.hk;have bD:Below WR.heap.size WR WR.drew:=(Below.refl _ _).drew
   have HC:=zjp (show ∀ w',Below WR.heap.size WR w'→(w'.cell? ⟨w.heap.size,0,none⟩ = some (.int .i64 p.len)∧w'.cell? ⟨w.heap.size,1,none⟩ = some (.int .i64 p.hashes)∧w'.cell? ⟨w.heap.size,2,none⟩ = some (.int .i64 p.salt))∧(w'.cell? ⟨w.heap.size + 1,0,none⟩ = some (.int .u64 k.1)∧w'.cell? ⟨w.heap.size + 1,1,none⟩ = some (.int .u64 k.2))∧w'.cell? ⟨b,off + j,none⟩ = some (zal g) from
    fun w' hb=>⟨zao (zab hb lpr HE2.out.hp),zae (zab hb lkr HE2.out.hk),(hb.cell (p:=⟨b,off + j,none⟩) hbb).trans c0⟩)
   clear hc hWj hg hWl;go_wp2_with fail
   refine wp_region_noPanic ?_
   refine wp_region_held_drew (S:=(fun w'=>(w'.cell? ⟨w.heap.size,0,none⟩ = some (.int .i64 p.len)∧w'.cell? ⟨w.heap.size,1,none⟩ = some (.int .i64 p.hashes)∧w'.cell? ⟨w.heap.size,2,none⟩ = some (.int .i64 p.salt))∧(w'.cell? ⟨w.heap.size + 1,0,none⟩ = some (.int .u64 k.1)∧w'.cell? ⟨w.heap.size + 1,1,none⟩ = some (.int .u64 k.2))∧w'.cell? ⟨b,off + j,none⟩ = some (zal g))) (by kernel_rfl) (HC.out _ bD) (fun hHeld=>?_)
   refine tH 0 (h:=?_);refine tH 1 (h:=?_);refine tH 2 (h:=?_);refine tH 3 (h:=?_);refine tH 4 (h:=?_);refine tH 5 (h:=?_);refine wpAnyH_ready (rs:=[6]) (by kernel_rfl) (by simp) ?_
   refine AllReadyH.cons rfl (fun K hK=>?_) AllReadyH.nil
   go_simp;refine (rpositions_yes p k g _ HP.out hgl).mono ?_; rintro e w4 ⟨v4,rfl,hv4,hb4⟩; obtain ⟨a4,c4,rfl⟩:=hv4.slice; have b4:=bD.trans (hb4.mono bD.size); have HV4:=zjp hv4; clear hv4 hb4
   refine hK.out _ _ (HC.out _ b4) (fun hHeld=>?_)
   clear hK K;refine tH 7 (h:=?_);refine tH 8 (h:=?_);refine tH 9 (h:=?_);refine tH 10 (h:=?_);refine tH 11 (h:=?_);refine wpAnyH_done (by kernel_rfl) ?_ _;refine NoPanic.normal ?_;have HE4:=zjp (HE2.out.below b4);have hbd:=posN_bd p.len (zh4 p k g) (by omega) p.hashes.toNat (zgm p k g) (Int.emod_nonneg _ (by omega)) (Int.emod_lt_of_pos _ (by omega));have hlenl:(zbt p k g).length≤16:=by unfold zbt; rw [zei]; have:=HP.out.h2; omega
   have hog:zek p k Wj g = (zbt p k g).foldl zfy Wj:=rfl;have lbx:=zaa HE2.out.hb;have HV5:=zjp (HV4.out.move (S':=fun b=>b≠bx) xnl fun b _ hs=>⟨rfl,by have hs':WR.drew.heap.size≤b:=hs; have:WR.drew.heap.size = WR.heap.size:=rfl; omega⟩)
   obtain ⟨l,hl⟩:∃ l,zbt p k g = l:=⟨_,rfl⟩;have hbd2:∀ i∈l,0≤i∧i < p.len:=by rw [← hl]; exact hbd
   rw [hl] at hlenl hog HV5 ⊢;have HBd:=zjp hbd2; have HOG:=zjp hog;clear hbd hl hbd2 hog HE2 q0 q1 q2 k0 k1 c0 HC bD b4 HV4 lbx;go_wp2_with fail
   go_loopw [14] (fun i wr=>∃ (n:Nat) (av:Option Addr) (cv:Nat),i = .int .i64 n∧n≤l.length∧EncR w p k bx av cv ((l.take n).foldl zfy Wj) wr∧Vec wr (fun b=>b≠bx) 1 encI (.slice a4 l.length c4) l) (fun i _=>l.length - (intOf i).toNat)
   case atStart=>exact ⟨0,_,_,rfl,by omega,HE4.out,HV5.out⟩
   case round =>
    obtain ⟨n,av,cv,rfl,hn,he,hv⟩:=hrel;have HE5:=zjp he; have HV6:=zjp hv; clear he hv HE4 HV5;by_cases hlt2:n < l.length
    ·have hq2:decide ((n:Int) < l.length) = true:=by simp; omega
     have hni:(n:Int) < (l.length:Int):=by omega
     obtain ⟨i,hi⟩:∃ i,l[n] = i:=⟨_,rfl⟩;obtain ⟨i0,i1⟩:=HBd.out i (by rw [← hi]; exact List.getElem_mem _);have hts2:(l.take (n + 1)).foldl zfy Wj = zfy ((l.take n).foldl zfy Wj) i:=by rw [List.take_succ_eq_append_getElem hlt2,hi,List.foldl_append]; rfl
     obtain ⟨Wn,hWn⟩:∃ Wn,(l.take n).foldl zfy Wj = Wn:=⟨_,rfl⟩;have hWnl:Wn.length = m:=by rw [← hWn,orBits_len,HWl.out]
     rw [hWn] at HE5 hts2;have HT2:=zjp hts2
     have hvb:zap ⟨p.len,Wn⟩ = true:=by
      unfold zap;dsimp only;rw [HP.out.right,hWnl];have:=HM.out;simp; omega
     obtain ⟨b4,off4,rfl,hbb4,hc4⟩:=HV6.out.get n hlt2;have c5:=hc4 0 _ rfl;rw [Nat.mul_one,Nat.add_zero,hi] at c5;obtain ⟨d0,d1⟩:=zae HE5.out.hb;have f0:=frozen_of_row _ _ 0 _ _ HE5.out.hb; have f1:=frozen_of_row _ _ 1 _ _ HE5.out.hb;have lb:=zaa HE5.out.hb;obtain ⟨WN,hWN⟩:∃ u,u = wr:=⟨_,rfl⟩;subst hWN;have bD:Below WN.heap.size WN WN.drew:=(Below.refl _ _).drew
     have HC:=zjp (show ∀ w',Below WN.heap.size WN w'→(w'.cell? ⟨bx,0,none⟩ = some (.int .i64 p.len)∧w'.cell? ⟨bx,1,none⟩ = some (.slice av Wn.length cv))∧w'.cell? ⟨b4,off4 + n,none⟩ = some (.int .i64 i) from
      fun w' hb=>⟨zae (zab hb lb HE5.out.hb),(hb.cell (p:=⟨b4,off4 + n,none⟩) hbb4).trans c5⟩)
     have HVb:=zjp hvb; have HWnl:=zjp hWnl;clear hc4 hWn hi hts2 hvb hWnl;go_wp2_with fail
     refine wp_region_noPanic ?_
     refine zat (by kernel_rfl) (fun w'=>(w'.cell? ⟨bx,0,none⟩ = some (.int .i64 p.len)∧w'.cell? ⟨bx,1,none⟩ = some (.slice av Wn.length cv))∧w'.cell? ⟨b4,off4 + n,none⟩ = some (.int .i64 i)) 9 (HC.out _ bD) (fun hHeld=>?_)
     refine tK 0 (h:=?_);refine tK 1 (h:=?_);refine tK 2 (h:=?_);refine tK 3 (h:=?_);refine tK 4 (h:=?_)
     refine xrK 5 rfl fun K hK=>?_
     go_simp;refine (rset9_yes zav _ ⟨p.len,Wn⟩ i _ ⟨_,rfl,(HE5.out.hv.below bD).any⟩ HVb.out i0 i1).mono ?_; rintro e w6 ⟨_,rfl,⟨_,rfl,hv6⟩,hb6⟩; have b6:=bD.trans (hb6.mono bD.size); dsimp only at hv6; obtain ⟨a6,c6,rfl⟩:=hv6.slice; have HV7:=zjp hv6; have hb60:=zab b6 lb HE5.out.hb; have g0:=frozen_of_row _ _ 0 _ _ hb60; have g1:=frozen_of_row _ _ 1 _ _ hb60; obtain ⟨dd0,dd1⟩:=zae hb60; have lb6:=zaa hb60; clear hv6 hb6
     refine zbe hK (HC.out _ b6) (fun hHeld=>?_)
     clear hK K;refine tK 6 (h:=?_);refine tK 7 (h:=?_);refine t0 8 (h:=?_)
     refine xrK 9 rfl fun K hK=>?_
     go_simp;refine zas hK (by decide) ?_;clear hK K;refine zar (by kernel_rfl) ?_ _;refine NoPanic.normal ?_;go_wp2_with fail
     go_roundw
     case rel =>
      have hst:=HE5.out.step b6 (HV7.out.move (S':=fun b=>WN.heap.size≤b) xnl fun b _ hs=>⟨rfl,hs⟩)
      refine ⟨n + 1,a6,c6,by go_num,by omega,by rw [HT2.out]; exact hst,?_⟩;exact ((HV6.out.below b6).set1 (a:=⟨bx,0,none⟩) (fun b hb=>hb) _).set1 (a:=⟨bx,1,none⟩) (fun b hb=>hb) _
     case measure=>simp [intOf]; omega
    ·have hq2:decide ((n:Int) < l.length) = false:=by simp; omega
     obtain rfl:n = l.length:=by omega
     rw [List.take_of_length_le xnl,← HOG.out,← HTs.out] at HE5;clear HV6;go_wp2_with fail
     go_roundw
     case rel=>exact ⟨j + 1,_,_,by go_num,by omega,HE5.out⟩
     case measure=>simp [intOf]; omega
  ·have hq:decide ((j:Int) < G.length) = false:=by simp; omega
   obtain rfl:j = G.length:=by omega
   rw [List.take_of_length_le xnl] at HE2;obtain ⟨d0,d1⟩:=zae HE2.out.hb;obtain ⟨r0,r1⟩:=zae HE2.out.hr;have f0:=frozen_of_row _ _ 0 _ _ HE2.out.hr; have f1:=frozen_of_row _ _ 1 _ _ HE2.out.hr;have zr:=zaa HE2.out.hr; have zb:=zaa HE2.out.hb;obtain ⟨WE,hWE⟩:∃ WE,G.foldl (zek p k) (ze1 p.len) = WE:=⟨_,rfl⟩;have HWE:=zjp hWE;rw [hWE] at HE2 d1;clear hWE;go_wp2_with fail
   refine zah rfl rfl (zad (i:=1) (v:=.slice av WE.length cv) (zad (i:=0) (v:=.int .i64 p.len) HE2.out.hr)) underlying56 rfl (by kernel_rfl) ?_;have hv7:=HE2.out.hv.move (S':=fun b=>w.heap.size≤b∧b≠w.heap.size + 2) xnl fun b _ hs=>⟨rfl,by have:=hs.2; omega,by have:=hs.2; omega⟩
   have h8:=(hv7.set1 (a:=⟨w.heap.size + 2,0,none⟩) (fun b hb=>hb.2) (.int .i64 p.len)).set1 (a:=⟨w.heap.size + 2,1,none⟩) (fun b hb=>hb.2) (.slice av WE.length cv)
   have h9:=h8.move (S':=fun b=>w.heap.size≤b) xnl fun b _ hb=>⟨rfl,hb.1⟩
   refine ⟨_,rfl,⟨_,rfl,?_⟩,(HE2.out.b.setCell (p:=⟨w.heap.size + 2,0,none⟩) (by simp) _).setCell (p:=⟨w.heap.size + 2,1,none⟩) (by simp) _⟩;dsimp only;rw [HWE.out];exact h9
end
section
open Go.RowKit
attribute [local go_sem] zag zaj zbb
theorem rgrams_any (s:ByteArray) (w:World) (hs:s.size≤64) :
  Calls prog 119 #[.string s] w fun e w'=>∃ v,e = .returned v∧OwnAt w v (zfa s.data.toList) w':=by
 have hl:s.data.toList.length = s.size:=by simp
 obtain ⟨hT1,hT2⟩:=toks_len s.data.toList (by omega);have hc:=zia s w (by omega);obtain ⟨T,hT⟩:∃ T,zcq s.data.toList = T:=⟨_,rfl⟩;have hG:zfa s.data.toList = setL (zbh T):=by unfold zfa; rw [hT]
 rw [hT] at hT1 hT2 hc;rw [hG];have HC:=zjp hc; have HT2:=zjp hT2;have d1:decide ((64:Int) < s.size) = false:=by simp; omega
 clear hl hc hT hG hT2;go_enter func119,ntmps119
 go_wp2_with fail
 refine HC.out.mono ?_;rintro e w1 ⟨vt,rfl,ho⟩;have HTV:=zjp (OwnV.vec (enc:=zba) (fun _=>rfl) ho).any
 have HB1:=zjp ho.2;obtain ⟨at',ct,rfl⟩:=HTV.out.slice;clear ho HC d1;go_wp2_with fail
 go_loopw [3,5] (fun v i wr=>∃ k:Nat,k≤T.length∧i = .int .i64 k∧OwnAt w1 v (zbh (T.take k)) wr) (fun _ i _=>T.length - (intOf i).toNat)
 case atStart=>exact ⟨0,by omega,rfl,OwnAt.start w1⟩
 case round =>
  obtain ⟨k,hk,rfl,ho⟩:=hrel;have HO:=zjp ho; clear ho;by_cases hlt:k < T.length
  ·have hq:decide ((k:Int) < T.length) = true:=by simp; omega
   have hi0:(k:Int) < (T.length:Int):=by omega
   have hgl:=zey (T.take k) (fun t ht=>HT2.out t (List.mem_of_mem_take ht))
   have htl:=List.length_take_le k T;have hx1:(T.getD k []).length≤64:=by rw [List.getD,List.getElem?_eq_getElem hlt]; exact HT2.out _ (List.getElem_mem hlt)
   obtain ⟨bt,ot,rfl,_,hbt,hct⟩:=zcc HTV.out (by omega);have c1:=(HO.out.2.cell (p:=⟨bt,ot + k,none⟩) hbt).trans (hct k hlt);have HG:=zjp (zjc T k hlt);obtain ⟨t,ht⟩:∃ t,T.getD k [] = t:=⟨_,rfl⟩;rw [ht] at c1 hx1 HG;clear ht hct;obtain ⟨wo,rfl⟩:∃ wo:World,wo = wr:=⟨_,rfl⟩;go_wp2_with fail
   go_loopw [3,7] (fun v i wr=>∃ j:Nat,j≤1 + t.length∧i = .int .i64 j∧OwnAt w1 v (zbh (T.take k) ++ (bigrA (zd6 t)).take j) wr) (fun _ i _=>1 + t.length - (intOf i).toNat)
   case atStart=>exact ⟨0,by omega,rfl,by simpa using HO.out⟩
   case round =>
    obtain ⟨j,hj,rfl,ho2⟩:=hrel;have HO2:=zjp ho2; clear ho2;have hwl:(zd6 t).length = t.length + 2:=by simp [zd6]
    by_cases hlj:j < 1 + t.length
    ·have hq2:decide ((j:Int) < 1 + t.length) = true:=by simp; omega
     have hq3:decide ((j:Int) + 2≤t.length + 1 + 1) = true:=by simp; omega
     have hext:=take_two (zd6 t) j (by omega);have hbg:=bigr_getD (zd6 t) j (by omega);have hbl:j < (bigrA (zd6 t)).length:=by rw [zh3]; omega
     have htk:=zfi (bigrA (zd6 t)) j hbl;rw [show (default:List UInt8) = [] from rfl,hbg] at htk;obtain ⟨z,hz⟩:∃ z,[(zd6 t).getD j 0,(zd6 t).getD (j + 1) 0] = z:=⟨_,rfl⟩;rw [hz] at hext htk;rw [wrapT_cons] at hext;have HTK:=zjp htk
     have hln:(zbh (T.take k) ++ (bigrA (zd6 t)).take j).length < 1099511627776:=by
      have:=List.length_take_le j (bigrA (zd6 t));simp only [List.length_append]; omega
     have hone:∀ u∈(#[zal z]:Array Value).toList,u.oneCell' = true:=by intro u hu; simp at hu; subst hu; rfl
     clear hbg hbl htk hz hwl;go_wp2_with (at_builtin; refine za6 rfl _ _ 28 rfl w1.heap.size 9 1 16 (.string ⟨#[]⟩) underlying28 zdv rfl (by decide) (by decide) _ _ _ rfl HO2.out.1 #[zal z] 1 rfl rfl hone hln HO2.out.2.size ?_; intro v2 w8 ho8 hw8)
     go_roundw
     case rel=>exact ⟨j + 1,by omega,by go_num,by rw [HTK.out,← List.append_assoc]; exact ⟨by rw [List.length_append,zdz]; exact ho8,hw8 _ HO2.out.2⟩⟩
     case measure=>simp [intOf]; omega
    ·have hq2:decide ((j:Int) < 1 + t.length) = false:=by simp; omega
     have hq3:decide ((j:Int) + 2≤t.length + 1 + 1) = false:=by simp; omega
     rw [show (bigrA (zd6 t)).take j = bigrA (zd6 t) from List.take_of_length_le (by rw [zh3]; omega),← HG.out] at HO2;go_wp2_with fail
     go_roundw
     case rel=>exact ⟨k + 1,by omega,by go_num,HO2.out⟩
     case measure=>simp [intOf]; omega
  ·have hq:decide ((k:Int) < T.length) = false:=by simp; omega
   rw [List.take_of_length_le (by omega)] at HO;have hgl:=zey T HT2.out;have HV:=zjp (Vec.owns (S:=zav) (k:=1) (enc:=zba) (fun _=>rfl) HO.out.1 (fun _ _ _=>trivial))
   go_wp2_with fail
   refine (rset_any zav _ (zbh T) _ HV.out (by omega)).mono ?_;rw [foldI_set];rintro e w3 ⟨v3,rfl,ho3⟩;have HB3:=zjp (HB1.out.trans (HO.out.2.mono HB1.out.size));have HO3:=zjp (OwnV.rebase ho3 HB3.out);clear ho3;go_wp2_with fail
   go_ret;exact ⟨v3,rfl,HO3.out⟩
theorem set_ascB {L:List (List UInt8)} (h:AscB L):setL L = L:=by
 have hp:L.Pairwise (· < ·):=by
  rw [List.pairwise_iff_getElem];intro i j hi hj hij
  have key:∀ d,∀ i,(hi:i + d + 1 < L.length)→L[i] < L[i + d + 1]:=by
   intro d;induction d with
   | zero =>
    intro i hi;have:=h i (by omega);rw [bytesLess_eq,decide_eq_true_iff,List.getD,List.getD,List.getElem?_eq_getElem (by omega),List.getElem?_eq_getElem (by omega)] at this;exact this
   | succ d ih =>
    intro i hi;have h1:=ih i (by omega);have h2:=h (i + d + 1) (by omega);rw [bytesLess_eq,decide_eq_true_iff,List.getD,List.getD,List.getElem?_eq_getElem (by omega),List.getElem?_eq_getElem (by omega)] at h2;exact List.lt_trans h1 h2
  have:=key (j - i - 1) i (by omega);simpa [show i + (j - i - 1) + 1 = j by omega] using this
 have hn:L.Nodup:=hp.imp fun {a b} h e=>by subst e; exact List.lt_irrefl a h
 have hs:L.mergeSort leB = L:=List.mergeSort_of_pairwise (hp.imp fun {a b} h=>by simpa [leB] using List.le_of_lt h)
 rw [← set_of_perm hn fun z=>Iff.rfl,hs]
theorem rpositional_any (s:ByteArray) (w:World) (hs:s.size≤26) :
  Calls prog 118 #[.string s] w fun e w'=>∃ v,e = .returned v∧OwnAt w v (posL 0 s.data.toList) w':=by
 have hl:s.data.toList.length = s.size:=by simp
 have HL:=zjp hl; clear hl;have d1:decide ((26:Int) < s.size) = false:=by simp; omega
 go_enter func118,ntmps118
 go_wp2_with fail
 clear d1;go_loopw [3,4] (fun v i wr=>∃ k:Nat,k≤s.size∧i = .int .i64 k∧OwnAt w v (posL 0 (s.data.toList.take k)) wr) (fun _ i _=>s.size - (intOf i).toNat)
 case atStart=>exact ⟨0,by omega,rfl,OwnAt.start w⟩
 case round =>
  obtain ⟨k,hk,rfl,ho⟩:=hrel;have HO:=zjp ho; clear ho;by_cases hlt:k < s.size
  ·have hq:decide ((k:Int) < s.size) = true:=by simp; omega
   have ht:=zes s k hlt;have hsn:=posL_snoc (s.data.toList.take k) s[k] 0;have htl:(s.data.toList.take k).length = k:=by rw [List.length_take,HL.out]; omega
   rw [htl,Nat.zero_add] at hsn;have HT:=zjp ht; have HSn:=zjp hsn;have hpl:(posL 0 (s.data.toList.take k)).length < 1099511627776:=by rw [zi1,htl]; omega
   have hbz:=HO.out.2.size;have ha:((UInt8.ofNat (97 + k)).toNat:Int) = 97 + (k:Int):=by rw [UInt8.toNat_ofNat']; omega
   have hcv:=two_bytes wr (UInt8.ofNat (97 + k)) s[k];rw [ha] at hcv;obtain ⟨z,hz⟩:∃ z,[UInt8.ofNat (97 + k),s[k]] = z:=⟨_,rfl⟩;rw [hz] at hcv;have HZ:=zjp hz;have hone:∀ u∈(#[zal z]:Array Value).toList,u.oneCell' = true:=by intro u hu; simp at hu; subst hu; rfl
   have HO2:=zjp (HO.out.below (w':=wr.alloc (.cells #[.int .u8 (97 + (k:Int)),.int .u8 s[k].toNat] 5)) ((Below.refl _ _).alloc xnl _));have HK1:=zjp (show wr.heap.size + 1 = (wr.alloc (.cells #[.int .u8 (97 + (k:Int)),.int .u8 s[k].toNat] 5)).heap.size by simp);clear ht hsn htl ha hz;go_wp2_with (at_builtin; refine zcj rfl _ _ 28 rfl w.heap.size 9 1 16 (.string ⟨#[]⟩) underlying28 zdv rfl (by decide) (by decide) _ _ _ rfl HO2.out.1 (wr.heap.size + 1) HK1.out #[zal z] 1 rfl rfl hone hpl HO2.out.2.size ?_; intro v2 w8 ho8 hw8)
   go_roundw
   case rel=>exact ⟨k + 1,by omega,by go_num,by rw [HT.out,HSn.out]; exact ⟨by rw [List.length_append,zdz,HZ.out]; exact ho8,hw8 _ HO2.out.2⟩⟩
   case measure=>simp [intOf]; omega
  ·have hq:decide ((k:Int) < s.size) = false:=by simp; omega
   rw [List.take_of_length_le (by rw [HL.out]; omega)] at HO;have hasc:=zjp (set_ascB (pos_asc s.data.toList 0 (by rw [HL.out]; omega)));have hpl:(posL 0 s.data.toList).length≤1000000:=by rw [zi1,HL.out]; omega
   have HV:=zjp (Vec.owns (S:=zav) (k:=1) (enc:=zba) (fun _=>rfl) HO.out.1 (fun _ _ _=>trivial))
   go_wp2_with fail
   refine (rset_any zav _ (posL 0 s.data.toList) _ HV.out hpl).mono ?_;rw [foldI_set,hasc.out];rintro e w3 ⟨v3,rfl,ho3⟩;have HO3:=zjp (OwnV.rebase ho3 HO.out.2);clear ho3;go_wp2_with fail
   go_ret;exact ⟨v3,rfl,HO3.out⟩
end
section
open Go.RowKit Cal
attribute [local go_sem] zag zaj za7
theorem rsgrams_any (S:Nat→Prop) (vf vt vn vs:Value) (s:SchemaL) (f:Int) (x:List UInt8) (w:World) (h:SchemaAt w S vf vt vn vs s) (hx:x.length≤1000000) (p:List (List UInt8) × Int) (hp:p = zfq s f x) :
  Calls prog 78 #[.agg #[vf,vt,vn,vs],.int .i64 f,zal x] w (GramsIs p w):=by
 have HS:=zjp h.any;obtain ⟨af,cf,rfl⟩:=h.1.slice;have HV1:=zjp h.1.any;have hfn:zbm s f = if zax s = 0 then (if 0≤f∧f < s.fields.length then ((s.fields.getD f.toNat default).2,0) else (0,2)) else (0,zax s):=rfl
 have hval:zfq s f x = if (zbm s f).2 = 0 then (if zaq s f x = true then (zf7 (zbm s f).1 x,0) else ([],7)) else ([],(zbm s f).2):=rfl
 have hown:(zbm s f).2 = 0→x≠[]→zaq s f x = ownK (zbm s f).1 s.rules x:=fun h0 h1=>by unfold zaq; rw [if_pos h0,if_neg h1]
 have hnil:(zbm s f).2 = 0→x = []→zaq s f x = true:=fun h0 h1=>by unfold zaq; rw [if_pos h0,if_pos h1]
 have hkk:=zed (s:=s) (f:=f);have hcf:=fun h=>(zcl (s:=s) h).1
 have K:=zd7 zav (.slice af s.fields.length cf) vt vn vs s (w.alloc (.cells #[.slice af s.fields.length cf,vt,vn,vs] 33)) (HS.out.below ((Below.refl _ _).alloc xnl _));obtain ⟨c,hc⟩:∃ c,zax s = c:=⟨_,rfl⟩;rw [hc] at K hfn hcf;have HK:=zjp K;clear K h;by_cases he:c = 0
 ·subst he
  have hlen:=(hcf rfl).2;clear hcf;rw [if_pos rfl] at hfn;by_cases hr:0≤f∧f < s.fields.length
  ·rw [if_pos hr] at hfn
   obtain ⟨r1,r2⟩:=hr;obtain ⟨k,rfl⟩:=Int.eq_ofNat_of_zero_le r1;rw [Int.toNat_natCast] at hfn;have hk:k < s.fields.length:=by omega
   obtain ⟨b,off,rfl,_,hb,hcell⟩:=zck HV1.out (by omega);obtain ⟨y,hy⟩:∃ y,s.fields.getD k default = y:=⟨_,rfl⟩;have hck:=hcell k hk;rw [hy] at hck hfn;obtain ⟨nm,kd⟩:=y;have C1:=zjp (show w.cell? ⟨b,off + k * 2 + 1,none⟩ = some (.int .i64 kd) from hck 1 _ rfl);rw [hfn] at hval hkk hown hnil;dsimp only at hval hkk hown hnil;have hkd:=hkk rfl;rw [if_pos rfl] at hval;have t1:decide ((k:Int) < 0) = false:=by simp
   have t2:decide ((s.fields.length:Int)≤k) = false:=by simp; omega
   have t3:(k:Int) < (s.fields.length:Int):=by omega
   have N0:=rsnormal_any zav (.slice (some ⟨b,off,none⟩) s.fields.length cf) vt vn vs s (k:Int) ⟨x.toArray⟩;rw [show (⟨x.toArray⟩:ByteArray).data.toList = x by simp] at N0;obtain ⟨nb,hnb⟩:∃ nb,zaq s (k:Int) x = nb:=⟨_,rfl⟩;rw [hnb] at N0 hval hown hnil;have HN:=zjp N0;have HP:=zjp (hp.trans hval);have HKD:=zjp hkd;have HOwn:=zjp (hown rfl);have HNil:=zjp (hnil rfl);clear hck hcell hfn hkk hval hy r1 r2 N0 hp hnb hkd hown hnil;go_enter func78,ntmps78
   go_wp2_with fail
   refine HK.out.mono ?_;rintro e w1 ⟨rfl,hb1⟩;have HB1:=zjp (xbt hb1);have HX1:=zjp (xbn hb1);clear hb1 HK;have z0:=zaa HX1.out;obtain ⟨p0,p1,p2,p3⟩:=zbq HX1.out;go_wp2_with fail
   refine (HN.out _ (HS.out.below HB1.out) (by rw [zaj]; omega)).mono ?_;rintro e w2 ⟨rfl,hb2⟩;have HB2:=zjp (HB1.out.trans (hb2.mono HB1.out.size));have HX2:=zjp (zab hb2 z0 HX1.out);clear hb2 p0 p1 p2 p3 HX1 HB1 z0;have z0:=zaa HX2.out;obtain ⟨p0,p1,p2,p3⟩:=zbq HX2.out;cases nb
   ·have HE:=zjp (show p = ([],7) by rw [HP.out,if_neg (by simp)])
    go_wp2_with fail
    go_ret2;exact ⟨_,by rw [HE.out]; rfl,by rw [HE.out]; exact Vec.nil _ _ _ _,HB2.out⟩
   ·have HG:=zjp (show p = (zf7 kd x,0) by rw [HP.out,if_pos rfl])
    by_cases hx0:x = []
    ·have HE:=zjp (show p = ([],0) by rw [HG.out]; unfold zf7; rw [if_pos hx0])
     subst hx0;go_wp2_with fail
     go_ret2;exact ⟨_,by rw [HE.out]; rfl,by rw [HE.out]; exact Vec.nil _ _ _ _,HB2.out⟩
    ·have q1:(x == []) = false:=by simpa using hx0
     have q2:x.isEmpty = false:=by simpa using hx0
     obtain ⟨f1,f2,f3⟩:=zi5 (HOwn.out hx0).symm HKD.out;have HGK:=zjp (show zf7 kd x = if kd = 2 then posL 0 x else if kd = 3 then [61 :: x] else zfa x by unfold zf7; rw [if_neg hx0]);have c1:w2.cell? ⟨b,off + k * 2 + 1,none⟩ = some (.int .i64 kd):=(HB2.out.cell (p:=⟨b,off + k * 2 + 1,none⟩) hb).trans C1.out;have zb:b < w2.heap.size:=Nat.lt_of_lt_of_le hb HB2.out.size;have hkd:=HKD.out;have F3:=zjp f3;clear f2 f3 hx0
     rcases hkd with rfl | rfl | rfl | rfl
     ·have HE:=zjp (show p = (zfa x,0) by rw [HG.out,HGK.out]; rfl)
      go_wp2_with fail
      refine (rgrams_any ⟨x.toArray⟩ _ (by rw [zaj]; omega)).mono ?_;rw [show (⟨x.toArray⟩:ByteArray).data.toList = x by simp];rintro e w3 ⟨v,rfl,ho⟩;have HB3:=zjp (HB2.out.trans (ho.2.mono HB2.out.size));have HV3:=zjp (OwnV.vec (enc:=zba) (fun _=>rfl) ho).any
      clear ho p0 p1 p2 p3 c1;go_wp2_with fail
      go_ret2;exact ⟨v,by rw [HE.out]; rfl,by rw [HE.out]; exact HV3.out,HB3.out⟩
     ·have HE:=zjp (show p = (posL 0 x,0) by rw [HG.out,HGK.out]; rfl)
      go_wp2_with fail
      refine (rpositional_any ⟨x.toArray⟩ _ (by rw [zaj]; have:=F3.out (by first | rfl | trivial); omega)).mono ?_;rw [show (⟨x.toArray⟩:ByteArray).data.toList = x by simp];rintro e w3 ⟨v,rfl,ho⟩;have HB3:=zjp (HB2.out.trans (ho.2.mono HB2.out.size));have HV3:=zjp (OwnV.vec (enc:=zba) (fun _=>rfl) ho).any
      clear ho p0 p1 p2 p3 c1;go_wp2_with fail
      go_ret2;exact ⟨v,by rw [HE.out]; rfl,by rw [HE.out]; exact HV3.out,HB3.out⟩
     ·have HE:=zjp (show p = ([61 :: x],0) by rw [HG.out,HGK.out]; rfl)
      go_wp2_with fail
      go_ret2;exact ⟨_,by rw [HE.out]; rfl,by rw [HE.out]; exact vec_block (L:=[61 :: x]) (zac rfl) 1 rfl,HB2.out.alloc HB2.out.size _⟩
     ·have HE:=zjp (show p = (zfa x,0) by rw [HG.out,HGK.out]; rfl)
      go_wp2_with fail
      refine (rgrams_any ⟨x.toArray⟩ _ (by rw [zaj]; omega)).mono ?_;rw [show (⟨x.toArray⟩:ByteArray).data.toList = x by simp];rintro e w3 ⟨v,rfl,ho⟩;have HB3:=zjp (HB2.out.trans (ho.2.mono HB2.out.size));have HV3:=zjp (OwnV.vec (enc:=zba) (fun _=>rfl) ho).any
      clear ho p0 p1 p2 p3 c1;go_wp2_with fail
      go_ret2;exact ⟨v,by rw [HE.out]; rfl,by rw [HE.out]; exact HV3.out,HB3.out⟩
  ·have HE:=zjp (show p = ([],2) by rw [hp,hval,hfn,if_neg hr]; rfl)
   have hr':f < 0∨(0≤f∧(s.fields.length:Int)≤f):=by omega
   clear hfn hval hkk hown hnil hp hr
   rcases hr' with hf | ⟨hf0,hf⟩
   all_goals
    go_enter func78,ntmps78
    go_wp2_with fail
    refine HK.out.mono ?_;rintro e w1 ⟨rfl,hb1⟩;have HB1:=zjp (xbt hb1);have HX1:=zjp (xbn hb1);clear hb1 HK;have z0:=zaa HX1.out;obtain ⟨p0,p1,p2,p3⟩:=zbq HX1.out;go_wp2_with fail
    go_ret2;exact ⟨_,by rw [HE.out]; rfl,by rw [HE.out]; exact Vec.nil _ _ _ _,HB1.out⟩
 ·have HE:=zjp (show p = ([],c) by rw [hp,hval,hfn,if_neg he]; dsimp only; rw [if_neg he])
  have q1:(c != 0) = true:=by simpa using he
  clear hfn hval hkk hown hnil hp hcf he;go_enter func78,ntmps78
  go_wp2_with fail
  refine HK.out.mono ?_;rintro e w1 ⟨rfl,hb1⟩;have HB1:=zjp (xbt hb1);clear hb1 HK;go_wp2_with fail
  go_ret2;exact ⟨_,by rw [HE.out]; rfl,by rw [HE.out]; exact Vec.nil _ _ _ _,HB1.out⟩
end
section
open Go.RowKit Cal
attribute [local go_sem] zag zaj
structure RcAt (b:Nat) (vf vt vn vs id ver sv:Value) (w:World):Prop where
 s:w.heap[b]? = some (.cells #[vf,vt,vn,vs] 33 (0,0))
 r:w.heap[b + 1]? = some (.cells #[id,ver,sv] 68 (0,0))
theorem RcAt.below {b:Nat} {vf vt vn vs id ver sv:Value} {w w':World} (h:RcAt b vf vt vn vs id ver sv w) (hb:Below w.heap.size w w'):RcAt b vf vt vn vs id ver sv w' :=
 ⟨zab hb (zaa h.s) h.s,zab hb (zaa h.r) h.r⟩
theorem checkI_no {s:SchemaL} {r:RecL} (h:¬ (1≤r.id∧r.id≤1048576∧1≤r.ver∧r.ver≤1048576∧r.vals.length = s.fields.length)):zer s r = 7:=by
 unfold zer zbl;rw [if_neg];simp only [Bool.and_eq_true,decide_eq_true_eq,beq_iff_eq];intro hh;exact h ⟨hh.1.1.1.1.1,hh.1.1.1.1.2,hh.1.1.1.2,hh.1.1.2,hh.1.2⟩
theorem checkI_norm {s:SchemaL} {r:RecL} (h:1≤r.id∧r.id≤1048576∧1≤r.ver∧r.ver≤1048576∧r.vals.length = s.fields.length):zer s r = if ze5 s 0 r.vals = true then 0 else 7:=by
 unfold zer zbl;simp [h]
theorem normA_no {s:SchemaL} {L:List (List UInt8)} {k:Nat} (hk:k < L.length) (h:zaq s k L[k] = false):ze5 s 0 L = false:=by
 cases hh:ze5 s 0 L with
 | false=>rfl
 | true =>
  have:=zhf s L 0 hh k hk;rw [Nat.zero_add,show L.getD k [] = L[k] by simp [List.getD,hk],h] at this;cases this
theorem rrcheck_any (S T:Nat→Prop) (vf vt vn vs:Value) (s:SchemaL) (r:RecL) (sv:Value) (w:World) (h:SchemaAt w S vf vt vn vs s) (hv:Vec w T 1 zba sv r.vals) (hs:∀ x∈r.vals,x.length≤1000000) (hn:r.vals.length≤1000000) :
  Calls prog 76 #[.agg #[vf,vt,vn,vs],.agg #[.int .i64 r.id,.int .i64 r.ver,sv]] w fun e w'=>e = .returned (.int .i64 (zdj s r))∧Below w.heap.size w w':=by
 obtain ⟨c,hc⟩:∃ c,zdj s r = c:=⟨_,rfl⟩;obtain ⟨d,hd⟩:∃ d,zax s = d:=⟨_,rfl⟩;have hval:=hc;unfold zdj at hval;rw [hd] at hval;rw [hc];obtain ⟨af,cf,rfl⟩:=h.1.slice;obtain ⟨a,cap,rfl⟩:=hv.slice;obtain ⟨id,ver,vals⟩:=r;dsimp only at hv hs hn ⊢;have HV:=zjp hv.any; have HS:=zjp h.any; have HVal:=zjp hval; have HD:=zjp hd; have HSh:=zjp hs;clear hv h hval hc hd hs;go_enter func76,ntmps76
 go_wp2_with fail
 refine zai (fun W hW=>?_)
 have hb0:=xam hW
 have k0:RcAt w.heap.size (.slice af s.fields.length cf) vt vn vs (.int .i64 id) (.int .i64 ver) (.slice a vals.length cap) W:=by rw [hW]; exact ⟨zaf (zac rfl),zac (by simp)⟩
 clear hW;refine (zd7 zav _ _ _ _ s _ (HS.out.below hb0)).mono ?_;rw [HD.out];rintro e w1 ⟨rfl,hb⟩;have K1:=zjp (k0.below hb); have HB1:=zjp (hb0.trans (hb.mono hb0.size));clear hb hb0 k0;obtain ⟨s0,s1,s2,s3⟩:=zak K1.out.s; obtain ⟨r0,r1,r2⟩:=zao K1.out.r;have ls:=zaa K1.out.s; have lr:=zaa K1.out.r;by_cases h0:d = 0
 ·subst h0
  have HV2:=HVal.out;rw [if_pos rfl] at HV2;have HI:=zjp HV2;have dz:((0:Int) != 0) = false:=rfl;clear HV2 HVal;by_cases hin:1≤id∧id≤1048576∧1≤ver∧ver≤1048576∧vals.length = s.fields.length
  ·have hck:=checkI_norm (r:=⟨id,ver,vals⟩) hin
   rw [HI.out] at hck;have HCk:=zjp hck;obtain ⟨i1,i2,i3,i4,i5⟩:=hin;have e1:decide (id < (1:Int)) = false:=by simp; omega
   have e2:decide ((1048576:Int) < id) = false:=by simp; omega
   have e3:decide (ver < (1:Int)) = false:=by simp; omega
   have e4:decide ((1048576:Int) < ver) = false:=by simp; omega
   have e5:((vals.length:Int) != (s.fields.length:Int)) = false:=by rw [i5]; simp
   clear i1 i2 i3 i4 i5 hck;go_wp2_with fail
   clear s0 s1 s2 s3 r0 r1 r2 e1 e2 e3 e4 e5;go_loopw [6] (fun t wr=>∃ k:Nat,k≤vals.length∧t = .int .i64 k∧Hid (∀ j (hj:j < k) (hl:j < vals.length),zaq s j vals[j] = true)∧Below w1.heap.size w1 wr) (fun t _=>vals.length - (intOf t).toNat)
   case atStart=>exact ⟨0,by omega,rfl,zjp fun j hj=>by omega,Below.refl _ _⟩
   case round =>
    obtain ⟨k,hk,rfl,HN,hbw⟩:=hrel;have Kw:=zjp (K1.out.below hbw); have HBw:=zjp (HB1.out.trans (hbw.mono HB1.out.size)); have Hbw:=zjp hbw;clear hbw;obtain ⟨s0,s1,s2,s3⟩:=zak Kw.out.s; obtain ⟨r0,r1,r2⟩:=zao Kw.out.r;have ls:=zaa Kw.out.s; have lr:=zaa Kw.out.r;by_cases hlt:k < vals.length
    ·have hq:decide ((k:Int) < vals.length) = true:=by simp; omega
     have hki:(k:Int) < (vals.length:Int):=by omega
     obtain ⟨u,hu⟩:∃ u,vals[k] = u:=⟨_,rfl⟩;have hul:u.length≤1000000:=HSh.out u (by rw [← hu]; exact List.getElem_mem _);obtain ⟨b,off,rfl,hb,hcc⟩:=(HV.out.below HBw.out).get k hlt;have d0:=hcc 0 _ rfl;rw [Nat.mul_one,Nat.add_zero,hu] at d0;have lb:b < wr.heap.size:=hb;have HU:=zjp hu;obtain ⟨nb,hnb⟩:∃ nb,zaq s k u = nb:=⟨_,rfl⟩;have HNb:=zjp hnb;have bD:Below wr.heap.size wr wr.drew:=(Below.refl _ _).drew;clear hcc hu hnb hb;go_wp2_with fail
     refine wp_region_noPanic ?_
     refine wp_region_held_drew (S:=(fun w'=>w'.cell? ⟨w.heap.size,0,none⟩ = some (.slice af s.fields.length cf)∧w'.cell? ⟨w.heap.size,1,none⟩ = some vt∧w'.cell? ⟨w.heap.size,2,none⟩ = some vn∧w'.cell? ⟨w.heap.size,3,none⟩ = some vs∧w'.cell? ⟨w.heap.size + 1,2,none⟩ = some (.slice (some ⟨b,off,none⟩) vals.length cap)∧w'.cell? ⟨b,off + k,none⟩ = some (zal u))) (by kernel_rfl) (⟨s0,s1,s2,s3,r2,d0⟩) (fun hHeld=>?_)
     refine tH 0 (h:=?_);refine tH 1 (h:=?_);refine tH 2 (h:=?_);refine tH 3 (h:=?_);refine tH 4 (h:=?_);refine tH 5 (h:=?_);refine tH 6 (h:=?_);refine wpAnyH_ready (rs:=[7]) (by kernel_rfl) (by simp) ?_
     refine AllReadyH.cons rfl (fun K hK=>?_) AllReadyH.nil
     go_simp;refine (rsnormal_any zav _ vt vn vs s k ⟨u.toArray⟩ _ ((HS.out.below HBw.out).below bD) (by rw [zaj]; omega)).mono ?_; rw [show (⟨u.toArray⟩:ByteArray).data.toList = u by simp,HNb.out]; rintro e w2 ⟨rfl,hb2⟩; have b2:=bD.trans (hb2.mono bD.size); clear hb2
     refine hK.out _ _ (⟨(b2.cell (p:=⟨w.heap.size,0,none⟩) ls).trans s0,(b2.cell (p:=⟨w.heap.size,1,none⟩) ls).trans s1,(b2.cell (p:=⟨w.heap.size,2,none⟩) ls).trans s2,(b2.cell (p:=⟨w.heap.size,3,none⟩) ls).trans s3,(b2.cell (p:=⟨w.heap.size + 1,2,none⟩) lr).trans r2,(b2.cell (p:=⟨b,off + k,none⟩) lb).trans d0⟩) (fun hHeld=>?_)
     clear hK K;refine tH 8 (h:=?_);refine wpAnyH_done (by kernel_rfl) ?_ _;refine NoPanic.normal ?_;have HB2:=zjp (Hbw.out.trans (b2.mono Hbw.out.size));have HBf:=zjp (HBw.out.trans (b2.mono HBw.out.size));clear hHeld s0 s1 s2 s3 r0 r1 r2 d0 b2;cases nb with
     | true =>
      go_wp2_with fail
      go_roundw
      case rel =>
       refine ⟨k + 1,by omega,by go_num,zjp fun j hj hl=>?_,HB2.out⟩
       by_cases hjk:j = k
       ·subst hjk; rw [HU.out]; exact HNb.out
       ·exact HN.out j (by omega) hl
      case measure=>simp [intOf]; omega
     | false =>
      have hc7:c = 7:=by rw [HCk.out,normA_no hlt (by rw [HU.out]; exact HNb.out)]; rfl
      subst hc7;go_wp2_with fail
      go_ret;exact ⟨rfl,HBf.out⟩
    ·have hq:decide ((k:Int) < vals.length) = false:=by simp; omega
     obtain rfl:k = vals.length:=by omega
     have hc0:c = 0:=by
      rw [HCk.out,normA_of s vals 0 fun j hj=>by rw [Nat.zero_add,show vals.getD j [] = vals[j] by simp [List.getD,hj]]; exact HN.out j hj hj]; rfl
     subst hc0;go_wp2_with fail
     go_ret;exact ⟨rfl,HBw.out⟩
  ·have hc7:c = 7:=by rw [← HI.out]; exact checkI_no hin
   subst hc7;clear HI;by_cases i1:id < 1
   ·have e1:decide (id < (1:Int)) = true:=by simpa using i1
    go_wp2_with fail
    go_ret;exact ⟨rfl,HB1.out⟩
   have e1:decide (id < (1:Int)) = false:=by simpa using i1
   by_cases i2:1048576 < id
   ·have e2:decide ((1048576:Int) < id) = true:=by simpa using i2
    go_wp2_with fail
    go_ret;exact ⟨rfl,HB1.out⟩
   have e2:decide ((1048576:Int) < id) = false:=by simpa using i2
   by_cases i3:ver < 1
   ·have e3:decide (ver < (1:Int)) = true:=by simpa using i3
    go_wp2_with fail
    go_ret;exact ⟨rfl,HB1.out⟩
   have e3:decide (ver < (1:Int)) = false:=by simpa using i3
   by_cases i4:1048576 < ver
   ·have e4:decide ((1048576:Int) < ver) = true:=by simpa using i4
    go_wp2_with fail
    go_ret;exact ⟨rfl,HB1.out⟩
   have e4:decide ((1048576:Int) < ver) = false:=by simpa using i4
   have e5:((vals.length:Int) != (s.fields.length:Int)) = true:=by simp; omega
   clear i1 i2 i3 i4 hin;go_wp2_with fail
   go_ret;exact ⟨rfl,HB1.out⟩
 ·have h1:d = c:=by have:=HVal.out; rwa [if_neg h0] at this
  subst h1;have hne:(d != 0) = true:=by simpa using h0
  clear h0;go_wp2_with fail
  go_ret;exact ⟨rfl,HB1.out⟩
end
section
open Go.RowKit Cal
attribute [local go_sem] zag zaj
theorem rrall_any (S T:Nat→Prop) (vf vt vn vs rv:Value) (s:SchemaL) (R:List RecL) (w:World) (h:SchemaAt w S vf vt vn vs s) (hr:RecsVec w T rv R) (hl:∀ r∈R,∀ x∈r.vals,x.length≤1000000) (hn:∀ r∈R,r.vals.length≤1000000) (hR:R.length≤1000000) :
  Calls prog 42 #[.agg #[vf,vt,vn,vs],rv] w fun e w'=>e = .returned (.int .i64 (allN s R))∧Below w.heap.size w w':=by
 obtain ⟨ar,cr,rfl⟩:=hr.slice;have HS:=zjp h; have HR:=zjp hr.any; have HL:=zjp hl; have HN:=zjp hn;obtain ⟨E,hE⟩:∃ E,allN s R = E:=⟨_,rfl⟩;rw [hE];have HE:=zjp hE;clear h hr hl hn hE;go_enter func42,ntmps42
 go_wp2_with fail
 refine zai (fun W hW=>?_)
 have hb0:=xal hW
 have hs0:W.heap[w.heap.size]? = some (.cells #[vf,vt,vn,vs] 33 (0,0)):=by rw [hW]; exact zac rfl
 clear hW;refine (zd7 S _ _ _ _ s W (HS.out.below hb0)).mono ?_;rintro e w1 ⟨rfl,hb⟩;have hs1:=zab hb (zaa hs0) hs0;have HB1:=zjp (hb0.trans (hb.mono hb0.size)); have HS1:=zjp hs1;clear hb hb0 hs0 hs1;obtain ⟨c,hc⟩:∃ c,zax s = c:=⟨_,rfl⟩;rw [hc];by_cases hc0:c = 0
 ·subst hc0
  have dz:((0:Int) != 0) = false:=rfl;have HC:=zjp hc;by_cases h64:R.length≤64
  ·have d64:decide ((64:Int) < (R.length:Int)) = false:=by simp; omega
   have HE2:=zjp (show allA s none R = E by rw [← HE.out]; unfold allN; rw [if_pos hc,if_pos h64]);clear hc HE;go_wp2_with fail
   go_loopw [6] (fun t wr=>∃ j:Nat,t = .int .i64 j∧j≤R.length∧Hid (allA s (zg5 R j) (R.drop j) = E)∧Below w1.heap.size w1 wr) (fun t _=>R.length - (intOf t).toNat)
   case atStart=>exact ⟨0,rfl,by omega,HE2,Below.refl _ _⟩
   case round =>
    obtain ⟨j,rfl,hj,HT,hbw⟩:=hrel;have HBW:=zjp hbw;by_cases hlt:j < R.length
    ·have hq:decide ((j:Int) < (R.length:Int)) = true:=by simp; omega
     have hji:(j:Int) < (R.length:Int):=by omega
     have hbw0:=HB1.out.trans (hbw.mono HB1.out.size);obtain ⟨b,off,id,ver,aa,nn,cc,vals,rfl,lb,c0,c1,c2,hRj,hvv⟩:=(HR.out.below hbw0).at j hlt;obtain ⟨s0,s1,s2,s3⟩:=zak (zab hbw (zaa HS1.out) HS1.out);have lsr:w.heap.size < wr.heap.size:=by have:=zaa HS1.out; have:=hbw.size; omega
     have hT:=HT.out;rw [List.drop_eq_getElem_cons hlt,allA_cons] at hT;have hmem:R[j]∈R:=List.getElem_mem hlt;have HLv:=zjp (HL.out _ hmem); have HNv:=HN.out _ hmem
     have HP:=zjp (show j≠0→∃ pid:Int,zg5 R j = some pid∧wr.cell? ⟨b,off + (j - 1) * 3,none⟩ = some (.int .i64 pid) from fun h0=>by
      obtain ⟨b',off',id',ver',aa',nn',cc',vals',he,_,d0,_,_,hR',_⟩:=(HR.out.below hbw0).at (j - 1) (by omega);cases he;refine ⟨id',?_,d0⟩;unfold zg5
      rw [if_neg h0,za5 _ _ (by omega),hR'])
     rw [hRj] at hT HLv HNv;have HRJ:=zjp hRj; have HV:=zjp hvv; have HT2:=zjp hT;have HB0:=zjp hbw0;clear hT hmem hRj hvv HT hbw hbw0;dsimp only at HLv HNv;have hvl:=HV.out.len.1;subst hvl;obtain ⟨ci,hci⟩:∃ ci,zer s ⟨id,ver,vals⟩ = ci:=⟨_,rfl⟩;have HCi:=zjp (show zdj s ⟨id,ver,vals⟩ = ci by unfold zdj; rw [if_pos HC.out,hci]);have HCI:=zjp hci;have bD:Below wr.heap.size wr wr.drew:=(Below.refl _ _).drew;clear hci;go_wp2_with fail
     go_cut [7] (fun t7 wx=>t7 = .int .i64 ci∧Below wr.heap.size wr wx)
     case first =>
      refine wp_region_noPanic ?_
      refine wp_region_held_drew (S:=(fun w'=>w'.cell? ⟨w.heap.size,0,none⟩ = some vf∧w'.cell? ⟨w.heap.size,1,none⟩ = some vt∧w'.cell? ⟨w.heap.size,2,none⟩ = some vn∧w'.cell? ⟨w.heap.size,3,none⟩ = some vs∧w'.cell? ⟨b,off + j * 3,none⟩ = some (.int .i64 id)∧w'.cell? ⟨b,off + j * 3 + 1,none⟩ = some (.int .i64 ver)∧w'.cell? ⟨b,off + j * 3 + 2,none⟩ = some (.slice aa vals.length cc))) (by kernel_rfl) (⟨s0,s1,s2,s3,c0,c1,c2⟩) (fun hHeld=>?_)
      refine tH 0 (h:=?_);refine tH 1 (h:=?_);refine tH 2 (h:=?_);refine tH 3 (h:=?_);refine tH 4 (h:=?_);refine wpAnyH_ready (rs:=[5]) (by kernel_rfl) (by simp) ?_
      refine AllReadyH.cons rfl (fun K hK=>?_) AllReadyH.nil
      go_simp;refine (rrcheck_any S zav _ _ _ _ s ⟨id,ver,vals⟩ _ _ ((HS.out.below HB0.out).below bD) (HV.out.below bD) HLv.out HNv).mono ?_; rw [HCi.out]; rintro e w2 ⟨rfl,hb⟩; have b2:=bD.trans (hb.mono bD.size); clear hb
      refine hK.out _ _ (⟨(b2.cell (p:=⟨w.heap.size,0,none⟩) lsr).trans s0,(b2.cell (p:=⟨w.heap.size,1,none⟩) lsr).trans s1,(b2.cell (p:=⟨w.heap.size,2,none⟩) lsr).trans s2,(b2.cell (p:=⟨w.heap.size,3,none⟩) lsr).trans s3,(b2.cell (p:=⟨b,off + j * 3,none⟩) lb).trans c0,(b2.cell (p:=⟨b,off + j * 3 + 1,none⟩) lb).trans c1,(b2.cell (p:=⟨b,off + j * 3 + 2,none⟩) lb).trans c2⟩) (fun hHeld=>?_)
      clear hK K;refine tH 6 (h:=?_);refine wpAnyH_done (by kernel_rfl) ?_ _;refine NoPanic.normal ?_;go_wp2_with fail
      go_meet;exact ⟨rfl,b2⟩
     case rest =>
      obtain ⟨w2,hw2⟩:∃ u,u = wc:=⟨_,rfl⟩;subst hw2;obtain ⟨rfl,hbr⟩:=hcut;have HB2:=zjp (HBW.out.trans (hbr.mono HBW.out.size));have HBR:=zjp hbr;have r0:=(hbr.cell (p:=⟨b,off + j * 3,none⟩) lb).trans c0;clear hbr s0 s1 s2 s3 c0 c1 c2 bD;by_cases hci0:ci = 0
      ·subst hci0
       have hT3:=HT2.out;rw [HCI.out,if_pos rfl] at hT3;have HT3:=zjp hT3;clear hT3 HT2;by_cases hj0:j = 0
       ·have dj:decide (0 < j) = false:=by simp; omega
        have HT4:=zjp (show allA s (zg5 R (j + 1)) (R.drop (j + 1)) = E by
         have:=HT3.out;rw [show zg5 R j = none by unfold zg5; rw [if_pos hj0]] at this;rw [← this];unfold zg5
         rw [if_neg (by omega),show j + 1 - 1 = j by omega,za5 _ _ hlt,HRJ.out]; rfl)
        clear HT3 HP;go_wp2_with fail
        refine wp_region_noPanic ?_
        refine wp_region_held_drew (S:=(fun w'=>True)) (by kernel_rfl) (trivial) (fun hHeld=>?_)
        refine tH 0 (h:=?_);refine tH 1 (h:=?_);refine tH 2 (h:=?_);refine sH 3 (h:=?_);refine sH 4 (h:=?_);refine sH 5 (h:=?_);refine sH 6 (h:=?_);refine sH 7 (h:=?_);refine sH 8 (h:=?_);refine sH 9 (h:=?_);refine sH 10 (h:=?_);refine sH 11 (h:=?_);refine sH 12 (h:=?_);refine sH 13 (h:=?_);refine sH 14 (h:=?_);refine tH 15 (h:=?_);refine wpAnyH_done (by kernel_rfl) ?_ _;refine NoPanic.normal ?_;go_wp2_with fail
        go_roundw
        case rel=>exact ⟨j + 1,by go_num,by omega,HT4,HB2.out.drew⟩
        case measure=>simp [intOf]; omega
       ·have dj:decide (0 < j) = true:=by simp; omega
        obtain ⟨pid,hpr,hpc⟩:=HP.out hj0;have hpc2:=(HBR.out.cell (p:=⟨b,off + (j - 1) * 3,none⟩) lb).trans hpc;have hj1:(j:Int) - 1 < (R.length:Int):=by omega
        have hj2:(1:Int)≤(j:Int):=by omega
        have hj3:((j:Int) - 1).toNat = j - 1:=by omega
        have hwr:IntKind.i64.wrap ((j:Int) - 1) = (j:Int) - 1:=by rw [IntKind.wrap_i64]; omega
        have hT4:=HT3.out;rw [hpr] at hT4;clear HP hpc HT3;by_cases hle:id≤pid
        ·have dle:decide (id≤pid) = true:=by simpa using hle
         have hE12:E = 12:=by rw [← hT4]; unfold notB; dsimp only; rw [if_pos dle]
         subst hE12;clear hT4;go_wp2_with fail
         refine wp_region_noPanic ?_
         refine wp_region_held_drew (S:=(fun w'=>w'.cell? ⟨b,off + (j - 1) * 3,none⟩ = some (.int .i64 pid)∧w'.cell? ⟨b,off + j * 3,none⟩ = some (.int .i64 id))) (by kernel_rfl) (⟨hpc2,r0⟩) (fun hHeld=>?_)
         refine tH 0 (h:=?_);refine tH 1 (h:=?_);refine tH 2 (h:=?_);refine tH 3 (h:=?_);refine tH 4 (h:=?_);refine tH 5 (h:=?_);refine tH 6 (h:=?_);refine tH 7 (h:=?_);refine tH 8 (h:=?_);refine tH 9 (h:=?_);refine tH 10 (h:=?_);refine tH 11 (h:=?_);refine tH 12 (h:=?_);refine tH 13 (h:=?_);refine tH 14 (h:=?_);refine tH 15 (h:=?_);refine wpAnyH_done (by kernel_rfl) ?_ _;refine NoPanic.normal ?_;go_wp2_with fail
         go_ret;exact ⟨rfl,HB1.out.trans (HB2.out.drew.mono HB1.out.size)⟩
        ·have dle:decide (id≤pid) = false:=by simpa using hle
         have HT5:=zjp (show allA s (zg5 R (j + 1)) (R.drop (j + 1)) = E by
          rw [← hT4];unfold notB; dsimp only;rw [if_neg (by rw [dle]; decide)];unfold zg5
          rw [if_neg (by omega),show j + 1 - 1 = j by omega,za5 _ _ hlt,HRJ.out])
         clear hT4;go_wp2_with fail
         refine wp_region_noPanic ?_
         refine wp_region_held_drew (S:=(fun w'=>w'.cell? ⟨b,off + (j - 1) * 3,none⟩ = some (.int .i64 pid)∧w'.cell? ⟨b,off + j * 3,none⟩ = some (.int .i64 id))) (by kernel_rfl) (⟨hpc2,r0⟩) (fun hHeld=>?_)
         refine tH 0 (h:=?_);refine tH 1 (h:=?_);refine tH 2 (h:=?_);refine tH 3 (h:=?_);refine tH 4 (h:=?_);refine tH 5 (h:=?_);refine tH 6 (h:=?_);refine tH 7 (h:=?_);refine tH 8 (h:=?_);refine tH 9 (h:=?_);refine tH 10 (h:=?_);refine tH 11 (h:=?_);refine tH 12 (h:=?_);refine tH 13 (h:=?_);refine tH 14 (h:=?_);refine tH 15 (h:=?_);refine wpAnyH_done (by kernel_rfl) ?_ _;refine NoPanic.normal ?_;go_wp2_with fail
         go_roundw
         case rel=>exact ⟨j + 1,by go_num,by omega,HT5,HB2.out.drew⟩
         case measure=>simp [intOf]; omega
      ·have hE3:E = ci:=by rw [← HT2.out,HCI.out,if_neg hci0]
       have dne:(ci != (0:Int)) = true:=by simpa using hci0
       subst hE3;clear HT2 HE2 HP;go_wp2_with fail
       go_ret;exact ⟨rfl,HB1.out.trans (HB2.out.mono HB1.out.size)⟩
    ·have hq:decide ((j:Int) < (R.length:Int)) = false:=by simp; omega
     obtain rfl:j = R.length:=by omega
     have hE0:E = 0:=by rw [← HT.out,List.drop_length]; rfl
     subst hE0;go_wp2_with fail
     go_ret;exact ⟨rfl,HB1.out.trans (hbw.mono HB1.out.size)⟩
  ·have d64:decide ((64:Int) < (R.length:Int)) = true:=decide_eq_true (by omega)
   have hE1:E = 1:=by rw [← HE.out]; unfold allN; rw [if_pos hc,if_neg h64]
   subst hE1;clear hc HE;go_wp2_with fail
   go_ret;exact ⟨rfl,HB1.out⟩
 ·have dne:(c != (0:Int)) = true:=by simpa using hc0
  have hE1:E = c:=by rw [← HE.out]; unfold allN; rw [hc,if_neg hc0]
  subst hE1;clear HE;go_wp2_with fail
  go_ret;exact ⟨rfl,HB1.out⟩
end
end Go.Proofs.YtgkaafncfjlooaaGreatDoor
