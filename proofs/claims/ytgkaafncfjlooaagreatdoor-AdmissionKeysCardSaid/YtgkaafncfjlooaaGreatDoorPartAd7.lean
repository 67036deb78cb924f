/- Parts of one proof: AtkCmp, AtkSrt, AtkGrp, AtkMap, AtkHits, AtkAlign, AdmFill, AdmPlain, AdmA, AdmB, AdmC, AdmD, AdmAss, BloomD, EncK, EncG, RecAll. -/
import Derived.Test.YtgkaafncfjlooaaGreatDoorPartAd6
set_option maxHeartbeats 16000000
set_option maxRecDepth 100000
open Go.Proofs.Tryz
set_option linter.unusedSimpArgs false
set_option linter.unusedVariables false
namespace Go.Proofs.YtgkaafncfjlooaaGreatDoor
section
open Go.RowKit
theorem gcmp_any (S:Nat→Prop) (x y:GV) (W:World) (hx:Vec W S 1 zjh (ze6 x) x.mem) (hy:Vec W S 1 zjh (ze6 y) y.mem) (h1:1≤x.mem.length) (h2:1≤y.mem.length) :
  Calls prog 103 #[.agg (zfx x).toArray,.agg (zfx y).toArray] W fun e w'=>e = .returned (.int .i64 (zf1 (x.mem.getD 0 0) (y.mem.getD 0 0)))∧∃ q os',w' = Sort.grow (W.drewN q) os':=by
 obtain ⟨xl,wa,wn,wc,xa,xn,xc,ws,mem⟩:=x;obtain ⟨yl,wa',wn',wc',ya,yn,yc,ws',mem'⟩:=y;dsimp only [ze6] at hx hy h1 h2 ⊢;obtain ⟨b,off,rfl,lb,c⟩:=hx.get 0 h1;obtain ⟨b',off',rfl,lb',c'⟩:=hy.get 0 h2;have c0:=c 0 _ rfl; have d0:=c' 0 _ rfl;have hxl:=hx.len; have hyl:=hy.len;have e1:mem.getD 0 0 = mem[0]:=by rw [List.getD,List.getElem?_eq_getElem h1]; rfl
 have e2:mem'.getD 0 0 = mem'[0]:=by rw [List.getD,List.getElem?_eq_getElem h2]; rfl
 rw [e1,e2];obtain ⟨p,hp⟩:∃ p,mem[0] = p:=⟨_,rfl⟩;obtain ⟨q,hq⟩:∃ q,mem'[0] = q:=⟨_,rfl⟩;rw [hp] at c0 ⊢;rw [hq] at d0 ⊢;obtain ⟨r,hr⟩:∃ r,zf1 p q = r:=⟨_,rfl⟩;rw [hr];have hcon:=fun W'=>cmpI_any p q W'
 rw [hr] at hcon;have hxn:0 < xn:=by omega
 have hyn:0 < yn:=by omega
 clear c c' hx hy e1 e2 hp hq hr hxl hyl h1 h2;show Calls prog 103 #[.agg #[.int .i64 xl,.slice wa wn wc,.slice (some ⟨b,off,none⟩) xn xc],.agg #[.int .i64 yl,.slice wa' wn' wc',.slice (some ⟨b',off',none⟩) yn yc]] W fun e w'=>e = .returned (.int .i64 r)∧∃ q os',w' = Sort.grow (W.drewN q) os'
 go_enter func103,ntmps103
 go_wp2_with fail
 refine zam (fun W2 hW2=>?_)
 have HW2:=zjp hW2;have b2:=xam hW2
 have gx:W2.heap[W.heap.size]? = some (.cells #[.int .i64 xl,.slice wa wn wc,.slice (some ⟨b,off,none⟩) xn xc] 160 (0,0)):=by rw [hW2]; exact zaf (zac rfl)
 have gy:W2.heap[W.heap.size + 1]? = some (.cells #[.int .i64 yl,.slice wa' wn' wc',.slice (some ⟨b',off',none⟩) yn yc] 160 (0,0)):=by rw [hW2]; exact zac (by simp)
 obtain ⟨x0,x1,x2⟩:=zao gx;obtain ⟨y0,y1,y2⟩:=zao gy;have c02:=(b2.cell (p:=⟨b,off,none⟩) lb).trans c0;have d02:=(b2.cell (p:=⟨b',off',none⟩) lb').trans d0;clear hW2 b2 gx gy x0 x1 y0 y1 c0 d0;refine wp_region_noPanic ?_
 refine wp_region_held_drew (S:=(fun w'=>w'.cell? ⟨W.heap.size,2,none⟩ = some (.slice (some ⟨b,off,none⟩) xn xc)∧w'.cell? ⟨W.heap.size + 1,2,none⟩ = some (.slice (some ⟨b',off',none⟩) yn yc)∧w'.cell? ⟨b,off,none⟩ = some (.int .i64 p)∧w'.cell? ⟨b',off',none⟩ = some (.int .i64 q))) (by kernel_rfl) (⟨x2,y2,c02,d02⟩) (fun hHeld=>?_)
 refine tH 0 (h:=?_);refine tH 1 (h:=?_);refine tH 2 (h:=?_);refine tH 3 (h:=?_);refine tH 4 (h:=?_);refine tH 5 (h:=?_);refine tH 6 (h:=?_);refine tH 7 (h:=?_);refine tH 8 (h:=?_);refine tH 9 (h:=?_);refine wpAnyH_ready (rs:=[10]) (by kernel_rfl) (by simp) ?_
 refine AllReadyH.cons rfl (fun K hK=>?_) AllReadyH.nil
 go_simp;refine (hcon _).mono ?_; rintro e w' ⟨rfl,rfl⟩
 refine hK.out _ _ (⟨x2,y2,c02,d02⟩) (fun hHeld=>?_)
 clear hK K;refine wpAnyH_ready (rs:=[11]) (by kernel_rfl) (by simp) ?_
 refine AllReadyH.cons rfl (fun K hK=>?_) AllReadyH.nil
 go_simp;skip
 refine hK.out _ _ (⟨x2,y2,c02,d02⟩) (fun hHeld=>?_)
 clear hK K;refine wpAnyH_done (by kernel_rfl) ?_ _;refine NoPanic.normal ?_;go_wp2_with fail
 go_ret;refine ⟨rfl,1,#[.cells #[.int .i64 xl,.slice wa wn wc,.slice (some ⟨b,off,none⟩) xn xc] 160] ++ #[.cells #[.int .i64 yl,.slice wa' wn' wc',.slice (some ⟨b',off',none⟩) yn yc] 160],?_⟩;rw [HW2.out,Sort.alloc_eq_grow,Sort.alloc_eq_grow,Sort.grow_grow];rfl
theorem perm_asc {α:Type} (key:α→Int):∀ {l l':List α},l'.Perm l→l.Pairwise (fun x y=>key x < key y)→l'.Pairwise (fun x y=>key x≤key y)→l' = l
 | [],l',hp,_,_=>hp.eq_nil
 | x :: l,l',hp,h1,h2=>by
  cases l' with
  | nil=>exact absurd hp.symm.eq_nil (by simp)
  | cons y t =>
   have h3:=List.pairwise_cons.1 h1;have h4:=List.pairwise_cons.1 h2
   have hy:y = x:=by
    have hm:y∈x :: l:=hp.subset List.mem_cons_self;have hx:x∈y :: t:=hp.symm.subset List.mem_cons_self
    rcases List.mem_cons.1 hm with e | hm
    ·exact e
    rcases List.mem_cons.1 hx with e | hx
    ·exact e.symm
    have:=h3.1 y hm; have:=h4.1 x hx;omega
   subst hy;rw [perm_asc key (List.Perm.cons_inv hp) h3.2 h4.2]
end
section
open Go.RowKit
def MemAt (g:Nat) (w:World) (x:GV):Prop:=Vec w (fun b=>b≠g) 1 zjh (ze6 x) x.mem∧1≤x.mem.length
abbrev GSub (g:Nat) (w:World):Type:={ x:GV // MemAt g w x }
def keyG {g:Nat} {w:World} (x:GSub g w):Int:=x.1.mem.getD 0 0
def cfG {g:Nat} {w:World} (x y:GSub g w):Int:=zf1 (keyG x) (keyG y)
theorem ltG {g:Nat} {w:World} (x y:GSub g w):ltOf cfG x y = decide (keyG x < keyG y):=by
 unfold ltOf cfG zf1;by_cases h1:keyG x < keyG y
 ·simp [h1]
 ·by_cases h2:keyG y < keyG x <;> simp [h1,h2]
theorem swoG (g:Nat) (w:World):Sort.SWO (ltOf (cfG (g:=g) (w:=w))) where
 irrefl x:=by rw [ltG]; simp
 trans x y z h1 h2:=by rw [ltG] at *; simp at *; omega
 ntrans x y z h1 h2:=by rw [ltG] at *; simp at *; omega
def encGS {g:Nat} {w:World} (x:GSub g w):List Value:=zfx x.1
theorem sort_block {α:Type} [Inhabited α] (enc:α→List Value) (k:Nat) (w:World) (g off m:Nat) (d:Array α) (os:Array Obj) (b:Nat) (hb:b < w.heap.size) (hg:b≠g):(sortWorldK enc k w g off m d os).heap[b]? = w.heap[b]?:=by
 unfold sortWorldK Sort.grow Sort.putRowK Sort.putRow Sort.mapBlock Sort.ahead;dsimp only;rw [Array.getElem?_append_left (by simpa using hb),Array.getElem?_modify,if_neg (Ne.symm hg)]
theorem cmpLaysG (g:Nat) (w:World) [Inhabited (GSub g w)] (n:Nat):CmpLays prog 103 #[] encGS 3 (cfG (g:=g) (w:=w)) g 0 n w:=by
 intro m os dk hd x y
 have hmv:∀ z:GSub g w,Vec (sortWorldK encGS 3 w g 0 m dk os) (fun b=>b≠g) 1 zjh (ze6 z.1) z.1.mem:=fun z =>
  z.2.1.move (size_sortWorldK_c encGS 3 w g 0 m dk os) fun b hb hs=>⟨sort_block encGS 3 w g 0 m dk os b hb hs,hs⟩
 exact gcmp_any _ x.1 y.1 _ (hmv x) (hmv y) x.2.2 y.2.2
theorem grow_below (w:World) (n:Nat) (os:Array Obj):Below w.heap.size w (Sort.grow (Sort.ahead w n) os) :=
 ⟨rfl,rfl,rfl,by simp [Sort.grow,Sort.ahead],fun k hk=>by
  unfold Sort.grow Sort.ahead;dsimp only
  rw [Array.getElem?_append_left hk]⟩
theorem holdsG {w:World} {g cap:Nat} {cur:Array Value} {t:TypeId} [Inhabited (GSub g w)] (hc:w.heap[g]? = some (.cells cur t (0,0))) (d:Array (GSub g w)) (C:List GV) (hd:d.toList.map (·.1) = C) (hv:Vec w (fun _=>True) 3 zfx (.slice (some ⟨g,0,none⟩) C.length cap) C):Sort.HoldsK encGS 3 w g 0 d:=by
 intro j hj;have hs:C.length = d.size:=by rw [← hd]; simp
 have hj':j < d.size * 3:=by simpa using hj
 have hq:j / 3 < C.length:=by omega
 have hq':j / 3 < d.size:=by omega
 obtain ⟨b,off,e,_,hcell⟩:=hv.get (j / 3) hq;cases e;have hel:C[j / 3] = (d[j / 3]'hq').1:=by subst hd; simp
 have hget:(zfx C[j / 3])[j % 3]? = some (zfx C[j / 3])[j % 3]!:=by
  have h3:(zfx C[j / 3]).length = 3:=rfl;rw [List.getElem?_eq_getElem (by omega),getElem!_pos _ _ (by omega)]
 have h1:=hcell (j % 3) _ hget;rw [show 0 + j / 3 * 3 + j % 3 = 0 + j by omega] at h1;refine ⟨?_,frozen_of_row _ _ _ _ _ hc⟩;rw [h1,Sort.get_flatK _ _ _ _ hj',getElem!_pos d _ hq'];unfold encGS;rw [← hel]; rfl
theorem gsort_any (w0:World) (v:Value) (C:List GV) (w:World) (h:GRow w0 v C w) (h1:∀ x∈C,1≤x.mem.length) (hs:C.Pairwise fun x y=>x.mem.getD 0 0 < y.mem.getD 0 0) (hn:C.length≤1000000) :
  Calls prog 102 #[v,.func (.func 103) #[] #[]] w fun e w'=>e = .returned (.tuple #[])∧Below w.heap.size w w':=by
 rcases h.own.form with ⟨rfl,rfl⟩ | ⟨g,cap,rfl,hcap,hcm,lg⟩
 ·have hc:=AnyF.slices_SortFunc_none { Tryz.sortg with } none 0 (.func (.func 103) #[] #[]) w
  exact hc.mono fun e w' ⟨h2,h3⟩=>⟨h2,by rw [h3]; exact Below.refl _ _⟩
 ·rcases Nat.eq_zero_or_pos C.length with h0 | h0
  ·rw [h0]
   have hc:=AnyF.slices_SortFunc_none { Tryz.sortg with } (some ⟨g,0,none⟩) cap (.func (.func 103) #[] #[]) w
   exact hc.mono fun e w' ⟨h2,h3⟩=>⟨h2,by rw [h3]; exact Below.refl _ _⟩
  ·obtain ⟨cur,hcur,-⟩:=own_row h.own.1
   have hP:∀ x∈C,MemAt g w x:=fun x hx=>by
    refine ⟨?_,h1 x hx⟩;obtain ⟨a',cap',e',hle,h3⟩:=Vec.owns (k:=1) (enc:=zjh) (S:=fun _=>True) (fun _=>rfl) (by rw [show x.mem.flatMap zjh = x.mem.map (Value.int .i64) from encIn_flat _]; exact h.ids x hx) (fun _ _ _=>trivial)
    refine ⟨a',cap',e',hle,fun h4=>?_⟩
    obtain ⟨b,off,ea,-,lb,hc⟩:=h3 h4;refine ⟨b,off,ea,?_,lb,hc⟩;have hb:(ze6 x).ownBlock = some b:=by rw [e',ea]; rfl
    rcases h.off x hx with h2 | h2
    ·rw [h2] at hb; cases hb
    ·rw [hb] at h2
     intro e2;exact h2 (by rw [e2]; rfl)
   haveI inh:Inhabited (GSub g w):=⟨⟨C[0],hP _ (List.getElem_mem h0)⟩⟩;obtain ⟨d,hd⟩:∃ d:Array (GSub g w),d.toList.map (·.1) = C:=⟨(C.attach.map fun x=>(⟨x.1,hP x.1 x.2⟩:GSub g w)).toArray,by simp⟩
   have hsz:d.size = C.length:=by rw [← hd]; simp
   have eg:∀ args w,(callFunc 103 args).run prog w = .ok (.enter 103 args) w:=enters_of func103 (by kernel_rfl) rfl
   have hH:=holdsG hcur d C hd ((OwnV.vec (size:=3) (enc:=zfx) (fun _=>rfl) h.own).move xnl fun _ _ _=>⟨rfl,trivial⟩)
   have hc:=AnyQ.slices_SortFunc Tryz.sortg 3 Tryz.isAgg160 Tryz.sizeOf160 encGS (fun _=>rfl) (fun x v hv=>one_encG x.1 v hv) cfG (swoG g w) 103 #[] g 0 cap d w eg (cmpLaysG g w d.size) hH lg (by omega)
   rw [hsz] at hc;change Calls prog 102 _ _ _ at hc;refine hc.mono ?_;rintro e w' ⟨he,d',n,os,hp,hso,hw⟩;refine ⟨he,?_⟩
   have hd':d' = d:=by
    obtain ⟨hp1,-,hp2⟩:=hp;rw [← hsz] at hp2 hso;have e1:d'.extract 0 d.size = d':=by rw [← hp1]; exact Array.extract_size
    have e2:d.extract 0 d.size = d:=Array.extract_size;rw [e1,e2] at hp2;refine Array.ext' (perm_asc keyG hp2 ?_ ?_)
    ·rw [← hd,List.pairwise_map] at hs
     exact hs
    ·refine List.pairwise_iff_getElem.2 fun i j hi hj hij=>?_
     have hi':i < d'.size:=by simpa using hi
     have hj':j < d'.size:=by simpa using hj
     have h5:=hso i j (Nat.zero_le _) hij (by omega);rw [ltG,getElem!_pos d' i hi',getElem!_pos d' j hj'] at h5;have h6:=of_decide_eq_false h5;have h7:d'.toList[i] = d'[i]:=by simp
     have h8:d'.toList[j] = d'[j]:=by simp
     rw [h7,h8];omega
   rw [hw,hd'];unfold sortWorldK;rw [Sort.putRowK_self _ _ _ _ _ _ (Sort.holdsK_ahead _ _ _ _ _ _ _ hH)];exact grow_below w n os
end
section
open Go.RowKit
theorem infoGr:(prog.info? 160).map (fun i=>(i.zero,i.size,i.bytes)) = some (some (.agg #[.int .i64 0,.slice none 0 0,.slice none 0 0]),3,56):=by kernel_rfl
theorem infoAg:(prog.info? 107).map (fun i=>(i.zero,i.size,i.bytes)) = some (some (.agg #[.int .i64 0,.slice none 0 0,.slice none 0 0]),3,56):=by kernel_rfl
def GroupsPost (L:List GrpL) (w:World) (e:Ending) (w':World):Prop:=∃ v,e = .returned v∧GroupsAt w' (fun b=>w.heap.size≤b) v L∧Below w.heap.size w w'
theorem pG_set (C:List GV) (i:Nat) (x:GV):(C.set i x).map pG = (C.map pG).set i (pG x):=List.map_set
theorem gput_at (C:List GV) (x:BitsL) (id:Int) (k:Nat) (hk:k < C.length) (h1:ze9 x (pG C[k]) = true) (h2:∀ y∈C.take k,ze9 x (pG y) = false) (a:Option Addr) (n c:Nat) :
  (C.set k ⟨C[k].len,C[k].wa,C[k].wn,C[k].wc,a,n,c,C[k].ws,C[k].mem ++ [id]⟩).map pG = zho (C.map pG) id x:=by
 have e1:zg1 (pG C[k]).arr x = 0:=by unfold ze9 at h1; simpa using h1
 rw [addG_at (C.map pG) k (by simpa using hk) (fun t ht=>?_) (by simpa using e1),pG_set,List.getElem_map]
 ·rfl
 ·have htl:t < C.length:=by omega
  rw [za5 _ _ (by simpa using htl),List.getElem_map];have:=h2 C[t] (List.mem_iff_getElem.2 ⟨t,by rw [List.length_take]; omega,by rw [List.getElem_take]⟩);unfold ze9 at this;simpa using this
theorem gput_new (C:List GV) (x:BitsL) (id:Int) (wa:Option Addr) (wn wc:Nat) (h2:∀ y∈C,ze9 x (pG y) = false) (a:Option Addr) (n c:Nat) (hk:C.length < (C ++ [(⟨x.len,wa,wn,wc,none,0,0,x.words,[]⟩:GV)]).length) :
  ((C ++ [(⟨x.len,wa,wn,wc,none,0,0,x.words,[]⟩:GV)]).set C.length ⟨(C ++ [(⟨x.len,wa,wn,wc,none,0,0,x.words,[]⟩:GV)])[C.length].len,(C ++ [(⟨x.len,wa,wn,wc,none,0,0,x.words,[]⟩:GV)])[C.length].wa,(C ++ [(⟨x.len,wa,wn,wc,none,0,0,x.words,[]⟩:GV)])[C.length].wn,(C ++ [(⟨x.len,wa,wn,wc,none,0,0,x.words,[]⟩:GV)])[C.length].wc,a,n,c,(C ++ [(⟨x.len,wa,wn,wc,none,0,0,x.words,[]⟩:GV)])[C.length].ws,(C ++ [(⟨x.len,wa,wn,wc,none,0,0,x.words,[]⟩:GV)])[C.length].mem ++ [id]⟩).map pG = zho (C.map pG) id x:=by
 have e:(C ++ [(⟨x.len,wa,wn,wc,none,0,0,x.words,[]⟩:GV)])[C.length] = ⟨x.len,wa,wn,wc,none,0,0,x.words,[]⟩:=by simp
 rw [e,addG_new (fun g hg=>?_),List.set_append_right _ _ xnl,Nat.sub_self,List.set_cons_zero,List.map_append]
 ·rfl
 ·obtain ⟨y,hy,rfl⟩:=List.mem_map.1 hg
  have:=h2 y hy;unfold ze9 at this;simpa using this
theorem groups_any (S:Nat→Prop) (v:Value) (L:List BitsL) (w:World) (h:BitsVec w S v L) (hi:∀ b∈L,InI b.len) (hn:L.length≤100000) :
  Calls prog 68 #[v] w (GroupsPost (zce L) w):=by
 obtain ⟨a,cap,rfl⟩:=h.slice;have HV:=zjp h; have HI:=zjp hi;obtain ⟨G,hG⟩:∃ G,zce L = G:=⟨_,rfl⟩;rw [hG];have HG:=zjp hG;clear h hi hG;go_enter func68,ntmps68
 go_wp2_with fail
 go_loopw [3,12] (fun v t wr=>∃ (j:Nat) (C:List GV),t = .int .i64 j∧j≤L.length∧C.length≤j∧GRow w v C wr∧Hid (GOk (C.map pG) j)∧Hid (zc1 (C.map pG) j (L.drop j) = G)) (fun _ t _=>L.length - (intOf t).toNat)
 case atStart=>exact ⟨0,[],rfl,by omega,by simp,GRow.nil (Below.refl _ _),zjp (GOk.nil 0),HG⟩
 case round =>
  obtain ⟨j,C,rfl,hj,hCl,hrow,HOk,HT⟩:=hrel;have HRow:=zjp hrow;clear hrow;have hbw:=HRow.out.own.2;by_cases hlt:j < L.length
  ·have hq:decide ((j:Int) < (L.length:Int)) = true:=by simp; omega
   have hji:(j:Int) < (L.length:Int):=by omega
   obtain ⟨b,off,⟨xl,xa,xn,xc⟩,rfl,lb,c0,c1,hat⟩:=(HV.out.below hbw).at j hlt;dsimp only at c0 c1;rw [za5 _ _ hlt] at hat;have hin:=HI.out _ (List.getElem_mem hlt);have hT:=HT.out;rw [List.drop_eq_getElem_cons hlt] at hT;obtain ⟨x,hx⟩:∃ x,L[j] = x:=⟨_,rfl⟩;rw [hx] at hat hin hT;have hT2:zc1 (if zap x = true then zho (C.map pG) j x else C.map pG) (j + 1) (L.drop (j + 1)) = G:=hT;have HT2:=zjp hT2; have HAt:=zjp hat; have HIn:=zjp hin;have HBw:=zjp hbw;clear hT hT2 hat hin hx HT hbw;go_wp2_with fail
   refine zai (fun W1 hW1=>?_)
   have b1:=xal hW1
   have gx1:W1.heap[wr.heap.size]? = some (.cells #[.int .i64 xl,.slice xa xn xc] 56 (0,0)):=by rw [hW1]; exact zac rfl
   clear hW1;refine (zfk S _ x _ (HAt.out.below b1) HIn.out.1 HIn.out.2).mono ?_;obtain ⟨vx,hvx⟩:∃ vx,zap x = vx:=⟨_,rfl⟩;rw [hvx] at HT2 ⊢;have HVx:=zjp hvx;rintro e w2 ⟨rfl,hb2⟩;have b2:=b1.trans (hb2.mono b1.size);have gx2:=zab hb2 (zaa gx1) gx1;obtain ⟨X,hX⟩:∃ X,wr.heap.size = X:=⟨_,rfl⟩;rw [hX] at gx2 ⊢;have HB2:=zjp b2; have HX:=zjp hX; have HGx:=zjp gx2;have lX:=zaa gx2;clear b1 gx1 hvx hb2 b2 gx2 c0 c1 hX;cases vx
   ·have HT3:=zjp (show zc1 (C.map pG) (j + 1) (L.drop (j + 1)) = G by have:=HT2.out; simpa using this)
    have HRow2:=zjp (HRow.out.below HB2.out);clear HT2;go_wp2_with fail
    go_roundw
    case rel=>exact ⟨j + 1,C,by go_num,by omega,by omega,HRow2.out,zjp HOk.out.skip,HT3⟩
    case measure=>simp [intOf]; omega
   ·have HT3:=zjp (show zc1 (zho (C.map pG) j x) (j + 1) (L.drop (j + 1)) = G by have:=HT2.out; simpa using this)
    have HRow2:=zjp (HRow.out.below HB2.out);have hwds:∀ y∈C,Vec w2 zav 1 zc2 (wdV y) y.ws∧y.ws.length≤1000000:=fun y hy=>⟨(HRow2.out.wds y hy).any,by have:=(zcs (HOk.out.val (pG y) (List.mem_map_of_mem hy))).2; have e:(pG y).arr.words.length = y.ws.length:=rfl; omega⟩
    have HWds:=zjp hwds;have hx8:x.words.length≤8:=(zcs HVx.out).2;have HAt2:=zjp (HAt.out.below HB2.out);clear HT2 hwds;go_wp2_with fail
    refine (gidx_any zav S _ C X ⟨xl,xa,xn,xc⟩ x _ (OwnV.vec (size:=3) (enc:=zfx) (fun _=>rfl) HRow2.out.own).any HWds.out HGx.out HAt2.out (by omega)).mono ?_
    rintro e w3 ⟨rfl,hb3⟩;have HB3:=zjp (HB2.out.trans (hb3.mono HB2.out.size));have HRow3:=zjp (HRow2.out.below hb3);have HGx3:=zjp (zab hb3 lX HGx.out);have HAt3:=zjp (HAt2.out.below hb3);have lX3:=zaa HGx3.out;have hsp:=zjp (idxG_split (fun y=>ze9 x (pG y)) C 0)
    obtain ⟨q,hq2⟩:∃ q,idxG (fun y=>ze9 x (pG y)) 0 C = q:=⟨_,rfl⟩
    rw [hq2] at hsp ⊢;clear hb3 hq2 HWds;go_upto_if 24 with (fail)
    go_cut [3,6] (fun s3 s6 wx=>∃ (C':List GV) (at_:Nat) (ht:at_ < C'.length),s6 = .int .i64 at_∧GRow w s3 C' wx∧C'.length≤j + 1∧Hid (∀ y∈C',y.mem.length≤j)∧Hid (∀ a n c,(C'.set at_ ⟨C'[at_].len,C'[at_].wa,C'[at_].wn,C'[at_].wc,a,n,c,C'[at_].ws,C'[at_].mem ++ [(j:Int)]⟩).map pG = zho (C.map pG) j x))
    case first =>
     have hmj:∀ y∈C,y.mem.length≤j:=fun y hy=>HOk.out.mems (pG y) (List.mem_map_of_mem hy)
     have HMj:=zjp hmj;clear hmj
     rcases hsp.out with ⟨rfl,hall⟩ | ⟨k,hqk,hk,h1,h2⟩
     ·have HAll:=zjp hall
      obtain ⟨nC,hnC⟩:∃ nC,C.length = nC:=⟨_,rfl⟩;obtain ⟨av,cv,ev⟩:=zau HRow3.out.own.1;rw [hnC] at ev;subst ev;have HNc:=zjp hnC;have hnj:nC≤j:=by omega
      obtain ⟨x0,x1⟩:=zae HGx3.out;obtain ⟨sx,es,hvx⟩:=HAt3.out;have es2:xl = x.len∧sx = .slice xa xn xc:=by simpa [eq_comm] using es
      obtain ⟨hxl,rfl⟩:=es2;have HXl:=zjp hxl;have HVx3:=zjp (hvx.below (w':=w3.drew) (Below.refl _ _).drew);have x0d:w3.drew.cell? ⟨X,0,none⟩ = some (.int .i64 xl):=x0;have x1d:w3.drew.cell? ⟨X,1,none⟩ = some (.slice xa xn xc):=x1;clear hxl hvx es;obtain ⟨i0,hi0,hz0,hz1,hz2⟩:=info_parts infoGr;have HI0:=zjp hi0; have HZ0:=zjp hz0; have HZ1:=zjp hz1; have HZ2:=zjp hz2;clear hi0 hz0 hz1 hz2 hall hnC hsp;go_wp2_with fail
      refine wp_region_noPanic ?_
      refine wp_region_held_drew (S:=(fun w'=>w'.cell? ⟨X,0,none⟩ = some (.int .i64 xl)∧w'.cell? ⟨X,1,none⟩ = some (.slice xa xn xc))) (by kernel_rfl) (⟨x0,x1⟩) (fun hHeld=>?_)
      refine tH 0 (h:=?_);refine tH 1 (h:=?_);refine tH 2 (h:=?_);refine tH 3 (h:=?_);refine tH 4 (h:=?_);refine wpAnyH_ready (rs:=[5]) (by kernel_rfl) (by simp) ?_
      refine AllReadyH.cons rfl (fun K hK=>?_) AllReadyH.nil
      go_simp;refine (uclone_any S _ x.words w3.drew HVx3.out (by omega)).mono ?_; rintro e w4 ⟨ua,un,uc,rfl,hu4,hb4⟩; have b4:Below w3.heap.size w3 w4:=(Below.refl _ _).drew.trans hb4; have HB4:=zjp b4; have HU4:=zjp hu4; clear hu4 hb4 b4
      refine hK.out _ _ (⟨(HB4.out.cell (p:=⟨X,0,none⟩) lX3).trans x0,(HB4.out.cell (p:=⟨X,1,none⟩) lX3).trans x1⟩) (fun hHeld=>?_)
      clear hK K;refine tH 6 (h:=?_);refine tH 7 (h:=?_);refine tH 8 (h:=?_);have bA:=HB4.out.trans ((Below.refl w4.heap.size w4).alloc xnl (.cells #[.int .i64 xl,.slice ua un uc,.slice none 0 0] 160) |>.mono HB4.out.size);have HbA:=zjp bA;clear bA;refine wpAnyH_ready (rs:=[9]) (by kernel_rfl) (by simp) ?_
      refine AllReadyH.cons rfl (fun K hK=>?_) AllReadyH.nil
      go_simp;skip
      refine hK.out _ _ (⟨(HbA.out.cell (p:=⟨X,0,none⟩) lX3).trans x0,(HbA.out.cell (p:=⟨X,1,none⟩) lX3).trans x1⟩) (fun hHeld=>?_)
      clear hK K;have hA4:(w4.alloc (.cells #[.int .i64 xl,.slice ua un uc,.slice none 0 0] 160)).heap[w4.heap.size]? = some (.cells #[.int .i64 xl,.slice ua un uc,.slice none 0 0] 160 (0,0)):=zac rfl
      have hnews:∀ i u,(zfx (⟨xl,ua,un,uc,none,0,0,x.words,[]⟩:GV))[i]? = some u→(w4.alloc (.cells #[.int .i64 xl,.slice ua un uc,.slice none 0 0] 160)).cell? ((⟨w4.heap.size,0,none⟩:Addr).add i) = some u:=fun i u hu=>by
       rw [zch,cell_of_row _ _ _ _ _ _ hA4,Nat.zero_add]; simpa using hu
      have HNews:=zjp hnews;have HRow4:=zjp (HRow3.out.below HbA.out);have hown4:=HRow4.out.own.1;rw [HNc.out] at hown4;have HOwn4:=zjp hown4;have hz3:w.heap.size≤w3.heap.size:=HRow3.out.own.2.size;have hz4:w3.heap.size≤w4.heap.size:=HB4.out.size;have hXv:=zjp (show ∀ k,(Value.slice av nC cv).ownBlock = some k→w.heap.size≤k∧k < w3.heap.size from fun k hk=>HRow3.out.own.1.lt k hk)
      have HXn:=zjp (show some X≠(Value.slice av nC cv).ownBlock from fun e=>by have h1:=(HRow.out.own.1.lt X e.symm).2; have:=HX.out; omega)
      clear hA4 hnews hown4;refine wpAnyH_ready (rs:=[10]) (by kernel_rfl) (by simp) ?_
      refine AllReadyH.cons rfl (fun K hK=>?_) AllReadyH.nil
      refine wp_append_lies _ (.tmp 27) (.tmp 36) 157 (by rfl) w.heap.size 160 i0 (.agg #[.int .i64 0,.slice none 0 0,.slice none 0 0]) 3 56 underlying157 HI0.out HZ0.out HZ1.out HZ2.out rfl (by decide) (.slice av nC cv) nC (C.flatMap zfx) (by rfl) HOwn4.out ⟨w4.heap.size,0,none⟩ 1 1 (zfx ⟨xl,ua,un,uc,none,0,0,x.words,[]⟩) (by rfl) rfl HNews.out (one_encG _) (by omega) (by unfold maxLen; omega) (by omega) (by simp; omega) (w4.heap.size + 1) (by simp) ?_; intro g5 cp5 w5 hown5 hg5 hat5 hlt5; have HOw5:=zjp hown5; have HG5:=zjp hg5; have HAt5:=zjp hat5; clear hown5 hg5 hat5
      refine hK.out _ _ (⟨(HG5.out.cell_far ⟨X,0,none⟩ (by simp; omega) HXn.out).trans ((HbA.out.cell (p:=⟨X,0,none⟩) lX3).trans x0),(HG5.out.cell_far ⟨X,1,none⟩ (by simp; omega) HXn.out).trans ((HbA.out.cell (p:=⟨X,1,none⟩) lX3).trans x1)⟩) (fun hHeld=>?_)
      clear hK K;have hf5:=zjp (show w5.cell? ⟨X,0,none⟩ = some (.int .i64 xl)∧w5.cell? ⟨X,1,none⟩ = some (.slice xa xn xc) from ⟨(HG5.out.cell_far ⟨X,0,none⟩ (by simp; omega) HXn.out).trans ((HbA.out.cell (p:=⟨X,0,none⟩) lX3).trans x0),(HG5.out.cell_far ⟨X,1,none⟩ (by simp; omega) HXn.out).trans ((HbA.out.cell (p:=⟨X,1,none⟩) lX3).trans x1)⟩);refine wpAnyH_ready (rs:=[11]) (by kernel_rfl) (by simp) ?_
      refine AllReadyH.cons rfl (fun K hK=>?_) AllReadyH.nil
      go_simp;skip
      refine hK.out _ _ (hf5.out) (fun hHeld=>?_)
      clear hK K;refine wpAnyH_done (by kernel_rfl) ?_ _;refine NoPanic.normal ?_;go_wp2_with fail
      go_meet;obtain ⟨N,hN⟩:∃ N,N = (⟨xl,ua,un,uc,none,0,0,x.words,[]⟩:GV):=⟨_,rfl⟩;have hl5:nC < (C ++ [N]).length:=by simp; have:=HNc.out; omega
      have hWw:Below w.heap.size w (w4.alloc (.cells #[.int .i64 xl,.slice ua un uc,.slice none 0 0] 160)):=HRow4.out.own.2
      have hown:OwnV 160 3 zfx w (.slice (some ⟨g5,0,none⟩) (nC + 1) cp5) (C ++ [N]) w5:=by
       refine ⟨?_,hWw.grown HG5.out hWw.size (fun q hq=>(hXv.out q hq).1)⟩
       rw [List.length_append,HNc.out,List.flatMap_append,hN];simpa using HOw5.out
      have hput:=HRow4.out.put (w':=w5) (v':=.slice (some ⟨g5,0,none⟩) (nC + 1) cp5) N (by rw [hN]) (by rw [hN]) (by
       rw [hN]
       refine (HU4.out.below ((Below.refl w4.heap.size w4).alloc xnl _)).move xnl fun b hb hs=>⟨rfl,?_,?_,fun y hy=>?_⟩
       ·exact Nat.le_trans hz3 hs
       ·intro e; have h1:=(hXv.out b e.symm).2; have h2:w3.heap.size≤b:=hs; omega
       ·intro e; have h1:=((HRow3.out.ids y hy).lt b e.symm).2; have h2:w3.heap.size≤b:=hs; omega) hown (fun k o hk hko=>(HG5.out.block k (zaa hko) hk).trans hko) HG5.out.size (by
       rcases HAt5.out with h1 | h1
       ·exact .inr (.inl h1)
       ·exact .inr (.inr (by rw [h1]; simp [Value.ownBlock])))
      refine ⟨C ++ [N],nC,hl5,rfl,hput,by simp; have:=HNc.out; omega,zjp fun y hy=>?_,zjp fun a n c=>?_⟩
      ·rcases List.mem_append.1 hy with h1 | h1
       ·exact HMj.out y h1
       ·have:y = N:=by simpa using h1
        rw [this,hN]; simp
      ·have e1:=HNc.out
       have e2:=HXl.out;subst e1;rw [e2] at hN;subst hN;exact gput_new C x j ua un uc HAll.out a n c hl5
     ·rw [Nat.zero_add] at hqk
      subst hqk;have H1:=zjp h1; have H2:=zjp h2;clear h1 h2 hsp;go_wp2_with fail
      go_meet;exact ⟨C,k,hk,rfl,HRow3.out,by omega,HMj,zjp fun a n c=>gput_at C x j k hk H1.out H2.out a n c⟩
    case rest =>
     obtain ⟨C',at_,ht,rfl,hrow',hl',HLen',HPut⟩:=hcut;have HRow':=zjp hrow'
     rcases hrow'.own.1.2 with ⟨_,h0⟩ | ⟨g,cap5,cur,rfl,hg,hgc,hn1,hn2,hn3,hn4⟩
     ·have:C'.length = 0:=h0
      omega
     obtain ⟨y,hy⟩:∃ y,C'[at_] = y:=⟨_,rfl⟩;have hids:=hrow'.ids _ (List.getElem_mem ht)
     have hc1:wc.cell? ⟨g,at_ * 3 + 2,none⟩ = some (ze6 C'[at_]):=by
      obtain ⟨b0,o0,e0,_,hc⟩:=(OwnV.vec (size:=3) (enc:=zfx) (fun _=>rfl) hrow'.own).get at_ ht
      cases e0;have:=hc 2 _ rfl;rwa [Nat.zero_add] at this
     rw [hy] at hids hc1;obtain ⟨yl,ya,yn,yc,ma,mn,mc,yw,ym⟩:=y;dsimp only [ze6] at hids hc1;have hfr:=(frozen_of_row _ _ _ _ _ hgc:wc.frozen? ⟨g,at_ * 3 + 2,none⟩ = false);have lgc:=zaa hgc;have HPut2:=HPut.out;rw [hy] at HPut2;have HP2:=zjp HPut2;have HIds:=zjp hids; have HY:=zjp hy;have htn:(at_:Int) < (C'.length:Int):=by omega
     obtain ⟨i0,hi0,hz0,hz1,hz2⟩:=info_parts infoZ;have HI0:=zjp hi0; have HZ0:=zjp hz0; have HZ1:=zjp hz1; have HZ2:=zjp hz2;have hoff:=hrow'.off _ (List.getElem_mem ht);rw [hy] at hoff;have hWc:=hrow'.own.2;have HWc:=zjp hWc;have hWz:=hWc.size
     have HOff:=zjp (show some g≠(Value.slice ma mn mc).ownBlock from by
      rcases hoff with h1 | h1
      ·rw [show (Value.slice ma mn mc).ownBlock = none from h1]; simp
      ·exact fun e=>h1 (by rw [show (ze6 ⟨yl,ya,yn,yc,ma,mn,mc,yw,ym⟩).ownBlock = some g from e.symm]; rfl))
     have hyl:ym.length≤j:=by have:=HLen'.out _ (List.getElem_mem ht); rw [HY.out] at this; exact this
     clear hgc hn1 hn2 hn3 hn4 hrow' HPut HPut2 hids hy hi0 hz0 hz1 hz2 hoff hWc;have bA:=(Below.refl wc.heap.size wc).alloc xnl (.cells #[.int .i64 j] 3);have hown:=zfn HIds.out bA
     have hnews:∀ i u,[Value.int .i64 j][i]? = some u→(wc.alloc (.cells #[.int .i64 j] 3)).cell? ((⟨wc.heap.size,0,none⟩:Addr).add i) = some u:=fun i u hu=>by
      have hX:(wc.alloc (.cells #[.int .i64 j] 3)).heap[wc.heap.size]? = some (.cells #[.int .i64 j] 3 (0,0)):=zac rfl;rw [zch,cell_of_row _ _ _ _ _ _ hX,Nat.zero_add]; simpa using hu
     have hone:∀ u∈[Value.int .i64 j],u.oneCell' = true:=by intro u hu; simp at hu; subst hu; rfl
     have hcY:=(bA.cell (p:=⟨g,at_ * 3 + 2,none⟩) lgc).trans hc1;have hfY:=(bA.frozen (p:=⟨g,at_ * 3 + 2,none⟩) lgc).trans hfr;have HbA:=zjp bA; have HOwn:=zjp hown; have HNews:=zjp hnews; have HOne:=zjp hone; have HcY:=zjp hcY; have HfY:=zjp hfY;clear bA hown hnews hone hcY hfY
     go_wp2_with (at_builtin; refine wpList_append_lies _ rfl (.tmp 45) (.tmp 47) 22 rfl w.heap.size 3 i0 (.int .i64 0) 1 8 underlying22 HI0.out HZ0.out HZ1.out HZ2.out rfl (by decide) (.slice ma mn mc) ym.length (ym.map (Value.int .i64)) rfl HOwn.out ⟨wc.heap.size,0,none⟩ 1 1 [.int .i64 j] rfl rfl HNews.out HOne.out (by omega) (by unfold maxLen; omega) (by omega) (by simp; omega) (wc.heap.size + 1) (by simp) ?_; intro g5 cp5 w5 hown5 hg5 hat5 hlt5; have cY5:w5.cell? ⟨g,at_ * 3 + 2,none⟩ = some (.slice ma mn mc):=(hg5.cell_far ⟨g,at_ * 3 + 2,none⟩ (by simp; omega) HOff.out).trans HcY.out; have fY5:w5.frozen? ⟨g,at_ * 3 + 2,none⟩ = false:=(hg5.frozen_far ⟨g,at_ * 3 + 2,none⟩ (by simp; omega) HOff.out).trans HfY.out; have HRA:=zjp (show GRow w (.slice (some ⟨g,0,none⟩) C'.length cap5) (C'.set at_ ⟨yl,ya,yn,yc,some ⟨g5,0,none⟩,ym.length + 1,cp5,yw,ym ++ [(j:Int)]⟩) (w5.setCell ⟨g,at_ * 3 + 2,none⟩ (.slice (some ⟨g5,0,none⟩) (ym.length + 1) cp5)) from by
      have hrA:=(HRow'.out.below HbA.out).add at_ ht g rfl (.slice (some ⟨g5,0,none⟩) (ym.length + 1) cp5) (j:Int) _ _ _ rfl (w1:=w5) (by rw [HY.out,List.map_append]; exact hown5) (by rw [HY.out]; exact fun k o hk hko=>(hg5.block k (zaa hko) hk).trans hko) ((HWc.out.trans (HbA.out.mono hWz)).grown hg5 (Nat.le_trans hWz HbA.out.size) (fun q hq=>((zcb HIds.out HbA.out).lt q hq).1)) (by rw [HY.out]; exact hat5.elim Or.inl fun h1=>Or.inr (by rw [h1]; simp [Value.ownBlock])) hg5.size
      rw [HY.out] at hrA
      exact hrA); clear hown5 hg5 hat5)
     have hpm:=HP2.out (some ⟨g5,0,none⟩) (ym.length + 1) cp5;have HPM:=zjp hpm;clear hpm;go_roundw
     case rel =>
      refine ⟨j + 1,C'.set at_ ⟨yl,ya,yn,yc,some ⟨g5,0,none⟩,ym.length + 1,cp5,yw,ym ++ [(j:Int)]⟩,by go_num,by omega,by rw [List.length_set]; omega,HRA.out,?_,?_⟩
      ·exact zjp (by rw [HPM.out]; exact HOk.out.add HVx.out)
      ·exact zjp (by rw [HPM.out]; exact HT3.out)
     case measure=>simp [intOf]; omega
  ·have hq:decide ((j:Int) < (L.length:Int)) = false:=by simp; omega
   have hjL:j = L.length:=by omega
   have hT:=HT.out;rw [hjL,List.drop_length] at hT;have hT2:C.map pG = G:=hT;have hC6:C.length≤1000000:=by omega
   have hone:∀ y∈C,1≤y.mem.length:=fun y hy=>HOk.out.some (pG y) (List.mem_map_of_mem hy)
   have hasc:C.Pairwise fun x y=>x.mem.getD 0 0 < y.mem.getD 0 0:=by
    have:=HOk.out.asc;rw [List.pairwise_map] at this;exact this
   have HT2:=zjp hT2; have HOne:=zjp hone; have HAsc:=zjp hasc;clear hT hT2 hone hasc HT hjL;go_wp2_with fail
   refine (gsort_any w _ C _ HRow.out HOne.out HAsc.out hC6).mono ?_;rintro e w2 ⟨rfl,hb2⟩;have HRow2:=zjp (HRow.out.below hb2);clear hb2 hbw HRow;obtain ⟨av,cv,ev⟩:=zau HRow2.out.own.1;obtain ⟨nC,hnC⟩:∃ nC,C.length = nC:=⟨_,rfl⟩;rw [hnC] at ev;subst ev;have HNc:=zjp hnC;clear hnC;go_wp2_with fail
   go_loopw [7,57] (fun o t wr=>∃ k:Nat,t = .int .i64 k∧k≤nC∧OwnV 107 3 zfx w2 o (C.take k) wr) (fun _ t _=>nC - (intOf t).toNat)
   case atStart=>exact ⟨0,by go_num,by omega,OwnV.nil (Below.refl _ _)⟩
   case round =>
    obtain ⟨k,rfl,hk,ho⟩:=hrel;obtain ⟨WR,hWR⟩:∃ u,u = wr:=⟨_,rfl⟩;subst hWR;have HO:=zjp ho;by_cases hlk:k < nC
    ·have hq:decide ((k:Int) < (nC:Int)) = true:=by simp; omega
     have hkn:(k:Int) < (nC:Int):=by omega
     have hkC:k < C.length:=by rw [HNc.out]; exact hlk
     have hv:=OwnV.vec (size:=3) (enc:=zfx) (fun _=>rfl) (HRow2.out.own.below ho.2)
     obtain ⟨b0,o0,rfl,lb0,hc⟩:=hv.get k hkC;have c0:=hc 0 _ rfl; have c1:=hc 1 _ rfl; have c2:=hc 2 _ rfl;rw [Nat.add_zero] at c0;have htk:C.take (k + 1) = C.take k ++ [C[k]]:=List.take_succ_eq_append_getElem hkC;obtain ⟨y,hy⟩:∃ y,C[k] = y:=⟨_,rfl⟩;rw [hy] at c0 c1 c2 htk;have HTk:=zjp htk;obtain ⟨yl,ya,yn,yc,ma,mn,mc,yw,ym⟩:=y;dsimp only at c0 c1 c2;have htl:(C.take k).length = k:=by rw [List.length_take]; omega
     have hown:=ho.1;rw [htl] at hown;have HTl:=zjp htl;obtain ⟨ov,oc,eo⟩:=zau hown;subst eo;obtain ⟨i0,hi0,hz0,hz1,hz2⟩:=info_parts infoAg;have HI0:=zjp hi0; have HZ0:=zjp hz0; have HZ1:=zjp hz1; have HZ2:=zjp hz2;have bA:Below WR.heap.size WR ((WR.alloc (.cells #[.int .i64 yl,.slice ya yn yc,.slice ma mn mc] 160)).alloc (.cells #[.int .i64 yl,.slice ya yn yc,.slice ma mn mc] 107)):=((Below.refl _ _).alloc xnl _).alloc (by simp) _;have hA4:((WR.alloc (.cells #[.int .i64 yl,.slice ya yn yc,.slice ma mn mc] 160)).alloc (.cells #[.int .i64 yl,.slice ya yn yc,.slice ma mn mc] 107)).heap[WR.heap.size + 1]? = some (.cells #[.int .i64 yl,.slice ya yn yc,.slice ma mn mc] 107 (0,0)):=zac (by simp)
     have HNews:=zjp (show ∀ i u,(zfx (⟨yl,ya,yn,yc,ma,mn,mc,yw,ym⟩:GV))[i]? = some u→((WR.alloc (.cells #[.int .i64 yl,.slice ya yn yc,.slice ma mn mc] 160)).alloc (.cells #[.int .i64 yl,.slice ya yn yc,.slice ma mn mc] 107)).cell? ((⟨WR.heap.size + 1,0,none⟩:Addr).add i) = some u from fun i u hu=>by
      rw [zch,cell_of_row _ _ _ _ _ _ hA4,Nat.zero_add]; simpa using hu)
     have HOwn:=zjp (zcb hown bA);have HbA:=zjp bA;have hz2':w2.heap.size≤WR.heap.size:=ho.2.size;clear hA4 bA hown ho hc hv htk hy hi0 hz0 hz1 hz2 htl;go_wp2_with (at_builtin; refine wpList_append_lies _ rfl (.tmp 61) (.tmp 64) 64 rfl w2.heap.size 107 i0 (.agg #[.int .i64 0,.slice none 0 0,.slice none 0 0]) 3 56 underlying64 HI0.out HZ0.out HZ1.out HZ2.out rfl (by decide) (.slice ov k oc) k ((C.take k).flatMap zfx) rfl HOwn.out ⟨WR.heap.size + 1,0,none⟩ 1 1 (zfx ⟨yl,ya,yn,yc,ma,mn,mc,yw,ym⟩) rfl rfl HNews.out (one_encG _) (by omega) (by unfold maxLen; omega) (by omega) (by simp; omega) (WR.heap.size + 2) (by simp) ?_; intro g5 cp5 w5 hown5 hg5 hat5 hlt5; have HOw5:=zjp hown5; have HG5:=zjp hg5; clear hown5 hg5 hat5)
     go_roundw
     case rel =>
      refine ⟨k + 1,by go_num,by omega,?_,?_⟩
      ·rw [HTk.out,List.length_append,HTl.out,List.flatMap_append]
       simpa using HOw5.out
      ·exact (HO.out.2.trans (HbA.out.mono hz2')).grown HG5.out (Nat.le_trans hz2' HbA.out.size) (fun q hq=>(HOwn.out.lt q hq).1)
     case measure=>simp [intOf]; omega
    ·have hq:decide ((k:Int) < (nC:Int)) = false:=by simp; omega
     have hkl:C.take k = C:=List.take_of_length_le (by rw [HNc.out]; omega);rw [hkl] at ho;have HO:=zjp ho;clear ho hkl;go_wp2_with fail
     go_ret;have hz:=HRow2.out.own.2.size
     refine ⟨_,rfl,⟨C,(OwnV.vec (size:=3) (enc:=zfx) (fun _=>rfl) HO.out).move xnl (fun b _ hs=>⟨rfl,Nat.le_trans hz hs⟩),HT2.out,fun y hy=>⟨?_,?_⟩⟩,HRow2.out.own.2.trans (HO.out.2.mono hz)⟩
     ·exact ((HRow2.out.wds y hy).below HO.out.2).move xnl fun b _ hs=>⟨rfl,hs.1⟩
     ·exact (Vec.owns (k:=1) (enc:=zjh) (S:=fun b=>w.heap.size≤b) (fun _=>rfl) (by rw [show y.mem.flatMap zjh = y.mem.map (Value.int .i64) from encIn_flat _]; exact HRow2.out.ids y hy) (fun b hb _=>hb)).below HO.out.2
end
section
open Go.RowKit
abbrev RkM:=List (Int × List UInt8)
def mapM (D T:List zdl):RkM:=(T.filter fun d=>(zbz (zc3 D) d.2).2).map fun d=>((zbz (zc3 D) d.2).1,d.1)
theorem mapM_yes {D T:List zdl} {d:zdl} {r:Int} (h:zbz (zc3 D) d.2 = (r,true)):mapM D (T ++ [d]) = mapM D T ++ [(r,d.1)]:=by
 unfold mapM;rw [List.filter_append,List.map_append];simp [h]
theorem mapM_no {D T:List zdl} {d:zdl} {r:Int} (h:zbz (zc3 D) d.2 = (r,false)):mapM D (T ++ [d]) = mapM D T:=by
 unfold mapM;rw [List.filter_append];simp [h]
theorem cnts_get (D:List zdl) (i:Nat) (hi:i < D.length) (hi':i < (zc3 D).length):(zc3 D)[i] = D[i].2:=by simp [zc3]
theorem map_new (D:List zdl) (k:Nat) (hk:k < D.length) {r:Int} (h:zbz (zc3 D) D[k].2 = (r,true)):∀ p∈mapM D (D.take k),p.1≠r:=by
 intro p hp e;unfold mapM at hp;obtain ⟨d,hd,rfl⟩:=List.mem_map.1 hp;obtain ⟨hd1,hd2⟩:=List.mem_filter.1 hd;obtain ⟨i,hi,rfl⟩:=List.mem_iff_getElem.1 hd1;rw [List.length_take] at hi;rw [List.getElem_take] at hd2 e;have hl:(zc3 D).length = D.length:=by simp [zc3]
 have h1:zbz (zc3 D) (zc3 D)[i] = (r,true):=by
  rw [cnts_get D i (by omega) (by omega)];exact Prod.ext e hd2
 have h2:zbz (zc3 D) (zc3 D)[k] = (r,true):=by rw [cnts_get D k hk (by omega)]; exact h
 have:=rank_one (by omega) (by omega) h1 h2;omega
theorem map_dist (D:List zdl):∀ k,k≤D.length→(mapM D (D.take k)).Pairwise fun p q=>p.1≠q.1
 | 0,_=>by simp [mapM]
 | k + 1,hk=>by
  have hk':k < D.length:=by omega
  have ih:=map_dist D k (by omega);rw [List.take_succ_eq_append_getElem hk'];obtain ⟨⟨r,s⟩,hr⟩:∃ p,zbz (zc3 D) D[k].2 = p:=⟨_,rfl⟩;cases s
  ·rw [mapM_no hr]; exact ih
  ·rw [mapM_yes hr]
   refine List.pairwise_append.2 ⟨ih,by simp,fun p hp q hq=>?_⟩
   obtain rfl:q = (r,D[k].1):=by simpa using hq
   exact map_new D k hk' hr p hp
theorem look_hits (D:List zdl) (r:Int):(mapM D D).filter (fun p=>p.1 == r) = (D.filter (hitE D r)).map fun d=>(r,d.1):=by
 unfold mapM;rw [List.filter_map,List.filter_filter]
 have hp:(fun a:zdl=>((fun p:Int × List UInt8=>p.1 == r) ∘ fun d=>((zbz (zc3 D) d.2).1,d.1)) a && (zbz (zc3 D) a.2).2) = hitE D r:=by
  funext d
  show ((zbz (zc3 D) d.2).1 == r && (zbz (zc3 D) d.2).2) = decide (zbz (zc3 D) d.2 = (r,true));obtain ⟨⟨a,s⟩,ha⟩:∃ p,zbz (zc3 D) d.2 = p:=⟨_,rfl⟩;rw [ha];cases s <;> by_cases e:a = r <;> simp [e]
 rw [hp]
 refine List.map_congr_left fun d hd=>?_
 have:=(List.mem_filter.1 hd).2;unfold hitE at this;have h2:=of_decide_eq_true this;rw [h2]
theorem dist_one {M:RkM} (h:M.Pairwise fun p q=>p.1≠q.1) (r:Int):M.filter (fun p=>p.1 == r) = []∨∃ p,M.filter (fun p=>p.1 == r) = [p]:=by
 have h1:(M.filter fun p=>p.1 == r).Pairwise fun p q=>p.1≠q.1:=h.sublist List.filter_sublist
 cases e:M.filter fun p=>p.1 == r with
 | nil=>exact .inl rfl
 | cons p t =>
  cases t with
  | nil=>exact .inr ⟨p,rfl⟩
  | cons q t =>
   rw [e] at h1;have h2:=(List.pairwise_cons.1 h1).1 q List.mem_cons_self;have hp:p∈M.filter fun p=>p.1 == r:=by rw [e]; exact List.mem_cons_self
   have hq:q∈M.filter fun p=>p.1 == r:=by rw [e]; exact List.mem_cons_of_mem _ List.mem_cons_self
   have h3:=(List.mem_filter.1 hp).2; have h4:=(List.mem_filter.1 hq).2;simp at h3 h4;exact absurd (h3.trans h4.symm) h2
theorem guess_yes (S:List Int) (D:List zdl) (i:Nat) {r:Int} {p:Int × List UInt8} (h:zbz S (S.getD i 0) = (r,true)) (hp:(mapM D D).filter (fun p=>p.1 == r) = [p]):zfe S D i = [((i:Int),p.2)]:=by
 unfold zfe;rw [h];simp only [if_true];rw [look_hits] at hp;cases hd:D.filter (hitE D r) with
 | nil=>rw [hd] at hp; simp at hp
 | cons d t =>
  rw [hd] at hp;simp at hp;rw [hp.2];simp [← hp.1]
theorem zhy (S:List Int) (D:List zdl) (i:Nat) {r:Int} {s:Bool} (h:zbz S (S.getD i 0) = (r,s)) (hp:s = false∨(mapM D D).filter (fun p=>p.1 == r) = []):zfe S D i = []:=by
 unfold zfe;rw [h]
 rcases hp with rfl | hp
 ·simp
 ·rw [look_hits] at hp
  have:D.filter (hitE D r) = []:=by simpa using hp
  rw [this]; simp
def entsL:Nat→RkM→List MapEntry
 | _,[]=>[]
 | i,p :: M=>{ key:=.int .i64 p.1,val:=zal p.2,born:=i } :: entsL (i + 1) M
theorem entsL_snoc (p:Int × List UInt8):∀ (M:RkM) (i:Nat),entsL i (M ++ [p]) = entsL i M ++ [{ key:=.int .i64 p.1,val:=zal p.2,born:=i + M.length }]
 | [],i=>by simp [entsL]
 | q :: M,i=>by
  simp only [List.cons_append,entsL,entsL_snoc p M (i + 1),List.length_cons];rw [show i + 1 + M.length = i + (M.length + 1) by omega]
theorem find_none (k:Int):∀ (M:RkM) (i n:Nat),(∀ p∈M,p.1≠k)→Instr.findNow (.int .i64) (.int .i64 k) (entsL i M) n = some none
 | [],_,_,_=>rfl
 | q :: M,i,n,h=>by
  have h1:(k == q.1) = false:=by have:=h q List.mem_cons_self; simp; omega
  simp only [entsL,Instr.findNow,Instr.sameNow,if_true,h1];exact find_none k M (i + 1) (n + 1) fun p hp=>h p (List.mem_cons_of_mem _ hp)
theorem find_some (k:Int) (p:Int × List UInt8):∀ (M:RkM) (i n:Nat),M.filter (fun p=>p.1 == k) = [p]→∃ t,Instr.findNow (.int .i64) (.int .i64 k) (entsL i M) n = some (some (t,zal p.2))
 | [],_,_,h=>by simp at h
 | q :: M,i,n,h=>by
  by_cases hq:q.1 = k
  ·have h1:(k == q.1) = true:=by simp [hq]
   rw [List.filter_cons_of_pos (by simpa using hq)] at h;have:q = p:=(List.cons.inj h).1;subst this;exact ⟨n,by simp only [entsL,Instr.findNow,Instr.sameNow,if_true,h1]⟩
  ·have h1:(k == q.1) = false:=by simp; omega
   rw [List.filter_cons_of_neg (by simpa using hq)] at h;obtain ⟨t,ht⟩:=find_some k p M (i + 1) (n + 1) h;exact ⟨t,by simp only [entsL,Instr.findNow,Instr.sameNow,if_true,h1]; exact ht⟩
def MapAt (w:World) (b:Nat) (M:RkM):Prop:=w.heap[b]? = some (.map (entsL 0 M).toArray M.length)
theorem map_ins {P:Program} {w:World} {mty kt et:TypeId} {b:Nat} {M:RkM} (k:Int) (t:List UInt8) (hm:P.underlying mty = some (.map kt et)) (hd:P.underlying kt = some (.int .i64)) (hb:MapAt w b M) (h:∀ p∈M,p.1≠k) :
  ∃ w',(Instr.mapUpdate mty (.map (some b)) (.int .i64 k) (zal t)).run P w = .ok () w'∧MapAt w' b (M ++ [(k,t)])∧w.grownBy w' (some b):=by
 obtain ⟨w',e1,e2,e3⟩:=ins_int (P:=P) k (zal t) hm hd hb (find_none k M 0 0 h);refine ⟨w',e1,?_,e3⟩;unfold MapAt;rw [e2,entsL_snoc,List.length_append,Nat.zero_add];simp
theorem map_look_yes {P:Program} {w:World} {mty kt et:TypeId} {b:Nat} {M:RkM} {k:Int} {p:Int × List UInt8} (hm:P.underlying mty = some (.map kt et)) (hd:P.underlying kt = some (.int .i64)) (hb:MapAt w b M) (h:M.filter (fun p=>p.1 == k) = [p]) :
  (Instr.lookup mty (.map (some b)) (.int .i64 k) true).run P w = .ok (.tuple #[zal p.2,.bool true]) w:=by
 obtain ⟨t,h1⟩:=find_some k p M 0 0 h;simp [Instr.lookup,run_underlying hm,MapKept.run_getObj_map hb,MapKept.run_checkKey hd (k:=.int .i64 k) (by simp [MapKept.IsKey]),MapKept.run_findKey hd h1,Result.andThen]
theorem map_look_no {P:Program} {w:World} {mty kt et:TypeId} {b:Nat} {M:RkM} {k:Int} {z:Value} (hm:P.underlying mty = some (.map kt et)) (hd:P.underlying kt = some (.int .i64)) (hz:(zeroValue et).run P w = .ok z w) (hb:MapAt w b M) (h:M.filter (fun p=>p.1 == k) = []) :
  (Instr.lookup mty (.map (some b)) (.int .i64 k) true).run P w = .ok (.tuple #[z,.bool false]) w:=by
 have h1:=find_none k M 0 0 fun p hp e=>by
  have:p∈M.filter fun p=>p.1 == k:=List.mem_filter.2 ⟨hp,by simpa using e⟩
  rw [h] at this; cases this
 simp [Instr.lookup,run_underlying hm,MapKept.run_getObj_map hb,MapKept.run_checkKey hd (k:=.int .i64 k) (by simp [MapKept.IsKey]),MapKept.run_findKey hd h1,hz,Result.andThen]
end
section
open Go.RowKit
def hitB (V:List (List UInt8)) (t:List UInt8) (m:Int):Bool:=decide (V.getD m.toNat [] = t)
theorem hits_more (G:List GrpL) (V:List (List UInt8)) (gs:List GsL) (k:Nat) (h:k < gs.length):zgw G V (gs.take (k + 1)) = zgw G V (gs.take k) + (((G.getD gs[k].1.toNat default).mem.countP (hitB V gs[k].2):Nat):Int):=by
 unfold zgw;rw [List.take_succ_eq_append_getElem h,List.map_append,List.sum_append];show _ + (_ + 0) = _;rw [Int.add_zero]; rfl
theorem hits_any (S T U:Nat→Prop) (gv v2 v3:Value) (G:List GrpL) (gs:List GsL) (V:List (List UInt8)) (w:World) (hg:GroupsAt w S gv G) (hs:Vec w T 2 encGs v2 gs) (hv:Vec w U 1 zba v3 V)
  (ok:∀ g∈gs,0≤g.1∧g.1 < (G.length:Int)) (okm:∀ g∈G,∀ m∈g.mem,0≤m∧m < (V.length:Int)) (hn1:gs.length≤1000) (hn2:∀ g∈G,g.mem.length≤1000) (hn3:V.length≤1000000) (hn4:G.length≤1000000) :
  Calls prog 70 #[gv,v2,v3] w fun e w'=>e = .returned (.tuple #[.int .i64 (zgw G V gs),.int .i64 0])∧Below w.heap.size w w':=by
 obtain ⟨ga,gc,rfl⟩:=hg.slice;obtain ⟨sa,sc,rfl⟩:=hs.slice;obtain ⟨va,vc,rfl⟩:=hv.slice;have HG:=zjp hg; have HS:=zjp hs; have HV:=zjp hv; have HOk:=zjp ok; have HOm:=zjp okm; have HN2:=zjp hn2;obtain ⟨r,hr⟩:∃ r,zgw G V gs = r:=⟨_,rfl⟩;rw [hr];have HR:=zjp hr;obtain ⟨n,hln⟩:∃ n,gs.length = n:=⟨_,rfl⟩;obtain ⟨ng,hlg⟩:∃ n,G.length = n:=⟨_,rfl⟩;obtain ⟨nv,hlv⟩:∃ n,V.length = n:=⟨_,rfl⟩;have HN:=zjp hln; have HLG:=zjp hlg; have HLV:=zjp hlv;rw [hln] at HS hn1; rw [hlg] at HG HOk hn4; rw [hlv] at HV HOm hn3;rw [hln,hlg,hlv];clear hg hs hv ok okm hn2 hr hln hlg hlv;go_enter func70,ntmps70
 go_wp2_with fail
 go_loopw [8,15] (fun o i wr=>∃ k:Nat,i = .int .i64 k∧k≤n∧∃ q:Int,o = .int .i64 q∧0≤q∧q≤1000 * k∧Hid (zgw G V (gs.take k) = q)∧Below w.heap.size w wr) (fun _ i _=>n - (intOf i).toNat)
 case atStart=>exact ⟨0,rfl,by omega,0,rfl,by omega,by omega,zjp (by simp [zgw]),Below.refl _ _⟩
 case round =>
  obtain ⟨k,rfl,hk,q,rfl,hq0,hq1,HQ,hbw⟩:=hrel;obtain ⟨WR,hWR⟩:∃ u,u = wr:=⟨_,rfl⟩;subst hWR;have HB:=zjp hbw;by_cases hlt:k < n
  ·have hq:decide ((k:Int) < n) = true:=by simp; omega
   have hlt':k < gs.length:=by rw [HN.out]; exact hlt
   obtain ⟨b,off,e,lb,hc⟩:=(HS.out.below hbw).get k hlt';cases e;have c0:=hc 0 _ rfl; have c1:=hc 1 _ rfl;have hmore:=hits_more G V gs k hlt';obtain ⟨o0,o1⟩:=HOk.out _ (List.getElem_mem hlt');obtain ⟨⟨gi,gt⟩,hgk⟩:∃ p,gs[k] = p:=⟨_,rfl⟩;rw [hgk] at c0 c1 hmore o0 o1;dsimp only at c0 c1 hmore o0 o1;obtain ⟨gN,rfl⟩:∃ m:Nat,gi = m:=⟨gi.toNat,by omega⟩;rw [Int.toNat_natCast] at hmore;rw [Nat.add_zero] at c0;have hgl:gN < G.length:=by rw [HLG.out]; omega
   obtain ⟨b2,off2,⟨len,wa,wn,wc,ma,mn,mc,ws,mem⟩,e2,lb2,⟨g0,g1,g2⟩,hw,hm,hp⟩:=(HG.out.below hbw).at gN hgl;cases e2;have hmn:=hm.lenN;dsimp only at hmn g0 g1 g2 hm;subst hmn;have hmem:G[gN].mem = mem:=by rw [← hp]; rfl
   have hml:=HN2.out _ (List.getElem_mem hgl);have hmo:=HOm.out _ (List.getElem_mem hgl);rw [show G.getD gN default = G[gN] by rw [List.getD,List.getElem?_eq_getElem hgl]; rfl] at hmore;rw [hmem] at hmore hml hmo;rw [HQ.out] at hmore;have HMore:=zjp hmore; have HMem:=zjp hm; have HMo:=zjp hmo;obtain ⟨mN,hmN⟩:∃ m,mem.length = m:=⟨_,rfl⟩;have HMN:=zjp hmN;rw [hmN] at HMem hml g2;have d1:decide ((gN:Int) < 0) = false:=by simp
   have d2:decide ((ng:Int)≤(gN:Int)) = false:=by simp; omega
   have d3:(gN:Int) < (ng:Int):=o1;clear hc hgk hw hm hp hmem hmo hmore HQ hbw g0 g1 hmN o0 o1 hgl;go_wp2_with fail
   refine zam (fun WB hWB=>?_)
   have bB:=xal hWB
   have gB:WB.heap[WR.heap.size]? = some (.cells #[.int .i64 gN,zal gt] 138 (0,0)):=by rw [hWB]; exact zac rfl
   have HBB:=zjp (HB.out.trans (bB.mono HB.out.size)); have HMB:=zjp (HMem.out.below bB);obtain ⟨T,hT⟩:∃ T,WR.heap.size = T:=⟨_,rfl⟩;rw [hT] at gB ⊢;have HGB:=zjp gB;have lT:=zaa gB;clear hWB bB gB hT HMem c0 c1 g2 lb lb2 HB;go_loopw [8,36] (fun o i wr=>∃ j:Nat,i = .int .i64 j∧j≤mN∧∃ t:Nat,o = .int .i64 (q + t)∧t≤j∧Hid ((mem.take j).countP (hitB V gt) = t)∧Below WB.heap.size WB wr) (fun _ i _=>mN - (intOf i).toNat)
   case atStart=>exact ⟨0,rfl,by omega,0,by simp,by omega,zjp (by simp),Below.refl _ _⟩
   case round =>
    obtain ⟨j,rfl,hj,t,rfl,ht,HT,hbj⟩:=hrel;obtain ⟨WJ,hWJ⟩:∃ u,u = wr:=⟨_,rfl⟩;subst hWJ;have HBj:=zjp hbj;by_cases hlt2:j < mN
    ·have hq2:decide ((j:Int) < mN) = true:=by simp; omega
     have hlj:j < mem.length:=by rw [HMN.out]; exact hlt2
     obtain ⟨b3,off3,e3,lb3,hc3⟩:=(HMB.out.below hbj).get j hlj;cases e3;have c3:=hc3 0 _ rfl;rw [Nat.mul_one,Nat.add_zero] at c3;have hmo:=HMo.out _ (List.getElem_mem hlj);have hmore2:=zg0 (hitB V gt) mem j hlj;obtain ⟨m,hmj⟩:∃ m,mem[j] = m:=⟨_,rfl⟩;rw [hmj] at c3 hmo hmore2;rw [HT.out] at hmore2;obtain ⟨m0,m1⟩:=hmo;obtain ⟨mi,rfl⟩:∃ i:Nat,m = i:=⟨m.toNat,by omega⟩;have hmv:mi < V.length:=by rw [HLV.out]; omega
     obtain ⟨b4,off4,e4,lb4,hc4⟩:=((HV.out.below HBB.out).below hbj).get mi hmv;cases e4;have c4:=hc4 0 _ rfl;rw [Nat.mul_one,Nat.add_zero] at c4;obtain ⟨x,hx⟩:∃ x,V[mi] = x:=⟨_,rfl⟩
     have hhit:hitB V gt (mi:Int) = decide (x = gt):=by
      unfold hitB;rw [Int.toNat_natCast,List.getD,List.getElem?_eq_getElem hmv,hx]; rfl
     rw [hx] at c4;rw [hhit] at hmore2;have hX:=zab hbj lT HGB.out;obtain ⟨t0,t1⟩:=zae hX;have f1:decide ((mi:Int) < 0) = false:=by simp
     have f2:decide ((nv:Int)≤(mi:Int)) = false:=by simp; omega
     have f3:(mi:Int) < (nv:Int):=m1;have lt3:T < WJ.heap.size:=zaa hX;have r0:=cell_regrown t1; have r1:=cell_regrown c4;clear hc3 hc4 hmj HT hx hhit hX hbj m0 m1 hmv;by_cases hxg:x = gt
     ·have e1:(x == gt) = true:=by simp [hxg]
      rw [decide_eq_true hxg] at hmore2;have M:=zjp (show (mem.take (j + 1)).countP (hitB V gt) = t + 1 from hmore2);have hwr:IntKind.i64.wrap (q + (t:Int) + 1) = q + ((t + 1:Nat):Int):=by rw [IntKind.wrap_i64]; omega
      clear hmore2 hxg;go_wp2_with fail
      go_quiet (fail)
      go_wp2_with fail
      go_roundw
      case rel=>exact ⟨j + 1,by go_num,by omega,t + 1,by go_num,by omega,M,below_drewN HBj.out _⟩
      case measure=>simp [intOf]; omega
     ·have e1:(x == gt) = false:=by simp [hxg]
      rw [decide_eq_false hxg] at hmore2;have M:=zjp (show (mem.take (j + 1)).countP (hitB V gt) = t from hmore2);clear hmore2 hxg;go_wp2_with fail
      go_quiet (fail)
      go_wp2_with fail
      go_roundw
      case rel=>exact ⟨j + 1,by go_num,by omega,t,rfl,by omega,M,below_drewN HBj.out _⟩
      case measure=>simp [intOf]; omega
    ·have hq2:decide ((j:Int) < mN) = false:=by simp; omega
     have hfin:(mem.countP (hitB V gt):Nat) = t:=by rw [← HT.out,List.take_of_length_le (by rw [HMN.out]; omega)]
     have hm2:=HMore.out;rw [hfin] at hm2;have M:=zjp hm2;have B6:=zjp (HBB.out.trans (HBj.out.mono HBB.out.size));clear HT hfin hm2 hbj;go_wp2_with fail
     go_roundw
     case rel=>exact ⟨k + 1,by go_num,by omega,q + t,rfl,by omega,by omega,M,B6.out⟩
     case measure=>simp [intOf]; omega
  ·have hq:decide ((k:Int) < n) = false:=by simp; omega
   have hfin:q = r:=by rw [← HQ.out,← HR.out,List.take_of_length_le (by rw [HN.out]; omega)]
   clear HQ hbw;go_wp2_with fail
   go_ret2;subst hfin;exact ⟨rfl,HB.out⟩
end
section
open Go.RowKit
theorem infoGu:(prog.info? 138).map (fun i=>(i.zero,i.size,i.bytes)) = some (some (.agg #[.int .i64 0,.string ⟨#[]⟩]),2,24):=by kernel_rfl
def AlignPost (G:List GrpL) (D:List zdl) (w:World) (e:Ending) (w':World):Prop :=
 ∃ v,e = .returned (.tuple #[v,.int .i64 (zcg D)])∧Vec w' (fun b=>w.heap.size≤b) 2 encGs v (if zcg D = 0 then zd2 (zaz G) D else [])∧Below w.heap.size w w'
theorem align_any (S T:Nat→Prop) (gv dv:Value) (G:List GrpL) (D:List zdl) (w:World) (hg:GroupsAt w S gv G) (hd:Vec w T 2 zgz dv D) (hn:G.length≤1000000) (hm:D.length≤1000000) :
  Calls prog 69 #[gv,dv] w (AlignPost G D w):=by
 obtain ⟨ag,cg,rfl⟩:=hg.slice;obtain ⟨ad,cd,rfl⟩:=hd.slice;obtain ⟨n,hnG⟩:∃ n,G.length = n:=⟨_,rfl⟩;obtain ⟨m,hmD⟩:∃ m,D.length = m:=⟨_,rfl⟩;have HG:=zjp hg; have HD:=zjp hd; have HNg:=zjp hnG; have HNd:=zjp hmD;have HCk:=zjp (acheck_any T _ D w hd hm);have hdv:=hd;rw [hnG] at HG ⊢;rw [hmD] at HD HCk ⊢;have hn6:n≤1000000:=by omega
 have hm6:m≤1000000:=by omega
 obtain ⟨c,hc⟩:∃ c,zcg D = c:=⟨_,rfl⟩;unfold AlignPost;rw [hc] at HCk ⊢;have HC:=zjp hc;clear hg hd hc hnG hmD hn hm hdv;go_enter func69,ntmps69
 go_wp2_with fail
 refine HCk.out.mono ?_;rintro e w1 ⟨rfl,hb1⟩;have HB1:=zjp hb1;clear hb1;by_cases h0:c = 0
 ·subst h0
  go_wp2_with fail
  go_loopw [7,29] (fun o t wr=>∃ k:Nat,t = .int .i64 k∧k≤m∧OwnV 3 1 zjh w1 o (zc3 (D.take k)) wr) (fun _ t _=>m - (intOf t).toNat)
  case atStart=>exact ⟨0,by go_num,by omega,OwnV.nil (Below.refl _ _)⟩
  case round =>
   obtain ⟨k,rfl,hk,ho⟩:=hrel;obtain ⟨WR,hWR⟩:∃ u,u = wr:=⟨_,rfl⟩;subst hWR;have HO:=zjp ho;have hz1:w1.heap.size≤WR.heap.size:=ho.2.size;by_cases hlk:k < m
   ·have hq:decide ((k:Int) < (m:Int)) = true:=by simp; omega
    have hkn:(k:Int) < (m:Int):=by omega
    have hkD:k < D.length:=by rw [HNd.out]; exact hlk
    obtain ⟨b0,o0,rfl,lb0,hc⟩:=((HD.out.below HB1.out).below (ho.2.mono xnl)).get k hkD;have c0:=hc 0 _ rfl; have c1:=hc 1 _ rfl;rw [Nat.add_zero] at c0;have htk:zc3 (D.take (k + 1)) = zc3 (D.take k) ++ [D[k].2]:=by unfold zc3; rw [List.take_succ_eq_append_getElem hkD,List.map_append]; rfl
    obtain ⟨y,hy⟩:∃ y,D[k] = y:=⟨_,rfl⟩;rw [hy] at c0 c1 htk;have HTk:=zjp htk;obtain ⟨yv,yc⟩:=y;dsimp only at c0 c1;have htl:(zc3 (D.take k)).length = k:=by simp [zc3]; omega
    have hown:=ho.1;rw [htl] at hown;have HTl:=zjp htl;obtain ⟨ov,oc,eo⟩:=zau hown;subst eo;obtain ⟨i0,hi0,hz0,hzz1,hz2⟩:=info_parts infoZ;have HI0:=zjp hi0; have HZ0:=zjp hz0; have HZ1:=zjp hzz1; have HZ2:=zjp hz2;have bA:Below WR.heap.size WR ((WR.alloc (.cells #[zal yv,.int .i64 yc] 91)).alloc (.cells #[.int .i64 yc] 3)):=((Below.refl _ _).alloc xnl _).alloc (by simp) _;have hA4:((WR.alloc (.cells #[zal yv,.int .i64 yc] 91)).alloc (.cells #[.int .i64 yc] 3)).heap[WR.heap.size + 1]? = some (.cells #[.int .i64 yc] 3 (0,0)):=zac (by simp)
    have HNews:=zjp (show ∀ i u,[Value.int .i64 yc][i]? = some u→((WR.alloc (.cells #[zal yv,.int .i64 yc] 91)).alloc (.cells #[.int .i64 yc] 3)).cell? ((⟨WR.heap.size + 1,0,none⟩:Addr).add i) = some u from fun i u hu=>by
     rw [zch,cell_of_row _ _ _ _ _ _ hA4,Nat.zero_add]; simpa using hu)
    have HOwn:=zjp (zcb hown bA);have HbA:=zjp bA;have HOne:=zjp (show ∀ u∈[Value.int .i64 yc],u.oneCell' = true by intro u hu; simp at hu; subst hu; rfl);clear hA4 bA hown ho hc htk hy hi0 hz0 hzz1 hz2 htl;go_wp2_with (at_builtin; refine wpList_append_lies _ rfl (.tmp 33) (.tmp 36) 22 rfl w1.heap.size 3 i0 (.int .i64 0) 1 8 underlying22 HI0.out HZ0.out HZ1.out HZ2.out rfl (by decide) (.slice ov k oc) k ((zc3 (D.take k)).flatMap zjh) rfl HOwn.out ⟨WR.heap.size + 1,0,none⟩ 1 1 [.int .i64 yc] rfl rfl HNews.out HOne.out (by omega) (by unfold maxLen; omega) (by omega) (by simp; omega) (WR.heap.size + 2) (by simp) ?_; intro g5 cp5 w5 hown5 hg5 hat5 hlt5; have HOw5:=zjp hown5; have HG5:=zjp hg5; clear hown5 hg5 hat5)
    go_roundw
    case rel =>
     refine ⟨k + 1,by go_num,by omega,?_,?_⟩
     ·rw [HTk.out,List.length_append,HTl.out,List.flatMap_append]
      simpa using HOw5.out
     ·exact (HO.out.2.trans (HbA.out.mono hz1)).grown HG5.out (Nat.le_trans hz1 HbA.out.size) (fun q hq=>(HOwn.out.lt q hq).1)
    case measure=>simp [intOf]; omega
   ·have hq:decide ((k:Int) < (m:Int)) = false:=by simp; omega
    have hkl:D.take k = D:=List.take_of_length_le (by rw [HNd.out]; omega);rw [hkl] at ho;have HO:=zjp ho;have hcl:(zc3 D).length = m:=by rw [← HNd.out]; simp [zc3]
    obtain ⟨oa,oc,eo⟩:=zau ho.1;rw [hcl] at eo;subst eo;clear ho hkl hcl;go_wp2_with fail
    rw [run_makeMap_plain];go_wp2_with fail
    have g0:MapAt (WR.alloc (.map #[] 0)) WR.heap.size (mapM D (D.take 0)):=zac rfl;have hbm:Below WR.heap.size WR (WR.alloc (.map #[] 0)):=(Below.refl _ _).alloc xnl _;have HG0:=zjp g0; have HBm:=zjp hbm;clear g0 hbm;go_loopw [42] (fun t wr=>∃ k:Nat,t = .int .i64 k∧k≤m∧MapAt wr WR.heap.size (mapM D (D.take k))∧Below WR.heap.size WR wr) (fun t _=>m - (intOf t).toNat)
    case atStart=>exact ⟨0,by go_num,by omega,HG0.out,HBm.out⟩
    case round =>
     obtain ⟨k2,rfl,hk2,hmp,hbw⟩:=hrel;obtain ⟨B,hB⟩:∃ B,WR.heap.size = B:=⟨_,rfl⟩;have HBz:=zjp hB;have HMp:=zjp hmp; have HBw:=zjp hbw;have hVC:Vec wr (fun b=>w1.heap.size≤b) 1 zjh (.slice oa m oc) (zc3 D):=(OwnV.vec (size:=1) (enc:=zjh) (fun _=>rfl) HO.out).below hbw
     have HVC:=zjp hVC;have hcl2:(zc3 D).length = m:=by rw [← HNd.out]; simp [zc3]
     by_cases hlk2:k2 < m
     ·have hq2:decide ((k2:Int) < (m:Int)) = true:=by simp; omega
      have hkn2:(k2:Int) < (m:Int):=by omega
      have hkD:k2 < D.length:=by rw [HNd.out]; exact hlk2
      obtain ⟨b0,o0,rfl,lb0,hc⟩:=(((HD.out.below HB1.out).below HO.out.2).below hbw).get k2 hkD;have c0:=hc 0 _ rfl; have c1:=hc 1 _ rfl;rw [Nat.add_zero] at c0;have htk:D.take (k2 + 1) = D.take k2 ++ [D[k2]]:=List.take_succ_eq_append_getElem hkD;have hck:(zc3 D)[k2]'(by omega) = D[k2].2:=by simp [zc3]
      have hnew:=fun (r:Int) (h:zbz (zc3 D) D[k2].2 = (r,true))=>map_new D k2 hkD h
      have hrk:=fun (W9:World) (hb9:Below wr.heap.size wr W9)=>rank_any _ _ (zc3 D) k2 W9 (hVC.below hb9) (by omega) (by omega)
      rw [hck] at hrk;obtain ⟨y,hy⟩:∃ y,D[k2] = y:=⟨_,rfl⟩;rw [hy] at c0 c1 htk hrk hnew;obtain ⟨yv,yc⟩:=y;dsimp only at c0 c1 hrk hnew;have HTk:=zjp htk;obtain ⟨⟨r,sg⟩,hr⟩:∃ p,zbz (zc3 D) yc = p:=⟨_,rfl⟩;rw [hr] at hrk;dsimp only at hrk;have HR:=zjp hr; have HRk:=zjp hrk; have HNew:=zjp hnew;clear hc htk hck hrk hr hnew hy hmp hVC;rw [hB] at HMp ⊢;go_wp2_with fail
      refine zai (fun W5 hW5=>?_)
      have b5:=xal hW5
      have gx5:W5.heap[wr.heap.size]? = some (.cells #[zal yv,.int .i64 yc] 91 (0,0)):=by rw [hW5]; exact zac rfl
      clear hW5;have lB:B < wr.heap.size:=zaa HMp.out;have HM5:=zjp (show MapAt W5 B (mapM D (D.take k2)) from zab b5 lB HMp.out);have hB5:Below WR.heap.size WR W5:=HBw.out.trans (b5.mono HBw.out.size);have HB5:=zjp hB5;obtain ⟨x0,x1⟩:=zae gx5;have lX:=zaa gx5;refine (HRk.out W5 b5).mono ?_;rintro e w6 ⟨rfl,rfl⟩;clear b5 gx5 c0 c1 hB5 hbw;cases sg
      ·go_wp2_with fail
       go_roundw
       case rel=>exact ⟨k2 + 1,by go_num,by omega,by rw [HTk.out,mapM_no HR.out]; exact HM5.out,by rw [← HBz.out]; exact HB5.out⟩
       case measure=>simp [intOf]; omega
      ·go_wp2_with fail
       obtain ⟨w7,e7,g7,r7⟩:=map_ins (P:=prog) r yv underlying166 underlying3 HM5.out (HNew.out r HR.out);have HG7:=zjp g7;have HB7:=zjp (HB5.out.grown r7 HB5.out.size (by intro x hx; cases hx; rw [HBz.out]; exact Nat.le_refl _));clear g7 r7;rw [e7];clear e7;go_wp2_with fail
       go_roundw
       case rel=>exact ⟨k2 + 1,by go_num,by omega,by rw [HTk.out,mapM_yes HR.out]; exact HG7.out,by rw [← HBz.out]; exact HB7.out⟩
       case measure=>simp [intOf]; omega
     ·have hq2:decide ((k2:Int) < (m:Int)) = false:=by simp; omega
      have hkl:D.take k2 = D:=List.take_of_length_le (by rw [HNd.out]; omega);rw [hkl] at HMp;rw [hB] at HMp;clear hkl hmp hVC;rw [hB];have hbT:Below w.heap.size w wr:=(HB1.out.trans (HO.out.2.mono HB1.out.size)).trans (hbw.mono (Nat.le_trans HB1.out.size hz1));have HBT:=zjp hbT;have lB:B < wr.heap.size:=zaa HMp.out;clear hbT hbw;go_wp2_with fail
      refine (sizes_any S _ G _ (HG.out.below HBT.out) (by rw [HNg.out]; exact hn6)).mono ?_;rintro e w3 ⟨v3,rfl,ho3⟩;have HO3:=zjp ho3;have hsl:(zaz G).length = n:=by rw [← HNg.out]; simp [zaz]
      obtain ⟨sa,sc,es⟩:=zau ho3.1;rw [hsl] at es;subst es;have HSl:=zjp hsl;have HM3:=zjp (show MapAt w3 B (mapM D D) from zab ho3.2 lB HMp.out);have lB3:B < w3.heap.size:=zaa HM3.out;have HBT3:=zjp (HBT.out.trans (ho3.2.mono HBT.out.size));clear ho3 hsl;go_wp2_with fail
      go_loopw [15,63] (fun o t wr=>∃ i:Nat,t = .int .i64 i∧i≤n∧∃ X:List GsL,OwnV 138 2 encGs w3 o X wr∧X.length≤i∧Hid (X = (List.range i).flatMap (zfe (zaz G) D))) (fun _ t _=>n - (intOf t).toNat)
      case atStart=>exact ⟨0,by go_num,by omega,[],OwnV.nil (Below.refl _ _),by simp,zjp (by simp)⟩
      case round =>
       obtain ⟨i,rfl,hi,X,ho,hXl,HX⟩:=hrel;obtain ⟨WQ,hWQ⟩:∃ u,u = wr:=⟨_,rfl⟩;subst hWQ;have HO5:=zjp ho;have hz3:w3.heap.size≤WQ.heap.size:=ho.2.size;obtain ⟨nx,hnx⟩:∃ nx,X.length = nx:=⟨_,rfl⟩;obtain ⟨ov,oc',eo⟩:=zau ho.1;rw [hnx] at eo hXl;subst eo;have HNx:=zjp hnx;by_cases hli:i < n
       ·have hq3:decide ((i:Int) < (n:Int)) = true:=by simp; omega
        have hin:(i:Int) < (n:Int):=by omega
        have hiS:i < (zaz G).length:=by rw [HSl.out]; exact hli
        have hstep:(List.range (i + 1)).flatMap (zfe (zaz G) D) = X ++ zfe (zaz G) D i:=by rw [HX.out,List.range_succ,List.flatMap_append]; simp
        have hgd:(zaz G)[i] = (zaz G).getD i 0:=(za5 _ _ hiS).symm;have hrk:=rank_any _ _ (zaz G) i WQ ((OwnV.vec (size:=1) (enc:=zjh) (fun _=>rfl) HO3.out).below ho.2) hiS (by rw [HSl.out]; exact hn6)
        rw [hgd] at hrk;obtain ⟨⟨r,sg⟩,hr⟩:∃ p,zbz (zaz G) ((zaz G).getD i 0) = p:=⟨_,rfl⟩;rw [hr] at hrk;dsimp only at hrk;have hmw:MapAt WQ B (mapM D D):=zab ho.2 lB3 HM3.out;have hdist:(mapM D D).Pairwise fun p q=>p.1≠q.1:=by have:=map_dist D D.length xnl; rwa [List.take_length] at this
        have HR:=zjp hr; have HRk:=zjp hrk; have HStep:=zjp hstep; have HMw:=zjp hmw;obtain ⟨i0,hi0,hz0,hzz1,hz2⟩:=info_parts infoGu;have HI0:=zjp hi0; have HZ0:=zjp hz0; have HZ1:=zjp hzz1; have HZ2:=zjp hz2;have HDist:=zjp (dist_one hdist r);clear hstep hgd hrk hr hmw hdist hi0 hz0 hzz1 hz2 ho hnx;go_wp2_with fail
        refine HRk.out.mono ?_;rintro e w6 ⟨rfl,rfl⟩
        rcases HDist.out with hf | ⟨⟨pr,pv⟩,hf⟩
        ·have HF:=zjp hf
         clear hf;go_wp2_with fail
         rw [map_look_no (P:=prog) underlying166 underlying3 (Tryz.zeroValue9 _) HMw.out HF.out];cases sg <;> go_wp2_with fail
         all_goals (
          go_roundw
          case rel=>exact ⟨i + 1,by go_num,by omega,X,HO5.out,by rw [HNx.out]; omega,zjp (by rw [HStep.out,zhy _ _ _ HR.out (.inr HF.out),List.append_nil])⟩
          case measure=>simp [intOf]; omega)
        ·have HF:=zjp hf
         clear hf;cases sg
         ·go_wp2_with fail
          rw [map_look_yes (P:=prog) underlying166 underlying3 HMw.out HF.out];go_wp2_with fail
          go_roundw
          case rel=>exact ⟨i + 1,by go_num,by omega,X,HO5.out,by rw [HNx.out]; omega,zjp (by rw [HStep.out,zhy _ _ _ HR.out (.inl rfl),List.append_nil])⟩
          case measure=>simp [intOf]; omega
         ·have hown:=HO5.out.1
          rw [HNx.out] at hown;have bA:Below WQ.heap.size WQ (WQ.alloc (.cells #[.int .i64 i,zal pv] 138)):=(Below.refl _ _).alloc xnl _;have hA4:(WQ.alloc (.cells #[.int .i64 i,zal pv] 138)).heap[WQ.heap.size]? = some (.cells #[.int .i64 i,zal pv] 138 (0,0)):=zac rfl
          have HNews:=zjp (show ∀ t u,(encGs ((i:Int),pv))[t]? = some u→(WQ.alloc (.cells #[.int .i64 i,zal pv] 138)).cell? ((⟨WQ.heap.size,0,none⟩:Addr).add t) = some u from fun t u hu=>by
           rw [zch,cell_of_row _ _ _ _ _ _ hA4,Nat.zero_add]; simpa using hu)
          have HOwn:=zjp (zcb hown bA);have HbA:=zjp bA;clear hA4 bA hown;go_wp2_with fail
          rw [map_look_yes (P:=prog) underlying166 underlying3 HMw.out HF.out];go_wp2_with (at_builtin; refine wpList_append_lies _ rfl (.tmp 82) (.tmp 86) 114 rfl w3.heap.size 138 i0 (.agg #[.int .i64 0,.string ⟨#[]⟩]) 2 24 underlying114 HI0.out HZ0.out HZ1.out HZ2.out rfl (by decide) (.slice ov nx oc') nx (X.flatMap encGs) rfl HOwn.out ⟨WQ.heap.size,0,none⟩ 1 1 (encGs ((i:Int),pv)) rfl rfl HNews.out (one_encGs _) (by omega) (by unfold maxLen; omega) (by omega) (by simp; omega) (WQ.heap.size + 1) (by simp) ?_; intro g5 cp5 w5 hown5 hg5 hat5 hlt5; have HOw5:=zjp hown5; have HG5:=zjp hg5; clear hown5 hg5 hat5)
          go_roundw
          case rel =>
           refine ⟨i + 1,by go_num,by omega,X ++ [((i:Int),pv)],⟨?_,?_⟩,by rw [List.length_append,HNx.out]; simp; omega,zjp (by rw [HStep.out,guess_yes _ _ _ HR.out HF.out])⟩
           ·rw [List.length_append,HNx.out,List.flatMap_append]
            simpa using HOw5.out
           ·exact (HO5.out.2.trans (HbA.out.mono hz3)).grown HG5.out (Nat.le_trans hz3 HbA.out.size) (fun q hq=>(HOwn.out.lt q hq).1)
          case measure=>simp [intOf]; omega
       ·have hq3:decide ((i:Int) < (n:Int)) = false:=by simp; omega
        have hin:i = (zaz G).length:=by rw [HSl.out]; omega
        have hX2:X = zd2 (zaz G) D:=by rw [HX.out,hin]; rfl
        have HX2:=zjp hX2;clear hin hX2 ho HX;go_wp2_with fail
        go_ret2;refine ⟨_,rfl,?_,HBT3.out.trans (HO5.out.2.mono HBT3.out.size)⟩;have hv:=OwnV.vec (size:=2) (enc:=encGs) (fun _=>rfl) HO5.out
        rw [HX2.out] at hv;exact hv.move xnl fun b _ hs=>⟨rfl,Nat.le_trans HBT3.out.size hs⟩
 ·have d0:(c == 0) = false:=by simpa using h0
  have d1:(c != 0) = true:=by simpa using h0
  go_wp2_with fail
  go_ret2;refine ⟨_,rfl,?_,HB1.out⟩;show Vec w1 _ 2 encGs (.slice none 0 0) [];exact OwnV.vec (e:=138) (size:=2) (enc:=encGs) (fun _=>rfl) (OwnV.nil HB1.out)
end
section
open Go.RowKit
def fillB (b:BitsL):Int:=(2000 * zcp b + b.len).tdiv (2 * b.len)
def zjf (g:Int):List BitsL→Int
 | []=>g
 | b :: L=>zjf (if zap b = true then max g (fillB b) else g) L
theorem fillB_bd {b:BitsL} (h:zap b = true):0≤fillB b∧fillB b≤2000000:=by
 have h1:=(zcs h).1; have h2:=zjl b;unfold fillB;have e:(2000 * zcp b + b.len).tdiv (2 * b.len) = (2000 * zcp b + b.len) / (2 * b.len):=Int.tdiv_eq_ediv_of_nonneg (by omega);rw [e];refine ⟨Int.ediv_nonneg (by omega) (by omega),?_⟩;have:=Int.ediv_le_self (b:=2 * b.len) (show 0≤2000 * zcp b + b.len by omega);omega
theorem wrap_id (x:Int) (h1:-9223372036854775808≤x) (h2:x≤9223372036854775807):IntKind.i64.wrap x = x:=by
 simp [IntKind.wrap,IntKind.bits,IntKind.signed]; omega
theorem fill_any (S:Nat→Prop) (v:Value) (L:List BitsL) (w:World) (h:BitsVec w S v L) (hi:∀ b∈L,InI b.len) (hw:∀ b∈L,zap b = true→zg4 b.words) (hn:L.length≤1000000) :
  Calls prog 73 #[v] w fun e w'=>e = .returned (.int .i64 (zjf 0 L))∧Below w.heap.size w w':=by
 obtain ⟨a,cap,rfl⟩:=h.slice;have HV:=zjp h; have HI:=zjp hi; have HWd:=zjp hw;obtain ⟨F,hF⟩:∃ F,zjf 0 L = F:=⟨_,rfl⟩;rw [hF];have HF:=zjp hF;clear h hi hw hF;go_enter func73,ntmps73
 go_wp2_with fail
 go_loopw [3,8] (fun g t wr=>∃ (j:Nat) (gr:Int),t = .int .i64 j∧j≤L.length∧g = .int .i64 gr∧0≤gr∧gr≤2000000∧Hid (zjf gr (L.drop j) = F)∧Below w.heap.size w wr) (fun _ t _=>L.length - (intOf t).toNat)
 case atStart=>exact ⟨0,0,rfl,by omega,rfl,by omega,by omega,HF,Below.refl _ _⟩
 case round =>
  obtain ⟨j,gr,rfl,hj,rfl,hg0,hg1,HT,hbw⟩:=hrel;have HBw:=zjp hbw;by_cases hlt:j < L.length
  ·have hq:decide ((j:Int) < (L.length:Int)) = true:=by simp; omega
   have hji:(j:Int) < (L.length:Int):=by omega
   obtain ⟨b,off,⟨xl,xa,xn,xc⟩,rfl,lb,c0,c1,hat⟩:=(HV.out.below hbw).at j hlt;dsimp only at c0 c1;rw [za5 _ _ hlt] at hat;have hin:=HI.out _ (List.getElem_mem hlt);have hwd:=HWd.out _ (List.getElem_mem hlt);have hT:=HT.out;rw [List.drop_eq_getElem_cons hlt] at hT;obtain ⟨x,hx⟩:∃ x,L[j] = x:=⟨_,rfl⟩;rw [hx] at hat hin hT hwd;have hT2:zjf (if zap x = true then max gr (fillB x) else gr) (L.drop (j + 1)) = F:=hT
   have hxl:xl = x.len:=by
    obtain ⟨sx,es,-⟩:=hat;have es2:xl = x.len∧sx = .slice xa xn xc:=by simpa [eq_comm] using es
    exact es2.1
   have HT2:=zjp hT2; have HAt:=zjp hat; have HIn:=zjp hin; have HXl:=zjp hxl; have HW1:=zjp hwd;clear hT hT2 hat hin hx HT hbw hxl hwd;go_wp2_with fail
   refine zai (fun W1 hW1=>?_)
   have b1:=xal hW1
   have gx1:W1.heap[wr.heap.size]? = some (.cells #[.int .i64 xl,.slice xa xn xc] 56 (0,0)):=by rw [hW1]; exact zac rfl
   clear hW1;refine (zfk S _ x _ (HAt.out.below b1) HIn.out.1 HIn.out.2).mono ?_;obtain ⟨vx,hvx⟩:∃ vx,zap x = vx:=⟨_,rfl⟩;rw [hvx] at HT2 ⊢;have HVx:=zjp hvx;rintro e w2 ⟨rfl,hb2⟩;have b2:=b1.trans (hb2.mono b1.size);have gx2:=zab hb2 (zaa gx1) gx1;obtain ⟨X,hX⟩:∃ X,wr.heap.size = X:=⟨_,rfl⟩;rw [hX] at gx2 ⊢;have HB2:=zjp (HBw.out.trans (b2.mono HBw.out.size)); have HGx:=zjp gx2;have HAt2:=zjp (HAt.out.below b2);have lX:=zaa gx2;clear b1 gx1 hvx hb2 b2 gx2 c0 c1 hX;cases vx
   ·have HT3:=zjp (show zjf gr (L.drop (j + 1)) = F by have:=HT2.out; simpa using this)
    clear HT2;go_wp2_with fail
    go_roundw
    case rel=>exact ⟨j + 1,gr,by go_num,by omega,rfl,hg0,hg1,HT3,HB2.out⟩
    case measure=>simp [intOf]; omega
   ·have HT3:=zjp (show zjf (max gr (fillB x)) (L.drop (j + 1)) = F by have:=HT2.out; simpa using this)
    clear HT2;have h8:64≤xl∧xl≤512:=by have:=(zcs HVx.out).1; rw [← HXl.out] at this; exact this.2
    have hcb:=zjl x;have hfb:=fillB_bd HVx.out;have hfe:(2000 * zcp x + xl).tdiv (2 * xl) = fillB x:=by rw [HXl.out]; rfl
    obtain ⟨c,hc⟩:∃ c,zcp x = c:=⟨_,rfl⟩;obtain ⟨fb,hfb2⟩:∃ fb,fillB x = fb:=⟨_,rfl⟩;have hcnt:=bcount_any S _ x w2.drew (HAt2.out.below ((Below.refl _ _).drew)) HIn.out.1 HIn.out.2 HW1.out;rw [hc] at hcnt hcb hfe;rw [hfb2] at hfb hfe HT3;have HCnt:=zjp hcnt;have e1:=wrap_id (2000 * c) (by omega) (by omega);have e2:=wrap_id (2000 * c + xl) (by omega) (by omega);have e3:=wrap_id (2 * xl) (by omega) (by omega);have e4:=wrap_id fb (by omega) (by omega);have hxl0:¬ 2 * xl = 0:=by omega
    have hxl1:¬ xl = 0:=by omega
    obtain ⟨x0,x1⟩:=zae HGx.out;clear hcnt hc hfb2;go_wp2_with fail
    refine wp_region_noPanic ?_
    refine wp_region_held_drew (S:=(fun w'=>w'.cell? ⟨X,0,none⟩ = some (.int .i64 xl)∧w'.cell? ⟨X,1,none⟩ = some (.slice xa xn xc))) (by kernel_rfl) (⟨x0,x1⟩) (fun hHeld=>?_)
    refine tH 0 (h:=?_);refine tH 1 (h:=?_);refine tH 4 (h:=?_);refine tH 5 (h:=?_);refine tH 7 (h:=?_);refine tH 8 (h:=?_);refine tH 9 (h:=?_);refine wpAnyH_ready (rs:=[2]) (by kernel_rfl) (by simp) ?_
    refine AllReadyH.cons rfl (fun K hK=>?_) AllReadyH.nil
    go_simp;refine HCnt.out.mono ?_; rintro e w3 ⟨rfl,hb3⟩; have b3:Below w2.heap.size w2 w3:=(Below.refl _ _).drew.trans hb3; have HB3:=zjp b3; clear hb3 b3
    refine hK.out _ _ (⟨(HB3.out.cell (p:=⟨X,0,none⟩) lX).trans x0,(HB3.out.cell (p:=⟨X,1,none⟩) lX).trans x1⟩) (fun hHeld=>?_)
    clear hK K;refine tH 3 (h:=?_);refine tH 6 (h:=?_);refine tH 10 (h:=?_);refine wpAnyH_ready (rs:=[11]) (by kernel_rfl) (by simp) ?_
    refine AllReadyH.cons rfl (fun K hK=>?_) AllReadyH.nil
    go_simp;skip
    refine hK.out _ _ (⟨(HB3.out.cell (p:=⟨X,0,none⟩) lX).trans x0,(HB3.out.cell (p:=⟨X,1,none⟩) lX).trans x1⟩) (fun hHeld=>?_)
    clear hK K;refine wpAnyH_ready (rs:=[12]) (by kernel_rfl) (by simp) ?_
    refine AllReadyH.cons rfl (fun K hK=>?_) AllReadyH.nil
    go_simp;skip
    refine hK.out _ _ (⟨(HB3.out.cell (p:=⟨X,0,none⟩) lX).trans x0,(HB3.out.cell (p:=⟨X,1,none⟩) lX).trans x1⟩) (fun hHeld=>?_)
    clear hK K;refine wpAnyH_done (by kernel_rfl) ?_ _;refine NoPanic.normal ?_;go_wp2_with fail
    go_roundw
    case rel=>exact ⟨j + 1,max gr fb,by go_num,by omega,rfl,by omega,by omega,HT3,HB2.out.trans (HB3.out.mono HB2.out.size)⟩
    case measure=>simp [intOf]; omega
  ·have hq:decide ((j:Int) < (L.length:Int)) = false:=by simp; omega
   have hT:=HT.out;rw [List.drop_eq_nil_of_le (by omega)] at hT;have HT2:=zjp (show Ending.returned (.int .i64 gr) = Ending.returned (.int .i64 F) by rw [show gr = F from hT]);clear HT hT;go_wp2_with fail
   go_ret;exact ⟨HT2.out,HBw.out⟩
end
section
open Go.RowKit
structure Ex where
 f:Int
 u:Int
 h:Int
 c:Int
 i:Int
def Ex.cells (x:Ex):List Value:=[.int .i64 x.f,.int .i64 x.u,.int .i64 x.h,.int .i64 x.c,.int .i64 x.i]
def Ex.val (x:Ex):Value:=.agg #[.int .i64 x.f,.int .i64 x.u,.int .i64 x.h,.int .i64 x.c,.int .i64 x.i]
def Ex.inB (x:Ex):Prop:=(0≤x.u∧x.u≤64)∧(0≤x.h∧x.h≤64)∧(0≤x.c∧x.c≤512)∧(0≤x.i∧x.i≤1000)
def Ex.ok (k:Int) (x:Ex):Prop:=x.f = k∧x.inB
instance (x:Ex):Decidable x.inB:=by unfold Ex.inB; infer_instance
instance (k:Int) (x:Ex):Decidable (x.ok k):=by unfold Ex.ok; infer_instance
def Ex.le (x y:Ex):Prop:=x.u≤y.u∧x.h≤y.h∧x.c≤y.c∧x.i≤y.i
instance (x y:Ex):Decidable (x.le y):=by unfold Ex.le; infer_instance
def okAll:Nat→List Ex→Prop
 | _,[]=>True
 | k,x :: l=>x.ok k∧okAll (k + 1) l
instance okAllDec:(k:Nat)→(l:List Ex)→Decidable (okAll k l)
 | _,[]=>isTrue trivial
 | k,x :: l=>@instDecidableAnd _ _ _ (okAllDec (k + 1) l)
theorem okAll_iff (l:List Ex):∀ k,okAll k l ↔ ∀ j,(h:j < l.length)→(l[j]).ok ((k + j:Nat):Int):=by
 induction l with
 | nil=>intro k; simp [okAll]
 | cons x l ih =>
  intro k;simp only [okAll,ih,List.length_cons];constructor
  ·rintro ⟨h1,h2⟩ j hj
   cases j with
   | zero=>simpa using h1
   | succ j=>have:=h2 j (by omega); simpa [Nat.add_assoc,Nat.add_comm 1 j] using this
  ·intro h
   refine ⟨by simpa using h 0 (by omega),fun j hj=>?_⟩
   have:=h (j + 1) (by omega);simpa [Nat.add_assoc,Nat.add_comm 1 j] using this
def chkE (l:List Ex):Int:=if 1≤l.length∧l.length≤5 then (if okAll 0 l then 0 else 2) else 8
def leAll:List Ex→List Ex→Prop
 | x :: l,y :: r=>x.le y∧leAll l r
 | _,_=>True
instance leAllDec:(l r:List Ex)→Decidable (leAll l r)
 | x :: l,y :: r=>@instDecidableAnd _ _ _ (leAllDec l r)
 | [],[]=>isTrue trivial
 | [],_ :: _=>isTrue trivial
 | _ :: _,[]=>isTrue trivial
theorem leAll_iff (l:List Ex):∀ r,leAll l r ↔ ∀ j,(h:j < l.length)→(h':j < r.length)→(l[j]).le r[j]:=by
 induction l with
 | nil=>intro r; simp [leAll]
 | cons x l ih =>
  intro r;cases r with
  | nil=>simp [leAll]
  | cons y r =>
   simp only [leAll,ih,List.length_cons];constructor
   ·rintro ⟨h1,h2⟩ j hj hj'
    cases j with
    | zero=>simpa using h1
    | succ j=>have:=h2 j (by omega) (by omega); simpa using this
   ·intro h
    refine ⟨by simpa using h 0 (by omega) (by omega),fun j hj hj'=>?_⟩
    have:=h (j + 1) (by omega) (by omega);simpa using this
def zfb (a b:List Ex):Int:=if chkE a≠0 then chkE a else if chkE b≠0 then chkE b else if a.length≠b.length then 8 else 0
def admitE (b l:List Ex):Int:=if zfb b l≠0 then zfb b l else if leAll l b then 0 else 11
def Ex.max2 (k:Int) (x y:Ex):Ex:=⟨k,max x.u y.u,max x.h y.h,max x.c y.c,max x.i y.i⟩
def ze7:Nat→List Ex→List Ex→List Ex
 | k,x :: l,y :: r=>Ex.max2 k x y :: ze7 (k + 1) l r
 | _,_,_=>[]
theorem zhw (l:List Ex):∀ k r,l.length = r.length→(ze7 k l r).length = l.length:=by
 induction l with
 | nil=>intro k r h; simp [ze7]
 | cons x l ih =>
  intro k r h;cases r with
  | nil=>simp at h
  | cons y r=>simp [ze7,ih (k + 1) r (by simpa using h)]
theorem maxAll_get (l:List Ex):∀ k r,(hl:l.length = r.length)→∀ j,(h:j < l.length)→(h':j < r.length)→(h2:j < (ze7 k l r).length)→(ze7 k l r)[j] = Ex.max2 ((k + j:Nat):Int) l[j] r[j]:=by
 induction l with
 | nil=>intro k r hl j h; simp at h
 | cons x l ih =>
  intro k r hl j h h' h2;cases r with
  | nil=>simp at hl
  | cons y r =>
   cases j with
   | zero=>simp [ze7]
   | succ j =>
    simp only [ze7,List.getElem_cons_succ];rw [ih (k + 1) r (by simpa using hl) j (by simpa using h) (by simpa using h')];congr 1; omega
def regE (a l:List Ex):List Ex:=if a.length = 0 then l else a
def enterE (a l:List Ex):Int:=zfb (regE a l) l
end
section
open Go.RowKit
theorem idx4 {k:Int} {cs:Array Value} {v:Value} (h0:0≤k) (h1:k < 4) (hv:cs[k.toNat]? = some v) (w:World) :
  (Instr.index 99 (.agg cs) (.int .i64 k)).run prog w = .ok v w :=
 ziu underlying99 (by kernel_rfl) sz3 h0 h1 hv w
theorem zea (x:Ex) (w:World) :
  Calls prog 45 #[.agg #[.int .i64 x.f,.int .i64 x.u,.int .i64 x.h,.int .i64 x.c,.int .i64 x.i]] w fun e w'=>e = .returned (.agg #[.int .i64 x.u,.int .i64 x.h,.int .i64 x.c,.int .i64 x.i])∧Below w.heap.size w w':=by
 obtain ⟨f,u,h,c,i⟩:=x;go_enter func45,ntmps45
 go_wp2
 exact za4 rfl rfl (zac (by simp)) underlying99 rfl rfl ⟨rfl,((Below.refl _ _).alloc xnl _).alloc (by simp) _⟩
theorem most_any (w:World) :
  Calls prog 47 #[] w fun e w'=>e = .returned (.agg #[.int .i64 64,.int .i64 64,.int .i64 512,.int .i64 1000])∧Below w.heap.size w w':=by
 go_enter func47,ntmps47
 go_wp2
 exact za4 rfl rfl (zac rfl) underlying99 rfl rfl ⟨rfl,(Below.refl _ _).alloc xnl _⟩
def le4 (b0 b1 b2 b3 n0 n1 n2 n3:Int):Bool:=decide (n0≤b0∧n1≤b1∧n2≤b2∧n3≤b3)
theorem zh9 (b0 b1 b2 b3 n0 n1 n2 n3 : Int) (w : World) :
    Calls prog 46 #[.agg #[.int .i64 b0, .int .i64 b1, .int .i64 b2, .int .i64 b3], .agg #[.int .i64 n0, .int .i64 n1, .int .i64 n2, .int .i64 n3]] w fun e w' => e = .returned (.bool (le4 b0 b1 b2 b3 n0 n1 n2 n3)) ∧ Below w.heap.size w w' := by
  have i0 := fun cs v hv w => @idx4 0 cs v (by decide) (by decide) hv w
  have i1 := fun cs v hv w => @idx4 1 cs v (by decide) (by decide) hv w
  have i2 := fun cs v hv w => @idx4 2 cs v (by decide) (by decide) hv w
  have i3 := fun cs v hv w => @idx4 3 cs v (by decide) (by decide) hv w
  go_enter func46, ntmps46
  go_wp2
  go_loop [8] (fun i => ∃ k : Nat, k ≤ 4 ∧ i = .int .i64 k ∧ (1 ≤ k → n0 ≤ b0) ∧ (2 ≤ k → n1 ≤ b1) ∧ (3 ≤ k → n2 ≤ b2) ∧ (4 ≤ k → n3 ≤ b3)) (fun i => 4 - (intOf i).toNat)
  case atStart => exact ⟨0, by omega, rfl, by omega, by omega, by omega, by omega⟩
  case round =>
    obtain ⟨k, hk, rfl, h1, h2, h3, h4⟩ := hrel
    have : k = 0 ∨ k = 1 ∨ k = 2 ∨ k = 3 ∨ k = 4 := by omega
    rcases this with rfl | rfl | rfl | rfl | rfl
    all_goals
      have H1 := zjp h1; clear h1
      have H2 := zjp h2; clear h2
      have H3 := zjp h3; clear h3
      have H4 := zjp h4; clear h4
      go_wp2
    all_goals have h1 := H1.out; have h2 := H2.out; have h3 := H3.out; have h4 := H4.out; clear H1 H2 H3 H4
    all_goals
      first
      | (go_ret
         exact ⟨zaw (by simp [le4]; omega), ((Below.refl _ _).alloc xnl _).alloc (by simp) _⟩)
      | (go_round
         case rel => first | exact ⟨1, by omega, rfl, by omega, by omega, by omega, by omega⟩ | exact ⟨2, by omega, rfl, by omega, by omega, by omega, by omega⟩ | exact ⟨3, by omega, rfl, by omega, by omega, by omega, by omega⟩ | exact ⟨4, by omega, rfl, by omega, by omega, by omega, by omega⟩
         case measure => simp [intOf])
end
section
open Go.RowKit
def zgo (l:List Ex):List Value:=l.flatMap Ex.cells
theorem exFlat_get (l:List Ex):∀ k,(h:k < l.length)→((zgo l).drop (k * 5)).take 5 = (l[k]).cells:=by
 induction l with
 | nil=>intro k h; simp at h
 | cons x l ih =>
  intro k h;have e:zgo (x :: l) = x.cells ++ zgo l:=rfl;have hx:x.cells.length = 5:=rfl;cases k with
  | zero=>rw [e]; simp [Ex.cells]
  | succ k =>
   rw [e,show (k + 1) * 5 = 5 + k * 5 by omega,← List.drop_drop,List.drop_append_of_le_length (by rw [hx]; omega)];have:x.cells.drop 5 = []:=rfl;rw [this,List.nil_append];exact ih k (by simpa using h)
def ExRow (w:World) (S:Nat→Prop) (v:Value) (l:List Ex):Prop:=Row w S 5 v l.length (zgo l)
theorem ExRow.get {w:World} {S:Nat→Prop} {a:Option Addr} {n cap:Nat} {l:List Ex} (h:ExRow w S (.slice a n cap) l) (k:Nat) (hk:k < l.length) :
  ∃ b off,a = some ⟨b,off,none⟩∧b < w.heap.size∧w.cell? ⟨b,off + k * 5,none⟩ = some (.int .i64 (l[k]).f)∧w.cell? ⟨b,off + k * 5 + 1,none⟩ = some (.int .i64 (l[k]).u)∧w.cell? ⟨b,off + k * 5 + 2,none⟩ = some (.int .i64 (l[k]).h)∧w.cell? ⟨b,off + k * 5 + 3,none⟩ = some (.int .i64 (l[k]).c)∧w.cell? ⟨b,off + k * 5 + 4,none⟩ = some (.int .i64 (l[k]).i):=by
 obtain ⟨a',cap',h1,h2,h3⟩:=h;cases h1;exact Row.five (cap:=cap) ⟨a,cap,rfl,h2,h3⟩ k hk _ _ _ _ _ (exFlat_get l k hk)
theorem ExRow.len {w:World} {S:Nat→Prop} {a:Option Addr} {n cap:Nat} {l:List Ex} (h:ExRow w S (.slice a n cap) l):n = l.length:=by
 obtain ⟨a',cap',h1,h2,h3⟩:=h;cases h1; rfl
theorem ok_le4 (k:Int) (x:Ex):x.ok k ↔ (x.f = k∧le4 64 64 512 1000 x.u x.h x.c x.i = true∧le4 x.u x.h x.c x.i 0 0 0 0 = true):=by
 unfold Ex.ok Ex.inB le4; simp; omega
theorem zh2 (a:Option Addr) (n cap:Nat) (l:List Ex) (w:World) (hl:ExRow w (All w) (.slice a n cap) l) (hn:n≤1000000) :
  Calls prog 17 #[.slice a n cap] w fun e w'=>e = .returned (.int .i64 (chkE l))∧Below w.heap.size w w':=by
 have e:=hl.len;subst e;by_cases h1:1≤l.length∧l.length≤5
 ·obtain ⟨h1,h5⟩:=h1
  have HL:=zjp hl; clear hl;have g1:((l.length:Int) < 1) = False:=by simp; omega
  have g2:(5 < (l.length:Int)) = False:=by simp; omega
  go_enter func17,ntmps17
  go_wp2_with fail
  clear g1 g2;go_loopw [16] (fun i wr=>∃ k:Nat,k≤l.length∧i = .int .i64 k∧Hid (∀ j,(h:j < l.length)→j < k→(l[j]).ok (j:Int))∧Below w.heap.size w wr) (fun i _=>l.length - (intOf i).toNat)
  case atStart=>exact ⟨0,by omega,rfl,fun j _ h=>by omega,Below.refl _ _⟩
  case round =>
   obtain ⟨k,hk,rfl,HO,hb⟩:=hrel;by_cases hlt:k < l.length
   ·obtain ⟨b,off,rfl,hbw,c0,c1,c2,c3,c4⟩:=HL.out.get k hlt
    have d0:=(hb.cell (p:=⟨b,off + k * 5,none⟩) hbw).trans c0;have d1:=(hb.cell (p:=⟨b,off + k * 5 + 1,none⟩) hbw).trans c1;have d2:=(hb.cell (p:=⟨b,off + k * 5 + 2,none⟩) hbw).trans c2;have d3:=(hb.cell (p:=⟨b,off + k * 5 + 3,none⟩) hbw).trans c3;have d4:=(hb.cell (p:=⟨b,off + k * 5 + 4,none⟩) hbw).trans c4;clear c0 c1 c2 c3 c4;have HB:=zjp hb; clear hb;generalize hx:l[k] = x at *;have HX:=zjp hx; clear hx;go_wp2_with fail
    refine (zea x _).mono ?_; rintro e w1 ⟨rfl,hb1⟩;have X1:=zjp (zab (b:=wr.heap.size) hb1 (by simp) (zac rfl)); have zX:=zaa X1.out;have HB1:=zjp ((HB.out.alloc HB.out.size _).trans (hb1.mono (by have:=HB.out.size; simp; omega)));clear hb1 HB d0 d1 d2 d3 d4;go_wp2_with fail
    refine zam (fun wV hV=>?_)
    have f0:wV.cell? ⟨wr.heap.size,0,none⟩ = some (.int .i64 x.f):=(cell_of_row _ _ _ _ _ _ (show wV.heap[wr.heap.size]? = some (.cells #[.int .i64 x.f,.int .i64 x.u,.int .i64 x.h,.int .i64 x.c,.int .i64 x.i] 61 (0,0)) by rw [hV]; exact zaf X1.out)).trans rfl;have NV:=zjp (show wV.heap[w1.heap.size]? = some (.cells #[.int .i64 x.u,.int .i64 x.h,.int .i64 x.c,.int .i64 x.i] 99 (0,0)) by rw [hV]; exact zac rfl);have n0:wV.cell? ⟨w1.heap.size,0,none⟩ = some (.int .i64 x.u):=(cell_of_row _ _ _ _ _ _ NV.out).trans rfl;have n1:wV.cell? ⟨w1.heap.size,1,none⟩ = some (.int .i64 x.h):=(cell_of_row _ _ _ _ _ _ NV.out).trans rfl;have n2:wV.cell? ⟨w1.heap.size,2,none⟩ = some (.int .i64 x.c):=(cell_of_row _ _ _ _ _ _ NV.out).trans rfl;have n3:wV.cell? ⟨w1.heap.size,3,none⟩ = some (.int .i64 x.i):=(cell_of_row _ _ _ _ _ _ NV.out).trans rfl;have HV:=zjp (show Below w.heap.size w wV by rw [hV]; exact HB1.out.alloc HB1.out.size _);have zV:w1.heap.size < wV.heap.size:=zaa NV.out;have zW:wr.heap.size < wV.heap.size:=by omega
    clear hV HB1 X1 NV;have K1:=fun w=>zjp (zh9 64 64 512 1000 x.u x.h x.c x.i w)
    have K2:=fun w=>zjp (zh9 x.u x.h x.c x.i 0 0 0 0 w)
    have hok:=ok_le4 (k:Int) x
    have bad:¬ x.ok (k:Int)→chkE l = 2:=by
     intro hbad;rw [chkE,if_pos ⟨h1,h5⟩,if_neg];rw [okAll_iff];intro h;have:=h k hlt;rw [HX.out,Nat.zero_add] at this;exact hbad this
    by_cases q0:x.f = (k:Int)
    ·have t1:(x.f == (k:Int)) = true:=by simpa using q0
     have t2:(x.f != (k:Int)) = false:=by simpa using q0
     cases q1:le4 64 64 512 1000 x.u x.h x.c x.i
     ·have HC:=zjp (bad (by rw [hok]; simp [q1]))
      simp only [q1] at K1;clear bad hok q0 q1;refine wp_region_noPanic ?_
      refine wp_region_held_drew (S:=(fun w'=>w'.cell? ⟨wr.heap.size,0,none⟩ = some (.int .i64 x.f)∧w'.cell? ⟨w1.heap.size,0,none⟩ = some (.int .i64 x.u)∧w'.cell? ⟨w1.heap.size,1,none⟩ = some (.int .i64 x.h)∧w'.cell? ⟨w1.heap.size,2,none⟩ = some (.int .i64 x.c)∧w'.cell? ⟨w1.heap.size,3,none⟩ = some (.int .i64 x.i))) (by kernel_rfl) (⟨f0,n0,n1,n2,n3⟩) (fun hHeld=>?_)
      refine tH 0 (h:=?_);refine tH 1 (h:=?_);refine tH 2 (h:=?_);refine tH 3 (h:=?_);refine tH 4 (h:=?_);refine tH 6 (h:=?_);refine wpAnyH_ready (rs:=[5]) (by kernel_rfl) (by simp) ?_
      refine AllReadyH.cons rfl (fun K hK=>?_) AllReadyH.nil
      go_simp;refine (most_any _).mono ?_; rintro e w2 ⟨rfl,hb2⟩; have f0a:=(hb2.cell (p:=⟨wr.heap.size,0,none⟩) zW).trans f0; have n0a:=(hb2.cell (p:=⟨w1.heap.size,0,none⟩) zV).trans n0; have n1a:=(hb2.cell (p:=⟨w1.heap.size,1,none⟩) zV).trans n1; have n2a:=(hb2.cell (p:=⟨w1.heap.size,2,none⟩) zV).trans n2; have n3a:=(hb2.cell (p:=⟨w1.heap.size,3,none⟩) zV).trans n3; have H2:=zjp (HV.out.drew.trans (hb2.mono HV.out.size)); have zV2:w1.heap.size < w2.heap.size:=Nat.lt_of_lt_of_le zV hb2.size; have zW2:wr.heap.size < w2.heap.size:=Nat.lt_of_lt_of_le zW hb2.size
      refine hK.out _ _ (⟨f0a,n0a,n1a,n2a,n3a⟩) (fun hHeld=>?_)
      clear hK K;refine wpAnyH_ready (rs:=[7]) (by kernel_rfl) (by simp) ?_
      refine AllReadyH.cons rfl (fun K hK=>?_) AllReadyH.nil
      go_simp;refine (K1 _).out.mono ?_; rintro e w3 ⟨rfl,hb3⟩; have f0b:=(hb3.cell (p:=⟨wr.heap.size,0,none⟩) zW2).trans f0a; have n0b:=(hb3.cell (p:=⟨w1.heap.size,0,none⟩) zV2).trans n0a; have n1b:=(hb3.cell (p:=⟨w1.heap.size,1,none⟩) zV2).trans n1a; have n2b:=(hb3.cell (p:=⟨w1.heap.size,2,none⟩) zV2).trans n2a; have n3b:=(hb3.cell (p:=⟨w1.heap.size,3,none⟩) zV2).trans n3a; have H3:=zjp (H2.out.trans (hb3.mono H2.out.size)); have zV3:w1.heap.size < w3.heap.size:=Nat.lt_of_lt_of_le zV2 hb3.size; have zW3:wr.heap.size < w3.heap.size:=Nat.lt_of_lt_of_le zW2 hb3.size
      refine hK.out _ _ (⟨f0b,n0b,n1b,n2b,n3b⟩) (fun hHeld=>?_)
      clear hK K;refine tH 8 (h:=?_);refine tH 9 (h:=?_);refine tH 10 (h:=?_);refine sH 11 (h:=?_);refine sH 12 (h:=?_);refine sH 13 (h:=?_);refine sH 14 (h:=?_);refine tH 15 (h:=?_);refine wpAnyH_done (by kernel_rfl) ?_ _;refine NoPanic.normal ?_;go_wp2_with fail
      go_ret;exact ⟨by rw [HC.out]; rfl,H3.out⟩
     ·cases q2:le4 x.u x.h x.c x.i 0 0 0 0
      all_goals
       have HC:=zjp (show (le4 x.u x.h x.c x.i 0 0 0 0 = true→x.ok (k:Int))∧(le4 x.u x.h x.c x.i 0 0 0 0 = false→chkE l = 2) from ⟨fun h=>hok.2 ⟨q0,q1,h⟩,fun h=>bad (by rw [hok]; simp [h])⟩)
       simp only [q2,true_implies,false_implies,reduceCtorEq] at HC;simp only [q1] at K1;simp only [q2] at K2;clear bad hok q0 q1 q2;refine wp_region_noPanic ?_
       refine wp_region_held_drew (S:=(fun w'=>w'.cell? ⟨wr.heap.size,0,none⟩ = some (.int .i64 x.f)∧w'.cell? ⟨w1.heap.size,0,none⟩ = some (.int .i64 x.u)∧w'.cell? ⟨w1.heap.size,1,none⟩ = some (.int .i64 x.h)∧w'.cell? ⟨w1.heap.size,2,none⟩ = some (.int .i64 x.c)∧w'.cell? ⟨w1.heap.size,3,none⟩ = some (.int .i64 x.i))) (by kernel_rfl) (⟨f0,n0,n1,n2,n3⟩) (fun hHeld=>?_)
       refine tH 0 (h:=?_);refine tH 1 (h:=?_);refine tH 2 (h:=?_);refine tH 3 (h:=?_);refine tH 4 (h:=?_);refine tH 6 (h:=?_);refine wpAnyH_ready (rs:=[5]) (by kernel_rfl) (by simp) ?_
       refine AllReadyH.cons rfl (fun K hK=>?_) AllReadyH.nil
       go_simp;refine (most_any _).mono ?_; rintro e w2 ⟨rfl,hb2⟩; have f0a:=(hb2.cell (p:=⟨wr.heap.size,0,none⟩) zW).trans f0; have n0a:=(hb2.cell (p:=⟨w1.heap.size,0,none⟩) zV).trans n0; have n1a:=(hb2.cell (p:=⟨w1.heap.size,1,none⟩) zV).trans n1; have n2a:=(hb2.cell (p:=⟨w1.heap.size,2,none⟩) zV).trans n2; have n3a:=(hb2.cell (p:=⟨w1.heap.size,3,none⟩) zV).trans n3; have H2:=zjp (HV.out.drew.trans (hb2.mono HV.out.size)); have zV2:w1.heap.size < w2.heap.size:=Nat.lt_of_lt_of_le zV hb2.size; have zW2:wr.heap.size < w2.heap.size:=Nat.lt_of_lt_of_le zW hb2.size
       refine hK.out _ _ (⟨f0a,n0a,n1a,n2a,n3a⟩) (fun hHeld=>?_)
       clear hK K;refine wpAnyH_ready (rs:=[7]) (by kernel_rfl) (by simp) ?_
       refine AllReadyH.cons rfl (fun K hK=>?_) AllReadyH.nil
       go_simp;refine (K1 _).out.mono ?_; rintro e w3 ⟨rfl,hb3⟩; have f0b:=(hb3.cell (p:=⟨wr.heap.size,0,none⟩) zW2).trans f0a; have n0b:=(hb3.cell (p:=⟨w1.heap.size,0,none⟩) zV2).trans n0a; have n1b:=(hb3.cell (p:=⟨w1.heap.size,1,none⟩) zV2).trans n1a; have n2b:=(hb3.cell (p:=⟨w1.heap.size,2,none⟩) zV2).trans n2a; have n3b:=(hb3.cell (p:=⟨w1.heap.size,3,none⟩) zV2).trans n3a; have H3:=zjp (H2.out.trans (hb3.mono H2.out.size)); have zV3:w1.heap.size < w3.heap.size:=Nat.lt_of_lt_of_le zV2 hb3.size; have zW3:wr.heap.size < w3.heap.size:=Nat.lt_of_lt_of_le zW2 hb3.size
       refine hK.out _ _ (⟨f0b,n0b,n1b,n2b,n3b⟩) (fun hHeld=>?_)
       clear hK K;refine tH 8 (h:=?_);refine tH 9 (h:=?_);refine tH 10 (h:=?_);refine tH 11 (h:=?_);refine tH 12 (h:=?_);refine wpAnyH_ready (rs:=[13]) (by kernel_rfl) (by simp) ?_
       refine AllReadyH.cons rfl (fun K hK=>?_) AllReadyH.nil
       go_simp;refine (K2 _).out.mono ?_; rintro e w4 ⟨rfl,hb4⟩; have f0c:=(hb4.cell (p:=⟨wr.heap.size,0,none⟩) zW3).trans f0b; have n0c:=(hb4.cell (p:=⟨w1.heap.size,0,none⟩) zV3).trans n0b; have n1c:=(hb4.cell (p:=⟨w1.heap.size,1,none⟩) zV3).trans n1b; have n2c:=(hb4.cell (p:=⟨w1.heap.size,2,none⟩) zV3).trans n2b; have n3c:=(hb4.cell (p:=⟨w1.heap.size,3,none⟩) zV3).trans n3b; have H4:=zjp (H3.out.trans (hb4.mono H3.out.size))
       refine hK.out _ _ (⟨f0c,n0c,n1c,n2c,n3c⟩) (fun hHeld=>?_)
       clear hK K;refine tH 14 (h:=?_);refine tH 15 (h:=?_);refine wpAnyH_done (by kernel_rfl) ?_ _;refine NoPanic.normal ?_;go_wp2_with fail
      ·go_ret
       exact ⟨by rw [HC.out.2]; rfl,H4.out⟩
      ·go_roundw
       case rel=>exact ⟨k + 1,by omega,by go_num,fun j hj hj'=>by
        rcases Nat.lt_or_ge j k with hjk | hjk
        ·exact HO.out j hj hjk
        ·obtain rfl:j = k:=by omega
         rw [HX.out]; exact HC.out.1,H4.out⟩
       case measure=>simp [intOf]; omega
    ·have t1:(x.f == (k:Int)) = false:=by simpa using q0
     have t2:(x.f != (k:Int)) = true:=by simpa using q0
     have HC:=zjp (bad (by rw [hok]; simp [q0]));clear bad hok q0 K1 K2;refine wp_region_noPanic ?_
     refine wp_region_held_drew (S:=(fun w'=>w'.cell? ⟨wr.heap.size,0,none⟩ = some (.int .i64 x.f)∧w'.cell? ⟨w1.heap.size,0,none⟩ = some (.int .i64 x.u)∧w'.cell? ⟨w1.heap.size,1,none⟩ = some (.int .i64 x.h)∧w'.cell? ⟨w1.heap.size,2,none⟩ = some (.int .i64 x.c)∧w'.cell? ⟨w1.heap.size,3,none⟩ = some (.int .i64 x.i))) (by kernel_rfl) (⟨f0,n0,n1,n2,n3⟩) (fun hHeld=>?_)
     refine tH 0 (h:=?_);refine tH 1 (h:=?_);refine tH 2 (h:=?_);refine tH 3 (h:=?_);refine tH 4 (h:=?_);refine sH 5 (h:=?_);refine sH 6 (h:=?_);refine sH 7 (h:=?_);refine sH 8 (h:=?_);refine tH 9 (h:=?_);refine tH 10 (h:=?_);refine sH 11 (h:=?_);refine sH 12 (h:=?_);refine sH 13 (h:=?_);refine sH 14 (h:=?_);refine tH 15 (h:=?_);refine wpAnyH_done (by kernel_rfl) ?_ _;refine NoPanic.normal ?_;go_wp2_with fail
     go_ret;exact ⟨by rw [HC.out]; rfl,HV.out.drew⟩
   ·go_wp2
    go_ret
    have hall:okAll 0 l:=by
     rw [okAll_iff];intro j hj;rw [Nat.zero_add];exact HO.out j hj (by omega)
    exact ⟨by rw [chkE,if_pos ⟨h1,h5⟩,if_pos hall]; rfl,hb⟩
 ·have hc:chkE l = 8:=by rw [chkE,if_neg h1]
  rw [hc];clear hl hc;by_cases h0:l.length < 1
  ·have g1:(l.length:Int) < 1:=by omega
   go_enter func17,ntmps17
   go_wp2
   go_ret;exact ⟨rfl,Below.refl _ _⟩
  ·have g1:decide ((l.length:Int) < 1) = false:=by simp; omega
   have g2:(5:Int) < (l.length:Int):=by omega
   go_enter func17,ntmps17
   go_wp2
   go_ret;exact ⟨rfl,Below.refl _ _⟩
end
section
open Go.RowKit
theorem ExRow.below {w w':World} {v:Value} {l:List Ex} (h:ExRow w (All w) v l) (hb:Below w.heap.size w w'):ExRow w' (All w') v l:=Row.below h hb
theorem ExRow.val {w:World} {S:Nat→Prop} {v:Value} {l:List Ex} (h:ExRow w S v l):∃ a cap,v = .slice a l.length cap:=Row.slice h
theorem check2_any (u v:Value) (a b:List Ex) (w:World) (ha:ExRow w (All w) u a) (hb:ExRow w (All w) v b) (na:a.length≤1000000) (nb:b.length≤1000000) :
  Calls prog 58 #[u,v] w fun e w'=>e = .returned (.int .i64 (zfb a b))∧Below w.heap.size w w':=by
 obtain ⟨ua,uc,rfl⟩:=ha.val;obtain ⟨va,vc,rfl⟩:=hb.val;have K1:=fun w h=>zjp (zh2 ua _ uc a w h na)
 have K2:=fun w h=>zjp (zh2 va _ vc b w h nb)
 have HA:=zjp ha; clear ha;have HB2:=zjp hb; clear hb;have HB:=zjp (Below.refl w.heap.size w);by_cases h1:chkE a = 0
 ·by_cases h2:chkE b = 0
  ·have hc:zfb a b = if a.length≠b.length then 8 else 0:=by simp [zfb,h1,h2]
   simp only [h1] at K1;simp only [h2] at K2;rw [hc]; clear h1 h2 hc;by_cases h3:a.length = b.length
   ·rw [if_neg (by simpa using h3)]
    have h3':((a.length:Int) == (b.length:Int)) = true:=by simp [h3]
    have h3'':((a.length:Int) != (b.length:Int)) = false:=by simp [h3]
    clear h3;go_enter func58,ntmps58
    go_wp2_with fail
    refine ((K1 _ HA.out).out).mono ?_; rintro e w1 ⟨rfl,hb⟩;have hx:=zjp (by first | exact HB.out.trans (hb.mono HB.out.size) | exact (HB.out.alloc HB.out.size _).trans (hb.mono (by have:=HB.out.size; first | omega | (simp; done) | (simp; omega))) | exact ((HB.out.alloc HB.out.size _).alloc (by have:=HB.out.size; first | omega | (simp; done) | (simp; omega)) _).trans (hb.mono (by have:=HB.out.size; first | omega | (simp; done) | (simp; omega))):Below w.heap.size w w1); clear HB hb; have HB:=hx; clear hx;go_wp2_with fail
    refine ((K2 _ (HB2.out.below HB.out)).out).mono ?_; rintro e w2 ⟨rfl,hb⟩;have hx:=zjp (by first | exact HB.out.trans (hb.mono HB.out.size) | exact (HB.out.alloc HB.out.size _).trans (hb.mono (by have:=HB.out.size; first | omega | (simp; done) | (simp; omega))) | exact ((HB.out.alloc HB.out.size _).alloc (by have:=HB.out.size; first | omega | (simp; done) | (simp; omega)) _).trans (hb.mono (by have:=HB.out.size; first | omega | (simp; done) | (simp; omega))):Below w.heap.size w w2); clear HB hb; have HB:=hx; clear hx;go_wp2_with fail
    go_ret;exact ⟨rfl,HB.out⟩
   ·rw [if_pos (by simpa using h3)]
    have h3':((a.length:Int) == (b.length:Int)) = false:=by simp; omega
    have h3'':((a.length:Int) != (b.length:Int)) = true:=by simp; omega
    clear h3;go_enter func58,ntmps58
    go_wp2_with fail
    refine ((K1 _ HA.out).out).mono ?_; rintro e w1 ⟨rfl,hb⟩;have hx:=zjp (by first | exact HB.out.trans (hb.mono HB.out.size) | exact (HB.out.alloc HB.out.size _).trans (hb.mono (by have:=HB.out.size; first | omega | (simp; done) | (simp; omega))) | exact ((HB.out.alloc HB.out.size _).alloc (by have:=HB.out.size; first | omega | (simp; done) | (simp; omega)) _).trans (hb.mono (by have:=HB.out.size; first | omega | (simp; done) | (simp; omega))):Below w.heap.size w w1); clear HB hb; have HB:=hx; clear hx;go_wp2_with fail
    refine ((K2 _ (HB2.out.below HB.out)).out).mono ?_; rintro e w2 ⟨rfl,hb⟩;have hx:=zjp (by first | exact HB.out.trans (hb.mono HB.out.size) | exact (HB.out.alloc HB.out.size _).trans (hb.mono (by have:=HB.out.size; first | omega | (simp; done) | (simp; omega))) | exact ((HB.out.alloc HB.out.size _).alloc (by have:=HB.out.size; first | omega | (simp; done) | (simp; omega)) _).trans (hb.mono (by have:=HB.out.size; first | omega | (simp; done) | (simp; omega))):Below w.heap.size w w2); clear HB hb; have HB:=hx; clear hx;go_wp2_with fail
    go_ret;exact ⟨rfl,HB.out⟩
  ·have hc:zfb a b = chkE b:=by simp [zfb,h1,h2]
   simp only [h1] at K1;rw [hc]; clear hc h1;generalize chkE b = c at *;have h2':((c:Int) == 0) = false:=by simpa using h2
   have h2'':((c:Int) != 0) = true:=by simpa using h2
   clear h2;go_enter func58,ntmps58
   go_wp2_with fail
   refine ((K1 _ HA.out).out).mono ?_; rintro e w1 ⟨rfl,hb⟩;have hx:=zjp (by first | exact HB.out.trans (hb.mono HB.out.size) | exact (HB.out.alloc HB.out.size _).trans (hb.mono (by have:=HB.out.size; first | omega | (simp; done) | (simp; omega))) | exact ((HB.out.alloc HB.out.size _).alloc (by have:=HB.out.size; first | omega | (simp; done) | (simp; omega)) _).trans (hb.mono (by have:=HB.out.size; first | omega | (simp; done) | (simp; omega))):Below w.heap.size w w1); clear HB hb; have HB:=hx; clear hx;go_wp2_with fail
   refine ((K2 _ (HB2.out.below HB.out)).out).mono ?_; rintro e w2 ⟨rfl,hb⟩;have hx:=zjp (by first | exact HB.out.trans (hb.mono HB.out.size) | exact (HB.out.alloc HB.out.size _).trans (hb.mono (by have:=HB.out.size; first | omega | (simp; done) | (simp; omega))) | exact ((HB.out.alloc HB.out.size _).alloc (by have:=HB.out.size; first | omega | (simp; done) | (simp; omega)) _).trans (hb.mono (by have:=HB.out.size; first | omega | (simp; done) | (simp; omega))):Below w.heap.size w w2); clear HB hb; have HB:=hx; clear hx;go_wp2_with fail
   go_ret;exact ⟨rfl,HB.out⟩
 ·have hc:zfb a b = chkE a:=by simp [zfb,h1]
  rw [hc]; clear hc;generalize chkE a = c at *;have h2':((c:Int) == 0) = false:=by simpa using h1
  have h2'':((c:Int) != 0) = true:=by simpa using h1
  clear h1;go_enter func58,ntmps58
  go_wp2_with fail
  refine ((K1 _ HA.out).out).mono ?_; rintro e w1 ⟨rfl,hb⟩;have hx:=zjp (by first | exact HB.out.trans (hb.mono HB.out.size) | exact (HB.out.alloc HB.out.size _).trans (hb.mono (by have:=HB.out.size; first | omega | (simp; done) | (simp; omega))) | exact ((HB.out.alloc HB.out.size _).alloc (by have:=HB.out.size; first | omega | (simp; done) | (simp; omega)) _).trans (hb.mono (by have:=HB.out.size; first | omega | (simp; done) | (simp; omega))):Below w.heap.size w w1); clear HB hb; have HB:=hx; clear hx;go_wp2_with fail
  go_ret;exact ⟨rfl,HB.out⟩
theorem check2_len {a b:List Ex} (h:zfb a b = 0):a.length = b.length∧a.length≤5∧1≤a.length:=by
 unfold zfb chkE at h;repeat' split at h
 all_goals first | omega | (simp_all; done) | (simp_all; omega)
theorem le_le4 (x y:Ex):le4 y.u y.h y.c y.i x.u x.h x.c x.i = decide (x.le y):=by unfold le4 Ex.le; rfl
theorem admit_any (u v:Value) (b l:List Ex) (w:World) (hu:ExRow w (All w) u b) (hl:ExRow w (All w) v l) (nb:b.length≤1000000) (nl:l.length≤1000000) :
  Calls prog 30 #[u,v] w fun e w'=>e = .returned (.int .i64 (admitE b l))∧Below w.heap.size w w':=by
 have KC:=fun w h1 h2=>zjp (check2_any u v b l w h1 h2 nb nl)
 obtain ⟨ua,uc,rfl⟩:=hu.val;obtain ⟨va,vc,rfl⟩:=hl.val;have HU:=zjp hu; clear hu;have HL:=zjp hl; clear hl;have HB:=zjp (Below.refl w.heap.size w);by_cases hc:zfb b l = 0
 ·obtain ⟨e1,e2,e3⟩:=check2_len hc
  have e1a:b.length≤l.length:=by omega
  have e1b:l.length≤b.length:=by omega
  clear e1;have ha:admitE b l = if leAll l b then 0 else 11:=by simp [admitE,hc]
  simp only [hc] at KC;have HA:=zjp ha; clear ha hc;go_enter func30,ntmps30
  go_wp2_with fail
  refine ((KC _ HU.out HL.out).out).mono ?_; rintro e w0 ⟨rfl,hb⟩;have hx:=zjp (by first | exact HB.out.trans (hb.mono HB.out.size) | exact (HB.out.alloc HB.out.size _).trans (hb.mono (by have:=HB.out.size; first | omega | (simp; done) | (simp; omega))) | exact ((HB.out.alloc HB.out.size _).alloc (by have:=HB.out.size; first | omega | (simp; done) | (simp; omega)) _).trans (hb.mono (by have:=HB.out.size; first | omega | (simp; done) | (simp; omega))):Below w.heap.size w w0); clear HB hb; have HB:=hx; clear hx;go_wp2_with fail
  go_loopw [16] (fun i wr=>∃ k:Nat,k≤l.length∧i = .int .i64 k∧Hid (∀ j,(h:j < l.length)→(h':j < b.length)→j < k→(l[j]).le b[j])∧Below w.heap.size w wr) (fun i _=>l.length - (intOf i).toNat)
  case atStart=>exact ⟨0,by omega,rfl,fun j _ _ h=>by omega,HB.out⟩
  case round =>
   obtain ⟨k,hk,rfl,HO,hb⟩:=hrel;clear HB;by_cases hlt:k < l.length
   ·have hltb:k < b.length:=by omega
    have hcap:(k:Int) < (b.length:Int):=by omega
    obtain ⟨bl,ol,rfl,hbw,c0,c1,c2,c3,c4⟩:=HL.out.get k hlt;obtain ⟨bb,ob,rfl,hbb,e0,e1,e2,e3,e4⟩:=HU.out.get k hltb;generalize hx:l[k] = x at *;generalize hy:b[k] = y at *;have d0:=(hb.cell (p:=⟨bl,ol + k * 5,none⟩) hbw).trans c0;have g0:=(hb.cell (p:=⟨bb,ob + k * 5,none⟩) hbb).trans e0;have d1:=(hb.cell (p:=⟨bl,ol + k * 5 + 1,none⟩) hbw).trans c1;have g1:=(hb.cell (p:=⟨bb,ob + k * 5 + 1,none⟩) hbb).trans e1;have d2:=(hb.cell (p:=⟨bl,ol + k * 5 + 2,none⟩) hbw).trans c2;have g2:=(hb.cell (p:=⟨bb,ob + k * 5 + 2,none⟩) hbb).trans e2;have d3:=(hb.cell (p:=⟨bl,ol + k * 5 + 3,none⟩) hbw).trans c3;have g3:=(hb.cell (p:=⟨bb,ob + k * 5 + 3,none⟩) hbb).trans e3;have d4:=(hb.cell (p:=⟨bl,ol + k * 5 + 4,none⟩) hbw).trans c4;have g4:=(hb.cell (p:=⟨bb,ob + k * 5 + 4,none⟩) hbb).trans e4;clear c0 c1 c2 c3 c4 e0 e1 e2 e3 e4;have HX:=zjp hx; have HY:=zjp hy; clear hx hy;have hz:=hb.size;have HB:=zjp hb; clear hb;have hbr:bb < wr.heap.size:=Nat.lt_of_lt_of_le hbb hz;go_wp2_with fail
    refine zam (fun wV hV=>?_)
    have HV:=zjp (show Below w.heap.size w wV by rw [hV]; exact HB.out.alloc HB.out.size _);have XV:=zjp (show wV.heap[wr.heap.size]? = some (.cells #[.int .i64 x.f,.int .i64 x.u,.int .i64 x.h,.int .i64 x.c,.int .i64 x.i] 61 (0,0)) by rw [hV]; exact zac rfl);have hbV:=xal hV
    have b0:=(hbV.cell (p:=⟨bb,ob + k * 5,none⟩) hbr).trans g0;have b1:=(hbV.cell (p:=⟨bb,ob + k * 5 + 1,none⟩) hbr).trans g1;have b2:=(hbV.cell (p:=⟨bb,ob + k * 5 + 2,none⟩) hbr).trans g2;have b3:=(hbV.cell (p:=⟨bb,ob + k * 5 + 3,none⟩) hbr).trans g3;have b4:=(hbV.cell (p:=⟨bb,ob + k * 5 + 4,none⟩) hbr).trans g4;have x0:wV.cell? ⟨wr.heap.size,0,none⟩ = some (.int .i64 x.f):=(cell_of_row _ _ _ _ _ _ XV.out).trans rfl;have x1:wV.cell? ⟨wr.heap.size,1,none⟩ = some (.int .i64 x.u):=(cell_of_row _ _ _ _ _ _ XV.out).trans rfl;have x2:wV.cell? ⟨wr.heap.size,2,none⟩ = some (.int .i64 x.h):=(cell_of_row _ _ _ _ _ _ XV.out).trans rfl;have x3:wV.cell? ⟨wr.heap.size,3,none⟩ = some (.int .i64 x.c):=(cell_of_row _ _ _ _ _ _ XV.out).trans rfl;have x4:wV.cell? ⟨wr.heap.size,4,none⟩ = some (.int .i64 x.i):=(cell_of_row _ _ _ _ _ _ XV.out).trans rfl;have zx:wr.heap.size < wV.heap.size:=zaa XV.out;have zb:bb < wV.heap.size:=by omega
    clear hV hbV XV d0 d1 d2 d3 d4 g0 g1 g2 g3 g4 HB;have KW:=fun w=>zjp (zh9 y.u y.h y.c y.i x.u x.h x.c x.i w)
    cases hle:le4 y.u y.h y.c y.i x.u x.h x.c x.i
    all_goals
     simp only [hle] at KW;have HLE:=zjp hle; clear hle;refine wp_region_noPanic ?_
     refine wp_region_held_drew (S:=(fun w'=>w'.cell? ⟨bb,ob + k * 5,none⟩ = some (.int .i64 y.f)∧w'.cell? ⟨bb,ob + k * 5 + 1,none⟩ = some (.int .i64 y.u)∧w'.cell? ⟨bb,ob + k * 5 + 2,none⟩ = some (.int .i64 y.h)∧w'.cell? ⟨bb,ob + k * 5 + 3,none⟩ = some (.int .i64 y.c)∧w'.cell? ⟨bb,ob + k * 5 + 4,none⟩ = some (.int .i64 y.i)∧w'.cell? ⟨wr.heap.size,0,none⟩ = some (.int .i64 x.f)∧w'.cell? ⟨wr.heap.size,1,none⟩ = some (.int .i64 x.u)∧w'.cell? ⟨wr.heap.size,2,none⟩ = some (.int .i64 x.h)∧w'.cell? ⟨wr.heap.size,3,none⟩ = some (.int .i64 x.c)∧w'.cell? ⟨wr.heap.size,4,none⟩ = some (.int .i64 x.i))) (by kernel_rfl) (⟨b0,b1,b2,b3,b4,x0,x1,x2,x3,x4⟩) (fun hHeld=>?_)
     refine tH 0 (h:=?_);refine tH 1 (h:=?_);refine tH 2 (h:=?_);refine tH 3 (h:=?_);refine tH 5 (h:=?_);refine wpAnyH_ready (rs:=[4]) (by kernel_rfl) (by simp) ?_
     refine AllReadyH.cons rfl (fun K hK=>?_) AllReadyH.nil
     go_simp;refine (zea y _).mono ?_; rintro e w1 ⟨rfl,hw1⟩; have b0a:=(hw1.cell (p:=⟨bb,ob + k * 5,none⟩) zb).trans b0; have b1a:=(hw1.cell (p:=⟨bb,ob + k * 5 + 1,none⟩) zb).trans b1; have b2a:=(hw1.cell (p:=⟨bb,ob + k * 5 + 2,none⟩) zb).trans b2; have b3a:=(hw1.cell (p:=⟨bb,ob + k * 5 + 3,none⟩) zb).trans b3; have b4a:=(hw1.cell (p:=⟨bb,ob + k * 5 + 4,none⟩) zb).trans b4; have x0a:=(hw1.cell (p:=⟨wr.heap.size,0,none⟩) zx).trans x0; have x1a:=(hw1.cell (p:=⟨wr.heap.size,1,none⟩) zx).trans x1; have x2a:=(hw1.cell (p:=⟨wr.heap.size,2,none⟩) zx).trans x2; have x3a:=(hw1.cell (p:=⟨wr.heap.size,3,none⟩) zx).trans x3; have x4a:=(hw1.cell (p:=⟨wr.heap.size,4,none⟩) zx).trans x4; have Hw1:=zjp (HV.out.drew.trans (hw1.mono (by have:=HV.out.drew.size; simpa using this))); have zb1:=Nat.lt_of_lt_of_le zb hw1.size; have zx1:=Nat.lt_of_lt_of_le zx hw1.size; clear hw1
     refine hK.out _ _ (⟨b0a,b1a,b2a,b3a,b4a,x0a,x1a,x2a,x3a,x4a⟩) (fun hHeld=>?_)
     clear hK K;refine wpAnyH_ready (rs:=[6]) (by kernel_rfl) (by simp) ?_
     refine AllReadyH.cons rfl (fun K hK=>?_) AllReadyH.nil
     go_simp;refine (zea x _).mono ?_; rintro e w2 ⟨rfl,hw2⟩; have b0b:=(hw2.cell (p:=⟨bb,ob + k * 5,none⟩) zb1).trans b0a; have b1b:=(hw2.cell (p:=⟨bb,ob + k * 5 + 1,none⟩) zb1).trans b1a; have b2b:=(hw2.cell (p:=⟨bb,ob + k * 5 + 2,none⟩) zb1).trans b2a; have b3b:=(hw2.cell (p:=⟨bb,ob + k * 5 + 3,none⟩) zb1).trans b3a; have b4b:=(hw2.cell (p:=⟨bb,ob + k * 5 + 4,none⟩) zb1).trans b4a; have x0b:=(hw2.cell (p:=⟨wr.heap.size,0,none⟩) zx1).trans x0a; have x1b:=(hw2.cell (p:=⟨wr.heap.size,1,none⟩) zx1).trans x1a; have x2b:=(hw2.cell (p:=⟨wr.heap.size,2,none⟩) zx1).trans x2a; have x3b:=(hw2.cell (p:=⟨wr.heap.size,3,none⟩) zx1).trans x3a; have x4b:=(hw2.cell (p:=⟨wr.heap.size,4,none⟩) zx1).trans x4a; have Hw2:=zjp (Hw1.out.trans (hw2.mono (by have:=Hw1.out.size; simpa using this))); have zb2:=Nat.lt_of_lt_of_le zb1 hw2.size; have zx2:=Nat.lt_of_lt_of_le zx1 hw2.size; clear hw2
     refine hK.out _ _ (⟨b0b,b1b,b2b,b3b,b4b,x0b,x1b,x2b,x3b,x4b⟩) (fun hHeld=>?_)
     clear hK K;refine wpAnyH_ready (rs:=[7]) (by kernel_rfl) (by simp) ?_
     refine AllReadyH.cons rfl (fun K hK=>?_) AllReadyH.nil
     go_simp;refine ((KW _).out).mono ?_; rintro e w3 ⟨rfl,hw3⟩; have b0c:=(hw3.cell (p:=⟨bb,ob + k * 5,none⟩) zb2).trans b0b; have b1c:=(hw3.cell (p:=⟨bb,ob + k * 5 + 1,none⟩) zb2).trans b1b; have b2c:=(hw3.cell (p:=⟨bb,ob + k * 5 + 2,none⟩) zb2).trans b2b; have b3c:=(hw3.cell (p:=⟨bb,ob + k * 5 + 3,none⟩) zb2).trans b3b; have b4c:=(hw3.cell (p:=⟨bb,ob + k * 5 + 4,none⟩) zb2).trans b4b; have x0c:=(hw3.cell (p:=⟨wr.heap.size,0,none⟩) zx2).trans x0b; have x1c:=(hw3.cell (p:=⟨wr.heap.size,1,none⟩) zx2).trans x1b; have x2c:=(hw3.cell (p:=⟨wr.heap.size,2,none⟩) zx2).trans x2b; have x3c:=(hw3.cell (p:=⟨wr.heap.size,3,none⟩) zx2).trans x3b; have x4c:=(hw3.cell (p:=⟨wr.heap.size,4,none⟩) zx2).trans x4b; have Hw3:=zjp (Hw2.out.trans (hw3.mono (by have:=Hw2.out.size; simpa using this))); have zb3:=Nat.lt_of_lt_of_le zb2 hw3.size; have zx3:=Nat.lt_of_lt_of_le zx2 hw3.size; clear hw3
     refine hK.out _ _ (⟨b0c,b1c,b2c,b3c,b4c,x0c,x1c,x2c,x3c,x4c⟩) (fun hHeld=>?_)
     clear hK K;refine tH 8 (h:=?_);refine wpAnyH_done (by kernel_rfl) ?_ _;refine NoPanic.normal ?_;go_wp2_with fail
    ·go_ret
     have hn:¬ leAll l b:=by
      rw [leAll_iff];intro h;have h2:=h k hlt hltb;rw [HX.out,HY.out] at h2;have h3:=HLE.out;rw [le_le4] at h3;simp [h2] at h3
     exact ⟨by rw [HA.out,if_neg hn]; rfl,Hw3.out⟩
    ·go_roundw
     case rel=>exact ⟨k + 1,by omega,by go_num,fun j hj hj' hjk=>by
      rcases Nat.lt_or_ge j k with h | h
      ·exact HO.out j hj hj' h
      ·obtain rfl:j = k:=by omega
       rw [HX.out,HY.out];have h3:=HLE.out;rw [le_le4] at h3
       simpa using h3,Hw3.out⟩
     case measure=>simp [intOf]; omega
   ·go_wp2
    go_ret
    have hall:leAll l b:=by
     rw [leAll_iff];intro j hj hj';exact HO.out j hj hj' (by omega)
    exact ⟨by rw [HA.out,if_pos hall]; rfl,hb⟩
 ·have ha:admitE b l = zfb b l:=by simp [admitE,hc]
  rw [ha]; clear ha;generalize zfb b l = c at *;have h2':((c:Int) == 0) = false:=by simpa using hc
  have h2'':((c:Int) != 0) = true:=by simpa using hc
  clear hc;go_enter func30,ntmps30
  go_wp2_with fail
  refine ((KC _ HU.out HL.out).out).mono ?_; rintro e w1 ⟨rfl,hb⟩;have hx:=zjp (by first | exact HB.out.trans (hb.mono HB.out.size) | exact (HB.out.alloc HB.out.size _).trans (hb.mono (by have:=HB.out.size; first | omega | (simp; done) | (simp; omega))) | exact ((HB.out.alloc HB.out.size _).alloc (by have:=HB.out.size; first | omega | (simp; done) | (simp; omega)) _).trans (hb.mono (by have:=HB.out.size; first | omega | (simp; done) | (simp; omega))):Below w.heap.size w w1); clear HB hb; have HB:=hx; clear hx;go_wp2_with fail
  go_ret;exact ⟨rfl,HB.out⟩
end
section
open Go.RowKit
theorem zhi (k a b c d:Int) (w:World) :
  Calls prog 59 #[.int .i64 k,.agg #[.int .i64 a,.int .i64 b,.int .i64 c,.int .i64 d]] w fun e w'=>e = .returned (.agg #[.int .i64 k,.int .i64 a,.int .i64 b,.int .i64 c,.int .i64 d])∧Below w.heap.size w w':=by
 go_enter func59,ntmps59
 go_wp2
 exact za4 rfl rfl (zac (by simp)) underlying61 rfl rfl ⟨rfl,((Below.refl _ _).alloc xnl _).alloc (by simp) _⟩
theorem infoEx:(prog.info? 61).map (fun i=>(i.zero,i.size,i.bytes)) = some (some (.agg #[.int .i64 0,.int .i64 0,.int .i64 0,.int .i64 0,.int .i64 0]),5,40):=by kernel_rfl
def nst (x y:Ex):Nat→Array Value
 | 0=>#[.int .i64 x.u,.int .i64 x.h,.int .i64 x.c,.int .i64 x.i]
 | 1=>#[.int .i64 (max x.u y.u),.int .i64 x.h,.int .i64 x.c,.int .i64 x.i]
 | 2=>#[.int .i64 (max x.u y.u),.int .i64 (max x.h y.h),.int .i64 x.c,.int .i64 x.i]
 | 3=>#[.int .i64 (max x.u y.u),.int .i64 (max x.h y.h),.int .i64 (max x.c y.c),.int .i64 x.i]
 | _=>#[.int .i64 (max x.u y.u),.int .i64 (max x.h y.h),.int .i64 (max x.c y.c),.int .i64 (max x.i y.i)]
theorem free4 {w:World} {b:Nat} {cs:Array Value} {t:TypeId} (h:w.heap[b]? = some (.cells cs t (0,0))) :
  w.frozen? ⟨b,0,none⟩ = false∧w.frozen? ⟨b,1,none⟩ = false∧w.frozen? ⟨b,2,none⟩ = false∧w.frozen? ⟨b,3,none⟩ = false:=⟨frozen_of_row _ _ _ _ _ h,frozen_of_row _ _ _ _ _ h,frozen_of_row _ _ _ _ _ h,frozen_of_row _ _ _ _ _ h⟩
theorem mx_if (a b:Int):(if a < b then b else a) = max a b:=by rw [Int.max_def]; split <;> split <;> omega
def EnterOk (r:List Ex) (w:World) (e:Ending) (w':World):Prop:=(∃ v,e = .returned (.tuple #[v,.int .i64 0])∧ExRow w' (fun b=>w.heap.size≤b) v r)∧Below w.heap.size w w'
theorem enter_nil (ua va:Option Addr) (uc vc:Nat) (a l:List Ex) (w:World) (hu:ExRow w (All w) (.slice ua a.length uc) a) (hl:ExRow w (All w) (.slice va l.length vc) l) (hc:zfb l l = 0) (na:a.length≤1000000) (nl:l.length≤1000000) (h0:a.length = 0) :
  Calls prog 26 #[.slice ua a.length uc,.slice va l.length vc] w (EnterOk (ze7 0 l l) w):=by
 have KC:=fun w h1 h2=>zjp (check2_any (.slice va l.length vc) (.slice va l.length vc) l l w h1 h2 (by omega) nl)
 obtain ⟨hl1,hl2,hl3⟩:=check2_len hc;rw [hc] at KC;have HLEN:=zjp hl1;have e1a:l.length≤l.length:=by omega
 have e1b:l.length≤l.length:=by omega
 have l5:l.length≤5:=by omega
 have hz:((a.length:Int) == 0) = true:=by simp [h0]
 clear hl1 hl2 hl3 hc h0;have HU:=zjp hu; clear hu;have HL:=zjp hl; clear hl;have HB:=zjp (Below.refl w.heap.size w);go_enter func26,ntmps26
 go_wp2_with fail
 refine ((KC _ HL.out HL.out).out).mono ?_; rintro e w0 ⟨rfl,hb⟩;have hx:=zjp (by first | exact HB.out.trans (hb.mono HB.out.size) | exact (HB.out.alloc HB.out.size _).trans (hb.mono (by have:=HB.out.size; first | omega | (simp; done) | (simp; omega))) | exact ((HB.out.alloc HB.out.size _).alloc (by have:=HB.out.size; first | omega | (simp; done) | (simp; omega)) _).trans (hb.mono (by have:=HB.out.size; first | omega | (simp; done) | (simp; omega))):Below w.heap.size w w0); clear HB hb; have HB:=hx; clear hx;go_wp2_with fail
 go_loopw [7,25] (fun out i wr=>∃ k:Nat,k≤l.length∧i = .int .i64 k∧wr.ownsRow w.heap.size 61 5 out k (zgo ((ze7 0 l l).take k))∧Below w.heap.size w wr) (fun _ i _=>l.length - (intOf i).toNat)
 case atStart=>exact ⟨0,by omega,rfl,World.ownsRow_nil _ _ _ _,HB.out⟩
 case round =>
  obtain ⟨k,hk,rfl,hown,hb⟩:=hrel;clear HB;by_cases hlt:k < l.length
  ·have hltb:k < l.length:=by omega
   have hcap:(k:Int) < (l.length:Int):=by omega
   obtain ⟨bl,ol,rfl,hbw,c0,c1,c2,c3,c4⟩:=HL.out.get k hlt;generalize hx:l[k] = x at *;have d0:=(hb.cell (p:=⟨bl,ol + k * 5,none⟩) hbw).trans c0;have d1:=(hb.cell (p:=⟨bl,ol + k * 5 + 1,none⟩) hbw).trans c1;have d2:=(hb.cell (p:=⟨bl,ol + k * 5 + 2,none⟩) hbw).trans c2;have d3:=(hb.cell (p:=⟨bl,ol + k * 5 + 3,none⟩) hbw).trans c3;have d4:=(hb.cell (p:=⟨bl,ol + k * 5 + 4,none⟩) hbw).trans c4;have HX:=zjp hx; clear hx;have HOWN:=zjp hown; clear hown;have hz':=hb.size;have HB:=zjp hb; clear hb;go_wp2_with fail
   refine (zea x _).mono ?_; rintro e w1 ⟨rfl,hb⟩;have HB1:=zjp ((HB.out.alloc HB.out.size _).trans (hb.mono (by have:=HB.out.size; simp; omega)));have OW1:=zjp ((HOWN.out.alloc (.cells #[.int .i64 x.f,.int .i64 x.u,.int .i64 x.h,.int .i64 x.c,.int .i64 x.i] 61)).kept (row:=none) ⟨hb.os,hb.tape,hb.output,hb.size,fun k hk _=>hb.block k hk⟩ (by simp [Value.ownBlock]; exact Classical.em _))
   clear hb HOWN HB d0 d1 d2 d3 d4;have g0:=(HB1.out.cell (p:=⟨bl,ol + k * 5,none⟩) hbw).trans c0;have g1:=(HB1.out.cell (p:=⟨bl,ol + k * 5 + 1,none⟩) hbw).trans c1;have g2:=(HB1.out.cell (p:=⟨bl,ol + k * 5 + 2,none⟩) hbw).trans c2;have g3:=(HB1.out.cell (p:=⟨bl,ol + k * 5 + 3,none⟩) hbw).trans c3;have g4:=(HB1.out.cell (p:=⟨bl,ol + k * 5 + 4,none⟩) hbw).trans c4;have zz:=HB1.out.size;have hb1:bl < w1.heap.size:=Nat.lt_of_lt_of_le hbw zz;go_wp2_with fail
   refine (zea x _).mono ?_; rintro e w2 ⟨rfl,hb⟩;have N2:=zjp (zab (b:=w1.heap.size) hb (by simp) (zac rfl));have HB2:=zjp ((HB1.out.alloc HB1.out.size _).trans (hb.mono (by have:=HB1.out.size; simp; omega)));have OUTLT:=zjp (fun k hk=>(OW1.out.lt k hk).2)
   have OW2:=zjp ((OW1.out.alloc (.cells #[.int .i64 x.u,.int .i64 x.h,.int .i64 x.c,.int .i64 x.i] 99)).kept (row:=none) ⟨hb.os,hb.tape,hb.output,hb.size,fun k hk _=>hb.block k hk⟩ (by simp [Value.ownBlock]; exact Classical.em _))
   clear hb HB1 OW1 g0 g1 g2 g3 g4 c0 c1 c2 c3 c4;go_wp2_with fail
   have i0:=fun cs v hv w=>@idx4 0 cs v (by decide) (by decide) hv w
   have i1:=fun cs v hv w=>@idx4 1 cs v (by decide) (by decide) hv w
   have i2:=fun cs v hv w=>@idx4 2 cs v (by decide) (by decide) hv w
   have i3:=fun cs v hv w=>@idx4 3 cs v (by decide) (by decide) hv w
   obtain ⟨wu,rfl⟩:∃ wu:World,wu = wr:=⟨_,rfl⟩;go_loopw [37] (fun i wr=>∃ j:Nat,j≤4∧i = .int .i64 j∧wr.heap[w1.heap.size]? = some (.cells (nst x x j) 99 (0,0))∧w2.grownBy wr (some w1.heap.size)) (fun i _=>4 - (intOf i).toNat)
   case atStart=>exact ⟨0,by omega,rfl,N2.out,zdo _ _⟩
   case round =>
    obtain ⟨j,hj,rfl,hN,hgr⟩:=hrel;have HN:=zjp hN; clear hN;have HG:=zjp hgr; clear hgr;have:j = 0∨j = 1∨j = 2∨j = 3∨j = 4:=by omega
    rcases this with rfl | rfl | rfl | rfl | rfl
    all_goals
     simp only [nst] at HN;obtain ⟨n0,n1,n2,n3⟩:=zbq HN.out;obtain ⟨p0,p1,p2,p3⟩:=free4 HN.out;go_wp2_with fail
    ·go_roundw
     case rel=>exact ⟨1,by omega,rfl,(zad HN.out).trans (by simp [nst,mx_if]),zcw HG.out⟩
     case measure=>simp [intOf]
    ·go_roundw
     case rel=>exact ⟨2,by omega,rfl,(zad HN.out).trans (by simp [nst,mx_if]),zcw HG.out⟩
     case measure=>simp [intOf]
    ·go_roundw
     case rel=>exact ⟨3,by omega,rfl,(zad HN.out).trans (by simp [nst,mx_if]),zcw HG.out⟩
     case measure=>simp [intOf]
    ·go_roundw
     case rel=>exact ⟨4,by omega,rfl,(zad HN.out).trans (by simp [nst,mx_if]),zcw HG.out⟩
     case measure=>simp [intOf]
    ·refine (zhi _ _ _ _ _ _).mono ?_; rintro e w3 ⟨rfl,hb⟩
     have hg3:=zcm HG.out (zgx hb)
     have OW3:=zjp (OW2.out.kept hg3 (by
      right; intro he; have:=OUTLT.out _ he; omega))
     have HB3:=zjp (HB2.out.trans (show Below w.heap.size w2 w3 from ⟨hg3.os,hg3.tape,hg3.output,hg3.size,fun k hk=>hg3.block k (by have:=HB2.out.size; omega) (by simp; omega)⟩))
     clear hb hg3 n0 n1 n2 n3 p0 p1 p2 p3 i0 i1 i2 i3 HN HG;go_wp2_with (at_builtin; refine za6 rfl _ _ 46 rfl w.heap.size 61 5 40 _ underlying46 infoEx rfl (by decide) (by decide) _ _ _ rfl OW3.out _ 1 rfl rfl (by simp [Value.oneCell']) (by omega) HB3.out.size ?_; intro v4 w4 ho4 hw4)
     go_roundw
     case rel =>
      refine ⟨k + 1,by omega,by go_num,?_,hw4 _ HB3.out⟩;have hm:k < (ze7 0 l l).length:=by rw [zhw l 0 l (show l.length = l.length by first | rfl | exact HLEN.out).symm]; exact hlt
      rw [List.take_succ_eq_append_getElem hm,maxAll_get l 0 l (show l.length = l.length by first | rfl | exact HLEN.out).symm k hlt hltb hm];rw [HX.out];have e2:∀ (A:List Ex) (z:Ex),zgo (A ++ [z]) = zgo A ++ z.cells:=fun A z=>by simp [zgo]
      rw [e2];simpa [Ex.cells,Ex.max2] using ho4
     case measure=>simp [intOf]; omega
  ·have HB:=zjp hb; clear hb
   have HOWN:=zjp hown; clear hown;go_wp2_with fail
   go_ret2;have hown:=HOWN.out;obtain rfl:k = l.length:=by omega
   have hm:(ze7 0 l l).length = l.length:=zhw l 0 l (show l.length = l.length by first | rfl | exact HLEN.out).symm;rw [List.take_of_length_le (by omega)] at hown;exact ⟨⟨_,rfl,by unfold ExRow; rw [hm]; exact Row.owns hown fun b hb _=>hb⟩,HB.out⟩
theorem enter_reg (ua va:Option Addr) (uc vc:Nat) (a l:List Ex) (w:World) (hu:ExRow w (All w) (.slice ua a.length uc) a) (hl:ExRow w (All w) (.slice va l.length vc) l) (hc:zfb a l = 0) (na:a.length≤1000000) (nl:l.length≤1000000) (h0:a.length≠0) :
  Calls prog 26 #[.slice ua a.length uc,.slice va l.length vc] w (EnterOk (ze7 0 l a) w):=by
 have KC:=fun w h1 h2=>zjp (check2_any (.slice ua a.length uc) (.slice va l.length vc) a l w h1 h2 (by omega) nl)
 obtain ⟨hl1,hl2,hl3⟩:=check2_len hc;rw [hc] at KC;have HLEN:=zjp hl1;have e1a:a.length≤l.length:=by omega
 have e1b:l.length≤a.length:=by omega
 have l5:l.length≤5:=by omega
 have hz:((a.length:Int) == 0) = false:=by exact beq_eq_false_iff_ne.2 (by omega)
 clear hl1 hl2 hl3 hc h0;have HU:=zjp hu; clear hu;have HL:=zjp hl; clear hl;have HB:=zjp (Below.refl w.heap.size w);go_enter func26,ntmps26
 go_wp2_with fail
 refine ((KC _ HU.out HL.out).out).mono ?_; rintro e w0 ⟨rfl,hb⟩;have hx:=zjp (by first | exact HB.out.trans (hb.mono HB.out.size) | exact (HB.out.alloc HB.out.size _).trans (hb.mono (by have:=HB.out.size; first | omega | (simp; done) | (simp; omega))) | exact ((HB.out.alloc HB.out.size _).alloc (by have:=HB.out.size; first | omega | (simp; done) | (simp; omega)) _).trans (hb.mono (by have:=HB.out.size; first | omega | (simp; done) | (simp; omega))):Below w.heap.size w w0); clear HB hb; have HB:=hx; clear hx;go_wp2_with fail
 go_loopw [7,25] (fun out i wr=>∃ k:Nat,k≤l.length∧i = .int .i64 k∧wr.ownsRow w.heap.size 61 5 out k (zgo ((ze7 0 l a).take k))∧Below w.heap.size w wr) (fun _ i _=>l.length - (intOf i).toNat)
 case atStart=>exact ⟨0,by omega,rfl,World.ownsRow_nil _ _ _ _,HB.out⟩
 case round =>
  obtain ⟨k,hk,rfl,hown,hb⟩:=hrel;clear HB;by_cases hlt:k < l.length
  ·have hltb:k < a.length:=by omega
   have hcap:(k:Int) < (a.length:Int):=by omega
   obtain ⟨bl,ol,rfl,hbw,c0,c1,c2,c3,c4⟩:=HL.out.get k hlt;obtain ⟨bb,ob,rfl,hbb,e0,e1,e2,e3,e4⟩:=HU.out.get k hltb;generalize hy:a[k] = y at *;have HY:=zjp hy; clear hy;generalize hx:l[k] = x at *;have d0:=(hb.cell (p:=⟨bl,ol + k * 5,none⟩) hbw).trans c0;have d1:=(hb.cell (p:=⟨bl,ol + k * 5 + 1,none⟩) hbw).trans c1;have d2:=(hb.cell (p:=⟨bl,ol + k * 5 + 2,none⟩) hbw).trans c2;have d3:=(hb.cell (p:=⟨bl,ol + k * 5 + 3,none⟩) hbw).trans c3;have d4:=(hb.cell (p:=⟨bl,ol + k * 5 + 4,none⟩) hbw).trans c4;clear c0 c1 c2 c3 c4;have HX:=zjp hx; clear hx;have HOWN:=zjp hown; clear hown;have hz':=hb.size;have HB:=zjp hb; clear hb;go_wp2_with fail
   refine (zea x _).mono ?_; rintro e w1 ⟨rfl,hb⟩;have HB1:=zjp ((HB.out.alloc HB.out.size _).trans (hb.mono (by have:=HB.out.size; simp; omega)));have OW1:=zjp ((HOWN.out.alloc (.cells #[.int .i64 x.f,.int .i64 x.u,.int .i64 x.h,.int .i64 x.c,.int .i64 x.i] 61)).kept (row:=none) ⟨hb.os,hb.tape,hb.output,hb.size,fun k hk _=>hb.block k hk⟩ (by simp [Value.ownBlock]; exact Classical.em _))
   clear hb HOWN HB d0 d1 d2 d3 d4;have g0:=(HB1.out.cell (p:=⟨bb,ob + k * 5,none⟩) hbb).trans e0;have g1:=(HB1.out.cell (p:=⟨bb,ob + k * 5 + 1,none⟩) hbb).trans e1;have g2:=(HB1.out.cell (p:=⟨bb,ob + k * 5 + 2,none⟩) hbb).trans e2;have g3:=(HB1.out.cell (p:=⟨bb,ob + k * 5 + 3,none⟩) hbb).trans e3;have g4:=(HB1.out.cell (p:=⟨bb,ob + k * 5 + 4,none⟩) hbb).trans e4;have zz:=HB1.out.size;have hb1:bb < w1.heap.size:=Nat.lt_of_lt_of_le hbb zz;go_wp2_with fail
   refine (zea y _).mono ?_; rintro e w2 ⟨rfl,hb⟩;have N2:=zjp (zab (b:=w1.heap.size) hb (by simp) (zac rfl));have HB2:=zjp ((HB1.out.alloc HB1.out.size _).trans (hb.mono (by have:=HB1.out.size; simp; omega)));have OUTLT:=zjp (fun k hk=>(OW1.out.lt k hk).2)
   have OW2:=zjp ((OW1.out.alloc (.cells #[.int .i64 x.u,.int .i64 x.h,.int .i64 x.c,.int .i64 x.i] 99)).kept (row:=none) ⟨hb.os,hb.tape,hb.output,hb.size,fun k hk _=>hb.block k hk⟩ (by simp [Value.ownBlock]; exact Classical.em _))
   clear hb HB1 OW1 g0 g1 g2 g3 g4;go_wp2_with fail
   have i0:=fun cs v hv w=>@idx4 0 cs v (by decide) (by decide) hv w
   have i1:=fun cs v hv w=>@idx4 1 cs v (by decide) (by decide) hv w
   have i2:=fun cs v hv w=>@idx4 2 cs v (by decide) (by decide) hv w
   have i3:=fun cs v hv w=>@idx4 3 cs v (by decide) (by decide) hv w
   obtain ⟨wu,rfl⟩:∃ wu:World,wu = wr:=⟨_,rfl⟩;go_loopw [37] (fun i wr=>∃ j:Nat,j≤4∧i = .int .i64 j∧wr.heap[w1.heap.size]? = some (.cells (nst x y j) 99 (0,0))∧w2.grownBy wr (some w1.heap.size)) (fun i _=>4 - (intOf i).toNat)
   case atStart=>exact ⟨0,by omega,rfl,N2.out,zdo _ _⟩
   case round =>
    obtain ⟨j,hj,rfl,hN,hgr⟩:=hrel;have HN:=zjp hN; clear hN;have HG:=zjp hgr; clear hgr;have:j = 0∨j = 1∨j = 2∨j = 3∨j = 4:=by omega
    rcases this with rfl | rfl | rfl | rfl | rfl
    all_goals
     simp only [nst] at HN;obtain ⟨n0,n1,n2,n3⟩:=zbq HN.out;obtain ⟨p0,p1,p2,p3⟩:=free4 HN.out;go_wp2_with fail
    ·go_roundw
     case rel=>exact ⟨1,by omega,rfl,(zad HN.out).trans (by simp [nst,mx_if]),zcw HG.out⟩
     case measure=>simp [intOf]
    ·go_roundw
     case rel=>exact ⟨2,by omega,rfl,(zad HN.out).trans (by simp [nst,mx_if]),zcw HG.out⟩
     case measure=>simp [intOf]
    ·go_roundw
     case rel=>exact ⟨3,by omega,rfl,(zad HN.out).trans (by simp [nst,mx_if]),zcw HG.out⟩
     case measure=>simp [intOf]
    ·go_roundw
     case rel=>exact ⟨4,by omega,rfl,(zad HN.out).trans (by simp [nst,mx_if]),zcw HG.out⟩
     case measure=>simp [intOf]
    ·refine (zhi _ _ _ _ _ _).mono ?_; rintro e w3 ⟨rfl,hb⟩
     have hg3:=zcm HG.out (zgx hb)
     have OW3:=zjp (OW2.out.kept hg3 (by
      right; intro he; have:=OUTLT.out _ he; omega))
     have HB3:=zjp (HB2.out.trans (show Below w.heap.size w2 w3 from ⟨hg3.os,hg3.tape,hg3.output,hg3.size,fun k hk=>hg3.block k (by have:=HB2.out.size; omega) (by simp; omega)⟩))
     clear hb hg3 n0 n1 n2 n3 p0 p1 p2 p3 i0 i1 i2 i3 HN HG;go_wp2_with (at_builtin; refine za6 rfl _ _ 46 rfl w.heap.size 61 5 40 _ underlying46 infoEx rfl (by decide) (by decide) _ _ _ rfl OW3.out _ 1 rfl rfl (by simp [Value.oneCell']) (by omega) HB3.out.size ?_; intro v4 w4 ho4 hw4)
     go_roundw
     case rel =>
      refine ⟨k + 1,by omega,by go_num,?_,hw4 _ HB3.out⟩;have hm:k < (ze7 0 l a).length:=by rw [zhw l 0 a (show a.length = l.length by first | rfl | exact HLEN.out).symm]; exact hlt
      rw [List.take_succ_eq_append_getElem hm,maxAll_get l 0 a (show a.length = l.length by first | rfl | exact HLEN.out).symm k hlt hltb hm];rw [HX.out,HY.out];have e2:∀ (A:List Ex) (z:Ex),zgo (A ++ [z]) = zgo A ++ z.cells:=fun A z=>by simp [zgo]
      rw [e2];simpa [Ex.cells,Ex.max2] using ho4
     case measure=>simp [intOf]; omega
  ·have HB:=zjp hb; clear hb
   have HOWN:=zjp hown; clear hown;go_wp2_with fail
   go_ret2;have hown:=HOWN.out;obtain rfl:k = l.length:=by omega
   have hm:(ze7 0 l a).length = l.length:=zhw l 0 a (show a.length = l.length by first | rfl | exact HLEN.out).symm;rw [List.take_of_length_le (by omega)] at hown;exact ⟨⟨_,rfl,by unfold ExRow; rw [hm]; exact Row.owns hown fun b hb _=>hb⟩,HB.out⟩
theorem enter_good (u v:Value) (a l:List Ex) (w:World) (hu:ExRow w (All w) u a) (hl:ExRow w (All w) v l) (hc:enterE a l = 0) (na:a.length≤1000000) (nl:l.length≤1000000) :
  Calls prog 26 #[u,v] w (EnterOk (ze7 0 l (regE a l)) w):=by
 obtain ⟨ua,uc,rfl⟩:=hu.val;obtain ⟨va,vc,rfl⟩:=hl.val;by_cases h0:a.length = 0
 ·have e1:regE a l = l:=by unfold regE; rw [if_pos h0]
  unfold enterE at hc;rw [e1] at hc ⊢;exact enter_nil ua va uc vc a l w hu hl hc na nl h0
 ·have e1:regE a l = a:=by unfold regE; rw [if_neg h0]
  unfold enterE at hc;rw [e1] at hc ⊢;exact enter_reg ua va uc vc a l w hu hl hc na nl h0
end
section
open Go.RowKit
theorem guess_len1 (S:List Int) (D:List zdl) (i:Nat):(zfe S D i).length≤1:=by
 obtain ⟨⟨r,s⟩,hr⟩:∃ p,zbz S (S.getD i 0) = p:=⟨_,rfl⟩;have hd:(mapM D D).Pairwise fun p q=>p.1≠q.1:=by have:=map_dist D D.length xnl; rwa [List.take_length] at this
 cases s
 ·rw [zhy S D i hr (.inl rfl)]; simp
 ·rcases dist_one hd r with h | ⟨p,h⟩
  ·rw [zhy S D i hr (.inr h)]; simp
  ·rw [guess_yes S D i hr h]; simp
theorem guess_range (S:List Int) (D:List zdl):∀ g∈zd2 S D,0≤g.1∧g.1 < (S.length:Int):=by
 intro g hg;obtain ⟨i,hi,h⟩:=List.mem_flatMap.1 hg;have hi2:=List.mem_range.1 hi;unfold zfe at h;split at h
 ·obtain ⟨d,_,rfl⟩:=List.mem_map.1 h
  dsimp only;omega
 ·cases h
theorem guess_len (S:List Int) (D:List zdl):(zd2 S D).length≤S.length:=by
 unfold zd2
 have:∀ l:List Nat,(l.flatMap (zfe S D)).length≤l.length:=by
  intro l;induction l with
  | nil=>simp
  | cons i l ih=>rw [List.flatMap_cons,List.length_append,List.length_cons]; have:=guess_len1 S D i; omega
 have h:=this (List.range S.length);rwa [List.length_range] at h
theorem cells5X {w:World} {b:Nat} {a0 a1 a2 a3 a4:Value} {t:TypeId} (h:w.heap[b]? = some (.cells #[a0,a1,a2,a3,a4] t (0,0))):w.cell? ⟨b,0,none⟩ = some a0∧w.cell? ⟨b,1,none⟩ = some a1∧w.cell? ⟨b,2,none⟩ = some a2∧w.cell? ⟨b,3,none⟩ = some a3∧w.cell? ⟨b,4,none⟩ = some a4:=by
 refine ⟨?_,?_,?_,?_,?_⟩ <;> (rw [cell_of_row _ _ _ _ _ _ h]; rfl)
theorem free5X {w:World} {b:Nat} {cs:Array Value} {t:TypeId} (h:w.heap[b]? = some (.cells cs t (0,0))):w.frozen? ⟨b,0,none⟩ = false∧w.frozen? ⟨b,1,none⟩ = false∧w.frozen? ⟨b,2,none⟩ = false∧w.frozen? ⟨b,3,none⟩ = false∧w.frozen? ⟨b,4,none⟩ = false :=
 ⟨frozen_of_row _ _ _ _ _ h,frozen_of_row _ _ _ _ _ h,frozen_of_row _ _ _ _ _ h,frozen_of_row _ _ _ _ _ h,frozen_of_row _ _ _ _ _ h⟩
def zhm (f:Int) (C:List BitsL) (V:List (List UInt8)) (D:List zdl):Ex × Int :=
 if zcg D = 0 then (⟨f,zbx (zce C),zgw (zce C) V (zd2 (zaz (zce C)) D),zbw C,zjf 0 C⟩,0) else (⟨0,0,0,0,0⟩,zcg D)
theorem assess_any (S T U:Nat→Prop) (f:Int) (cv vv dv:Value) (C:List BitsL) (V:List (List UInt8)) (D:List zdl) (w:World) (hc:BitsVec w S cv C) (hv:Vec w T 1 zba vv V) (hd:Vec w U 2 zgz dv D)
  (hi:∀ b∈C,InI b.len) (hw:∀ b∈C,zap b = true→zg4 b.words) (hn:C.length≤64) (hl:V.length = C.length) (hm:D.length≤1000000) :
  Calls prog 40 #[.int .i64 f,cv,vv,dv] w fun e w'=>e = .returned (.tuple #[(zhm f C V D).1.val,.int .i64 (zhm f C V D).2])∧Below w.heap.size w w':=by
 have hgo:=groups_ok C;obtain ⟨ca,cc,rfl⟩:=hc.slice;obtain ⟨va,vc,rfl⟩:=hv.slice;obtain ⟨da,dc,rfl⟩:=hd.slice;have HCv:=zjp hc; have HVv:=zjp hv; have HDv:=zjp hd; have HI:=zjp hi; have HWd:=zjp hw;obtain ⟨n,hCn⟩:∃ n,C.length = n:=⟨_,rfl⟩;obtain ⟨m,hDm⟩:∃ m,D.length = m:=⟨_,rfl⟩;have hVn:V.length = n:=by omega
 have HNc:=zjp hCn; have HNv:=zjp hVn; have HNd:=zjp hDm;obtain ⟨G,hG⟩:∃ G,zce C = G:=⟨_,rfl⟩;have hE:(zhm f C V D) = if zcg D = 0 then (⟨f,zbx G,zgw G V (zd2 (zaz G) D),zbw C,zjf 0 C⟩,0) else (⟨0,0,0,0,0⟩,zcg D):=by unfold zhm; rw [hG]
 rw [hG] at hgo;have hgl:=hgo.few;have HGo:=zjp hgo;have hgr:=fun (W':World) (hb:Below w.heap.size w W')=>groups_any S _ C W' (hc.below hb) hi (by omega)
 rw [hG] at hgr;rw [hCn,hVn,hDm];rw [hCn] at hgr hgl;have HGr:=zjp hgr;rw [hE];obtain ⟨c,hck⟩:∃ c,zcg D = c:=⟨_,rfl⟩;rw [hck];have HCk:=zjp hck;have hn6:n≤64:=by omega
 have hm6:m≤1000000:=by omega
 obtain ⟨gs,hgs⟩:∃ gs,zd2 (zaz G) D = gs:=⟨_,rfl⟩;rw [hgs];have HGs:=zjp hgs;clear hc hv hd hi hw hG hE hgo hgr hck hCn hDm hVn hl hn hm hgs;obtain ⟨r1,h1⟩:∃ r,zbx G = r:=⟨_,rfl⟩;obtain ⟨r2,h2⟩:∃ r,zgw G V gs = r:=⟨_,rfl⟩;obtain ⟨r3,h3⟩:∃ r,zbw C = r:=⟨_,rfl⟩;obtain ⟨r4,h4⟩:∃ r,zjf 0 C = r:=⟨_,rfl⟩;rw [h1,h2,h3,h4];have H1:=zjp h1; have H2:=zjp h2; have H3:=zjp h3; have H4:=zjp h4;clear h1 h2 h3 h4;go_enter func40,ntmps40
 go_wp2_with fail
 refine zai (fun W0 hW0=>?_)
 have b0:=xal hW0
 have gx0:W0.heap[w.heap.size]? = some (.cells #[.int .i64 0,.int .i64 0,.int .i64 0,.int .i64 0,.int .i64 0] 61 (0,0)):=by rw [hW0]; exact zac rfl
 clear hW0;have HB0:=zjp b0;refine (HGr.out W0 b0).mono ?_;rintro e w1 ⟨v1,rfl,hg1,hb1⟩;have HG1:=zjp hg1;have gx1:=zab hb1 (zaa gx0) gx0;have hb1':=b0.trans (hb1.mono b0.size);have HB1:=zjp hb1';obtain ⟨ga,gc,rfl⟩:=hg1.slice;obtain ⟨q,hq⟩:∃ q,G.length = q:=⟨_,rfl⟩;have HQ:=zjp hq;have hal:=align_any _ U _ _ G D w1 HG1.out (HDv.out.below hb1') (by omega) (by rw [HNd.out]; exact hm6);unfold AlignPost at hal;rw [HCk.out,HGs.out] at hal;rw [hq] at hal hgl HG1 ⊢;rw [HNd.out] at hal;have HAl:=zjp hal;clear b0 gx0 hg1 hb1 hb1' hq hal;go_wp2_with fail
 refine HAl.out.mono ?_;rintro e w2 ⟨v2,rfl,hv2,hb2⟩;have HV2:=zjp hv2;have HB2:=zjp (HB1.out.trans (hb2.mono HB1.out.size));have HGx2:=zjp (zab hb2 (zaa gx1) gx1);have HG2:=zjp (HG1.out.below hb2);have lX2:=zaa HGx2.out;clear gx1 hb2 hv2;by_cases h0:c = 0
 ·subst h0
  rw [if_pos rfl] at HV2;obtain ⟨sa,sc,rfl⟩:=HV2.out.slice;have hit:=hits_any _ _ T _ _ _ G gs V w2 HG2.out HV2.out (HVv.out.below HB2.out) (by rw [← HGs.out]; intro g hg; have:=guess_range _ _ g hg; simpa [zaz] using this) (by rw [HNv.out,← HNc.out]; exact HGo.out.low) (by rw [← HGs.out]; have h1:=guess_len (zaz G) D; have h2:(zaz G).length = G.length:=(by simp [zaz]); have:=HQ.out; omega) (by intro g hg; have:=HGo.out.mems g hg; have:=HNc.out; omega) (by rw [HNv.out]; omega) (by rw [HQ.out]; omega);rw [H2.out] at hit;obtain ⟨ng,hng⟩:∃ ng,gs.length = ng:=⟨_,rfl⟩;rw [hng] at hit HV2 ⊢;rw [HNv.out] at hit;have HHit:=zjp hit;clear hit hng;go_wp2_with fail
  refine HHit.out.mono ?_;rintro e w3 ⟨rfl,hb3⟩;have HG3:=zjp (HG2.out.below hb3);have HB3:=zjp (HB2.out.trans (hb3.mono HB2.out.size));have HGx3:=zjp (zab hb3 lX2 HGx2.out);clear hb3;have lX3:=zaa HGx3.out;go_wp2_with fail
  refine (singular_any _ _ G w3 HG3.out (by rw [HQ.out]; omega) (by intro g hg; have:=HGo.out.mems g hg; have:=HNc.out; omega)).mono ?_;rw [H1.out];rintro e w4 ⟨rfl,hb4⟩;have HB4:=zjp (HB3.out.trans (hb4.mono HB3.out.size));have HGx4:=zjp (zab hb4 lX3 HGx3.out);have lX4:=zaa HGx4.out;clear hb4;go_wp2_with fail
  have hC4:=HCv.out.below HB4.out;rw [HNc.out] at hC4;refine (always_any S _ C w4 hC4 HI.out HWd.out (by rw [HNc.out]; omega)).mono ?_;rw [H3.out];rintro e w5 ⟨rfl,hb5⟩;have HB5:=zjp (HB4.out.trans (hb5.mono HB4.out.size));have HGx5:=zjp (zab hb5 lX4 HGx4.out);have lX5:=zaa HGx5.out;have HC5:=zjp (hC4.below hb5);clear hb5 hC4;go_wp2_with fail
  refine (fill_any S _ C w5 HC5.out HI.out HWd.out (by rw [HNc.out]; omega)).mono ?_;rw [H4.out];rintro e w6 ⟨rfl,hb6⟩;have HB6:=zjp (HB5.out.trans (hb6.mono HB5.out.size));have HGx6:=zjp (zab hb6 lX5 HGx5.out);have lX6:=zaa HGx6.out;clear hb6;go_wp2_with fail
  refine (zhi _ _ _ _ _ _).mono ?_;rintro e w7 ⟨rfl,hb7⟩;have HB7:=zjp (HB6.out.trans (hb7.mono HB6.out.size));have HGx7:=zjp (zab hb7 lX6 HGx6.out);clear hb7;obtain ⟨x0,x1,x2,x3,x4⟩:=cells5X HGx7.out;obtain ⟨f0,f1,f2,f3,f4⟩:=free5X HGx7.out;go_wp2_with fail
  refine zah rfl rfl (zad (zad (zad (zad (zad HGx7.out))))) underlying61 rfl (by kernel_rfl) ⟨?_,?_⟩
  ·rfl
  ·exact ((((HB7.out.setCell (p:=⟨w.heap.size,0,none⟩) xnl _).setCell (p:=⟨w.heap.size,1,none⟩) xnl _).setCell (p:=⟨w.heap.size,2,none⟩) xnl _).setCell (p:=⟨w.heap.size,3,none⟩) xnl _).setCell (p:=⟨w.heap.size,4,none⟩) xnl _
 ·have d1:(c != 0) = true:=by simpa using h0
  have HE0:=zjp h0;obtain ⟨x0,x1,x2,x3,x4⟩:=cells5X HGx2.out;obtain ⟨f0,f1,f2,f3,f4⟩:=free5X HGx2.out;clear h0;go_wp2_with fail
  refine zah rfl rfl (zad (zad (zad (zad (zad HGx2.out))))) underlying61 rfl (by kernel_rfl) ⟨?_,?_⟩
  ·rfl
  ·exact ((((HB2.out.setCell (p:=⟨w.heap.size,0,none⟩) xnl _).setCell (p:=⟨w.heap.size,1,none⟩) xnl _).setCell (p:=⟨w.heap.size,2,none⟩) xnl _).setCell (p:=⟨w.heap.size,3,none⟩) xnl _).setCell (p:=⟨w.heap.size,4,none⟩) xnl _
end
section
open Go.RowKit
theorem zfg {p:ParL} (h:zdk p = true):ParOk p:=by
 unfold zdk zc6 at h;simp only [Bool.and_eq_true,decide_eq_true_iff,beq_iff_eq] at h;exact ⟨by omega,by omega,by omega,by omega,by omega,by omega,by omega⟩
def zcy (p:ParL):Int:=if zdk p = true then 0 else 10
theorem bcheck_any (p:ParL) (w:World) (hi:InI p.len) :
  Calls prog 63 #[.agg #[.int .i64 p.len,.int .i64 p.hashes,.int .i64 p.salt]] w fun e w'=>e = .returned (.int .i64 (zcy p))∧Below w.heap.size w w':=by
 obtain ⟨E,hE⟩:∃ E,zcy p = E:=⟨_,rfl⟩;rw [hE];have hyes:zdk p = true→E = 0:=fun h=>by rw [← hE]; unfold zcy; rw [if_pos h]
 have hno:zdk p = false→E = 10:=fun h=>by rw [← hE]; unfold zcy; rw [h]; rfl
 have HY:=zjp hyes; have HN:=zjp hno;clear hE hyes hno;cases hr:zc6 p.len
 ·have hE:E = 10:=HN.out (by unfold zdk; rw [hr]; rfl)
  subst hE;have HR:=zjp hr;clear hr;go_enter func63,ntmps63
  go_wp2_with fail
  refine (bnew_no _ _ HR.out hi.1 hi.2).mono ?_;rintro e w1 ⟨rfl,hb⟩;have HB:=zjp (xbt hb);clear hb;go_wp2_with fail
  go_ret;first | exact ⟨rfl,HB.out.alloc HB.out.size _⟩ | exact ⟨rfl,HB.out⟩
 have HR:=zjp hr;clear hr;by_cases h1:p.hashes < 1
 ·have d1:decide (p.hashes < (1:Int)) = true:=by simpa using h1
  have hE:E = 10:=HN.out (by rw [Bool.eq_false_iff]; intro h; have q:=zfg h; have:=q.h1; have:=q.h2; have:=q.s1; have:=q.s2; omega);subst hE;clear h1;go_enter func63,ntmps63
  go_wp2_with fail
  refine (zg2 _ _ HR.out).mono ?_;rintro e w1 ⟨g,m,rfl,-,hg,-,hb⟩;have HB:=zjp (xbt hb);have HX:=zjp (xbn hb);clear hb hg;have z0:=zaa HX.out;obtain ⟨p0,p1,p2⟩:=zao HX.out;go_wp2_with fail
  go_ret;first | exact ⟨rfl,HB.out.alloc HB.out.size _⟩ | exact ⟨rfl,HB.out⟩
 have d1:decide (p.hashes < (1:Int)) = false:=by simpa using h1
 by_cases h2:16 < p.hashes
 ·have d2:decide ((16:Int) < p.hashes) = true:=by simpa using h2
  have hE:E = 10:=HN.out (by rw [Bool.eq_false_iff]; intro h; have q:=zfg h; have:=q.h1; have:=q.h2; have:=q.s1; have:=q.s2; omega);subst hE;clear h2;go_enter func63,ntmps63
  go_wp2_with fail
  refine (zg2 _ _ HR.out).mono ?_;rintro e w1 ⟨g,m,rfl,-,hg,-,hb⟩;have HB:=zjp (xbt hb);have HX:=zjp (xbn hb);clear hb hg;have z0:=zaa HX.out;obtain ⟨p0,p1,p2⟩:=zao HX.out;go_wp2_with fail
  go_ret;first | exact ⟨rfl,HB.out.alloc HB.out.size _⟩ | exact ⟨rfl,HB.out⟩
 have d2:decide ((16:Int) < p.hashes) = false:=by simpa using h2
 by_cases h3:p.salt < -1
 ·have d3:decide (p.salt < (-1:Int)) = true:=by simpa using h3
  have hE:E = 10:=HN.out (by rw [Bool.eq_false_iff]; intro h; have q:=zfg h; have:=q.h1; have:=q.h2; have:=q.s1; have:=q.s2; omega);subst hE;clear h3;go_enter func63,ntmps63
  go_wp2_with fail
  refine (zg2 _ _ HR.out).mono ?_;rintro e w1 ⟨g,m,rfl,-,hg,-,hb⟩;have HB:=zjp (xbt hb);have HX:=zjp (xbn hb);clear hb hg;have z0:=zaa HX.out;obtain ⟨p0,p1,p2⟩:=zao HX.out;go_wp2_with fail
  go_ret;first | exact ⟨rfl,HB.out.alloc HB.out.size _⟩ | exact ⟨rfl,HB.out⟩
 have d3:decide (p.salt < (-1:Int)) = false:=by simpa using h3
 by_cases h4:5≤p.salt
 ·have d4:decide ((5:Int)≤p.salt) = true:=by simpa using h4
  have hE:E = 10:=HN.out (by rw [Bool.eq_false_iff]; intro h; have q:=zfg h; have:=q.h1; have:=q.h2; have:=q.s1; have:=q.s2; omega);subst hE;clear h4;go_enter func63,ntmps63
  go_wp2_with fail
  refine (zg2 _ _ HR.out).mono ?_;rintro e w1 ⟨g,m,rfl,-,hg,-,hb⟩;have HB:=zjp (xbt hb);have HX:=zjp (xbn hb);clear hb hg;have z0:=zaa HX.out;obtain ⟨p0,p1,p2⟩:=zao HX.out;go_wp2_with fail
  go_ret;first | exact ⟨rfl,HB.out.alloc HB.out.size _⟩ | exact ⟨rfl,HB.out⟩
 have d4:decide ((5:Int)≤p.salt) = false:=by simpa using h4
 have hE:E = 0:=HY.out (by
  unfold zdk;rw [HR.out];simp only [Bool.true_and,Bool.and_eq_true,decide_eq_true_eq]
  omega)
 subst hE;clear h1 h2 h3 h4;go_enter func63,ntmps63
 go_wp2_with fail
 refine (zg2 _ _ HR.out).mono ?_;rintro e w1 ⟨g,m,rfl,-,hg,-,hb⟩;have HB:=zjp (xbt hb);have HX:=zjp (xbn hb);clear hb hg;have z0:=zaa HX.out;obtain ⟨p0,p1,p2⟩:=zao HX.out;go_wp2_with fail
 go_ret;first | exact ⟨rfl,HB.out.alloc HB.out.size _⟩ | exact ⟨rfl,HB.out⟩
end
section
open Go.RowKit Cal
def zej (n i:Nat) (p:ParL):Bool:=zdk p && decide (p.salt < n) && !(p.salt == i)
def zi3 (n:Nat):Nat→List ParL→Int
 | _,[]=>0
 | i,p :: l=>if zej n i p = true then zi3 n (i + 1) l else 10
def zby (s:SchemaL) (P:List ParL):Int:=if zax s = 0 then (if P.length = s.fields.length then zi3 P.length 0 P else 8) else zax s
theorem parsA_ok (n:Nat):∀ (L:List ParL) (i:Nat),zi3 n i L = 0→∀ j,j < L.length→zej n (i + j) (L.getD j default) = true
 | [],i,_,j,hj=>by simp at hj
 | p :: l,i,h,j,hj=>by
  unfold zi3 at h;split at h
  ·next h1 =>
   cases j with
   | zero=>exact h1
   | succ j =>
    have h2:=parsA_ok n l (i + 1) h j (by simpa using hj);rw [List.getD_cons_succ,show i + (j + 1) = i + 1 + j by omega];exact h2
  ·exact absurd h (by decide)
theorem checkP_ok {s:SchemaL} {P:List ParL} (h:zby s P = 0):zax s = 0∧P.length = s.fields.length∧ParsOk P:=by
 unfold zby at h;split at h
 ·next h1 =>
  split at h
  ·next h2 =>
   have h3:=parsA_ok P.length P 0 h
   refine ⟨h1,h2,fun i hi=>?_,fun i hi=>?_⟩
   ·have:=h3 i hi
    unfold zej at this;simp only [Bool.and_eq_true] at this;exact zfg this.1.1
   ·have:=h3 i hi
    unfold zej at this;simp only [Bool.and_eq_true,decide_eq_true_eq,Bool.not_eq_true',beq_eq_false_iff_ne,ne_eq,Nat.zero_add] at this;exact ⟨this.1.2,this.2⟩
  ·exact absurd h (by decide)
 ·next h1=>exact absurd h h1
theorem echeck_any (S:Nat→Prop) (vf vt vn vs:Value) (s:SchemaL) (P:List ParL) (pv:Value) (w:World) (h:SchemaAt w S vf vt vn vs s) (hp:Vec w zav 3 zdi pv P) (hi:∀ p∈P,InI p.len) (hn:P.length≤1000000) :
  Calls prog 37 #[.agg #[vf,vt,vn,vs],pv] w fun e w'=>e = .returned (.int .i64 (zby s P))∧Below w.heap.size w w':=by
 obtain ⟨E,hE⟩:∃ E,zby s P = E:=⟨_,rfl⟩;rw [hE];obtain ⟨a,cap,rfl⟩:=hp.slice;obtain ⟨af,cf,rfl⟩:=h.1.slice;have HP:=zjp hp; have HS:=zjp h.any; have HE:=zjp hE; have HI:=zjp hi;obtain ⟨c,hc⟩:∃ c,zax s = c:=⟨_,rfl⟩;have HC:=zjp hc;obtain ⟨m,hm⟩:∃ m,s.fields.length = m:=⟨_,rfl⟩;rw [hm];have HM:=zjp hm;clear hp h hE hi hc hm;go_enter func37,ntmps37
 go_wp2_with fail
 refine zai (fun W hW=>?_)
 have hb0:=xal hW
 have hs0:W.heap[w.heap.size]? = some (.cells #[.slice af m cf,vt,vn,vs] 33 (0,0)):=by rw [hW]; exact zac rfl
 clear hW;refine (zgf zav _ _ _ _ s _ (by have:=HS.out.below hb0; rw [HM.out] at this; exact this)).mono ?_;rw [HC.out];rintro e w1 ⟨rfl,hb⟩;have hs1:=zab hb (zaa hs0) hs0;have HB1:=zjp (hb0.trans (hb.mono hb0.size));obtain ⟨s0,s1,s2,s3⟩:=zak hs1;clear hb hb0 hs0 hs1;by_cases hc0:c = 0;rotate_left
 ·have dz:(c != 0) = true:=by simpa using hc0
  have hE1:E = c:=by rw [← HE.out]; unfold zby; rw [if_neg (by rw [HC.out]; exact hc0),HC.out]
  subst hE1;clear HE HC hc0;go_wp2_with fail
  go_ret;exact ⟨rfl,HB1.out⟩
 have dz:(c != 0) = false:=by simpa using hc0
 by_cases hl:P.length = m;rotate_left
 ·have hne:((P.length:Int) != (m:Int)) = true:=by rw [bne_iff_ne]; omega
  have hE1:E = 8:=by rw [← HE.out]; unfold zby; rw [if_pos (by rw [HC.out]; exact hc0),if_neg (by rw [HM.out]; exact hl)]
  subst hE1;clear HE HC hc0 hl;go_wp2_with fail
  go_ret;exact ⟨rfl,HB1.out⟩
 have hne:((P.length:Int) != (m:Int)) = false:=by rw [hl]; simp
 have HE2:=zjp (show zi3 P.length 0 P = E by rw [← HE.out]; unfold zby; rw [if_pos (by rw [HC.out]; exact hc0),if_pos (by rw [HM.out]; exact hl)]);clear HE HC hc0 hl;go_wp2_with fail
 clear s0 s1 s2 s3;go_loopw [6,7,21] (fun _ _ i wr=>∃ j:Nat,i = .int .i64 j∧j≤P.length∧Hid (zi3 P.length j (P.drop j) = E)∧Below w1.heap.size w1 wr) (fun _ _ i _=>P.length - (intOf i).toNat)
 case atStart=>exact ⟨0,rfl,by omega,HE2,Below.refl _ _⟩
 case round =>
  obtain ⟨j,rfl,hj,HT,hb⟩:=hrel;have HBr:=zjp hb; clear hb;by_cases hlt:j < P.length
  ·have hq:decide ((j:Int) < P.length) = true:=by simp; omega
   have hbw:=HB1.out.trans (HBr.out.mono HB1.out.size);obtain ⟨p,hpj⟩:∃ p,P[j] = p:=⟨_,rfl⟩;have hT:=HT.out;rw [List.drop_eq_getElem_cons hlt,hpj,zi3] at hT;have HT2:=zjp hT;have hpi:InI p.len:=HI.out p (by rw [← hpj]; exact List.getElem_mem _);obtain ⟨b,off,rfl,hb,hc⟩:=(HP.out.below hbw).get j hlt;rw [hpj] at hc;have c0:=hc 0 _ rfl; have c1:=hc 1 _ rfl; have c2:=hc 2 _ rfl;rw [Nat.add_zero] at c0;have HPI:=zjp hpi;clear hc hpj hbw hT HT hpi;go_wp2_with fail
   refine (bcheck_any p _ HPI.out).mono ?_;rintro e w2 ⟨rfl,hb2⟩;have hx:=zab (b:=wr.heap.size) (o:=.cells (zdi p).toArray 87 (0,0)) hb2 (by simp) (zac rfl);have HB2:=zjp ((HBr.out.alloc HBr.out.size (.cells (zdi p).toArray 87)).trans (hb2.mono (by have:=HBr.out.size; simp; omega)));obtain ⟨x0,x1,x2⟩:=zao hx;have hxl:=zaa hx;clear hb2 hx c0 c1 c2;by_cases hk:zdk p = true;rotate_left
   ·have hE1:E = 10:=by rw [← HT2.out,if_neg]; unfold zej; simp [hk]
    have hbn:zcy p = 10:=by unfold zcy; rw [if_neg hk]
    rw [hbn];have d1:((10:Int) != 0) = true:=rfl;subst hE1;clear HT2 HE2 hk hbn;go_wp2_with fail
    go_ret;exact ⟨rfl,HB1.out.trans (HB2.out.mono HB1.out.size)⟩
   have hbn:zcy p = 0:=by unfold zcy; rw [if_pos hk]
   rw [hbn];have d1:((0:Int) != 0) = false:=rfl;by_cases h1:(P.length:Int)≤p.salt
   ·have e1:decide ((P.length:Int)≤p.salt) = true:=by simpa using h1
    have hE1:E = 10:=by rw [← HT2.out,if_neg]; unfold zej; rw [decide_eq_false (by omega)]; simp
    subst hE1;clear HT2 HE2 hk hbn h1;go_wp2_with fail
    go_ret;exact ⟨rfl,HB1.out.trans (HB2.out.mono HB1.out.size)⟩
   have e1:decide ((P.length:Int)≤p.salt) = false:=by simpa using h1
   by_cases h2:p.salt = (j:Int)
   ·have e2:(p.salt == (j:Int)) = true:=by simpa using h2
    have hE1:E = 10:=by rw [← HT2.out,if_neg]; unfold zej; rw [e2]; simp
    subst hE1;clear HT2 HE2 hk hbn h1 h2;go_wp2_with fail
    go_ret;exact ⟨rfl,HB1.out.trans (HB2.out.mono HB1.out.size)⟩
   have e2:(p.salt == (j:Int)) = false:=by simpa using h2
   have HT3:=zjp (show zi3 P.length (j + 1) (P.drop (j + 1)) = E by
    rw [← HT2.out,if_pos]; unfold zej; rw [hk,e2,decide_eq_true (by omega)]; rfl)
   clear HT2 hk hbn h1 h2;go_wp2_with fail
   go_roundw
   case rel=>exact ⟨j + 1,by go_num,by omega,HT3,HB2.out⟩
   case measure=>simp [intOf]; omega
  ·have hq:decide ((j:Int) < P.length) = false:=by simp; omega
   obtain rfl:j = P.length:=by omega
   have hE1:E = 0:=by rw [← HT.out,List.drop_length]; rfl
   subst hE1;clear HE2 HT;go_wp2_with fail
   go_ret;exact ⟨rfl,HB1.out.trans (HBr.out.mono HB1.out.size)⟩
end
section
open Go.RowKit
attribute [local go_sem] zag zaj za7
theorem own_new {α:Type} {w0 w:World} {e:TypeId} {enc:α→List Value} {L:List α} {g size n:Nat} (hb:Below w0.heap.size w0 w) (hg:w0.heap.size≤g) (h:w.heap[g]? = some (.cells (L.flatMap enc).toArray e (0,0))) (hl:(L.flatMap enc).length = L.length * size) (hm:L.length≤1000000) (hn:n = L.length) :
  OwnV e size enc w0 (.slice (some ⟨g,0,none⟩) n n) L w:=by
 subst hn;exact ⟨⟨hl,.inr ⟨g,L.length,_,rfl,hg,h,Nat.le_refl _,by unfold maxLen; omega,by simpa using hl,by rw [← hl]; show List.take _ (L.flatMap enc) = _; exact List.take_length⟩⟩,hb⟩
end
section
open Go.RowKit
structure RV where
 id:Int
 ver:Int
 a:Option Addr
 n:Nat
 c:Nat
 vals:List (List UInt8)
abbrev encRV (x:RV):List Value:=[.int .i64 x.id,.int .i64 x.ver,.slice x.a x.n x.c]
def pR (x:RV):RecL:=⟨x.id,x.ver,x.vals⟩
def RecsVec (w:World) (S:Nat→Prop) (v:Value) (R:List RecL):Prop:=∃ C:List RV,Vec w S 3 encRV v C∧C.map pR = R∧∀ x∈C,Vec w S 1 zba (.slice x.a x.n x.c) x.vals
theorem RecsVec.move {w w':World} {S T:Nat→Prop} {v:Value} {R:List RecL} (h:RecsVec w S v R) (hz:w.heap.size≤w'.heap.size) (hS:∀ x,x < w.heap.size→S x→w'.heap[x]? = w.heap[x]?∧T x):RecsVec w' T v R:=by
 obtain ⟨C,h1,h2,h3⟩:=h;exact ⟨C,h1.move hz hS,h2,fun x hx=>(h3 x hx).move hz hS⟩
theorem RecsVec.below {w w':World} {S:Nat→Prop} {v:Value} {R:List RecL} (h:RecsVec w S v R) (hb:Below w.heap.size w w'):RecsVec w' S v R:=h.move hb.size fun x hx hs=>⟨hb.block x hx,hs⟩
theorem RecsVec.any {w:World} {S:Nat→Prop} {v:Value} {R:List RecL} (h:RecsVec w S v R):RecsVec w zav v R:=h.move xnl fun x hx hs=>⟨rfl,trivial⟩
theorem RecsVec.slice {w:World} {S:Nat→Prop} {v:Value} {R:List RecL} (h:RecsVec w S v R):∃ a cap,v = .slice a R.length cap:=by
 obtain ⟨C,h1,h2,_⟩:=h;obtain ⟨a,cap,rfl⟩:=h1.slice;exact ⟨a,cap,by rw [← h2,List.length_map]⟩
theorem RecsVec.at {w:World} {S:Nat→Prop} {a:Option Addr} {n cap:Nat} {R:List RecL} (h:RecsVec w S (.slice a n cap) R) (j:Nat) (hj:j < R.length) :
  ∃ (b off:Nat) (id ver:Int) (aa:Option Addr) (nn cc:Nat) (vals:List (List UInt8)),a = some ⟨b,off,none⟩∧b < w.heap.size∧w.cell? ⟨b,off + j * 3,none⟩ = some (.int .i64 id)∧w.cell? ⟨b,off + j * 3 + 1,none⟩ = some (.int .i64 ver)∧w.cell? ⟨b,off + j * 3 + 2,none⟩ = some (.slice aa nn cc)∧R[j] = ⟨id,ver,vals⟩∧Vec w S 1 zba (.slice aa nn cc) vals:=by
 obtain ⟨C,h1,h2,h3⟩:=h;have hj2:j < C.length:=by rw [← h2,List.length_map] at hj; exact hj
 obtain ⟨b,off,e,hb,hc⟩:=h1.get j hj2;refine ⟨b,off,C[j].id,C[j].ver,C[j].a,C[j].n,C[j].c,C[j].vals,e,hb,hc 0 _ rfl,hc 1 _ rfl,hc 2 _ rfl,?_,h3 _ (List.getElem_mem hj2)⟩;subst h2;rw [List.getElem_map]; rfl
def notB:Option Int→Int→Bool
 | some q,x=>decide (x≤q)
 | none,_=>false
def allA (s:SchemaL):Option Int→List RecL→Int
 | _,[]=>0
 | p,r :: R=>if zer s r = 0 then (if notB p r.id = true then 12 else allA s (some r.id) R) else zer s r
theorem allA_cons (s:SchemaL) (p:Option Int) (r:RecL) (R:List RecL):allA s p (r :: R) = if zer s r = 0 then (if notB p r.id = true then 12 else allA s (some r.id) R) else zer s r:=rfl
def allN (s:SchemaL) (R:List RecL):Int:=if zax s = 0 then (if R.length≤64 then allA s none R else 1) else zax s
def zg5 (R:List RecL) (j:Nat):Option Int:=if j = 0 then none else some (R.getD (j - 1) noRec).id
theorem allA_yes {s:SchemaL}:∀ (R:List RecL) (p:Option Int),(∀ r∈R,zer s r = 0)→(∀ q r,p = some q→R.head? = some r→q < r.id)→(∀ j (h:j + 1 < R.length),(R[j]'(by omega)).id < R[j + 1].id)→allA s p R = 0
 | [],p,_,_,_=>rfl
 | r :: R,p,h1,h2,h3=>by
  unfold allA;rw [if_pos (h1 r List.mem_cons_self),if_neg]
  ·refine allA_yes R (some r.id) (fun x hx=>h1 x (List.mem_cons_of_mem _ hx)) (fun q x hq hx=>?_) (fun j h=>h3 (j + 1) (by simpa using h))
   cases hq;cases R with
   | nil=>cases hx
   | cons y R=>cases hx; exact h3 0 (by simp)
  ·cases p with
   | none=>simp [notB]
   | some q =>
    have:=h2 q r rfl rfl;simp [notB]; omega
theorem rall_any (S T:Nat→Prop) (vf vt vn vs rv:Value) (s:SchemaL) (R:List RecL) (w:World) (h:SchemaAt w S vf vt vn vs s) (hr:RecsVec w T rv R) (hl:∀ r∈R,∀ x∈r.vals,x.length≤1000000) (hn:∀ r∈R,r.vals.length≤1000000) (hR:R.length≤1000000) :
  Calls prog 38 #[.agg #[vf,vt,vn,vs],rv] w fun e w'=>e = .returned (.int .i64 (allN s R))∧Below w.heap.size w w':=by
 obtain ⟨ar,cr,rfl⟩:=hr.slice;have HS:=zjp h; have HR:=zjp hr.any; have HL:=zjp hl; have HN:=zjp hn;obtain ⟨E,hE⟩:∃ E,allN s R = E:=⟨_,rfl⟩;rw [hE];have HE:=zjp hE;clear h hr hl hn hE;go_enter func38,ntmps38
 go_wp2_with fail
 refine zai (fun W hW=>?_)
 have hb0:=xal hW
 have hs0:W.heap[w.heap.size]? = some (.cells #[vf,vt,vn,vs] 33 (0,0)):=by rw [hW]; exact zac rfl
 clear hW;refine (zgf S _ _ _ _ s W (HS.out.below hb0)).mono ?_;rintro e w1 ⟨rfl,hb⟩;have hs1:=zab hb (zaa hs0) hs0;have HB1:=zjp (hb0.trans (hb.mono hb0.size)); have HS1:=zjp hs1;clear hb hb0 hs0 hs1;obtain ⟨c,hc⟩:∃ c,zax s = c:=⟨_,rfl⟩;rw [hc];by_cases hc0:c = 0
 ·subst hc0
  have dz:((0:Int) != 0) = false:=rfl;by_cases h64:R.length≤64
  ·have d64:decide ((64:Int) < (R.length:Int)) = false:=by simp; omega
   have HE2:=zjp (show allA s none R = E by rw [← HE.out]; unfold allN; rw [if_pos hc,if_pos h64]);clear hc HE;go_wp2_with fail
   go_loopw [19] (fun t wr=>∃ j:Nat,t = .int .i64 j∧j≤R.length∧Hid (allA s (zg5 R j) (R.drop j) = E)∧Below w1.heap.size w1 wr) (fun t _=>R.length - (intOf t).toNat)
   case atStart=>exact ⟨0,rfl,by omega,HE2,Below.refl _ _⟩
   case round =>
    obtain ⟨j,rfl,hj,HT,hbw⟩:=hrel;have HBW:=zjp hbw;by_cases hlt:j < R.length
    ·have hq:decide ((j:Int) < (R.length:Int)) = true:=by simp; omega
     have hji:(j:Int) < (R.length:Int):=by omega
     have hbw0:=HB1.out.trans (hbw.mono HB1.out.size);obtain ⟨b,off,id,ver,aa,nn,cc,vals,rfl,lb,c0,c1,c2,hRj,hvv⟩:=(HR.out.below hbw0).at j hlt;obtain ⟨s0,s1,s2,s3⟩:=zak (zab hbw (zaa HS1.out) HS1.out);have lsr:w.heap.size < wr.heap.size:=by have:=zaa HS1.out; have:=hbw.size; omega
     have hT:=HT.out;rw [List.drop_eq_getElem_cons hlt,allA_cons] at hT;have hmem:R[j]∈R:=List.getElem_mem hlt;have HLv:=zjp (HL.out _ hmem); have HNv:=HN.out _ hmem
     have HP:=zjp (show j≠0→∃ pid:Int,zg5 R j = some pid∧wr.cell? ⟨b,off + (j - 1) * 3,none⟩ = some (.int .i64 pid) from fun h0=>by
      obtain ⟨b',off',id',ver',aa',nn',cc',vals',he,_,d0,_,_,hR',_⟩:=(HR.out.below hbw0).at (j - 1) (by omega);cases he;refine ⟨id',?_,d0⟩;unfold zg5
      rw [if_neg h0,za5 _ _ (by omega),hR'])
     rw [hRj] at hT HLv HNv;have HRJ:=zjp hRj; have HV:=zjp hvv; have HT2:=zjp hT;clear hT hmem hRj hvv HT hbw;dsimp only at HLv HNv;have hvl:=HV.out.len.1;subst hvl;obtain ⟨ci,hci⟩:∃ ci,zer s ⟨id,ver,vals⟩ = ci:=⟨_,rfl⟩;go_wp2_with fail
     refine zai (fun Wc hWc=>?_)
     have hbc:=xal hWc
     have hy:Wc.heap[wr.heap.size]? = some (.cells #[.int .i64 id,.int .i64 ver,.slice aa vals.length cc] 68 (0,0)):=by rw [hWc]; exact zac rfl
     clear hWc;refine (rchk_any S _ _ _ _ s ⟨id,ver,vals⟩ _ Wc ((HS.out.below hbw0).below hbc) (HV.out.below hbc) HLv.out HNv).mono ?_;rw [hci];rintro e w2 ⟨rfl,hb⟩;have hbr:=hbc.trans (hb.mono hbc.size);have hy2:=zab hb (zaa hy) hy;have HB2:=zjp (HBW.out.trans (hbr.mono HBW.out.size));obtain ⟨r0,r1,r2⟩:=zao hy2;have ly:=zaa hy2;have HBR:=zjp hbr;clear hb hbc hy hy2 hbr s0 s1 s2 s3 c0 c1 c2;by_cases hci0:ci = 0
     ·subst hci0
      have hT3:=HT2.out;rw [hci,if_pos rfl] at hT3;have HT3:=zjp hT3;clear hT3 HT2 hci;by_cases hj0:j = 0
      ·have dj:decide (0 < j) = false:=by simp; omega
       have HT4:=zjp (show allA s (zg5 R (j + 1)) (R.drop (j + 1)) = E by
        have:=HT3.out;rw [show zg5 R j = none by unfold zg5; rw [if_pos hj0]] at this;rw [← this];unfold zg5
        rw [if_neg (by omega),show j + 1 - 1 = j by omega,za5 _ _ hlt,HRJ.out]; rfl)
       clear HT3 HP;go_upto_region 12 with fail
       refine wp_region_noPanic ?_
       refine wp_region_held_drew (S:=(fun w'=>True)) (by kernel_rfl) (trivial) (fun hHeld=>?_)
       refine tH 0 (h:=?_);refine tH 1 (h:=?_);refine tH 2 (h:=?_);refine sH 3 (h:=?_);refine sH 4 (h:=?_);refine sH 5 (h:=?_);refine sH 6 (h:=?_);refine sH 7 (h:=?_);refine sH 8 (h:=?_);refine sH 9 (h:=?_);refine sH 10 (h:=?_);refine sH 11 (h:=?_);refine tH 12 (h:=?_);refine wpAnyH_done (by kernel_rfl) ?_ _;refine NoPanic.normal ?_;go_wp2_with fail
       go_roundw
       case rel=>exact ⟨j + 1,by go_num,by omega,HT4,HB2.out.drew⟩
       case measure=>simp [intOf]; omega
      ·have dj:decide (0 < j) = true:=by simp; omega
       obtain ⟨pid,hpr,hpc⟩:=HP.out hj0;have hpc2:=(HBR.out.cell (p:=⟨b,off + (j - 1) * 3,none⟩) lb).trans hpc;have hj1:(j:Int) - 1 < (R.length:Int):=by omega
       have hj2:(1:Int)≤(j:Int):=by omega
       have hj3:((j:Int) - 1).toNat = j - 1:=by omega
       have hwr:IntKind.i64.wrap ((j:Int) - 1) = (j:Int) - 1:=by rw [IntKind.wrap_i64]; omega
       have hT4:=HT3.out;rw [hpr] at hT4;clear HP hpc HT3;by_cases hle:id≤pid
       ·have dle:decide (id≤pid) = true:=by simpa using hle
        have hE12:E = 12:=by rw [← hT4]; unfold notB; dsimp only; rw [if_pos dle]
        subst hE12;clear hT4;go_upto_region 12 with fail
        refine wp_region_noPanic ?_
        refine wp_region_held_drew (S:=(fun w'=>w'.cell? ⟨b,off + (j - 1) * 3,none⟩ = some (.int .i64 pid)∧w'.cell? ⟨wr.heap.size,0,none⟩ = some (.int .i64 id))) (by kernel_rfl) (⟨hpc2,r0⟩) (fun hHeld=>?_)
        refine tH 0 (h:=?_);refine tH 1 (h:=?_);refine tH 2 (h:=?_);refine tH 3 (h:=?_);refine tH 4 (h:=?_);refine tH 5 (h:=?_);refine tH 6 (h:=?_);refine tH 7 (h:=?_);refine tH 8 (h:=?_);refine tH 9 (h:=?_);refine tH 10 (h:=?_);refine tH 11 (h:=?_);refine tH 12 (h:=?_);refine wpAnyH_done (by kernel_rfl) ?_ _;refine NoPanic.normal ?_;go_wp2_with fail
        go_ret;exact ⟨rfl,HB1.out.trans (HB2.out.drew.mono HB1.out.size)⟩
       ·have dle:decide (id≤pid) = false:=by simpa using hle
        have HT5:=zjp (show allA s (zg5 R (j + 1)) (R.drop (j + 1)) = E by
         rw [← hT4];unfold notB; dsimp only;rw [if_neg (by rw [dle]; decide)];unfold zg5
         rw [if_neg (by omega),show j + 1 - 1 = j by omega,za5 _ _ hlt,HRJ.out])
        clear hT4;go_upto_region 12 with fail
        refine wp_region_noPanic ?_
        refine wp_region_held_drew (S:=(fun w'=>w'.cell? ⟨b,off + (j - 1) * 3,none⟩ = some (.int .i64 pid)∧w'.cell? ⟨wr.heap.size,0,none⟩ = some (.int .i64 id))) (by kernel_rfl) (⟨hpc2,r0⟩) (fun hHeld=>?_)
        refine tH 0 (h:=?_);refine tH 1 (h:=?_);refine tH 2 (h:=?_);refine tH 3 (h:=?_);refine tH 4 (h:=?_);refine tH 5 (h:=?_);refine tH 6 (h:=?_);refine tH 7 (h:=?_);refine tH 8 (h:=?_);refine tH 9 (h:=?_);refine tH 10 (h:=?_);refine tH 11 (h:=?_);refine tH 12 (h:=?_);refine wpAnyH_done (by kernel_rfl) ?_ _;refine NoPanic.normal ?_;go_wp2_with fail
        go_roundw
        case rel=>exact ⟨j + 1,by go_num,by omega,HT5,HB2.out.drew⟩
        case measure=>simp [intOf]; omega
     ·have hE3:E = ci:=by rw [← HT2.out,hci,if_neg hci0]
      have dne:(ci != (0:Int)) = true:=by simpa using hci0
      subst hE3;clear HT2 hci HE2 HP;go_wp2_with fail
      go_ret;exact ⟨rfl,HB1.out.trans (HB2.out.mono HB1.out.size)⟩
    ·have hq:decide ((j:Int) < (R.length:Int)) = false:=by simp; omega
     obtain rfl:j = R.length:=by omega
     have hE0:E = 0:=by rw [← HT.out,List.drop_length]; rfl
     subst hE0;go_wp2_with fail
     go_ret;exact ⟨rfl,HB1.out.trans (hbw.mono HB1.out.size)⟩
  ·have d64:decide ((64:Int) < (R.length:Int)) = true:=decide_eq_true (by omega)
   have hE1:E = 1:=by rw [← HE.out]; unfold allN; rw [if_pos hc,if_neg h64]
   subst hE1;clear hc HE;go_wp2_with fail
   go_ret;exact ⟨rfl,HB1.out⟩
 ·have dne:(c != (0:Int)) = true:=by simpa using hc0
  have hE1:E = c:=by rw [← HE.out]; unfold allN; rw [hc,if_neg hc0]
  subst hE1;clear HE;go_wp2_with fail
  go_ret;exact ⟨rfl,HB1.out⟩
end
end Go.Proofs.YtgkaafncfjlooaaGreatDoor
