/- Parts of one proof: AdmH, Ref19A, Ref19B, AdmL, Ref19C, OpenExpo, LawG, EncM, RefBitsE, RefSipA, RefSipB, RefSipC, Ref16A, RefBloomA, Ref16B, RefBloomB, RefBloomC, RefGramB, RefSchF, RefRecD, RefRecE. -/
import Derived.Test.YtgkaafncfjlooaaGreatDoorPartEx7
set_option maxHeartbeats 16000000
set_option maxRecDepth 100000
open Go.Proofs.Tryz
set_option linter.unusedSimpArgs false
set_option linter.unusedVariables false
namespace Go.Proofs.YtgkaafncfjlooaaGreatDoor
section
open Go.RowKit
theorem k_world {α:Type} {K:α->World->Prop} {a:α} {w:World} (h:∀ wS,wS=w->K a wS):K a w:=h w rfl
theorem refEnter_any (u v:Value) (a l:List Ex) (w:World) (hu:ExRow w (All w) u a) (hl:ExRow w (All w) v l) (hca:ze4 a=0) (hcl:ze4 l=0) (hlen:a.length=l.length) :
  Calls prog 27 #[u,v] w (zi1 (zcc 0 a l) w):=by
 have KA:=fun w h=>zjy (refCheck_any u a w h hca)
 have KL:=fun w h=>zjy (refCheck_any v l w h hcl)
 obtain ⟨⟨h1,h5⟩,_⟩:=chk_ok hca;obtain ⟨ua,uc,rfl⟩:=hu.val;obtain ⟨va,vc,rfl⟩:=hl.val;have HU:=zjy hu;clear hu;have HL:=zjy hl;clear hl;have a2:=zjy hlen;have t1:decide ((0:Int)<(a.length:Int))=true:=by simp;omega
 have t2:((a.length:Int) == 0)=false:=beq_eq_false_iff_ne.2 (by omega);have t3:((a.length:Int) != (l.length:Int))=false:=by simp [hlen]
 have t4:((a.length:Int) == (l.length:Int))=true:=by simp [hlen]
 have q1:a.length<=l.length:=by omega
 have q2:l.length<=a.length:=by omega
 clear hlen hca hcl;have HB:=zjy (Below.refl w.heap.size w);go_enter func27,ntmps27
 go_wp2_with fail
 refine ((KA _ HU.o).o).mono ?_;rintro e w0 ⟨rfl,hb⟩;have hx:=zjy (by first | exact HB.o.trans (hb.mono HB.o.size) | exact (HB.o.alloc HB.o.size _).trans (hb.mono (by have:=HB.o.size;first | omega | (simp;done) | (simp;omega))) | exact ((HB.o.alloc HB.o.size _).alloc (by have:=HB.o.size;first | omega | (simp;done) | (simp;omega)) _).trans (hb.mono (by have:=HB.o.size;first | omega | (simp;done) | (simp;omega))):Below w.heap.size w w0);clear HB hb;have HB:=hx;clear hx;go_wp2_with fail
 refine ((KL _ (HL.o.below HB.o)).o).mono ?_;rintro e w1 ⟨rfl,hb⟩;have hx:=zjy (by first | exact HB.o.trans (hb.mono HB.o.size) | exact (HB.o.alloc HB.o.size _).trans (hb.mono (by have:=HB.o.size;first | omega | (simp;done) | (simp;omega))) | exact ((HB.o.alloc HB.o.size _).alloc (by have:=HB.o.size;first | omega | (simp;done) | (simp;omega)) _).trans (hb.mono (by have:=HB.o.size;first | omega | (simp;done) | (simp;omega))):Below w.heap.size w w1);clear HB hb;have HB:=hx;clear hx;go_wp2_with fail
 go_loopw [8,9] (fun out i wr=>∃ k:Nat,k<=l.length/\i = .int .i64 k/\wr.ownsRow w.heap.size 61 5 out k (zdl ((zcc 0 a l).take k))/\Below w.heap.size w wr) (fun _ i _=>l.length - (intOf i).toNat)
 case atStart=>exact ⟨0,by omega,rfl,World.ownsRow_nil _ _ _ _,HB.o⟩
 case round =>
  obtain ⟨k,hk,rfl,a0,hb⟩:=hrel;clear HB KA KL t1 t2 t3 t4;by_cases hlt:k<l.length
  ·have a3:k<a.length:=by omega
   have b0:(k:Int)<(a.length:Int):=by omega
   obtain ⟨bl,ol,rfl,a4,c0,c1,c2,c3,c4⟩:=HU.o.get k a3;obtain ⟨bb,ob,rfl,a5,e0,e1,e2,e3,e4⟩:=HL.o.get k hlt;generalize hx:a[k]=x at *;generalize hy:l[k]=y at *;have HX:=zjy hx;have HY:=zjy hy;clear hx hy;obtain ⟨xf,xu,xh,xc,xi⟩:=x;obtain ⟨yf,yu,yh,yc,yi⟩:=y;dsimp only at *;have d0:=(hb.cell (p:=⟨bl,ol+k*5,none⟩) a4).trans c0;have d1:=(hb.cell (p:=⟨bl,ol+k*5+1,none⟩) a4).trans c1;have d2:=(hb.cell (p:=⟨bl,ol+k*5+2,none⟩) a4).trans c2;have d3:=(hb.cell (p:=⟨bl,ol+k*5+3,none⟩) a4).trans c3;have d4:=(hb.cell (p:=⟨bl,ol+k*5+4,none⟩) a4).trans c4;have g0:=(hb.cell (p:=⟨bb,ob+k*5,none⟩) a5).trans e0;have g1:=(hb.cell (p:=⟨bb,ob+k*5+1,none⟩) a5).trans e1;have g2:=(hb.cell (p:=⟨bb,ob+k*5+2,none⟩) a5).trans e2;have g3:=(hb.cell (p:=⟨bb,ob+k*5+3,none⟩) a5).trans e3;have g4:=(hb.cell (p:=⟨bb,ob+k*5+4,none⟩) a5).trans e4;clear c0 c1 c2 c3 c4 e0 e1 e2 e3 e4;have HB:=zjy hb;clear hb;have a1:=zjy a0;clear a0;go_wp2_with fail
   have nd:=World.new_ne _ _ d0;have ng:=World.new_ne _ _ g0;dsimp only at nd ng;go_region_held3 (fun w'=>w'.cell? ⟨bl,ol+k*5,none⟩=some (.int .i64 xf)/\w'.cell? ⟨bl,ol+k*5+1,none⟩=some (.int .i64 xu)/\w'.cell? ⟨bl,ol+k*5+2,none⟩=some (.int .i64 xh)/\w'.cell? ⟨bl,ol+k*5+3,none⟩=some (.int .i64 xc)/\w'.cell? ⟨bl,ol+k*5+4,none⟩=some (.int .i64 xi)/\w'.cell? ⟨bb,ob+k*5,none⟩=some (.int .i64 yf)/\w'.cell? ⟨bb,ob+k*5+1,none⟩=some (.int .i64 yu)/\w'.cell? ⟨bb,ob+k*5+2,none⟩=some (.int .i64 yh)/\w'.cell? ⟨bb,ob+k*5+3,none⟩=some (.int .i64 yc)/\w'.cell? ⟨bb,ob+k*5+4,none⟩=some (.int .i64 yi)) (go_keep) (fail)
   all_goals clear d0 d1 d2 d3 d4 g0 g1 g2 g3 g4 nd ng
   focus
    refine k_world (fun wV hV=>?_)
    have BX:wV.heap[wr.heap.size]?=some (.cells #[.int .i64 xf,.int .i64 xu,.int .i64 xh,.int .i64 xc,.int .i64 xi] 61 (0,0)):=by rw [hV];first | exact zac (by simp) | exact zaf (zac rfl)
    have BY:wV.heap[wr.heap.size+1]?=some (.cells #[.int .i64 yf,.int .i64 yu,.int .i64 yh,.int .i64 yc,.int .i64 yi] 61 (0,0)):=by rw [hV];first | exact zac (by simp) | exact zaf (zac rfl)
    have a7:=zjy (show wV.ownsRow w.heap.size 61 5 u8 k (zdl ((zcc 0 a l).take k)) by rw [hV];exact ((a1.o.alloc _).alloc _).drew);have a6:=zjy (show Below w.heap.size w wV by rw [hV];exact ((HB.o.alloc HB.o.size _).alloc (by have:=HB.o.size;simp;omega) _).drew);have x0:wV.cell? ⟨wr.heap.size,0,none⟩=some (.int .i64 xf):=(cell_of_row _ _ _ _ _ _ BX).trans rfl;have y0:wV.cell? ⟨wr.heap.size+1,0,none⟩=some (.int .i64 yf):=(cell_of_row _ _ _ _ _ _ BY).trans rfl;have x1:wV.cell? ⟨wr.heap.size,1,none⟩=some (.int .i64 xu):=(cell_of_row _ _ _ _ _ _ BX).trans rfl;have y1:wV.cell? ⟨wr.heap.size+1,1,none⟩=some (.int .i64 yu):=(cell_of_row _ _ _ _ _ _ BY).trans rfl;have x2:wV.cell? ⟨wr.heap.size,2,none⟩=some (.int .i64 xh):=(cell_of_row _ _ _ _ _ _ BX).trans rfl;have y2:wV.cell? ⟨wr.heap.size+1,2,none⟩=some (.int .i64 yh):=(cell_of_row _ _ _ _ _ _ BY).trans rfl;have x3:wV.cell? ⟨wr.heap.size,3,none⟩=some (.int .i64 xc):=(cell_of_row _ _ _ _ _ _ BX).trans rfl;have y3:wV.cell? ⟨wr.heap.size+1,3,none⟩=some (.int .i64 yc):=(cell_of_row _ _ _ _ _ _ BY).trans rfl;have x4:wV.cell? ⟨wr.heap.size,4,none⟩=some (.int .i64 xi):=(cell_of_row _ _ _ _ _ _ BX).trans rfl;have y4:wV.cell? ⟨wr.heap.size+1,4,none⟩=some (.int .i64 yi):=(cell_of_row _ _ _ _ _ _ BY).trans rfl;clear hV BX BY a1 HB
   rotate_left
   focus
    refine k_world (fun wV hV=>?_)
    have BX:wV.heap[wr.heap.size+1]?=some (.cells #[.int .i64 xf,.int .i64 xu,.int .i64 xh,.int .i64 xc,.int .i64 xi] 61 (0,0)):=by rw [hV];first | exact zac (by simp) | exact zaf (zac rfl)
    have BY:wV.heap[wr.heap.size]?=some (.cells #[.int .i64 yf,.int .i64 yu,.int .i64 yh,.int .i64 yc,.int .i64 yi] 61 (0,0)):=by rw [hV];first | exact zac (by simp) | exact zaf (zac rfl)
    have a7:=zjy (show wV.ownsRow w.heap.size 61 5 u8 k (zdl ((zcc 0 a l).take k)) by rw [hV];exact ((a1.o.alloc _).alloc _).drew);have a6:=zjy (show Below w.heap.size w wV by rw [hV];exact ((HB.o.alloc HB.o.size _).alloc (by have:=HB.o.size;simp;omega) _).drew);have x0:wV.cell? ⟨wr.heap.size+1,0,none⟩=some (.int .i64 xf):=(cell_of_row _ _ _ _ _ _ BX).trans rfl;have y0:wV.cell? ⟨wr.heap.size,0,none⟩=some (.int .i64 yf):=(cell_of_row _ _ _ _ _ _ BY).trans rfl;have x1:wV.cell? ⟨wr.heap.size+1,1,none⟩=some (.int .i64 xu):=(cell_of_row _ _ _ _ _ _ BX).trans rfl;have y1:wV.cell? ⟨wr.heap.size,1,none⟩=some (.int .i64 yu):=(cell_of_row _ _ _ _ _ _ BY).trans rfl;have x2:wV.cell? ⟨wr.heap.size+1,2,none⟩=some (.int .i64 xh):=(cell_of_row _ _ _ _ _ _ BX).trans rfl;have y2:wV.cell? ⟨wr.heap.size,2,none⟩=some (.int .i64 yh):=(cell_of_row _ _ _ _ _ _ BY).trans rfl;have x3:wV.cell? ⟨wr.heap.size+1,3,none⟩=some (.int .i64 xc):=(cell_of_row _ _ _ _ _ _ BX).trans rfl;have y3:wV.cell? ⟨wr.heap.size,3,none⟩=some (.int .i64 yc):=(cell_of_row _ _ _ _ _ _ BY).trans rfl;have x4:wV.cell? ⟨wr.heap.size+1,4,none⟩=some (.int .i64 xi):=(cell_of_row _ _ _ _ _ _ BX).trans rfl;have y4:wV.cell? ⟨wr.heap.size,4,none⟩=some (.int .i64 yi):=(cell_of_row _ _ _ _ _ _ BY).trans rfl;clear hV BX BY a1 HB
   rotate_left
   all_goals
    go_wp2_with (at_builtin;refine zay rfl _ _ 46 rfl w.heap.size 61 5 40 _ underlying46 infoEx rfl (by decide) (by decide) _ _ _ rfl a7.o _ 1 rfl rfl (by simp [Value.oneCell']) (by omega) a6.o.size ?_;intro v5 w5 a9 a8)
    go_roundw
    case rel =>
     refine ⟨k+1,by omega,by go_num,?_,a8 _ a6.o⟩;have hm:k<(zcc 0 a l).length:=by rw [zdh a 0 l a2.o];exact a3
     rw [List.take_succ_eq_append_getElem hm,zfp a 0 l a2.o k a3 hlt hm];rw [HX.o,HY.o];have e2:∀ (A:List Ex) (z:Ex),zdl (A++[z])=zdl A++z.cells:=fun A z=>by simp [zdl]
     rw [e2];simpa [Ex.cells,Ex.max2,mx_if] using a9
    case measure=>simp [intOf];omega
  ·go_wp2_with fail
   go_ret2;obtain rfl:k=l.length:=by omega
   have hm:(zcc 0 a l).length=l.length:=by rw [zdh _ _ _ a2.o,a2.o]
   rw [List.take_of_length_le (by omega)] at a0;exact ⟨⟨_,rfl,by unfold ExRow;rw [hm];exact Row.owns a0 fun b hb _=>hb⟩,hb⟩
end
section
open Go.RowKit
theorem chk_two {l:List Ex} (h1:1<=l.length) (h5:l.length<=5) {k:Nat} (hk:k<l.length) (h:¬ (l[k]).ok (k:Int)):ze4 l=2:=by
 unfold ze4;rw [if_pos ⟨h1,h5⟩,if_neg];intro ho;have:=(zhg l 0).1 ho k hk;rw [Nat.zero_add] at this;exact h this
theorem zeg (v:Value) (l:List Ex) (w:World) (hl:ExRow w (All w) v l) (hn:l.length<=1000000) :
  Calls prog 32 #[v] w fun e w'=>e = .returned (.int .i64 (ze4 l))/\Below w.heap.size w w':=by
 obtain ⟨ua,uc,rfl⟩:=hl.val;have HL:=zjy hl;clear hl;have HF:=zjy (show ∀ r:Int,ze4 l=r->Ending.returned (.int .i64 r) = .returned (.int .i64 (ze4 l)) from fun r h=>by rw [h])
 obtain ⟨n,a3⟩:=xex (l.length);have HN:=zjy a3;rw [a3] at hn HL ⊢;clear a3;by_cases h1:1<=n;rotate_left
 ·have g1:((n:Int)<1)=True:=by simp;omega
  go_enter func32,ntmps32
  go_wp2_with fail
  go_ret;exact ⟨HF.o _ (by unfold ze4;rw [if_neg (by have:=HN.o;omega)]),Below.refl _ _⟩
 have g1:((n:Int)<1)=False:=by simp;omega
 by_cases h5:n<=5;rotate_left
 ·have g2:(5<(n:Int))=True:=by simp;omega
  go_enter func32,ntmps32
  go_wp2_with fail
  go_ret;exact ⟨HF.o _ (by unfold ze4;rw [if_neg (by have:=HN.o;omega)]),Below.refl _ _⟩
 have g2:(5<(n:Int))=False:=by simp;omega
 go_enter func32,ntmps32
 go_wp2_with fail
 clear g1 g2;go_loopw [3,4] (fun i _ wr=>∃ k:Nat,k<=n/\i = .int .i64 k/\Below w.heap.size w wr/\Hid (∀ j,(hj:j<l.length)->j<k->(l[j]).ok (j:Int))) (fun i _ _=>n - (intOf i).toNat)
 case atStart=>exact ⟨0,by omega,rfl,Below.refl _ _,zjy fun j _ h=>by omega⟩
 case round =>
  obtain ⟨k,hk,rfl,hb,a4⟩:=hrel;obtain ⟨WR,a7⟩:∃ u,u=wr:=⟨_,rfl⟩;subst a7;have HB:=zjy hb;by_cases hlt:k<n
  ·have hq:decide ((k:Int)<(n:Int))=true:=by simp;omega
   have hki:(k:Int)<(n:Int):=by omega
   have a5:k<l.length:=by rw [HN.o];exact hlt
   have a0:=zjy (show ¬ (l[k]).ok (k:Int)->Ending.returned (.int .i64 2) = .returned (.int .i64 (ze4 l)) from fun h=>HF.o _ (chk_two (by rw [HN.o];exact h1) (by rw [HN.o];exact h5) a5 h))
   obtain ⟨b,off,e,hbw,c0,c1,c2,c3,c4⟩:=(HL.o.below hb).get k a5;cases e
   have a2:=zjy (show (l[k]).ok (k:Int)->∀ j,(hj:j<l.length)->j<k+1->(l[j]).ok (j:Int) from fun h j hj hjk=>by
    by_cases e:j=k
    ·subst e;exact h
    ·exact a4.o j hj (by omega))
   obtain ⟨x,hx⟩:=xex (l[k]);rw [hx] at c0 c1 c2 c3 c4 a0 a2;obtain ⟨xf,xu,xh,xc,xi⟩:=x;dsimp only at c0 c1 c2 c3 c4;have a6:Below w.heap.size w (WR.alloc (.cells #[.int .i64 xf,.int .i64 xu,.int .i64 xh,.int .i64 xc,.int .i64 xi] 61)):=hb.alloc hb.size _;have a1:=zjy a6;clear hb a6 hx;by_cases p0:xf=(k:Int);rotate_left
   ·have t0:(xf != (k:Int))=true:=by simpa using p0
    have HP:=zjy p0;clear p0;go_wp2_with fail
    go_ret;exact ⟨a0.o (fun h=>HP.o h.1),a1.o⟩
   subst p0;by_cases p1:xu<0
   ·have t1:(xu<0)=True:=eq_true p1
    have HP:=zjy p1;clear p1;go_wp2_with fail
    go_ret;exact ⟨a0.o (fun h=>by have h1:=HP.o;unfold Ex.ok Ex.inB at h;dsimp only at h;omega),a1.o⟩
   have t1:(xu<0)=False:=eq_false p1;by_cases p2:64<xu
   ·have t2:(64<xu)=True:=eq_true p2
    have HP:=zjy p2;clear p2;go_wp2_with fail
    go_ret;exact ⟨a0.o (fun h=>by have h1:=HP.o;unfold Ex.ok Ex.inB at h;dsimp only at h;omega),a1.o⟩
   have t2:(64<xu)=False:=eq_false p2;by_cases p3:xh<0
   ·have t3:(xh<0)=True:=eq_true p3
    have HP:=zjy p3;clear p3;go_wp2_with fail
    go_ret;exact ⟨a0.o (fun h=>by have h1:=HP.o;unfold Ex.ok Ex.inB at h;dsimp only at h;omega),a1.o⟩
   have t3:(xh<0)=False:=eq_false p3;by_cases p4:64<xh
   ·have t4:(64<xh)=True:=eq_true p4
    have HP:=zjy p4;clear p4;go_wp2_with fail
    go_ret;exact ⟨a0.o (fun h=>by have h1:=HP.o;unfold Ex.ok Ex.inB at h;dsimp only at h;omega),a1.o⟩
   have t4:(64<xh)=False:=eq_false p4;by_cases p5:xc<0
   ·have t5:(xc<0)=True:=eq_true p5
    have HP:=zjy p5;clear p5;go_wp2_with fail
    go_ret;exact ⟨a0.o (fun h=>by have h1:=HP.o;unfold Ex.ok Ex.inB at h;dsimp only at h;omega),a1.o⟩
   have t5:(xc<0)=False:=eq_false p5;by_cases p6:512<xc
   ·have t6:(512<xc)=True:=eq_true p6
    have HP:=zjy p6;clear p6;go_wp2_with fail
    go_ret;exact ⟨a0.o (fun h=>by have h1:=HP.o;unfold Ex.ok Ex.inB at h;dsimp only at h;omega),a1.o⟩
   have t6:(512<xc)=False:=eq_false p6;by_cases p7:xi<0
   ·have t7:(xi<0)=True:=eq_true p7
    have HP:=zjy p7;clear p7;go_wp2_with fail
    go_ret;exact ⟨a0.o (fun h=>by have h1:=HP.o;unfold Ex.ok Ex.inB at h;dsimp only at h;omega),a1.o⟩
   have t7:(xi<0)=False:=eq_false p7;by_cases p8:1000<xi
   ·have t8:(1000<xi)=True:=eq_true p8
    have HP:=zjy p8;clear p8;go_wp2_with fail
    go_ret;exact ⟨a0.o (fun h=>by have h1:=HP.o;unfold Ex.ok Ex.inB at h;dsimp only at h;omega),a1.o⟩
   have t8:(1000<xi)=False:=eq_false p8;have HG:=zjy (a2.o (by unfold Ex.ok Ex.inB;dsimp only;omega));clear p1 p2 p3 p4 p5 p6 p7 p8;go_wp2_with fail
   go_roundw
   case rel=>exact ⟨k+1,by omega,by go_num,a1.o,HG⟩
   case measure=>simp [intOf];omega
  ·have hq:decide ((k:Int)<(n:Int))=false:=by simp;omega
   have HT:=zjy (show ze4 l=0 from chk_of (by rw [HN.o];exact h1) (by rw [HN.o];exact h5) fun j hj=>a4.o j hj (by rw [HN.o] at hj;omega))
   clear a4 hb;go_wp2_with fail
   go_ret;exact ⟨HF.o _ HT.o,HB.o⟩
theorem rrounded_any (c n:Int) (w:World) (h0:0<=c) (h1:c<=512) (n1:1<=n) (n2:n<=512) :
  Calls prog 55 #[.int .i64 (1000*c),.int .i64 n] w fun e w'=>e = .returned (.int .i64 ((2000*c+n).tdiv (2*n)))/\w=w':=by
 have e1:IntKind.i64.wrap (2*(1000*c))=2000*c:=by rw [IntKind.wrap_i64];omega
 have e2:IntKind.i64.wrap (2000*c+n)=2000*c+n:=by rw [IntKind.wrap_i64];omega
 have e3:IntKind.i64.wrap (2*n)=2*n:=by rw [IntKind.wrap_i64];omega
 have hd:0<=(2000*c+n).tdiv (2*n)/\(2000*c+n).tdiv (2*n)<=2000000:=by
  have e:(2000*c+n).tdiv (2*n)=(2000*c+n) / (2*n):=Int.tdiv_eq_ediv_of_nonneg (by omega);rw [e];refine ⟨Int.ediv_nonneg (by omega) (by omega),?_⟩;have:=Int.ediv_le_self (b:=2*n) (show 0<=2000*c+n by omega);omega
 obtain ⟨q,hq⟩:=xex ((2000*c+n).tdiv (2*n));rw [hq] at hd ⊢;obtain ⟨hd0,hd1⟩:=hd;have e4:IntKind.i64.wrap q=q:=by rw [IntKind.wrap_i64];omega
 have hn0:¬ 2*n=0:=by omega
 have e5:(2*(1000*c))=2000*c:=by omega
 go_enter func55,ntmps55
 go_wp2_with fail
 go_ret;exact ⟨by first | rfl | (simp [e5,hq,e4];done) | (rw [<- hq]),rfl⟩
end
section
open Go.RowKit
theorem le_no {b l:List Ex} {k:Nat} (hl:k<l.length) (hb:k<b.length) (h:¬ (l[k]).le b[k]):¬ zg8 l b:=fun h2=>h ((zgq l b).1 h2 k hl hb)
theorem zi5 (u v:Value) (b l:List Ex) (w:World) (hu:ExRow w (All w) u b) (hl:ExRow w (All w) v l) (nb:b.length<=1000000) (nl:l.length<=1000000) :
  Calls prog 29 #[u,v] w fun e w'=>e = .returned (.bool (decide (zcq b l=0)))/\Below w.heap.size w w':=by
 obtain ⟨ua,uc,rfl⟩:=hu.val;obtain ⟨va,vc,rfl⟩:=hl.val;have HU:=zjy hu;have HL:=zjy hl;have KB:=zjy (fun (W:World) (hb:Below w.heap.size w W)=>zeg _ b W (hu.below hb) nb)
 have KL:=zjy (fun (W:World) (hb:Below w.heap.size w W)=>zeg _ l W (hl.below hb) nl)
 have HF:=zjy (show ∀ r:Bool,decide (zcq b l=0)=r->Ending.returned (.bool r) = .returned (.bool (decide (zcq b l=0))) from fun r h=>by rw [h])
 obtain ⟨cb,b0⟩:=xex (ze4 b);obtain ⟨cl,a9⟩:=xex (ze4 l);obtain ⟨n,hn⟩:=xex (l.length);obtain ⟨m,hm⟩:=xex (b.length);have a6:=zjy b0;have a7:=zjy a9;have HN:=zjy hn;have HM:=zjy hm;rw [b0,hm] at KB;rw [a9,hn] at KL;rw [hm] at nb HU ⊢;rw [hn] at nl HL ⊢;clear hu hl b0 a9 hn hm;by_cases h1:cb=0;rotate_left
 ·have d1:(cb != 0)=true:=by simpa using h1
  have HT:=zjy (show decide (zcq b l=0)=false by
   have h2:zcd b l≠0:=by unfold zcd;rw [if_pos (by rw [a6.o];exact h1),a6.o];exact h1
   unfold zcq;rw [if_pos h2];simpa using h2)
  clear h1;go_enter func29,ntmps29
  go_wp2_with fail
  refine (KB.o _ (Below.refl _ _)).mono ?_;rintro e w1 ⟨rfl,a1⟩;have a3:=zjy a1;clear a1;go_wp2_with fail
  go_ret;exact ⟨HF.o _ HT.o,a3.o⟩
 subst h1;by_cases h2:cl=0;rotate_left
 ·have d2:(cl != 0)=true:=by simpa using h2
  have HT:=zjy (show decide (zcq b l=0)=false by
   have h2:zcd b l≠0:=by unfold zcd;rw [if_neg (by rw [a6.o];simp),if_pos (by rw [a7.o];exact h2),a7.o];exact h2
   unfold zcq;rw [if_pos h2];simpa using h2)
  clear h2;go_enter func29,ntmps29
  go_wp2_with fail
  refine (KB.o _ (Below.refl _ _)).mono ?_;rintro e w1 ⟨rfl,a1⟩;have a3:=zjy a1;clear a1;go_wp2_with fail
  refine (KL.o _ a3.o).mono ?_;rintro e w2 ⟨rfl,a5⟩;have a8:=xhh a3 a5;clear a5;go_wp2_with fail
  go_ret;exact ⟨HF.o _ HT.o,a8.o⟩
 subst h2;go_enter func29,ntmps29
 go_wp2_with fail
 refine (KB.o _ (Below.refl _ _)).mono ?_;rintro e w1 ⟨rfl,a1⟩;have a3:=zjy a1;clear a1;go_wp2_with fail
 refine (KL.o _ a3.o).mono ?_;rintro e w2 ⟨rfl,a5⟩;have a8:=xhh a3 a5;clear a5;by_cases h3:m=n;rotate_left
 ·have d3:((m:Int) != (n:Int))=true:=by simp;omega
  have HT:=zjy (show decide (zcq b l=0)=false by
   have h2:zcd b l=8:=by unfold zcd;rw [if_neg (by rw [a6.o];simp),if_neg (by rw [a7.o];simp),if_pos (by rw [HM.o,HN.o];exact h3)]
   unfold zcq;rw [if_pos (by rw [h2];simp),h2];rfl)
  clear h3;go_wp2_with fail
  go_ret;exact ⟨HF.o _ HT.o,a8.o⟩
 have d3:((m:Int) != (n:Int))=false:=by simp;omega
 have H3:=zjy h3;clear h3;have b5:=zjy (show zcd b l=0 by unfold zcd;rw [if_neg (by rw [a6.o];simp),if_neg (by rw [a7.o];simp),if_neg (by rw [HM.o,HN.o];exact fun h=>h H3.o)])
 have b8:=zjy (show ¬ zg8 l b->decide (zcq b l=0)=false from fun h=>by unfold zcq;rw [if_neg (by rw [b5.o];simp),if_neg h];rfl)
 have b7:=zjy (show zg8 l b->decide (zcq b l=0)=true from fun h=>by unfold zcq;rw [if_neg (by rw [b5.o];simp),if_pos h];rfl)
 go_wp2_with fail
 go_loopw [5,6,7] (fun i _ _ wr=>∃ k:Nat,k<=n/\i = .int .i64 k/\Below w.heap.size w wr/\Hid (∀ j,(hj:j<l.length)->(hb:j<b.length)->j<k->(l[j]).le b[j])) (fun i _ _ _=>n - (intOf i).toNat)
 case atStart=>exact ⟨0,by omega,rfl,a8.o,zjy fun j _ _ h=>by omega⟩
 case round =>
  obtain ⟨k,hk,rfl,hb,b2⟩:=hrel;obtain ⟨wr,b6⟩:∃ u,u=wr:=⟨_,rfl⟩;subst b6;by_cases hlt:k<n
  ·have hq:decide ((k:Int)<(n:Int))=true:=by simp;omega
   have hki:(k:Int)<(n:Int):=by omega
   have hkm:(k:Int)<(m:Int):=by have:=H3.o;omega
   have b3:k<l.length:=by rw [HN.o];exact hlt
   have b4:k<b.length:=by rw [HM.o,H3.o];exact hlt
   have a0:=zjy (show ¬ (l[k]).le b[k]->Ending.returned (.bool false) = .returned (.bool (decide (zcq b l=0))) from fun h=>HF.o _ (b8.o (le_no b3 b4 h)))
   have a2:=zjy (show (l[k]).le b[k]->∀ j,(hj:j<l.length)->(hb:j<b.length)->j<k+1->(l[j]).le b[j] from fun h j hj hb hjk=>by
    by_cases e:j=k
    ·subst e;exact h
    ·exact b2.o j hj hb (by omega))
   obtain ⟨bl,ol,e1,hbl,d0,d1,d2,b1,d4⟩:=(HU.o.below hb).get k b4;obtain ⟨bb,ob,e2,hbb,g0,g1,g2,g3,g4⟩:=(HL.o.below hb).get k b3;obtain ⟨x,hx⟩:=xex (b[k]);obtain ⟨y,hy⟩:=xex (l[k]);rw [hx] at d0 d1 d2 b1 d4;rw [hy] at g0 g1 g2 g3 g4;rw [hx,hy] at a0 a2;obtain ⟨xf,xu,xh,xc,xi⟩:=x;obtain ⟨yf,yu,yh,yc,yi⟩:=y;dsimp only at d0 d1 d2 b1 d4 g0 g1 g2 g3 g4;cases e1;cases e2;have HB:=zjy hb;clear hb hx hy;go_wp2_with fail
   have nd:=World.new_ne _ _ d0;have ng:=World.new_ne _ _ g0;dsimp only at nd ng;go_region_held3 (fun w'=>w'.cell? ⟨bl,ol+k*5,none⟩=some (.int .i64 xf)/\w'.cell? ⟨bl,ol+k*5+1,none⟩=some (.int .i64 xu)/\w'.cell? ⟨bl,ol+k*5+2,none⟩=some (.int .i64 xh)/\w'.cell? ⟨bl,ol+k*5+3,none⟩=some (.int .i64 xc)/\w'.cell? ⟨bl,ol+k*5+4,none⟩=some (.int .i64 xi)/\w'.cell? ⟨bb,ob+k*5,none⟩=some (.int .i64 yf)/\w'.cell? ⟨bb,ob+k*5+1,none⟩=some (.int .i64 yu)/\w'.cell? ⟨bb,ob+k*5+2,none⟩=some (.int .i64 yh)/\w'.cell? ⟨bb,ob+k*5+3,none⟩=some (.int .i64 yc)/\w'.cell? ⟨bb,ob+k*5+4,none⟩=some (.int .i64 yi)) (go_keep) (fail)
   all_goals clear d0 d1 d2 b1 d4 g0 g1 g2 g3 g4 nd ng
   focus
    refine k_world (fun wV hV=>?_)
    have BX:wV.heap[wr.heap.size]?=some (.cells #[.int .i64 xf,.int .i64 xu,.int .i64 xh,.int .i64 xc,.int .i64 xi] 61 (0,0)):=by rw [hV];first | exact zac (by simp) | exact zaf (zac rfl)
    have BY:wV.heap[wr.heap.size+1]?=some (.cells #[.int .i64 yf,.int .i64 yu,.int .i64 yh,.int .i64 yc,.int .i64 yi] 61 (0,0)):=by rw [hV];first | exact zac (by simp) | exact zaf (zac rfl)
    have a4:=zjy (show Below w.heap.size w wV by rw [hV];exact ((HB.o.alloc HB.o.size _).alloc (by have:=HB.o.size;simp;omega) _).drew);have x1:wV.cell? ⟨wr.heap.size,1,none⟩=some (.int .i64 xu):=(cell_of_row _ _ _ _ _ _ BX).trans rfl;have y1:wV.cell? ⟨wr.heap.size+1,1,none⟩=some (.int .i64 yu):=(cell_of_row _ _ _ _ _ _ BY).trans rfl;have x2:wV.cell? ⟨wr.heap.size,2,none⟩=some (.int .i64 xh):=(cell_of_row _ _ _ _ _ _ BX).trans rfl;have y2:wV.cell? ⟨wr.heap.size+1,2,none⟩=some (.int .i64 yh):=(cell_of_row _ _ _ _ _ _ BY).trans rfl;have x3:wV.cell? ⟨wr.heap.size,3,none⟩=some (.int .i64 xc):=(cell_of_row _ _ _ _ _ _ BX).trans rfl;have y3:wV.cell? ⟨wr.heap.size+1,3,none⟩=some (.int .i64 yc):=(cell_of_row _ _ _ _ _ _ BY).trans rfl;have x4:wV.cell? ⟨wr.heap.size,4,none⟩=some (.int .i64 xi):=(cell_of_row _ _ _ _ _ _ BX).trans rfl;have y4:wV.cell? ⟨wr.heap.size+1,4,none⟩=some (.int .i64 yi):=(cell_of_row _ _ _ _ _ _ BY).trans rfl;clear hV BX BY HB
   rotate_left
   focus
    refine k_world (fun wV hV=>?_)
    have BX:wV.heap[wr.heap.size+1]?=some (.cells #[.int .i64 xf,.int .i64 xu,.int .i64 xh,.int .i64 xc,.int .i64 xi] 61 (0,0)):=by rw [hV];first | exact zac (by simp) | exact zaf (zac rfl)
    have BY:wV.heap[wr.heap.size]?=some (.cells #[.int .i64 yf,.int .i64 yu,.int .i64 yh,.int .i64 yc,.int .i64 yi] 61 (0,0)):=by rw [hV];first | exact zac (by simp) | exact zaf (zac rfl)
    have a4:=zjy (show Below w.heap.size w wV by rw [hV];exact ((HB.o.alloc HB.o.size _).alloc (by have:=HB.o.size;simp;omega) _).drew);have x1:wV.cell? ⟨wr.heap.size+1,1,none⟩=some (.int .i64 xu):=(cell_of_row _ _ _ _ _ _ BX).trans rfl;have y1:wV.cell? ⟨wr.heap.size,1,none⟩=some (.int .i64 yu):=(cell_of_row _ _ _ _ _ _ BY).trans rfl;have x2:wV.cell? ⟨wr.heap.size+1,2,none⟩=some (.int .i64 xh):=(cell_of_row _ _ _ _ _ _ BX).trans rfl;have y2:wV.cell? ⟨wr.heap.size,2,none⟩=some (.int .i64 yh):=(cell_of_row _ _ _ _ _ _ BY).trans rfl;have x3:wV.cell? ⟨wr.heap.size+1,3,none⟩=some (.int .i64 xc):=(cell_of_row _ _ _ _ _ _ BX).trans rfl;have y3:wV.cell? ⟨wr.heap.size,3,none⟩=some (.int .i64 yc):=(cell_of_row _ _ _ _ _ _ BY).trans rfl;have x4:wV.cell? ⟨wr.heap.size+1,4,none⟩=some (.int .i64 xi):=(cell_of_row _ _ _ _ _ _ BX).trans rfl;have y4:wV.cell? ⟨wr.heap.size,4,none⟩=some (.int .i64 yi):=(cell_of_row _ _ _ _ _ _ BY).trans rfl;clear hV BX BY HB
   rotate_left
   all_goals
    by_cases p1:xu<yu
    ·have t1:(xu<yu)=True:=eq_true p1
     have HP:=zjy p1;clear p1;go_wp2_with fail
     go_ret;exact ⟨a0.o (fun h=>by have h1:=HP.o;unfold Ex.le at h;dsimp only at h;omega),a4.o⟩
    have t1:(xu<yu)=False:=eq_false p1;by_cases p2:xh<yh
    ·have t2:(xh<yh)=True:=eq_true p2
     have HP:=zjy p2;clear p2;go_wp2_with fail
     go_ret;exact ⟨a0.o (fun h=>by have h1:=HP.o;unfold Ex.le at h;dsimp only at h;omega),a4.o⟩
    have t2:(xh<yh)=False:=eq_false p2;by_cases p3:xc<yc
    ·have t3:(xc<yc)=True:=eq_true p3
     have HP:=zjy p3;clear p3;go_wp2_with fail
     go_ret;exact ⟨a0.o (fun h=>by have h1:=HP.o;unfold Ex.le at h;dsimp only at h;omega),a4.o⟩
    have t3:(xc<yc)=False:=eq_false p3;by_cases p4:xi<yi
    ·have t4:(xi<yi)=True:=eq_true p4
     have HP:=zjy p4;clear p4;go_wp2_with fail
     go_ret;exact ⟨a0.o (fun h=>by have h1:=HP.o;unfold Ex.le at h;dsimp only at h;omega),a4.o⟩
    have t4:(xi<yi)=False:=eq_false p4;have HG:=zjy (a2.o (by unfold Ex.le;dsimp only;omega));clear p1 p2 p3 p4;go_wp2_with fail
    go_roundw
    case rel=>exact ⟨k+1,by omega,by go_num,a4.o,HG⟩
    case measure=>simp [intOf];omega
  ·have hq:decide ((k:Int)<(n:Int))=false:=by simp;omega
   have HB:=zjy hb;have HT:=zjy (b7.o ((zgq l b).2 fun j hj hb'=>b2.o j hj hb' (by rw [HN.o] at hj;omega)))
   clear b2 hb;go_wp2_with fail
   go_ret;exact ⟨HF.o _ HT.o,HB.o⟩
theorem radmit19_any (u v:Value) (b l:List Ex) (w:World) (hu:ExRow w (All w) u b) (hl:ExRow w (All w) v l) (nb:b.length<=1000000) (nl:l.length<=1000000) :
  Calls prog 31 #[u,v] w fun e w'=>e = .returned (.int .i64 (zcq b l))/\Below w.heap.size w w':=by
 obtain ⟨ua,uc,rfl⟩:=hu.val;obtain ⟨va,vc,rfl⟩:=hl.val;have KB:=zjy (fun (W:World) (hb:Below w.heap.size w W)=>zeg _ b W (hu.below hb) nb)
 have KL:=zjy (fun (W:World) (hb:Below w.heap.size w W)=>zeg _ l W (hl.below hb) nl)
 have KW:=zjy (fun (W:World) (hb:Below w.heap.size w W)=>zi5 _ _ b l W (hu.below hb) (hl.below hb) nb nl)
 obtain ⟨cb,a4⟩:=xex (ze4 b);obtain ⟨cl,a3⟩:=xex (ze4 l);obtain ⟨n,hn⟩:=xex (l.length);obtain ⟨m,hm⟩:=xex (b.length);have a9:zcd b l=if cb≠0 then cb else if cl≠0 then cl else if m≠n then 8 else 0:=by unfold zcd;rw [a4,a3,hm,hn]
 have a5:zcq b l=if (if cb≠0 then cb else if cl≠0 then cl else if m≠n then 8 else 0)≠0 then (if cb≠0 then cb else if cl≠0 then cl else if m≠n then 8 else 0) else if zg8 l b then 0 else 11:=by unfold zcq;rw [a9]
 obtain ⟨r,hr⟩:=xex (zcq b l);rw [a4,hm] at KB;rw [a3,hn] at KL;rw [hm,hn,hr] at KW;rw [hm,hn,hr];rw [hr] at a5;have a2:=zjy a5;clear hu hl a4 a3 hn hm a9 hr a5 nb nl;go_enter func31,ntmps31
 go_wp2_with fail
 refine (KB.o _ (Below.refl _ _)).mono ?_;rintro e w1 ⟨rfl,b1⟩;have a8:=zjy b1;clear b1;by_cases h1:cb=0;rotate_left
 ·have d1:(cb != 0)=true:=by simpa using h1
  have HR:=zjy (show Ending.returned (.int .i64 cb) = .returned (.int .i64 r) by rw [a2.o];simp [h1]);clear h1;go_wp2_with fail
  go_ret;exact ⟨HR.o,a8.o⟩
 subst h1;go_wp2_with fail
 refine (KL.o _ a8.o).mono ?_;rintro e w2 ⟨rfl,b0⟩;have a0:=xhh a8 b0;clear b0;by_cases h2:cl=0;rotate_left
 ·have d2:(cl != 0)=true:=by simpa using h2
  have HR:=zjy (show Ending.returned (.int .i64 cl) = .returned (.int .i64 r) by rw [a2.o];simp [h2]);clear h2;go_wp2_with fail
  go_ret;exact ⟨HR.o,a0.o⟩
 subst h2;by_cases h3:m=n;rotate_left
 ·have d3:((m:Int) != (n:Int))=true:=by simp;omega
  have HR:=zjy (show Ending.returned (.int .i64 8) = .returned (.int .i64 r) by rw [a2.o];simp [h3]);clear h3;go_wp2_with fail
  go_ret;exact ⟨HR.o,a0.o⟩
 have d3:((m:Int) != (n:Int))=false:=by simp;omega
 have HR:=zjy (show r=if zg8 l b then 0 else 11 by rw [a2.o];simp [h3]);clear h3 a2;by_cases h4:zg8 l b
 ·have h5:=HR.o
  rw [if_pos h4] at h5;subst h5;have a6:=zjy (fun (W:World) (hb:Below w.heap.size w W)=>by have h:=KW.o W hb;rw [show decide ((0:Int)=0)=true from rfl] at h;exact h)
  clear KW HR h4;go_wp2_with fail
  refine (a6.o _ a0.o).mono ?_;rintro e w3 ⟨rfl,a1⟩;have a7:=xhh a0 a1;clear a1;go_wp2_with fail
  go_ret;exact ⟨rfl,a7.o⟩
 ·have h5:=HR.o
  rw [if_neg h4] at h5;subst h5;have a6:=zjy (fun (W:World) (hb:Below w.heap.size w W)=>by have h:=KW.o W hb;rw [show decide ((11:Int)=0)=false from rfl] at h;exact h)
  clear KW HR h4;go_wp2_with fail
  refine (a6.o _ a0.o).mono ?_;rintro e w3 ⟨rfl,a1⟩;have a7:=xhh a0 a1;clear a1;go_wp2_with fail
  go_ret;exact ⟨rfl,a7.o⟩
end
section
open Go.RowKit
theorem Ex.same {x y:Ex} (h0:x.f=y.f) (h1:x.u=y.u) (h2:x.h=y.h) (h3:x.c=y.c) (h4:x.i=y.i):x=y:=by
 cases x;cases y;simp at *;exact ⟨h0,h1,h2,h3,h4⟩
theorem max_comm {a b:List Ex} (hl:a.length=b.length):zcc 0 a b=zcc 0 b a:=by
 have h1:=zdh a 0 b hl;have h2:=zdh b 0 a hl.symm
 refine List.ext_getElem (by omega) fun j hj hj'=>?_
 rw [zfp a 0 b hl j (by omega) (by omega) hj,zfp b 0 a hl.symm j (by omega) (by omega) hj']
 refine Ex.same ?_ ?_ ?_ ?_ ?_ <;> simp only [Ex.max2] <;> omega
theorem max_absorb {b z:List Ex} (hl:b.length=z.length) (hz:ze4 z=0) (h:zg8 b z):zcc 0 b z=z:=by
 have h1:=zdh b 0 z hl;obtain ⟨_,hz⟩:=chk_ok hz;rw [zgq] at h
 refine List.ext_getElem (by omega) fun j hj hj'=>?_
 rw [zfp b 0 z hl j (by omega) (by omega) hj];have e1:=hz j hj';have e2:=h j (by omega) hj';unfold Ex.ok at e1;unfold Ex.le at e2
 refine Ex.same ?_ ?_ ?_ ?_ ?_ <;> simp only [Ex.max2] <;> omega
end
section
open Go.RowKit
theorem one_ex:∀ x:Ex,∀ u∈x.cells,u.oneCell'=true:=by
 intro x u hu;simp only [Ex.cells,List.mem_cons,List.not_mem_nil,or_false] at hu
 rcases hu with rfl | rfl | rfl | rfl | rfl <;> rfl
theorem ex_reads {w:World} {S:Nat->Prop} {v:Value} {l:List Ex} (h:ExRow w S v l):zck w 5 v l.length (l.flatMap Ex.cells):=by
 obtain ⟨a,a0,rfl,hl,hc⟩:=h
 refine ⟨a,a0,rfl,hl,fun h0=>?_⟩
 obtain ⟨b,off,rfl,_,hj⟩:=hc (by rw [hl];omega)
 refine ⟨_,rfl,fun j v hv=>?_⟩
 rw [zbu];exact (hj j (List.getElem?_eq_some_iff.1 hv).1).trans hv
theorem enterE_eq (a l:List Ex):zdm a l=if a.length=0 then ze4 l else if ze4 a≠0 then ze4 a else if ze4 l≠0 then ze4 l else if a.length≠l.length then 8 else 0:=by
 unfold zdm regE zcd;by_cases h:a.length=0
 ·rw [if_pos h,if_pos h]
  by_cases h2:ze4 l=0
  ·simp [h2]
  ·simp [h2]
 ·rw [if_neg h,if_neg h]
theorem renter19_nil (u v:Value) (l:List Ex) (w:World) (hu:ExRow w (All w) u []) (hl:ExRow w (All w) v l) (hcl:ze4 l=0) (nl:l.length<=1000000) :
  Calls prog 27 #[u,v] w (zi1 l w):=by
 obtain ⟨ua,uc,rfl⟩:=hu.val;have a2:=zjy hl;obtain ⟨va,vc,rfl⟩:=hl.val;have KL:=zjy (fun (W:World) (hb:Below w.heap.size w W)=>zeg _ l W (hl.below hb) nl)
 rw [hcl] at KL;simp only [List.length_nil];clear hu hl hcl;go_enter func27,ntmps27
 go_wp2_with fail
 refine (KL.o _ (Below.refl _ _)).mono ?_;rintro e w1 ⟨rfl,a1⟩;have HR:=zjy (ex_reads (a2.o.below a1));have HB:=zjy a1;clear a1 KL a2;go_wp2_with (at_builtin;refine zcv rfl (.const (.slice none 0 0)) (.tmp 28) 46 rfl 61 (.agg #[.int .i64 0,.int .i64 0,.int .i64 0,.int .i64 0,.int .i64 0]) 5 40 Ex.cells (fun _=>rfl) one_ex underlying46 infoEx rfl (by decide) (by decide) (w0:=w) (v:=.slice none 0 0) (A:=[]) (B:=l) rfl (OwnV.nil HB.o) rfl HR.o (by simp;omega) ?_;intro v2 w2 a0 hk2 hz2)
 go_ret2;rw [List.nil_append] at a0;exact ⟨⟨_,rfl,Row.owns a0.1 fun b hb _=>hb⟩,a0.2⟩
theorem renter19_good (u v:Value) (a l:List Ex) (w:World) (hu:ExRow w (All w) u a) (hl:ExRow w (All w) v l) (hc:zdm a l=0) (na:a.length<=1000000) (nl:l.length<=1000000) :
  Calls prog 27 #[u,v] w (zi1 (zcc 0 l (regE a l)) w):=by
 rw [enterE_eq] at hc;by_cases h0:a.length=0
 ·rw [if_pos h0] at hc
  obtain rfl:a=[]:=List.length_eq_zero_iff.1 h0
  have e1:zcc 0 l (regE [] l)=l:=by
   unfold regE;rw [if_pos h0];exact max_absorb rfl hc (le_refl_all l)
  rw [e1];exact renter19_nil u v l w hu hl hc nl
 ·rw [if_neg h0] at hc
  have h1:ze4 a=0:=by
   by_cases h:ze4 a=0
   ·exact h
   ·rw [if_pos h] at hc;exact hc
  rw [if_neg (by simpa using h1)] at hc
  have h2:ze4 l=0:=by
   by_cases h:ze4 l=0
   ·exact h
   ·rw [if_pos h] at hc;exact hc
  rw [if_neg (by simpa using h2)] at hc
  have h3:a.length=l.length:=by
   by_cases h:a.length=l.length
   ·exact h
   ·rw [if_pos h] at hc;cases hc
  have e1:zcc 0 l (regE a l)=zcc 0 a l:=by
   unfold regE;rw [if_neg h0];exact max_comm h3.symm
  rw [e1];exact refEnter_any u v a l w hu hl h1 h2 h3
theorem renter19_bad (u v:Value) (a l:List Ex) (w:World) (hu:ExRow w (All w) u a) (hl:ExRow w (All w) v l) (hc:zdm a l≠0) (na:a.length<=1000000) (nl:l.length<=1000000) :
  Calls prog 27 #[u,v] w (EnterBad (zdm a l) w):=by
 obtain ⟨ua,uc,rfl⟩:=hu.val;obtain ⟨va,vc,rfl⟩:=hl.val;have KB:=zjy (fun (W:World) (hb:Below w.heap.size w W)=>zeg _ a W (hu.below hb) na)
 have KL:=zjy (fun (W:World) (hb:Below w.heap.size w W)=>zeg _ l W (hl.below hb) nl)
 have he:=enterE_eq a l;obtain ⟨cb,a3⟩:=xex (ze4 a);obtain ⟨cl,a2⟩:=xex (ze4 l);obtain ⟨n,hn⟩:=xex (l.length);obtain ⟨m,hm⟩:=xex (a.length);obtain ⟨r,hr⟩:=xex (zdm a l);rw [hr] at he hc ⊢;rw [a3,a2,hm,hn] at he;rw [a3,hm] at KB;rw [a2,hn] at KL;rw [hm,hn];have a5:=zjy hc;have HE:=zjy he;clear hu hl a3 a2 hn hm hr he hc;by_cases h0:m=0
 ·subst h0
  have er:r=cl:=by rw [HE.o];simp
  subst er;have d1:(r != 0)=true:=by simpa using a5.o
  go_enter func27,ntmps27
  go_wp2_with fail
  refine (KL.o _ (Below.refl _ _)).mono ?_;rintro e w1 ⟨rfl,a0⟩;have a1:=zjy a0;clear a0;go_wp2_with fail
  go_ret2;exact ⟨rfl,a1.o⟩
 have g0:0<m:=by omega
 have g1:((m:Int) == 0)=false:=beq_eq_false_iff_ne.2 (by omega);have he:=HE.o;rw [if_neg h0] at he;have a6:=zjy he;clear HE h0 he;go_enter func27,ntmps27
 go_wp2_with fail
 refine (KB.o _ (Below.refl _ _)).mono ?_;rintro e w1 ⟨rfl,a0⟩;have a1:=zjy a0;clear a0;by_cases h1:cb=0;rotate_left
 ·have er:r=cb:=by rw [a6.o,if_pos h1]
  subst er;have d1:(r != 0)=true:=by simpa using h1
  clear h1;go_wp2_with fail
  go_ret2;exact ⟨rfl,a1.o⟩
 subst h1;have he:=a6.o;rw [if_neg (by simp)] at he;have HE:=zjy he;clear he;go_wp2_with fail
 refine (KL.o _ a1.o).mono ?_;rintro e w2 ⟨rfl,a4⟩;have a7:=xhh a1 a4;clear a4;by_cases h2:cl=0;rotate_left
 ·have er:r=cl:=by rw [HE.o,if_pos h2]
  subst er;have d1:(r != 0)=true:=by simpa using h2
  clear h2;go_wp2_with fail
  go_ret2;exact ⟨rfl,a7.o⟩
 subst h2;by_cases h3:m=n
 ·exact absurd (by rw [HE.o,if_neg (by simp),if_neg (by simpa using h3)]) a5.o
 have er:r=8:=by rw [HE.o,if_neg (by simp),if_pos h3]
 subst er;have d3:((m:Int) != (n:Int))=true:=by simp;omega
 clear h3 HE;go_wp2_with fail
 go_ret2;exact ⟨rfl,a7.o⟩
end
section
open Go.RowKit Go.WideShapes Go.ChangeShapes Go.Joins
instance inhExo:Inhabited Ex:=⟨⟨0,0,0,0,0⟩⟩
instance inhSVo:Inhabited SV:=⟨⟨none,0,0⟩⟩
theorem ex_of_vec {w:World} {v:Value} {l:List Ex} (h:Vec w zau 5 Ex.cells v l):ExRow w (All w) v l:=by
 obtain ⟨a,a1,rfl,hl,hc⟩:=Vec.reads (k:=5) (enc:=Ex.cells) (fun _=>rfl) h
 refine ⟨a,a1,rfl,hl,fun h0=>?_⟩
 have h1:0<l.length:=by have e:(zdl l).length=l.length*5:=hl;omega
 obtain ⟨a2,c2,e2,_,h3⟩:=h;cases e2;obtain ⟨b,off,rfl,_,hb,_⟩:=h3 h1;obtain ⟨A,hA,a0⟩:=hc h1;cases hA
 refine ⟨b,off,rfl,hb,fun j hj=>?_⟩
 have h5:=a0 j _ (List.getElem?_eq_getElem hj);rw [zbu] at h5;exact h5.trans (List.getElem?_eq_getElem hj).symm
section
variable {H:Type} {enc:TypeId × Value->H} {W:World} {base:Nat} {spare:Nat->Bool} {held:Bool}
theorem in_expo {fuel:Nat} {cs:List Value} {x:DataW H × List MemPlace} (h:DataW.trod enc prog W base spare held fuel 61 cs=some x) (hl:cs.length=5) :
  ∃ p:Ex,cs=Ex.cells p:=by
 obtain ⟨c0,c1,c2,c3,c4,rfl⟩:∃ c0 c1 c2 c3 c4,cs=[c0,c1,c2,c3,c4]:=by
  match cs,hl with
  | [c0,c1,c2,c3,c4],_=>exact ⟨c0,c1,c2,c3,c4,rfl⟩
 obtain ⟨xs,n,_,_,_,a0,hx⟩:=DataW.trod_struct underlying61 h;have h0:=hx 0 _ rfl;have h1:=hx 1 _ rfl;have h2:=hx 2 _ rfl;have h3:=hx 3 _ rfl;have h4:=hx 4 _ rfl;rw [List.getElem?_eq_getElem (by rw [a0];decide)] at h0 h1 h2 h3 h4;obtain ⟨s0,e0,_⟩:=DataW.trod_int underlying3 h0;obtain ⟨s1,e1,_⟩:=DataW.trod_int underlying3 h1;obtain ⟨s2,e2,_⟩:=DataW.trod_int underlying3 h2;obtain ⟨s3,e3,_⟩:=DataW.trod_int underlying3 h3;obtain ⟨s4,e4,_⟩:=DataW.trod_int underlying3 h4;have k3:prog.cellsOf 3=1:=by kernel_rfl
 simp [k3] at e0 e1 e2 e3 e4;exact ⟨⟨s0,s1,s2,s3,s4⟩,by rw [e0,e1,e2,e3,e4];rfl⟩
theorem in_expos {fuel:Nat} {cs:List Value} {x:DataW H × List MemPlace} (h:DataW.trod enc prog W base spare held fuel 46 cs=some x):∃ v P,cs=[v]/\Vec W zau 5 Ex.cells v P:=by
 rcases Go.Deep.open_slice underlying46 h with ⟨rfl,_⟩ | ⟨a,len,cap,m,n,D,Pl,rfl,_,hl,hmx,hmm,_,hx⟩
 ·exact ⟨_,[],rfl,Vec.nil _ _ _ _⟩
 ·have hlm:len<=m:=by rw [hmm];split <;> omega
  have ce:prog.cellsOf 61=5:=by kernel_rfl
  have a2:∀ i,i<len->∃ q:Ex,(∀ j u,(Ex.cells q)[j]?=some u->W.cell? (a.add (i*5+j))=some u):=by
   intro i hi;obtain ⟨cs',h1,h2⟩:=hx i (by omega);rw [ce] at h1;obtain ⟨_,a1,a0⟩:=World.cells?_some h1;obtain ⟨q,rfl⟩:=in_expo h2 a1
   refine ⟨q,fun j u hu=>?_⟩
   have hj:j<5:=by have:=(List.getElem?_eq_some_iff.1 hu).1;simpa [Ex.cells] using this
   have e0:=a0 j (by omega);rw [Go.Deep.add_add] at e0;rw [<- hu];exact e0
  obtain ⟨q,hq⟩:=Go.Deep.choose_lt a2;exact ⟨_,(List.range len).map q,rfl,vec_in (k:=5) (enc:=Ex.cells) q (fun _=>rfl) (by omega) hl fun i hi j u hu=>hq i hi j u hu⟩
theorem open_expos {r:Reach} {b0:Nat} {v:Value} {d:DataW H} {ps:List MemPlace} (hv:Value.okWide prog W r b0 46 v) (h:DataW.Trod enc prog W base spare held 46 v d ps):∃ P,ExRow W (All W) v P:=by
 obtain ⟨a,len,cap,rfl⟩:=okWide_slice underlying46 hv;obtain ⟨a0,hf⟩:=h;obtain ⟨u,P,e,hk⟩:=in_expos hf;simp [Value.cells] at e;exact ⟨P,by rw [e];exact ex_of_vec hk⟩
theorem in_ent {fuel:Nat} {cs:List Value} {x:DataW H × List MemPlace} (h:DataW.trod enc prog W base spare held fuel 91 cs=some x) (hl:cs.length=2) :
  ∃ p:zc2,cs=zd1 p:=by
 obtain ⟨c0,c1,rfl⟩:∃ c0 c1,cs=[c0,c1]:=by
  match cs,hl with
  | [c0,c1],_=>exact ⟨c0,c1,rfl⟩
 obtain ⟨xs,n,_,_,_,a0,hx⟩:=DataW.trod_struct underlying91 h;have h0:=hx 0 _ rfl;have h1:=hx 1 _ rfl;rw [List.getElem?_eq_getElem (by rw [a0];decide)] at h0 h1;obtain ⟨s0,e0,_⟩:=DataW.trod_string underlying9 h0;obtain ⟨s1,e1,_⟩:=DataW.trod_int underlying3 h1;have k3:prog.cellsOf 3=1:=by kernel_rfl
 have k9:prog.cellsOf 9=1:=by kernel_rfl
 simp [k3,k9] at e0 e1;exact ⟨(bytesOf c0,s1),by rw [e0,e1];simp only [zd1];rw [<- bytesOf_mk]⟩
theorem in_ents {fuel:Nat} {cs:List Value} {x:DataW H × List MemPlace} (h:DataW.trod enc prog W base spare held fuel 44 cs=some x):∃ v P,cs=[v]/\Vec W zau 2 zd1 v P:=by
 rcases Go.Deep.open_slice underlying44 h with ⟨rfl,_⟩ | ⟨a,len,cap,m,n,D,Pl,rfl,_,hl,hmx,hmm,_,hx⟩
 ·exact ⟨_,[],rfl,Vec.nil _ _ _ _⟩
 ·have hlm:len<=m:=by rw [hmm];split <;> omega
  have ce:prog.cellsOf 91=2:=by kernel_rfl
  have a2:∀ i,i<len->∃ q:zc2,(∀ j u,(zd1 q)[j]?=some u->W.cell? (a.add (i*2+j))=some u):=by
   intro i hi;obtain ⟨cs',h1,h2⟩:=hx i (by omega);rw [ce] at h1;obtain ⟨_,a1,a0⟩:=World.cells?_some h1;obtain ⟨q,rfl⟩:=in_ent h2 a1
   refine ⟨q,fun j u hu=>?_⟩
   have hj:j<2:=by have:=(List.getElem?_eq_some_iff.1 hu).1;simpa [zd1] using this
   have e0:=a0 j (by omega);rw [Go.Deep.add_add] at e0;rw [<- hu];exact e0
  obtain ⟨q,hq⟩:=Go.Deep.choose_lt a2;exact ⟨_,(List.range len).map q,rfl,vec_in (k:=2) (enc:=zd1) q (fun _=>rfl) (by omega) hl fun i hi j u hu=>hq i hi j u hu⟩
theorem in_dicts {fuel:Nat} {cs:List Value} {x:DataW H × List MemPlace} (h:DataW.trod enc prog W base spare held fuel 43 cs=some x):∃ v P,cs=[v]/\SlsVec 2 zd1 W zau v P:=by
 rcases Go.Deep.open_slice underlying43 h with ⟨rfl,_⟩ | ⟨a,len,cap,m,n,D,Pl,rfl,_,hl,hmx,hmm,_,hx⟩
 ·exact ⟨_,[],rfl,SlsVec.nil _ _ _ _⟩
 ·have hlm:len<=m:=by rw [hmm];split <;> omega
  have ce:prog.cellsOf 44=1:=by kernel_rfl
  have a1:∀ i,i<len->∃ q:SV × List zc2,W.cell? (a.add (i*1+0))=some (.slice q.1.a q.1.n q.1.c)/\Vec W zau 2 zd1 (.slice q.1.a q.1.n q.1.c) q.2:=by
   intro i hi;obtain ⟨cs',h1,h2⟩:=hx i (by omega);rw [ce] at h1;obtain ⟨_,a2,a0⟩:=World.cells?_some h1;obtain ⟨v,P,rfl,hv⟩:=in_ents h2;obtain ⟨va,vc,rfl⟩:=hv.slice;refine ⟨(⟨va,P.length,vc⟩,P),?_,hv⟩;have e0:=a0 0 (by omega);rw [Go.Deep.add_add] at e0;exact e0
  obtain ⟨q,hq⟩:=Go.Deep.choose_lt a1;refine ⟨_,((List.range len).map q).map Prod.snd,rfl,((List.range len).map q).map Prod.fst,?_,?_⟩
  ·rw [List.map_map]
   exact vec_in (k:=1) (enc:=encSV) (fun i=>(q i).1) (fun _=>rfl) (by omega) hl fun i hi j u hu=>by
    match j,hu with
    | 0,hu=>cases hu;exact (hq i hi).1
    | j+1,hu=>simp at hu
  ·refine ⟨by simp,fun n h1 h2=>?_⟩
   have hn:n<len:=by simpa using h1
   simp only [List.getElem_map,List.getElem_range];exact (hq n hn).2
theorem open_dicts {r:Reach} {b0:Nat} {v:Value} {d:DataW H} {ps:List MemPlace} (hv:Value.okWide prog W r b0 43 v) (h:DataW.Trod enc prog W base spare held 43 v d ps):∃ P,SlsVec 2 zd1 W zau v P:=by
 obtain ⟨a,len,cap,rfl⟩:=okWide_slice underlying43 hv;obtain ⟨a0,hf⟩:=h;obtain ⟨u,P,e,hk⟩:=in_dicts hf;simp [Value.cells] at e;exact ⟨P,by rw [e];exact hk⟩
end
end
section
open Go.RowKit Cal
structure AX (D Y Z:Nat) (Wd:World) (vf vt vn vs:Value) (s:SchemaL) (k:Int × Int) (rv:Value) (R:List RecL) (wr:World):Prop where
 l:LX D Y Wd vf vt vn vs s wr
 z:wr.heap[Z]?=some (.cells #[.int .u64 k.1,.int .u64 k.2] 41 (0,0))
 zD:Z≠D
 r:RecsVec wr (Off D) rv R
section
variable {D Y Z:Nat} {Wd wr wd:World} {vf vt vn vs rv:Value} {s:SchemaL} {k:Int × Int} {R:List RecL}
theorem AX.moved (h:AX D Y Z Wd vf vt vn vs s k rv R wr) (m:Moved D wr wd):AX D Y Z Wd vf vt vn vs s k rv R wd:=⟨h.l.moved m,m.blk h.zD h.z,h.zD,RecsVec.movedD h.r m⟩
theorem AX.below (h:AX D Y Z Wd vf vt vn vs s k rv R wr) (hb:Below wr.heap.size wr wd):AX D Y Z Wd vf vt vn vs s k rv R wd:=h.moved ((Moved.start h.l.m.deck).below hb)
end
def DO (D:Nat) (WS:World) (v:Value) (L:List (List zc2)) (wr:World):Prop :=
 ∃ C,OwnM D 44 1 encSV WS v C wr/\SlsAll 2 zd1 wr (fun b=>b≠D/\v.ownBlock≠some b) C L/\∀ E∈L,DictD 6 E
theorem DO.nil {D:Nat} {WS:World} (h:DeckAt WS D):DO D WS (.slice none 0 0) [] WS:=⟨[],OwnM.nil (Moved.start h),⟨rfl,fun n h1 _=>by simp at h1⟩,fun E hE=>by cases hE⟩
theorem DO.moved {D:Nat} {WS wr wd:World} {v:Value} {L:List (List zc2)} (h:DO D WS v L wr) (m:Moved D wr wd):DO D WS v L wd:=by
 obtain ⟨C,ho,ha,hd⟩:=h
 refine ⟨C,ho.moved m,ha.move m.size fun b hb hs=>⟨?_,hs⟩,hd⟩
 exact m.grown.block b hb (by simp;exact hs.1)
theorem DO.put {D:Nat} {WS wr wd:World} {v v':Value} {C:List SV} {c:SV} {L:List (List zc2)} {E:List zc2} (ho:OwnM D 44 1 encSV WS v C wr) (ha:SlsAll 2 zd1 wr (fun b=>b≠D/\v.ownBlock≠some b) C L) (hd:∀ E∈L,DictD 6 E)
  (hc:Vec wr (fun b=>b≠D/\v.ownBlock≠some b) 2 zd1 (svV c) E) (hE:DictD 6 E) (ho':OwnM D 44 1 encSV WS v' (C++[c]) wd) (hk:∀ k o,some k≠v.ownBlock->wr.heap[k]?=some o->wd.heap[k]?=some o) (hz:wr.heap.size<=wd.heap.size) (hat:v'.ownBlock=none\/v.ownBlock=v'.ownBlock\/v'.ownBlock=some wr.heap.size) :
  DO D WS v' (L++[E]) wd:=by
 refine ⟨C++[c],ho',(ha.snoc hc).move hz fun b hb hs=>⟨?_,hs.1,?_⟩,fun X hX=>?_⟩
 ·obtain ⟨o,a0⟩:∃ o,wr.heap[b]?=some o:=⟨_,Array.getElem?_eq_getElem hb⟩
  rw [a0];exact hk b o (fun e=>hs.2 e.symm) a0
 ·rcases hat with h1 | h1 | h1
  ·rw [h1];intro e;cases e
  ·rw [<- h1];exact hs.2
  ·rw [h1];intro e;have:=Option.some.inj e;omega
 ·rcases List.mem_append.1 hX with h | h
  ·exact hd X h
  ·rw [List.mem_singleton.1 h];exact hE
theorem DO.vec {D:Nat} {WS wr:World} {v:Value} {L:List (List zc2)} (h:DO D WS v L wr):SlsVec 2 zd1 wr (Off D) v L:=by
 obtain ⟨C,ho,ha,hd⟩:=h;have hlt:=ho.2.lt;refine ⟨C,(OwnM.vec (size:=1) (enc:=encSV) (fun _=>rfl) ho).move xnl fun b _ h=>⟨rfl,by have h':WS.heap.size<=b:=h;show b≠D;omega⟩,ha.1,fun n h1 h2=>(ha.2 n h1 h2).move xnl fun b _ h=>⟨rfl,h.1⟩⟩
theorem DO.dicts {D:Nat} {WS wr:World} {v:Value} {L:List (List zc2)} (h:DO D WS v L wr):∀ E∈L,DictD 6 E:=by obtain ⟨C,ho,ha,hd⟩:=h;exact hd
theorem infoESg:(prog.info? 44).map (fun i=>(i.zero,i.size,i.bytes))=some (some (.slice none 0 0),1,24):=by kernel_rfl
theorem ExRow.offD {D:Nat} {w w':World} {v:Value} {l:List Ex} (h:ExRow w (Off D) v l) (m:Moved D w w'):ExRow w' (Off D) v l :=
 Row.move h fun b hb hs=>⟨m.grown.block b hb (by have:b≠D:=hs;simp;omega),hs⟩
theorem ExRow.arg {D:Nat} {w w':World} {v:Value} {l:List Ex} (h:ExRow w (All w) v l) (hb:Below w.heap.size w w') (hD:w.heap.size<=D):ExRow w' (Off D) v l :=
 Row.move h fun b hb' _=>⟨hb.block b hb',by show b≠D;omega⟩
theorem assessAN_len (s:SchemaL) (P:List ParL) (k:Int × Int) (R:List RecL) (Ds:List (List zc2)):(zcp s P k R Ds).1.length<=s.fields.length:=by
 unfold zcp;repeat' split
 all_goals first | (rename_i h _;show (zfz _ _ _ _).length<=_;rw [zej];omega) | exact Nat.zero_le _
end
section
open Go.RowKit
attribute [local go_sem] zag zaj za6
theorem itoa_len {n:Int} (h:InI n):(Lib.itoa n).length<=21:=by
 obtain ⟨h0,h1⟩:=h;unfold Lib.itoa;split
 ·have:=zjr (n:=n.natAbs) (k:=19) (by decide) (by omega)
  simp only [List.length_cons];omega
 ·have:=zjr (n:=n.toNat) (k:=19) (by decide) (by omega)
  omega
end
section
open Go.RowKit Cal
attribute [local go_sem] zag zaj za6
theorem zhc (n:Nat) (w:World) (hn:n<10):Calls prog 162 #[.int .i64 n] w fun e w'=>e = .returned (zak (Lib.decDigits n))/\Below w.heap.size w w':=by
 obtain ⟨c,hc⟩:∃ c:UInt8,UInt8.ofNat (48+n)=c:=⟨_,rfl⟩;have a1:48+(n:Int)=(c.toNat:Int):=by rw [<- hc,UInt8.toNat_ofNat'];omega
 rw [digs_one n hn,hc];have d1:decide ((n:Int)<10)=true:=by simp;omega
 have hm:max (n:Int) 0=(n:Int):=by omega
 have a0:=(own_new (w0:=w) (w:=w.alloc (.cells #[.int .u8 (48+(n:Int))] 5)) (enc:=encB) (L:=[c]) (size:=1) (n:=1) (e:=5) (g:=w.heap.size) ((Below.refl _ _).alloc xnl _) xnl (by rw [a1];exact zac rfl) rfl (by simp) rfl).1;have a2:=zce (P:=prog) [c] a0 underlying175 underlying5 underlying9;clear a0 hc a1;go_enter func162,ntmps162
 go_wp2_with fail
 go_ret;exact ⟨rfl,(Below.refl _ _).alloc xnl _⟩
theorem dec_cut9 {n:Nat} (h:¬ n<10):Lib.decDigits n=Lib.decDigits (n / 10)++Lib.decDigits (n % 10):=by
 rw [Lib.decDigits,dif_neg h,Lib.decDigits_one (show n % 10<10 by omega)]
theorem rnum9_any:∀ (k n:Nat) (w:World),n<10 ^ k->n<=9223372036854775807->Calls prog 162 #[.int .i64 n] w fun e w'=>e = .returned (zak (Lib.decDigits n))/\Below w.heap.size w w'
 | 0,n,w,h,_=>zhc n w (by omega)
 | k+1,n,w,h,hm=>by
  by_cases h10:n<10
  ·exact zhc n w h10
  ·obtain ⟨q,hq⟩:=xex (n / 10)
   obtain ⟨r,hr⟩:=xex (n % 10);have e1:(n:Int).tdiv 10=(q:Int):=by rw [<- hq];exact (Int.ofNat_tdiv n 10).symm
   have e2:(n:Int).tmod 10=(r:Int):=by rw [<- hr];exact (Int.ofNat_tmod n 10).symm
   have e3:(n:Int) / 10=(q:Int):=by omega
   have e4:(n:Int) % 10=(r:Int):=by omega
   have e5:IntKind.i64.wrap (q:Int)=q:=by rw [IntKind.wrap_i64];omega
   have i1:=fun w=>rnum9_any k q w (by rw [<- hq];rw [Nat.pow_succ] at h;omega) (by omega)
   have i2:=fun w=>zhc r w (by omega)
   rw [dec_cut9 h10,hq,hr];have l1:(Lib.decDigits q).length<=19:=zjr (k:=19) (by decide) (by omega);have l2:(Lib.decDigits r).length<=1:=zjr (k:=1) (by decide) (by omega);obtain ⟨X,hX⟩:=xex (Lib.decDigits q);obtain ⟨Y,hY⟩:=xex (Lib.decDigits r);rw [hX] at i1 l1;rw [hY] at i2 l2;rw [hX,hY];have d1:decide ((n:Int)<10)=false:=by simp;omega
   have I1:=zjy i1;have I2:=zjy i2;have c1:¬ 9223372036854775807<X.length+Y.length:=by omega
   clear i1 i2 hX hY hq hr h h10;go_enter func162,ntmps162
   go_wp2_with fail
   refine (I1.o _).mono ?_;rintro e w1 ⟨rfl,hb⟩;have a1:=zjy hb;clear hb;go_wp2_with fail
   refine (I2.o _).mono ?_;rintro e w2 ⟨rfl,hb⟩;have a0:=xhh a1 hb;clear hb;go_wp2_with fail
   go_ret;exact ⟨rfl,a0.o⟩
end
section
open Go.RowKit
theorem rrot13 (x:Int) (w:World):Calls prog 246 #[.int .u64 x,.int .i64 13] w fun e w'=>e = .returned (.int .u64 (zi8 8192 2251799813685248 x))/\Below w.heap.size w w':=by
 have hw:IntKind.i64.wrap 51=51:=by decide
 go_enter func246,ntmps246
 go_wp2_with fail
 refine wp_region_noPanic ?_
 refine wp_region_held_drew (S:=(fun _=>True)) (by kernel_rfl) (trivial) (fun hHeld=>?_)
 refine tH 0 ?_;refine tH 1 ?_;refine tH 2 ?_;refine tH 3 ?_;refine tH 4 ?_;refine tH 5 ?_;refine tH 6 ?_;refine tH 7 ?_;refine tH 8 ?_;refine wpAnyH_done (by kernel_rfl) ?_ _;refine NoPanic.normal ?_;go_wp2_with fail
 go_ret;exact ⟨rfl,(Below.refl _ _).drew⟩
theorem rrot32 (x:Int) (w:World):Calls prog 246 #[.int .u64 x,.int .i64 32] w fun e w'=>e = .returned (.int .u64 (zi8 4294967296 4294967296 x))/\Below w.heap.size w w':=by
 have hw:IntKind.i64.wrap 32=32:=by decide
 go_enter func246,ntmps246
 go_wp2_with fail
 refine wp_region_noPanic ?_
 refine wp_region_held_drew (S:=(fun _=>True)) (by kernel_rfl) (trivial) (fun hHeld=>?_)
 refine tH 0 ?_;refine tH 1 ?_;refine tH 2 ?_;refine tH 3 ?_;refine tH 4 ?_;refine tH 5 ?_;refine tH 6 ?_;refine tH 7 ?_;refine tH 8 ?_;refine wpAnyH_done (by kernel_rfl) ?_ _;refine NoPanic.normal ?_;go_wp2_with fail
 go_ret;exact ⟨rfl,(Below.refl _ _).drew⟩
theorem rrot16 (x:Int) (w:World):Calls prog 246 #[.int .u64 x,.int .i64 16] w fun e w'=>e = .returned (.int .u64 (zi8 65536 281474976710656 x))/\Below w.heap.size w w':=by
 have hw:IntKind.i64.wrap 48=48:=by decide
 go_enter func246,ntmps246
 go_wp2_with fail
 refine wp_region_noPanic ?_
 refine wp_region_held_drew (S:=(fun _=>True)) (by kernel_rfl) (trivial) (fun hHeld=>?_)
 refine tH 0 ?_;refine tH 1 ?_;refine tH 2 ?_;refine tH 3 ?_;refine tH 4 ?_;refine tH 5 ?_;refine tH 6 ?_;refine tH 7 ?_;refine tH 8 ?_;refine wpAnyH_done (by kernel_rfl) ?_ _;refine NoPanic.normal ?_;go_wp2_with fail
 go_ret;exact ⟨rfl,(Below.refl _ _).drew⟩
theorem rrot21 (x:Int) (w:World):Calls prog 246 #[.int .u64 x,.int .i64 21] w fun e w'=>e = .returned (.int .u64 (zi8 2097152 8796093022208 x))/\Below w.heap.size w w':=by
 have hw:IntKind.i64.wrap 43=43:=by decide
 go_enter func246,ntmps246
 go_wp2_with fail
 refine wp_region_noPanic ?_
 refine wp_region_held_drew (S:=(fun _=>True)) (by kernel_rfl) (trivial) (fun hHeld=>?_)
 refine tH 0 ?_;refine tH 1 ?_;refine tH 2 ?_;refine tH 3 ?_;refine tH 4 ?_;refine tH 5 ?_;refine tH 6 ?_;refine tH 7 ?_;refine tH 8 ?_;refine wpAnyH_done (by kernel_rfl) ?_ _;refine NoPanic.normal ?_;go_wp2_with fail
 go_ret;exact ⟨rfl,(Below.refl _ _).drew⟩
theorem rrot17 (x:Int) (w:World):Calls prog 246 #[.int .u64 x,.int .i64 17] w fun e w'=>e = .returned (.int .u64 (zi8 131072 140737488355328 x))/\Below w.heap.size w w':=by
 have hw:IntKind.i64.wrap 47=47:=by decide
 go_enter func246,ntmps246
 go_wp2_with fail
 refine wp_region_noPanic ?_
 refine wp_region_held_drew (S:=(fun _=>True)) (by kernel_rfl) (trivial) (fun hHeld=>?_)
 refine tH 0 ?_;refine tH 1 ?_;refine tH 2 ?_;refine tH 3 ?_;refine tH 4 ?_;refine tH 5 ?_;refine tH 6 ?_;refine tH 7 ?_;refine tH 8 ?_;refine wpAnyH_done (by kernel_rfl) ?_ _;refine NoPanic.normal ?_;go_wp2_with fail
 go_ret;exact ⟨rfl,(Below.refl _ _).drew⟩
theorem zef (s:Sip) (w:World):Calls prog 228 #[.agg (sipC s)] w fun e w'=>e = .returned (.agg (sipC (rndP s)))/\Below w.heap.size w w':=by
 obtain ⟨a,b,c,d⟩:=s;go_enter func228,ntmps228
 go_wp2_with fail
 refine zal (fun W hW=>?_)
 have a4:=xam hW
 have a0:W.heap[w.heap.size]?=some (.cells (sipC ⟨a,b,c,d⟩) 242 (0,0)):=by rw [hW];exact zaf (zac rfl)
 have a2:W.heap[w.heap.size+1]?=some (.cells (sipC ⟨0,0,0,0⟩) 242 (0,0)):=by rw [hW];exact zac (by simp)
 clear hW;have a6:=zjy a4;have a5:=zjy a2;obtain ⟨c0,c1,c2,c3⟩:=zaq a0;clear a4 a0 a2;refine wp_region_noPanic ?_
 refine wp_region_held_drew (S:=(fun w'=>w'.cell? ⟨w.heap.size,0,none⟩=some (.int .u64 a)/\w'.cell? ⟨w.heap.size,1,none⟩=some (.int .u64 b)/\w'.cell? ⟨w.heap.size,2,none⟩=some (.int .u64 c)/\w'.cell? ⟨w.heap.size,3,none⟩=some (.int .u64 d))) (by kernel_rfl) (⟨c0,c1,c2,c3⟩) (fun hHeld=>?_)
 refine tH 0 ?_;refine tH 1 ?_;refine tH 2 ?_;refine tH 3 ?_;refine tH 4 ?_;refine tH 5 ?_;refine tH 6 ?_;refine tH 7 ?_;refine tH 8 ?_;refine tH 9 ?_;refine tH 10 ?_;refine tH 11 ?_;refine wpAnyH_done (by kernel_rfl) ?_ _;refine NoPanic.normal ?_
 refine zci (fun W1 hW1=>?_)
 have a3:Below w.heap.size w W1:=by rw [hW1];exact a6.o.drew
 have a1:W1.heap[w.heap.size+1]?=some (.cells (sipC ⟨0,0,0,0⟩) 242 (0,0)):=by rw [hW1];exact a5.o
 clear hW1 c0 c1 c2 c3 hHeld a6 a5;have HB:=zjy a3;have HR:=zjy a1;clear a3 a1;go_wp2_with fail
 refine (rrot13 _ _).mono ?_;rintro e w1 ⟨rfl,hb⟩;have hB:=HB.o.trans (hb.mono HB.o.size);have hR:=zab hb (zaa HR.o) HR.o;clear HB HR hb;have HB:=zjy hB;have HR:=zjy hR;clear hB hR;go_wp2_with fail
 refine (rrot32 _ _).mono ?_;rintro e w2 ⟨rfl,hb⟩;have hB:=HB.o.trans (hb.mono HB.o.size);have hR:=zab hb (zaa HR.o) HR.o;clear HB HR hb;have HB:=zjy hB;have HR:=zjy hR;clear hB hR;go_wp2_with fail
 refine (rrot16 _ _).mono ?_;rintro e w3 ⟨rfl,hb⟩;have hB:=HB.o.trans (hb.mono HB.o.size);have hR:=zab hb (zaa HR.o) HR.o;clear HB HR hb;have HB:=zjy hB;have HR:=zjy hR;clear hB hR;go_wp2_with fail
 refine (rrot21 _ _).mono ?_;rintro e w4 ⟨rfl,hb⟩;have hB:=HB.o.trans (hb.mono HB.o.size);have hR:=zab hb (zaa HR.o) HR.o;clear HB HR hb;have HB:=zjy hB;have HR:=zjy hR;clear hB hR;go_wp2_with fail
 refine (rrot17 _ _).mono ?_;rintro e w5 ⟨rfl,hb⟩;have hB:=HB.o.trans (hb.mono HB.o.size);have hR:=zab hb (zaa HR.o) HR.o;clear HB HR hb;have HB:=zjy hB;have HR:=zjy hR;clear hB hR;go_wp2_with fail
 refine (rrot32 _ _).mono ?_;rintro e w6 ⟨rfl,hb⟩;have hB:=HB.o.trans (hb.mono HB.o.size);have hR:=zab hb (zaa HR.o) HR.o;clear HB HR hb;have HB:=zjy hB;have HR:=zjy hR;obtain ⟨r0,r1,r2,r3⟩:=zaq hR;obtain ⟨f0,f1,f2,f3⟩:=freeS hR;have lr:=zaa hR;clear hB hR;go_wp2_with fail
 exact za5 rfl rfl (zad (i:=3) (zad (i:=2) (zad (i:=1) (zad (i:=0) HR.o)))) underlying242 rfl (by kernel_rfl)
  ⟨rfl,(((HB.o.setCell (p:=⟨w.heap.size+1,0,none⟩) (Nat.le_succ _) _).setCell (p:=⟨w.heap.size+1,1,none⟩) (Nat.le_succ _) _).setCell (p:=⟨w.heap.size+1,2,none⟩) (Nat.le_succ _) _).setCell (p:=⟨w.heap.size+1,3,none⟩) (Nat.le_succ _) _⟩
end
section
open Go.RowKit
def RipAt (w:World) (b:Nat) (s:Sip) (w':World):Prop:=w'.heap[b]?=some (.cells (sipC s) 242 (0,0))/\w.grownBy w' (some b)
theorem RipAt.read {w w':World} {b:Nat} {s:Sip} (h:RipAt w b s w'):(w'.cell? ⟨b,0,none⟩=some (.int .u64 s.a)/\w'.cell? ⟨b,1,none⟩=some (.int .u64 s.b)/\w'.cell? ⟨b,2,none⟩=some (.int .u64 s.c)/\w'.cell? ⟨b,3,none⟩=some (.int .u64 s.d)) /\
  (w'.frozen? ⟨b,0,none⟩=false/\w'.frozen? ⟨b,1,none⟩=false/\w'.frozen? ⟨b,2,none⟩=false/\w'.frozen? ⟨b,3,none⟩=false):=⟨zaq h.1,freeS h.1⟩
theorem RipAt.set {w w':World} {b i:Nat} {s s':Sip} {v:Value} (h:RipAt w b s w') (e:(sipC s).setIfInBounds i v=sipC s'):RipAt w b s' (w'.setCell ⟨b,i,none⟩ v) :=
 ⟨by rw [<- e];exact zad h.1,zc0 h.2⟩
theorem RipAt.below {w w' w'':World} {b:Nat} {s:Sip} (h:RipAt w b s w') (hb:Below w'.heap.size w' w''):RipAt w b s w'' :=
 ⟨zab hb (zaa h.1) h.1,zcs h.2 (zg2 hb)⟩
theorem RipAt.all {w w':World} {b:Nat} {s s':Sip} (h:RipAt w b s w'):RipAt w b s' ((((w'.setCell ⟨b,0,none⟩ (.int .u64 s'.a)).setCell ⟨b,1,none⟩ (.int .u64 s'.b)).setCell ⟨b,2,none⟩ (.int .u64 s'.c)).setCell ⟨b,3,none⟩ (.int .u64 s'.d)) :=
 (((h.set (s':=⟨s'.a,s.b,s.c,s.d⟩) rfl).set (s':=⟨s'.a,s'.b,s.c,s.d⟩) rfl).set (s':=⟨s'.a,s'.b,s'.c,s.d⟩) rfl).set rfl
theorem RipAt.base {w W w':World} {b B:Nat} {s:Sip} (h:RipAt W b s w') (hb:Below B w W) (hB:B<=b) (hW:B<=W.heap.size):Below B w w' :=
 hb.trans ⟨h.2.os,h.2.tape,h.2.output,h.2.size,fun k hk=>h.2.block k (by omega) (by simp;omega)⟩
theorem top_wrap (n:Nat):(n:Int) % 256*72057594037927936=IntKind.u64.wrap ((n:Int)*72057594037927936):=by
 have h:∀ x:Int,IntKind.u64.wrap x=x % 18446744073709551616:=fun x=>rfl
 rw [h];omega
theorem rsum_any (S:Nat->Prop) (ka kb:Int) (v:Value) (l:List UInt8) (w:World) (h:Vec w S 1 encB v l) (hl:l.length<=1000000000) :
  Calls prog 197 #[.agg #[.int .u64 ka,.int .u64 kb],v] w fun e w'=>e = .returned (.int .u64 (sumP ka kb l))/\Below w.heap.size w w':=by
 obtain ⟨a,cap,rfl⟩:=h.slice;have b5:=h.len.2;have HV:=zjy (h.any.move (S':=fun b=>b<w.heap.size) (w':=w) xnl fun b hb _=>⟨rfl,hb⟩);clear h
 go_enter func197,ntmps197
 go_wp2_with fail
 refine zal (fun W hW=>?_)
 have a5:=xam hW
 have b0:RipAt W (w.heap.size+1) ⟨xr ka 8317987319222330741,xr kb 7237128888997146477,xr ka 7816392313619706465,xr kb 8387220255154660723⟩ W:=by rw [hW];exact ⟨zac (by simp),zdu _ _⟩
 have a8:=HV.o.below a5;clear hW HV;have b1:=zjy a5;have b8:=zjy b0;have b7:=zjy a8;clear a5 b0 a8;go_loopw [6] (fun at_ wr=>∃ (j:Nat) (s:Sip),at_ = .int .i64 ((8*j:Nat):Int)/\8*j<=l.length/\RipAt W (w.heap.size+1) s wr/\Hid (zjp s (l.drop (8*j)) ((l.drop (8*j)).length / 8)=zjp ⟨xr ka 8317987319222330741,xr kb 7237128888997146477,xr ka 7816392313619706465,xr kb 8387220255154660723⟩ l (l.length / 8))) (fun at_ _=>l.length+1 - (intOf at_).toNat)
 case atStart=>exact ⟨0,_,rfl,by omega,b8.o,zjy rfl⟩
 case round =>
  obtain ⟨j,s,rfl,hj,hs,HE⟩:=hrel;obtain ⟨J,hJ⟩:=xex (8*j);rw [hJ] at hj HE ⊢;obtain ⟨r,hr⟩:=xex (l.drop J);have hrl:r.length=l.length - J:=by rw [<- hr,List.length_drop]
  rw [hr] at HE;have a7:=zjy hr;have HJ:=zjy hJ;have HV:=zjy (b7.o.grown (b:=w.heap.size+1) (fun x hx=>by omega) hs.2)
  have HS:=zjy hs;obtain ⟨⟨c0,c1,c2,c3⟩,f0,f1,f2,f3⟩:=hs.read;have lb:=zaa hs.1;clear hs hr hJ;by_cases hlt:8<=r.length
  ·have a3:min (8:Int) ((l.length:Int) - (J:Int))=8:=by omega
   have b3:decide ((8:Int)<8)=false:=rfl;have a1:zjp s r (r.length / 8)=zjp (wordP s (numP 0 0 (r.take 8))) (r.drop 8) ((r.drop 8).length / 8):=eachP_more s r hlt;have a2:=zjy a1;clear a1;go_wp2_with fail
   go_loopw [7,9] (fun m i wx=>wx=wr/\∃ (k:Nat) (mm:Int),i = .int .i64 k/\k<=8/\m = .int .u64 mm/\Hid (numP k mm ((r.take 8).drop k)=numP 0 0 (r.take 8))) (fun _ i _=>8 - (intOf i).toNat)
   case atStart=>exact ⟨rfl,0,0,rfl,by omega,rfl,zjy rfl⟩
   case round =>
    obtain ⟨rfl,k,mm,rfl,hk,rfl,HT⟩:=hrel;by_cases hlk:k<8
    ·have hq:decide ((k:Int)<8)=true:=by simp;omega
     obtain ⟨b,off,rfl,hb,hc⟩:=HV.o.get (J+k) (by omega);have c0:=hc 0 _ rfl;rw [Nat.mul_one,Nat.add_zero] at c0;unfold zga at c0;have a4:k<(r.take 8).length:=by rw [List.length_take];omega
     have hg:(r.take 8)[k]=l[J+k]:=by rw [List.getElem_take];simp only [<- a7.o,List.getElem_drop]
     have ht:=HT.o;rw [List.drop_eq_getElem_cons a4,hg] at ht;have a6:=zjy ht;clear ht hg HT hc;go_wp2_with fail
     go_roundw
     case rel=>exact ⟨trivial,k+1,_,by go_num,by omega,rfl,zjy (by rw [<- a6.o];rfl)⟩
     case measure=>simp [intOf];omega
    ·have hq:decide ((k:Int)<8)=false:=by simp;omega
     have hd:(r.take 8).drop k=[]:=List.drop_eq_nil_of_le (by rw [List.length_take];omega);rw [hd] at HT;obtain rfl:mm=numP 0 0 (r.take 8):=HT.o;clear HT hd hq;obtain ⟨m,hm⟩:=xex (numP 0 0 (r.take 8));rw [hm] at a2 ⊢;have HM:=zjy hm;clear hm;go_wp2_with fail
     have hS:=HS.o.set (i:=3) (v:=.int .u64 (xr s.d m)) (s':=⟨s.a,s.b,s.c,xr s.d m⟩) rfl;clear HS;have HS:=zjy hS;clear hS;clear c0 c1 c2 c3 f0 f1 f2 f3;refine (zef ⟨s.a,s.b,s.c,xr s.d m⟩ _).mono ?_;rintro e w1 ⟨rfl,hb⟩;have hS:=HS.o.below hb;clear HS hb;have HS:=zjy hS;clear hS;go_wp2_with fail
     refine (zef (rndP ⟨s.a,s.b,s.c,xr s.d m⟩) _).mono ?_;rintro e w2 ⟨rfl,hb⟩;have hS:=HS.o.below hb;clear HS hb;obtain ⟨t,ht⟩:=xex (rndP (rndP ⟨s.a,s.b,s.c,xr s.d m⟩));rw [ht];have hw:wordP s m=⟨xr t.a m,t.b,t.c,t.d⟩:=by rw [<- ht];rfl
     have HW:=zjy hw;have HS:=zjy hS;obtain ⟨⟨c0,c1,c2,c3⟩,f0,f1,f2,f3⟩:=hS.read;have a0:=zaa hS.1;clear hS ht hw;go_wp2_with fail
     exact ⟨⟨j+1,⟨xr t.a m,t.b,t.c,t.d⟩,congrArg (Value.int .i64) (by have:=HJ.o;omega),by have:=HJ.o;omega,(HS.o.all (s':=t)).set (i:=0) (v:=.int .u64 (xr t.a m)) rfl,zjy (by rw [<- HE.o,a2.o,HW.o,show 8*(j+1)=J+8 by have:=HJ.o;omega,<- List.drop_drop,a7.o])⟩,by simp [intOf];omega⟩
  ·have a3:min (8:Int) ((l.length:Int) - (J:Int))=(l.length:Int) - (J:Int):=by omega
   have b3:decide ((l.length:Int) - (J:Int)<8)=true:=by simp;omega
   have b2:r.take 8=r:=List.take_of_length_le (by omega);have hE:=HE.o;rw [eachP_end s r (by omega)] at hE;have b9:=zjy hE.symm;clear hE HE;go_wp2_with fail
   go_loopw [7,9] (fun m i wx=>wx=wr/\∃ (k:Nat) (mm:Int),i = .int .i64 k/\k<=r.length/\m = .int .u64 mm/\Hid (numP k mm ((r.take 8).drop k)=numP 0 0 (r.take 8))) (fun _ i _=>r.length - (intOf i).toNat)
   case atStart=>exact ⟨rfl,0,0,rfl,by omega,rfl,zjy rfl⟩
   case round =>
    obtain ⟨rfl,k,mm,rfl,hk,rfl,HT⟩:=hrel;by_cases hlk:k<r.length
    ·have hq:decide ((k:Int)<(l.length:Int) - (J:Int))=true:=by simp;omega
     obtain ⟨b,off,rfl,hb,hc⟩:=HV.o.get (J+k) (by omega);have c0:=hc 0 _ rfl;rw [Nat.mul_one,Nat.add_zero] at c0;unfold zga at c0;have a4:k<(r.take 8).length:=by rw [List.length_take];omega
     have hg:(r.take 8)[k]=l[J+k]:=by rw [List.getElem_take];simp only [<- a7.o,List.getElem_drop]
     have ht:=HT.o;rw [List.drop_eq_getElem_cons a4,hg] at ht;have a6:=zjy ht;clear ht hg HT hc;go_wp2_with fail
     go_roundw
     case rel=>exact ⟨trivial,k+1,_,by go_num,by omega,rfl,zjy (by rw [<- a6.o];rfl)⟩
     case measure=>simp [intOf];omega
    ·have hq:decide ((k:Int)<(l.length:Int) - (J:Int))=false:=by simp;omega
     have hd:(r.take 8).drop k=[]:=List.drop_eq_nil_of_le (by rw [List.length_take];omega);rw [hd] at HT;obtain rfl:mm=numP 0 0 (r.take 8):=HT.o;clear HT hd hq;have a9:=top_wrap l.length;rw [b2];obtain ⟨m,hm⟩:=xex (bits .or .u64 (numP 0 0 r) (IntKind.u64.wrap ((l.length:Int)*72057594037927936)));have b4:bits .or .u64 (numP 0 0 r) ((l.length:Int) % 256*72057594037927936)=m:=by rw [a9];exact hm
     have HM:=zjy hm;clear hm a9;go_wp2_with fail
     clear b4;have hS:=HS.o.set (i:=3) (v:=.int .u64 (xr s.d m)) (s':=⟨s.a,s.b,s.c,xr s.d m⟩) rfl;clear HS;have HS:=zjy hS;clear hS;clear c0 c1 c2 c3 f0 f1 f2 f3;refine (zef ⟨s.a,s.b,s.c,xr s.d m⟩ _).mono ?_;rintro e w1 ⟨rfl,hb⟩;have hS:=HS.o.below hb;clear HS hb;have HS:=zjy hS;clear hS;go_wp2_with fail
     refine (zef (rndP ⟨s.a,s.b,s.c,xr s.d m⟩) _).mono ?_;rintro e w2 ⟨rfl,hb⟩;have hS:=HS.o.below hb;clear HS hb;obtain ⟨t,ht⟩:=xex (rndP (rndP ⟨s.a,s.b,s.c,xr s.d m⟩));rw [ht];have hw:wordP s m=⟨xr t.a m,t.b,t.c,t.d⟩:=by rw [<- ht];rfl
     have HW:=zjy hw;have HS:=zjy hS;obtain ⟨⟨c0,c1,c2,c3⟩,f0,f1,f2,f3⟩:=hS.read;have a0:=zaa hS.1;clear hS ht hw;go_upto_region 14 with fail
     refine zal (fun W1 hW1=>?_)
     have hS:RipAt W (w.heap.size+1) t W1:=by rw [hW1];exact HS.o.all (s':=t)
     clear HS c0 c1 c2 c3 f0 f1 f2 f3 a0 hW1;have HS:=zjy hS;obtain ⟨⟨c0,c1,c2,c3⟩,f0,f1,f2,f3⟩:=hS.read;have a0:=zaa hS.1;clear hS;go_upto_region 16 with fail
     refine zal (fun W2 hW2=>?_)
     have hS:RipAt W (w.heap.size+1) ⟨xr t.a m,t.b,t.c,t.d⟩ W2:=by rw [hW2];exact HS.o.set (i:=0) (v:=.int .u64 (xr t.a m)) rfl
     clear HS c0 c1 c2 c3 f0 f1 f2 f3 a0 hW2;have HS:=zjy hS;obtain ⟨⟨c0,c1,c2,c3⟩,f0,f1,f2,f3⟩:=hS.read;have a0:=zaa hS.1;clear hS;go_wp2_with fail
     have hS:=HS.o.set (i:=2) (v:=.int .u64 (xr t.c 255)) (s':=⟨xr t.a m,t.b,xr t.c 255,t.d⟩) rfl;clear HS c0 c1 c2 c3 f0 f1 f2 f3;have HS:=zjy hS;clear hS;obtain ⟨u,hu⟩:∃ u:Sip,(⟨xr t.a m,t.b,t.c,t.d⟩:Sip)=u:=⟨_,rfl⟩;refine (zef ⟨xr t.a m,t.b,xr t.c 255,t.d⟩ _).mono ?_;rintro e w3 ⟨rfl,hb⟩;have hS:=HS.o.below hb;clear HS hb;have HS:=zjy hS;clear hS;go_wp2_with fail
     refine (zef (rndI 1 ⟨xr t.a m,t.b,xr t.c 255,t.d⟩) _).mono ?_;rintro e w4 ⟨rfl,hb⟩;have hS:=HS.o.below hb;clear HS hb;have HS:=zjy hS;clear hS;go_wp2_with fail
     refine (zef (rndI 2 ⟨xr t.a m,t.b,xr t.c 255,t.d⟩) _).mono ?_;rintro e w5 ⟨rfl,hb⟩;have hS:=HS.o.below hb;clear HS hb;have HS:=zjy hS;clear hS;go_wp2_with fail
     refine (zef (rndI 3 ⟨xr t.a m,t.b,xr t.c 255,t.d⟩) _).mono ?_;rintro e w6 ⟨rfl,hb⟩;have hS:=HS.o.below hb;clear HS hb;obtain ⟨v,hv⟩:=xex (rndI 4 ⟨xr t.a m,t.b,xr t.c 255,t.d⟩);rw [show rndP (rndI 3 ⟨xr t.a m,t.b,xr t.c 255,t.d⟩)=v from hv];have b6:=zjy hv;have HS:=zjy hS;obtain ⟨⟨c0,c1,c2,c3⟩,f0,f1,f2,f3⟩:=hS.read;have a0:=zaa hS.1;clear hS hv hu;go_upto_region 18 with fail
     refine zal (fun W3 hW3=>?_)
     have hS:RipAt W (w.heap.size+1) v W3:=by rw [hW3];exact HS.o.all (s':=v)
     clear HS hW3 c0 c1 c2 c3 f0 f1 f2 f3;have HS:=zjy hS;obtain ⟨⟨c0,c1,c2,c3⟩,f0,f1,f2,f3⟩:=hS.read;have lb3:=zaa hS.1;clear hS;go_wp2_with fail
     go_ret;refine ⟨?_,HS.o.base b1.o (by omega) b1.o.size⟩;rw [<- sumP_of ka kb l s r b9.o ⟨xr t.a m,t.b,t.c,t.d⟩ (by rw [HM.o];exact HW.o) v b6.o];rfl
end
section
open Go.RowKit
theorem rsparts_any (S:Nat->Prop) (ka kb:Int) (v:Value) (L:List (List UInt8)) (w:World) (h:Vec w S 1 za8 v L) (hl:∀ t∈L,t.length<=60000) (hn:L.length<=1000) :
  Calls prog 161 #[.agg #[.int .u64 ka,.int .u64 kb],v] w fun e w'=>e = .returned (.int .u64 (zdk ka kb L))/\Below w.heap.size w w':=by
 obtain ⟨a,cap,rfl⟩:=h.slice;have HV:=zjy h.any;clear h;have HL:=zjy hl;clear hl;go_enter func161,ntmps161
 go_wp2_with fail
 refine zal (fun W hW=>?_)
 have a3:=xal hW
 have hk:W.heap[w.heap.size]?=some (.cells #[.int .u64 ka,.int .u64 kb] 41 (0,0)):=by rw [hW];exact zac rfl
 have b2:=zjy (HV.o.below a3);have a4:=zjy a3;have HK:=zjy hk;clear hW a3 hk HV;go_loopw [5,6] (fun v i wr=>∃ k:Nat,i = .int .i64 k/\k<=L.length/\OwnV 5 1 encB W v ((L.take k).flatMap partP) wr) (fun _ i _=>L.length - (intOf i).toNat)
 case atStart=>exact ⟨0,rfl,by omega,OwnV.start _ _ _ _⟩
 case round =>
  obtain ⟨k,rfl,hk,ho⟩:=hrel;have HO:=zjy ho;clear ho;by_cases hlt:k<L.length
  ·have hq:decide ((k:Int)<L.length)=true:=by simp;omega
   obtain ⟨t,ht⟩:=xex (L[k]);have a8:t.length<=60000:=HL.o t (by rw [<- ht];exact List.getElem_mem _);obtain ⟨b,off,rfl,hb,hc⟩:=(b2.o.below HO.o.2).get k hlt;have c0:=hc 0 _ rfl;rw [Nat.mul_one,Nat.add_zero,ht] at c0;clear hc;have hm:decide ((65535:Int)<t.length)=false:=by simp;omega
   have hx:=extract_all t;obtain ⟨x,ex⟩:=xex (UInt8.ofNat (t.length / 256));obtain ⟨y,ey⟩:=xex (UInt8.ofNat t.length);have hxa:(t.length:Int) / 256=(x.toNat:Int):=by rw [<- ex,UInt8.toNat_ofNat'];omega
   have hya:(t.length:Int) % 256=(y.toNat:Int):=by rw [<- ey,UInt8.toNat_ofNat'];omega
   have hp:=zio t a8;rw [ex,ey] at hp;have a5:L.take (k+1)=L.take k++[t]:=by rw [List.take_succ_eq_append_getElem hlt,ht]
   have a1:=zhw (L.take k) fun u hu=>HL.o u (List.mem_of_mem_take hu)
   rw [List.length_take] at a1;have HP:=zjy hp;have b3:=zjy a5;clear hp a5 ex ey;obtain ⟨P,hP⟩:=xex ((L.take k).flatMap partP);rw [hP] at HO a1;have b5:=zjy hP;clear hP;have b6:=zjy (HO.o.below ((Below.refl _ _).alloc xnl (.cells #[.int .u8 (x.toNat:Int),.int .u8 (y.toNat:Int)] 5)));have b4:=zjy (reads_row (xs:=[x,y].flatMap encB) (n:=2) (c:=2) (heap_alloc_new wr (.cells #[.int .u8 (x.toNat:Int),.int .u8 (y.toNat:Int)] 5)) rfl);have a7:=HO.o.2.size;have a2:P.length+([x,y]:List UInt8).length<=1000000000:=by simp only [List.length_cons,List.length_nil];omega
   have a0:(P++[x,y]).length+t.length<=1000000000:=by rw [List.length_append];simp only [List.length_cons,List.length_nil];omega
   go_wp2_with (at_builtin;first | (refine zcv rfl (.tmp 23) (.tmp 31) 175 rfl 5 (.int .u8 0) 1 1 encB (fun _=>rfl) one_encB underlying175 infoBy rfl (by decide) (by decide) (w0:=W) (v:=u5) (A:=P) (B:=[x,y]) rfl b6.o rfl b4.o a2 ?_;intro v2 w2 b0 a6 hz2) | (refine zha rfl (.tmp 33) (.tmp 34) 175 9 rfl 5 underlying175 underlying9 infoBy (w0:=W) (v:=v2) (A:=P++[x,y]) t rfl b0 rfl a0 ?_;intro v3 w3 a9 hz3))
   go_roundw
   case rel=>exact ⟨k+1,by go_num,by omega,by rw [b3.o,List.flatMap_append,b5.o,List.flatMap_cons,List.flatMap_nil,List.append_nil,HP.o,<- List.append_assoc];exact a9⟩
   case measure=>simp [intOf];omega
  ·have hq:decide ((k:Int)<L.length)=false:=by simp;omega
   have a1:=zhw L fun u hu=>HL.o u hu
   rw [List.take_of_length_le (by omega)] at HO;have a7:=HO.o.2.size;have a6:wr.heap[w.heap.size]?=some (.cells #[.int .u64 ka,.int .u64 kb] 41 (0,0)):=zab HO.o.2 (zaa HK.o) HK.o;obtain ⟨k0,k1⟩:=zae a6;go_wp2_with fail
   refine (rsum_any _ ka kb _ (L.flatMap partP) _ (OwnV.vec (size:=1) (enc:=encB) (fun _=>rfl) HO.o) (by omega)).mono ?_
   rintro e w2 ⟨rfl,b1⟩;go_wp2_with fail
   go_ret;exact ⟨rfl,a4.o.trans ((HO.o.2.mono a4.o.size).trans (b1.mono (by have:=a4.o.size;omega)))⟩
theorem zhx (ka kb:Int) (x y:List UInt8) (hx:x.length<=60000) (hy:y.length<=60000) (w:World) (g:Nat) (h:w.heap[g]?=some (.cells #[zak x,zak y] 9 (0,0))) :
  Calls prog 161 #[.agg #[.int .u64 ka,.int .u64 kb],.slice (some ⟨g,0,none⟩) 2 2] w fun e w'=>e = .returned (.int .u64 (zdk ka kb [x,y]))/\Below w.heap.size w w':=by
 refine rsparts_any zau ka kb _ [x,y] w ⟨_,2,rfl,by simp,fun _=>⟨g,0,rfl,trivial,zaa h,fun j z hj i u hu=>?_⟩⟩ (by intro t ht;simp at ht;rcases ht with rfl | rfl <;> omega) (by simp)
 rw [cell_of_row _ _ _ _ _ _ h]
 match j,i,hj,hu with
 | 0,0,hj,hu=>simp at hj;subst hj;simpa using hu
 | 1,0,hj,hu=>simp at hj;subst hj;simpa using hu
 | 0,i+1,hj,hu=>simp at hu
 | 1,i+1,hj,hu=>simp at hu
 | j+2,_,hj,_=>simp at hj
theorem zgz (ka kb:Int) (l:List UInt8) (w:World) (hl:l.length<=60000) :
  Calls prog 116 #[.agg #[.int .u64 ka,.int .u64 kb],zak l] w fun e w'=>e = .returned (.agg #[.int .u64 (zer ka kb l).1,.int .u64 (zer ka kb l).2])/\Below w.heap.size w w':=by
 obtain ⟨p,hp⟩:=xex (zdk ka kb [l,[97]]);obtain ⟨q,hq⟩:=xex (zdk ka kb [l,[98]]);have a3:zer ka kb l=(p,q):=by rw [<- hp,<- hq];rfl
 rw [a3];have HP:=zjy hp;have HQ:=zjy hq;clear hp hq a3;go_enter func116,ntmps116
 go_wp2_with fail
 refine zal (fun W hW=>?_)
 have a5:=xam hW
 have a4:W.heap[w.heap.size]?=some (.cells #[.int .u64 ka,.int .u64 kb] 41 (0,0)):=by rw [hW];exact zaf (zac rfl)
 have a2:W.heap[w.heap.size+1]?=some (.cells #[.int .u64 0,.int .u64 0] 41 (0,0)):=by rw [hW];exact zac (by simp)
 have a0:=zaa a4;obtain ⟨k0,k1⟩:=zae a4;clear hW;have bD:Below W.heap.size W W.drew:=(Below.refl _ _).drew;refine wp_region_noPanic ?_
 refine zaw (by kernel_rfl) (fun w'=>w'.cell? ⟨w.heap.size,0,none⟩=some (.int .u64 ka)/\w'.cell? ⟨w.heap.size,1,none⟩=some (.int .u64 kb)) 9 (⟨k0,k1⟩) (fun hHeld=>?_)
 refine tK 0 ?_;refine tK 1 ?_;refine tK 4 ?_;refine tK 5 ?_;refine zbf (rs:=[2,6]) (by kernel_rfl) (by simp) ?_
 refine AllReadyK.cons rfl (fun K hK=>?_) (AllReadyK.cons rfl (fun K hK=>?_) AllReadyK.nil)
 focus
  go_simp
  refine zbc hK (⟨((bD.alloc bD.size _).cell (p:=⟨w.heap.size,0,none⟩) a0).trans k0,((bD.alloc bD.size _).cell (p:=⟨w.heap.size,1,none⟩) a0).trans k1⟩) (fun hHeld=>?_)
  clear hK K
  refine zbi (fun W1 hW1=>?_)
  have b1:Below W.heap.size W W1:=by rw [hW1];exact bD.alloc bD.size (.cells #[zak l,zak [97]] 9)
  have g1:W1.heap[W.heap.size]?=some (.cells #[zak l,zak [97]] 9 (0,0)):=by rw [hW1];exact zac rfl
  clear hW1;refine zbf (rs:=[3,6]) (by kernel_rfl) (by simp) ?_
  refine AllReadyK.cons rfl (fun K hK=>?_) (AllReadyK.cons rfl (fun K hK=>?_) AllReadyK.nil)
  focus
   go_simp;refine (zhx ka kb l [97] hl (by decide) _ _ g1).mono ?_;rintro e w2 ⟨rfl,hb⟩;have b2:=b1.trans (hb.mono b1.size);clear hb
   refine zbc hK (⟨(b2.cell (p:=⟨w.heap.size,0,none⟩) a0).trans k0,(b2.cell (p:=⟨w.heap.size,1,none⟩) a0).trans k1⟩) (fun hHeld=>?_)
   clear hK K
   refine xrK 6 rfl fun K hK=>?_
   go_simp
   refine zbc hK (⟨((b2.alloc b2.size _).cell (p:=⟨w.heap.size,0,none⟩) a0).trans k0,((b2.alloc b2.size _).cell (p:=⟨w.heap.size,1,none⟩) a0).trans k1⟩) (fun hHeld=>?_)
   clear hK K
   refine zbi (fun W3 hW3=>?_)
   have b3:Below W.heap.size W W3:=by rw [hW3];exact b2.alloc b2.size (.cells #[zak l,zak [98]] 9)
   have g3:W3.heap[w2.heap.size]?=some (.cells #[zak l,zak [98]] 9 (0,0)):=by rw [hW3];exact zac rfl
   clear hW3
  rotate_left 1
  focus
   go_simp
   refine zbc hK (⟨((b1.alloc b1.size _).cell (p:=⟨w.heap.size,0,none⟩) a0).trans k0,((b1.alloc b1.size _).cell (p:=⟨w.heap.size,1,none⟩) a0).trans k1⟩) (fun hHeld=>?_)
   clear hK K
   refine zbi (fun W2 hW2=>?_)
   have b2:Below W.heap.size W W2:=by rw [hW2];exact b1.alloc b1.size (.cells #[zak l,zak [98]] 9)
   have g3:W2.heap[W1.heap.size]?=some (.cells #[zak l,zak [98]] 9 (0,0)):=by rw [hW2];exact zac rfl
   have a7:W2.heap[W.heap.size]?=some (.cells #[zak l,zak [97]] 9 (0,0)):=by rw [hW2];exact zaf g1
   clear hW2
   refine xrK 3 rfl fun K hK=>?_
   go_simp;refine (zhx ka kb l [97] hl (by decide) _ _ a7).mono ?_;rintro e W3 ⟨rfl,hb⟩;have b3:=b2.trans (hb.mono b2.size);have g3:=zab hb (zaa g3) g3;clear hb
   refine zbc hK (⟨(b3.cell (p:=⟨w.heap.size,0,none⟩) a0).trans k0,(b3.cell (p:=⟨w.heap.size,1,none⟩) a0).trans k1⟩) (fun hHeld=>?_)
   clear hK K
 rotate_left 2
 focus
  go_simp
  refine zbc hK (⟨((bD.alloc bD.size _).cell (p:=⟨w.heap.size,0,none⟩) a0).trans k0,((bD.alloc bD.size _).cell (p:=⟨w.heap.size,1,none⟩) a0).trans k1⟩) (fun hHeld=>?_)
  clear hK K
  refine zbi (fun W1 hW1=>?_)
  have b1:Below W.heap.size W W1:=by rw [hW1];exact bD.alloc bD.size (.cells #[zak l,zak [98]] 9)
  have g3:W1.heap[W.heap.size]?=some (.cells #[zak l,zak [98]] 9 (0,0)):=by rw [hW1];exact zac rfl
  clear hW1
  refine xrK 2 rfl fun K hK=>?_
  go_simp
  refine zbc hK (⟨((b1.alloc b1.size _).cell (p:=⟨w.heap.size,0,none⟩) a0).trans k0,((b1.alloc b1.size _).cell (p:=⟨w.heap.size,1,none⟩) a0).trans k1⟩) (fun hHeld=>?_)
  clear hK K
  refine zbi (fun W2 hW2=>?_)
  have b2:Below W.heap.size W W2:=by rw [hW2];exact b1.alloc b1.size (.cells #[zak l,zak [97]] 9)
  have g1:W2.heap[W1.heap.size]?=some (.cells #[zak l,zak [97]] 9 (0,0)):=by rw [hW2];exact zac rfl
  have a6:W2.heap[W.heap.size]?=some (.cells #[zak l,zak [98]] 9 (0,0)):=by rw [hW2];exact zaf g3
  clear hW2
  refine xrK 3 rfl fun K hK=>?_
  go_simp;refine (zhx ka kb l [97] hl (by decide) _ _ g1).mono ?_;rintro e W3 ⟨rfl,hb⟩;have b3:=b2.trans (hb.mono b2.size);have g3:=zab hb (zaa a6) a6;clear hb
  refine zbc hK (⟨(b3.cell (p:=⟨w.heap.size,0,none⟩) a0).trans k0,(b3.cell (p:=⟨w.heap.size,1,none⟩) a0).trans k1⟩) (fun hHeld=>?_)
  clear hK K
 all_goals
  refine xrK 7 rfl fun K hK=>?_
  go_simp;refine (zhx ka kb l [98] hl (by decide) _ _ g3).mono ?_;rintro e w4 ⟨rfl,hb⟩;have b4:=b3.trans (hb.mono b3.size);clear hb;rw [HP.o,HQ.o]
  refine zbc hK (⟨(b4.cell (p:=⟨w.heap.size,0,none⟩) a0).trans k0,(b4.cell (p:=⟨w.heap.size,1,none⟩) a0).trans k1⟩) (fun hHeld=>?_)
  clear hK K;refine tK 8 ?_;have a1:=zab b4 (zaa a2) a2;have hz5:=zaa a1;obtain ⟨z0,z1⟩:=zae a1;have y0:=frozen_of_row _ _ 0 _ _ a1;have y1:=frozen_of_row _ _ 1 _ _ a1
  refine xrK 9 rfl fun K hK=>?_
  go_simp;refine zav hK (by decide) ?_;clear hK K;refine zas (by kernel_rfl) ?_ _;refine NoPanic.normal ?_;go_wp2_with fail
  exact za5 rfl rfl (zad (i:=1) (v:=.int .u64 q) (zad (i:=0) (v:=.int .u64 p) a1)) underlying41 rfl (by kernel_rfl)
   ⟨rfl,((a5.trans (b4.mono a5.size)).setCell (p:=⟨w.heap.size+1,0,none⟩) (Nat.le_succ _) _).setCell (p:=⟨w.heap.size+1,1,none⟩) (Nat.le_succ _) _⟩
end
section
open Go.RowKit
attribute [local go_sem] zag zaj za6
theorem itoa_least:Lib.itoa (-9223372036854775808)=[45,57,50,50,51,51,55,50,48,51,54,56,53,52,55,55,53,56,48,56]:=by decide +kernel
theorem rdecimal_any (n:Int) (hn:InI n) (w:World):Calls prog 117 #[.int .i64 n] w fun e w'=>e = .returned (zak (Lib.itoa n))/\Below w.heap.size w w':=by
 obtain ⟨h0,h1⟩:=hn;by_cases hp:0<=n
 ·obtain ⟨m,rfl⟩:=Int.eq_ofNat_of_zero_le hp
  have e:Lib.itoa ((m:Nat):Int)=Lib.decDigits m:=Lib.itoa_nonneg m;rw [e];have d1:decide ((0:Int)<=(m:Int))=true:=by simp
  obtain ⟨t,ht⟩:=xex (Lib.decDigits m);have hd:=rnum9_any 19 m;rw [ht] at hd ⊢;have HD:=zjy hd;clear ht hd e;go_enter func117,ntmps117
  go_wp2_with fail
  refine (HD.o _ (by omega) (by omega)).mono ?_;rintro e w1 ⟨rfl,hb⟩;have HB:=zjy hb;clear hb;go_wp2_with fail
  go_ret;exact ⟨rfl,HB.o⟩
 ·have d1:decide ((0:Int)<=n)=false:=by simpa using hp
  by_cases hm:n = -9223372036854775808
  ·subst hm
   rw [itoa_least];have hw0:IntKind.i64.wrap 9223372036854775808 = -9223372036854775808:=by rw [IntKind.wrap_i64];omega
   have hw:wrap64 9223372036854775808 = -9223372036854775808:=by simp only [wrap64];first | rfl | omega | decide
   have d2:((-9223372036854775808:Int) == -9223372036854775808)=true:=rfl;go_enter func117,ntmps117
   go_wp2_with fail
   go_ret;exact ⟨rfl,Below.refl _ _⟩
  ·obtain ⟨u,hu⟩:∃ u:Nat,-n=(u:Int):=⟨(-n).toNat,by omega⟩
   have a0:n = -(u:Int):=by omega
   subst a0;rw [Lib.itoa_neg u (by omega)];have hw:IntKind.i64.wrap (- -(u:Int))=(u:Int):=by rw [IntKind.wrap_i64];omega
   have d2:((-(u:Int)) == (u:Int))=false:=beq_eq_false_iff_ne.2 (by omega);obtain ⟨t,ht⟩:=xex (Lib.decDigits u);have hl:t.length<=19:=by rw [<- ht];exact zjr (k:=19) (by decide) (by omega)
   have hc:¬ 9223372036854775807<1+t.length:=by omega
   have hd:=rnum9_any 19 u;rw [ht] at hd ⊢;have HD:=zjy hd;clear ht hd hu;go_enter func117,ntmps117
   go_wp2_with fail
   refine (HD.o _ (by omega) (by omega)).mono ?_;rintro e w1 ⟨rfl,hb⟩;have HB:=zjy hb;clear hb;go_wp2_with fail
   go_ret;exact ⟨rfl,HB.o⟩
theorem zjb (k:Int × Int) (i:Int) (b:Bool) (s:List UInt8) (w:World) (hi:InI i) (hs:s.length<=50000) :
  Calls prog 77 #[.agg #[.int .u64 k.1,.int .u64 k.2],.int .i64 i,.bool b,zak s] w fun e w'=>e = .returned (.agg #[.int .u64 (keyN k (Lib.itoa i) b s).1,.int .u64 (keyN k (Lib.itoa i) b s).2])/\Below w.heap.size w w':=by
 have hd:=itoa_len hi;have a9:=rdecimal_any i hi;obtain ⟨t,ht⟩:=xex (Lib.itoa i);rw [ht] at hd a9 ⊢;have c1:=zjy a9;obtain ⟨x,hx⟩:=xex (zer k.1 k.2 (zdv t));have hl1:¬ 9223372036854775807<5+t.length:=by omega
 have hl2:¬ 9223372036854775807<5+s.length:=by omega
 have a6:(zdv t).length<=60000:=by simp [zdv];omega
 have b5:(zem s).length<=60000:=by simp [zem];omega
 obtain ⟨ft,a5⟩:=xex (zdv t);obtain ⟨st,a4⟩:=xex (zem s);rw [a5] at hx a6;rw [a4] at b5;have hf5:102 :: 105 :: 101 :: 108 :: 100 :: t=ft:=a5;have hs5:115 :: 97 :: 108 :: 116 :: 61 :: s=st:=a4;have HX:=zjy hx;have c6:=zjy a5;have c4:=zjy a4;clear a9 ht hx a5 a4 hi;obtain ⟨r,hr⟩:=xex (keyN k t b s);have b6:(bif b then zer x.1 x.2 (zem s) else x)=r:=by rw [<- hr,<- HX.o,<- c6.o];rfl
 rw [hr];have HR:=zjy b6;clear hr b6;go_enter func77,ntmps77
 go_wp2_with fail
 refine zal (fun W0 hW=>?_)
 have b8:=xam hW
 have a8:W0.heap[w.heap.size]?=some (.cells #[.int .u64 k.1,.int .u64 k.2] 41 (0,0)):=by rw [hW];exact zaf (zac rfl)
 have a7:W0.heap[w.heap.size+1]?=some (.cells #[.int .u64 0,.int .u64 0] 41 (0,0)):=by rw [hW];exact zac (by simp)
 clear hW;have c8:=zjy b8;have c0:=zjy a7;have lk:=zaa a8;have lr:=zaa a7;have HC:=zjy (show ∀ w',Below W0.heap.size W0 w'->w'.cell? ⟨w.heap.size,0,none⟩=some (.int .u64 k.1)/\w'.cell? ⟨w.heap.size,1,none⟩=some (.int .u64 k.2) from fun w' hb=>zae (zab hb lk a8))
 have bD:Below W0.heap.size W0 W0.drew:=(Below.refl _ _).drew;clear b8 a8 a7;go_cut [9] (fun s9 wx=>∃ zb:Nat,s9 = .pointer (some ⟨zb,0,none⟩)/\W0.heap.size<=zb/\wx.heap[zb]?=some (.cells #[.int .u64 x.1,.int .u64 x.2] 41 (0,0))/\Below W0.heap.size W0 wx)
 case first =>
  refine wp_region_noPanic ?_
  refine wp_region_held_drew (S:=(fun w'=>w'.cell? ⟨w.heap.size,0,none⟩=some (.int .u64 k.1)/\w'.cell? ⟨w.heap.size,1,none⟩=some (.int .u64 k.2))) (by kernel_rfl) (HC.o _ bD) (fun hHeld=>?_)
  refine tH 0 ?_;refine tH 1 ?_;refine wpAnyH_ready (rs:=[2,5]) (by kernel_rfl) (by simp) ?_
  refine AllReadyH.cons rfl (fun K hK=>?_) (AllReadyH.cons rfl (fun K hK=>?_) AllReadyH.nil)
  ·as_aux_lemma =>
    go_simp;refine (c1.o _).mono ?_;rintro e V1 ⟨rfl,hb⟩;have b1:=bD.trans (hb.mono bD.size);clear hb
    refine hK.out _ _ (HC.o _ b1) (fun hHeld=>?_)
    clear hK K;refine tH 3 ?_;refine wpAnyH_ready (rs:=[4,5]) (by kernel_rfl) (by simp) ?_
    refine AllReadyH.cons rfl (fun K hK=>?_) (AllReadyH.cons rfl (fun K hK=>?_) AllReadyH.nil)
    ·as_aux_lemma =>
      go_simp;refine (zgz k.1 k.2 ft _ a6).mono ?_;rw [HX.o];rintro e V2 ⟨rfl,hb⟩;have b2:=b1.trans (hb.mono b1.size);clear hb
      refine hK.out _ _ (HC.o _ b2) (fun hHeld=>?_)
      clear hK K
      refine xrH 5 rfl fun K hK=>?_
      go_simp
      refine hK.out _ _ (HC.o _ (b2.alloc b2.size _)) (fun hHeld=>?_)
      clear hK K
      refine zcl (fun V3 hV3=>?_)
      have b3:Below W0.heap.size W0 V3:=by rw [hV3];exact b2.alloc b2.size _
      have z3:V3.heap[V2.heap.size]?=some (.cells #[.int .u64 0,.int .u64 0] 41 (0,0)):=by rw [hV3];exact zac rfl
      have b0:=b2.size;have b4:W0.drew.heap.size=W0.heap.size:=rfl;clear hV3 hHeld;have hHeld:=HC.o _ b3;have fz:=frozen_of_row _ _ 0 _ _ z3;have b9:=frozen_of_row _ _ 1 _ _ z3;obtain ⟨e0,e1⟩:=zae z3;have lz:=zaa z3;have a0:=(b3.setCell (p:=⟨V2.heap.size,0,none⟩) (by show W0.heap.size<=V2.heap.size;omega) (.int .u64 x.1)).setCell (p:=⟨V2.heap.size,1,none⟩) (by show W0.heap.size<=V2.heap.size;omega) (.int .u64 x.2)
      refine xrH 6 rfl fun K hK=>?_
      go_simp;skip
      refine hK.out _ _ (HC.o _ a0) (fun hHeld=>?_)
      clear hK K;refine wpAnyH_done (by kernel_rfl) ?_ _;refine NoPanic.normal ?_;go_wp2_with fail
      go_meet;exact ⟨V2.heap.size,rfl,by omega,zad (i:=1) (v:=.int .u64 x.2) (zad (i:=0) (v:=.int .u64 x.1) z3),a0⟩
    ·as_aux_lemma =>
      go_simp
      refine hK.out _ _ (HC.o _ (b1.alloc b1.size _)) (fun hHeld=>?_)
      clear hK K
      refine zcl (fun V2 hV2=>?_)
      have b2:Below W0.heap.size W0 V2:=by rw [hV2];exact b1.alloc b1.size _
      have z2:V2.heap[V1.heap.size]?=some (.cells #[.int .u64 0,.int .u64 0] 41 (0,0)):=by rw [hV2];exact zac rfl
      have b0:=b1.size;have b4:W0.drew.heap.size=W0.heap.size:=rfl;clear hV2 hHeld;have hHeld:=HC.o _ b2
      refine xrH 4 rfl fun K hK=>?_
      go_simp;refine (zgz k.1 k.2 ft _ a6).mono ?_;rw [HX.o];rintro e V3 ⟨rfl,hb⟩;have b3:=b2.trans (hb.mono b2.size);have z3:=zab hb (zaa z2) z2;clear hb
      refine hK.out _ _ (HC.o _ b3) (fun hHeld=>?_)
      clear hK K;have fz:=frozen_of_row _ _ 0 _ _ z3;have b9:=frozen_of_row _ _ 1 _ _ z3;obtain ⟨e0,e1⟩:=zae z3;have lz:=zaa z3;have a0:=(b3.setCell (p:=⟨V1.heap.size,0,none⟩) (by show W0.heap.size<=V1.heap.size;omega) (.int .u64 x.1)).setCell (p:=⟨V1.heap.size,1,none⟩) (by show W0.heap.size<=V1.heap.size;omega) (.int .u64 x.2)
      refine xrH 6 rfl fun K hK=>?_
      go_simp;skip
      refine hK.out _ _ (HC.o _ a0) (fun hHeld=>?_)
      clear hK K;refine wpAnyH_done (by kernel_rfl) ?_ _;refine NoPanic.normal ?_;go_wp2_with fail
      go_meet;exact ⟨V1.heap.size,rfl,by omega,zad (i:=1) (v:=.int .u64 x.2) (zad (i:=0) (v:=.int .u64 x.1) z3),a0⟩
  ·as_aux_lemma =>
    go_simp
    refine hK.out _ _ (HC.o _ (bD.alloc bD.size _)) (fun hHeld=>?_)
    clear hK K
    refine zcl (fun V1 hV1=>?_)
    have b1:Below W0.heap.size W0 V1:=by rw [hV1];exact bD.alloc bD.size _
    have z1:V1.heap[W0.heap.size]?=some (.cells #[.int .u64 0,.int .u64 0] 41 (0,0)):=by rw [hV1];exact zac rfl
    have b0:=bD.size;have b4:W0.drew.heap.size=W0.heap.size:=rfl;clear hV1 hHeld;have hHeld:=HC.o _ b1
    refine xrH 2 rfl fun K hK=>?_
    go_simp;refine (c1.o _).mono ?_;rintro e V2 ⟨rfl,hb⟩;have b2:=b1.trans (hb.mono b1.size);have z2:=zab hb (zaa z1) z1;clear hb
    refine hK.out _ _ (HC.o _ b2) (fun hHeld=>?_)
    clear hK K;refine tH 3 ?_
    refine xrH 4 rfl fun K hK=>?_
    go_simp;refine (zgz k.1 k.2 ft _ a6).mono ?_;rw [HX.o];rintro e V3 ⟨rfl,hb⟩;have b3:=b2.trans (hb.mono b2.size);have z3:=zab hb (zaa z2) z2;clear hb
    refine hK.out _ _ (HC.o _ b3) (fun hHeld=>?_)
    clear hK K;have fz:=frozen_of_row _ _ 0 _ _ z3;have b9:=frozen_of_row _ _ 1 _ _ z3;obtain ⟨e0,e1⟩:=zae z3;have lz:=zaa z3;have a0:=(b3.setCell (p:=⟨W0.heap.size,0,none⟩) (by show W0.heap.size<=W0.heap.size;omega) (.int .u64 x.1)).setCell (p:=⟨W0.heap.size,1,none⟩) (by show W0.heap.size<=W0.heap.size;omega) (.int .u64 x.2)
    refine xrH 6 rfl fun K hK=>?_
    go_simp;skip
    refine hK.out _ _ (HC.o _ a0) (fun hHeld=>?_)
    clear hK K;refine wpAnyH_done (by kernel_rfl) ?_ _;refine NoPanic.normal ?_;go_wp2_with fail
    go_meet;exact ⟨W0.heap.size,rfl,by omega,zad (i:=1) (v:=.int .u64 x.2) (zad (i:=0) (v:=.int .u64 x.1) z3),a0⟩
 case rest =>
  obtain ⟨w2,c3⟩:∃ u,u=wc:=⟨_,rfl⟩;subst c3;obtain ⟨zb,rfl,hzb,hz,hb⟩:=hcut;have a1:=zjy (zab hb lr c0.o);have c2:=xhh c8 hb;have HZ:=zjy hz;obtain ⟨z0,z1⟩:=zae hz;have lz:=zaa hz;have lr2:=zaa a1.o;have f0:=frozen_of_row _ _ 0 _ _ a1.o;have f1:=frozen_of_row _ _ 1 _ _ a1.o;have g0:=frozen_of_row _ _ 0 _ _ hz;have g1:=frozen_of_row _ _ 1 _ _ hz;have b7:w.heap.size+1≠zb:=by omega
  clear hb hz HC bD c0;cases b
  ·obtain ⟨r0,r1⟩:=zae a1.o
   go_wp2_with fail
   rw [<- show x=r from HR.o]
   exact za5 rfl rfl (zad (i:=1) (v:=.int .u64 x.2) (zad (i:=0) (v:=.int .u64 x.1) a1.o)) underlying41 rfl (by kernel_rfl)
    ⟨rfl,(c2.o.setCell (p:=⟨w.heap.size+1,0,none⟩) (by show w.heap.size<=w.heap.size+1;omega) _).setCell (p:=⟨w.heap.size+1,1,none⟩) (by show w.heap.size<=w.heap.size+1;omega) _⟩
  ·go_wp2_with fail
   refine (zgz x.1 x.2 st _ b5).mono ?_;rw [show zer x.1 x.2 st=r by rw [<- c4.o];exact HR.o];rintro e w3 ⟨rfl,hb⟩;have a3:=zab hb (zaa HZ.o) HZ.o;have a2:=zab hb (zaa a1.o) a1.o;have c7:=xhh c2 hb;have c5:=zjy a2;obtain ⟨k2,k3⟩:=zae a3;have f2:=frozen_of_row _ _ 0 _ _ a3;have f3:=frozen_of_row _ _ 1 _ _ a3;obtain ⟨r0,r1⟩:=zae a2;have f4:=frozen_of_row _ _ 0 _ _ a2;have f5:=frozen_of_row _ _ 1 _ _ a2;have zk3:=zaa a3;have zr3:=zaa a2;clear hb a3 a2 z0 z1 f0 f1 g0 g1;go_wp2_with fail
   exact za5 rfl rfl (zad (i:=1) (v:=.int .u64 r.2) (zad (i:=0) (v:=.int .u64 r.1) (zam (zam c5.o b7) b7))) underlying41 rfl (by kernel_rfl)
    ⟨rfl,(((c7.o.setCell (p:=⟨zb,0,none⟩) (by show w.heap.size<=zb;omega) _).setCell (p:=⟨zb,1,none⟩) (by show w.heap.size<=zb;omega) _).setCell (p:=⟨w.heap.size+1,0,none⟩) (by show w.heap.size<=w.heap.size+1;omega) _).setCell (p:=⟨w.heap.size+1,1,none⟩) (by show w.heap.size<=w.heap.size+1;omega) _⟩
end
section
open Go.RowKit
theorem zin (p:ParL) (w:World) (hi:InI p.len) :
  Calls prog 75 #[.agg #[.int .i64 p.len,.int .i64 p.hashes,.int .i64 p.salt]] w fun e w'=>e = .returned (.int .i64 (zc1 p))/\Below w.heap.size w w':=by
 obtain ⟨E,hE⟩:=xex (zc1 p);rw [hE];have a0:zdr p=true->E=0:=fun h=>by rw [<- hE];unfold zc1;rw [if_pos h]
 have a1:zdr p=false->E=10:=fun h=>by rw [<- hE];unfold zc1;rw [h];rfl
 have HY:=zjy a0;have HN:=zjy a1;clear hE a0 a1;cases hr:zda p.len
 ·have hE:E=10:=HN.o (by unfold zdr;rw [hr];rfl)
  subst hE;have HR:=zjy hr;clear hr;go_enter func75,ntmps75
  go_wp2_with fail
  refine (rbnew_no _ _ HR.o hi.1 hi.2).mono ?_;rintro e w1 ⟨rfl,hb⟩;have HB:=zjy (xbt hb);clear hb;go_wp2_with fail
  go_ret;first | exact ⟨rfl,HB.o.alloc HB.o.size _⟩ | exact ⟨rfl,HB.o⟩
 have HR:=zjy hr;clear hr;by_cases h1:p.hashes<1
 ·have d1:decide (p.hashes<(1:Int))=true:=by simpa using h1
  have hE:E=10:=HN.o (by rw [Bool.eq_false_iff];intro h;have q:=zfm h;have:=q.h1;have:=q.h2;have:=q.s1;have:=q.s2;omega);subst hE;clear h1;go_enter func75,ntmps75
  go_wp2_with fail
  refine (zgm _ _ HR.o).mono ?_;rintro e w1 ⟨g,m,rfl,-,hg,-,hb⟩;have HB:=zjy (xbt hb);have HX:=zjy (xbn hb);clear hb hg;have z0:=zaa HX.o;obtain ⟨p0,p1,p2⟩:=zan HX.o;go_wp2_with fail
  go_ret;first | exact ⟨rfl,HB.o.alloc HB.o.size _⟩ | exact ⟨rfl,HB.o⟩
 have d1:decide (p.hashes<(1:Int))=false:=by simpa using h1
 by_cases h2:16<p.hashes
 ·have d2:decide ((16:Int)<p.hashes)=true:=by simpa using h2
  have hE:E=10:=HN.o (by rw [Bool.eq_false_iff];intro h;have q:=zfm h;have:=q.h1;have:=q.h2;have:=q.s1;have:=q.s2;omega);subst hE;clear h2;go_enter func75,ntmps75
  go_wp2_with fail
  refine (zgm _ _ HR.o).mono ?_;rintro e w1 ⟨g,m,rfl,-,hg,-,hb⟩;have HB:=zjy (xbt hb);have HX:=zjy (xbn hb);clear hb hg;have z0:=zaa HX.o;obtain ⟨p0,p1,p2⟩:=zan HX.o;go_wp2_with fail
  go_ret;first | exact ⟨rfl,HB.o.alloc HB.o.size _⟩ | exact ⟨rfl,HB.o⟩
 have d2:decide ((16:Int)<p.hashes)=false:=by simpa using h2
 by_cases h3:p.salt < -1
 ·have d3:decide (p.salt<(-1:Int))=true:=by simpa using h3
  have hE:E=10:=HN.o (by rw [Bool.eq_false_iff];intro h;have q:=zfm h;have:=q.h1;have:=q.h2;have:=q.s1;have:=q.s2;omega);subst hE;clear h3;go_enter func75,ntmps75
  go_wp2_with fail
  refine (zgm _ _ HR.o).mono ?_;rintro e w1 ⟨g,m,rfl,-,hg,-,hb⟩;have HB:=zjy (xbt hb);have HX:=zjy (xbn hb);clear hb hg;have z0:=zaa HX.o;obtain ⟨p0,p1,p2⟩:=zan HX.o;go_wp2_with fail
  go_ret;first | exact ⟨rfl,HB.o.alloc HB.o.size _⟩ | exact ⟨rfl,HB.o⟩
 have d3:decide (p.salt<(-1:Int))=false:=by simpa using h3
 by_cases h4:5<=p.salt
 ·have d4:decide ((5:Int)<=p.salt)=true:=by simpa using h4
  have hE:E=10:=HN.o (by rw [Bool.eq_false_iff];intro h;have q:=zfm h;have:=q.h1;have:=q.h2;have:=q.s1;have:=q.s2;omega);subst hE;clear h4;go_enter func75,ntmps75
  go_wp2_with fail
  refine (zgm _ _ HR.o).mono ?_;rintro e w1 ⟨g,m,rfl,-,hg,-,hb⟩;have HB:=zjy (xbt hb);have HX:=zjy (xbn hb);clear hb hg;have z0:=zaa HX.o;obtain ⟨p0,p1,p2⟩:=zan HX.o;go_wp2_with fail
  go_ret;first | exact ⟨rfl,HB.o.alloc HB.o.size _⟩ | exact ⟨rfl,HB.o⟩
 have d4:decide ((5:Int)<=p.salt)=false:=by simpa using h4
 have hE:E=0:=HY.o (by
  unfold zdr;rw [HR.o];simp only [Bool.true_and,Bool.and_eq_true,decide_eq_true_eq]
  omega)
 subst hE;clear h1 h2 h3 h4;go_enter func75,ntmps75
 go_wp2_with fail
 refine (zgm _ _ HR.o).mono ?_;rintro e w1 ⟨g,m,rfl,-,hg,-,hb⟩;have HB:=zjy (xbt hb);have HX:=zjy (xbn hb);clear hb hg;have z0:=zaa HX.o;obtain ⟨p0,p1,p2⟩:=zan HX.o;go_wp2_with fail
 go_ret;first | exact ⟨rfl,HB.o.alloc HB.o.size _⟩ | exact ⟨rfl,HB.o⟩
end
section
open Go.RowKit Cal
theorem zhe (S:Nat->Prop) (vf vt vn vs:Value) (s:SchemaL) (P:List ParL) (pv:Value) (w:World) (h:SchemaAt w S vf vt vn vs s) (hp:Vec w zau 3 zcm pv P) (hi:∀ p∈P,InI p.len) (hn:P.length<=1000000) :
  Calls prog 41 #[.agg #[vf,vt,vn,vs],pv] w fun e w'=>e = .returned (.int .i64 (zcj s P))/\Below w.heap.size w w':=by
 obtain ⟨E,hE⟩:=xex (zcj s P);rw [hE];obtain ⟨a,cap,rfl⟩:=hp.slice;obtain ⟨af,cf,rfl⟩:=h.1.slice;have HP:=zjy hp;have HS:=zjy h.any;have HE:=zjy hE;have HI:=zjy hi;obtain ⟨c,hc⟩:=xex (za1 s);have HC:=zjy hc;obtain ⟨m,hm⟩:=xex (s.fields.length);rw [hm];have HM:=zjy hm;clear hp h hE hi hc hm;go_enter func41,ntmps41
 go_wp2_with fail
 refine zah (fun W hW=>?_)
 have a7:=xal hW
 have a9:W.heap[w.heap.size]?=some (.cells #[.slice af m cf,vt,vn,vs] 33 (0,0)):=by rw [hW];exact zac rfl
 clear hW;refine (zeb zau _ _ _ _ s _ (by have:=HS.o.below a7;rw [HM.o] at this;exact this)).mono ?_;rw [HC.o];rintro e w1 ⟨rfl,hb⟩;have b1:=zab hb (zaa a9) a9;have a0:=zjy (a7.trans (hb.mono a7.size));obtain ⟨s0,s1,s2,s3⟩:=zaq b1;clear hb a7 a9 b1;by_cases hc0:c=0;rotate_left
 ·have dz:(c != 0)=true:=by simpa using hc0
  have a1:E=c:=by rw [<- HE.o];unfold zcj;rw [if_neg (by rw [HC.o];exact hc0),HC.o]
  subst a1;clear HE HC hc0;go_wp2_with fail
  go_ret;exact ⟨rfl,a0.o⟩
 have dz:(c != 0)=false:=by simpa using hc0
 by_cases hl:P.length=m;rotate_left
 ·have b4:((P.length:Int) != (m:Int))=true:=by rw [bne_iff_ne];omega
  have a1:E=8:=by rw [<- HE.o];unfold zcj;rw [if_pos (by rw [HC.o];exact hc0),if_neg (by rw [HM.o];exact hl)]
  subst a1;clear HE HC hc0 hl;go_wp2_with fail
  go_ret;exact ⟨rfl,a0.o⟩
 have b4:((P.length:Int) != (m:Int))=false:=by rw [hl];simp
 have a5:=zjy (show parsA P.length 0 P=E by rw [<- HE.o];unfold zcj;rw [if_pos (by rw [HC.o];exact hc0),if_pos (by rw [HM.o];exact hl)]);clear HE HC hc0 hl;go_wp2_with fail
 clear s0 s1 s2 s3;go_loopw [6] (fun i wr=>∃ j:Nat,i = .int .i64 j/\j<=P.length/\Hid (parsA P.length j (P.drop j)=E)/\Below w1.heap.size w1 wr) (fun i _=>P.length - (intOf i).toNat)
 case atStart=>exact ⟨0,rfl,by omega,a5,Below.refl _ _⟩
 case round =>
  obtain ⟨j,rfl,hj,HT,hb⟩:=hrel;have b0:=zjy hb;clear hb;by_cases hlt:j<P.length
  ·have hq:decide ((j:Int)<P.length)=true:=by simp;omega
   have b3:=a0.o.trans (b0.o.mono a0.o.size);obtain ⟨p,a6⟩:=xex (P[j]);have hT:=HT.o;rw [List.drop_eq_getElem_cons hlt,a6,parsA] at hT;have a2:=zjy hT;have b2:InI p.len:=HI.o p (by rw [<- a6];exact List.getElem_mem _);obtain ⟨b,off,rfl,hb,hc⟩:=(HP.o.below b3).get j hlt;rw [a6] at hc;have c0:=hc 0 _ rfl;have c1:=hc 1 _ rfl;have c2:=hc 2 _ rfl;rw [Nat.add_zero] at c0;have b6:=zjy b2;clear hc a6 b3 hT HT b2;go_wp2_with fail
   refine (zin p _ b6.o).mono ?_;rintro e w2 ⟨rfl,a4⟩;have a8:=xhh b0 a4;have hb3:=Nat.lt_of_lt_of_le hb a4.size;have x0:=(a4.cell (p:=⟨b,off+j*3,none⟩) hb).trans c0;have x1:=(a4.cell (p:=⟨b,off+j*3+1,none⟩) hb).trans c1;have x2:=(a4.cell (p:=⟨b,off+j*3+2,none⟩) hb).trans c2;clear a4 c0 c1 c2;by_cases hk:zdr p=true;rotate_left
   ·have a1:E=10:=by rw [<- a2.o,if_neg];unfold zfi;simp [hk]
    have a3:zc1 p=10:=by unfold zc1;rw [if_neg hk]
    rw [a3];have d1:((10:Int) != 0)=true:=rfl;subst a1;clear a2 a5 hk a3;go_wp2_with fail
    go_ret;exact ⟨rfl,a0.o.trans (a8.o.mono a0.o.size)⟩
   have a3:zc1 p=0:=by unfold zc1;rw [if_pos hk]
   rw [a3];have d1:((0:Int) != 0)=false:=rfl;by_cases h1:(P.length:Int)<=p.salt
   ·have e1:decide ((P.length:Int)<=p.salt)=true:=by simpa using h1
    have a1:E=10:=by rw [<- a2.o,if_neg];unfold zfi;rw [decide_eq_false (by omega)];simp
    subst a1;clear a2 a5 hk a3 h1;go_wp2_with fail
    go_ret;exact ⟨rfl,a0.o.trans (a8.o.mono a0.o.size)⟩
   have e1:decide ((P.length:Int)<=p.salt)=false:=by simpa using h1
   by_cases h2:p.salt=(j:Int)
   ·have e2:(p.salt == (j:Int))=true:=by simpa using h2
    have a1:E=10:=by rw [<- a2.o,if_neg];unfold zfi;rw [e2];simp
    subst a1;clear a2 a5 hk a3 h1 h2;go_wp2_with fail
    go_ret;exact ⟨rfl,a0.o.trans (a8.o.mono a0.o.size)⟩
   have e2:(p.salt == (j:Int))=false:=by simpa using h2
   have b5:=zjy (show parsA P.length (j+1) (P.drop (j+1))=E by
    rw [<- a2.o,if_pos];unfold zfi;rw [hk,e2,decide_eq_true (by omega)];rfl)
   clear a2 hk a3 h1 h2;go_wp2_with fail
   go_roundw
   case rel=>exact ⟨j+1,by go_num,by omega,b5,a8.o⟩
   case measure=>simp [intOf];omega
  ·have hq:decide ((j:Int)<P.length)=false:=by simp;omega
   obtain rfl:j=P.length:=by omega
   have a1:E=0:=by rw [<- HT.o,List.drop_length];rfl
   subst a1;clear a5 HT;go_wp2_with fail
   go_ret;exact ⟨rfl,a0.o.trans (b0.o.mono a0.o.size)⟩
end
section
open Go.RowKit
theorem itN_mul (len y x:Int) (hl:0<len) (h0:0<=x) (h1:x<len):∀ n:Nat,itN len y n x=(x+n*y) % len
 | 0=>by simp [itN,Int.emod_eq_of_lt h0 h1]
 | n+1=>by
  rw [itN_succ,itN_mul len y x hl h0 h1 n,Int.emod_add_emod];congr 1;rw [Int.natCast_succ,Int.add_mul,Int.one_mul];omega
theorem rpartsx (ka kb:Int) (x g:List UInt8) (v:Value) (w:World) (h:Vec w zau 1 za8 v [x,g]) (hg:g.length<=60000) (hx:x.length<=60000:=by simp) :
  Calls prog 161 #[.agg #[.int .u64 ka,.int .u64 kb],v] w fun e w'=>e = .returned (.int .u64 (zdk ka kb [x,g]))/\Below w.heap.size w w' :=
 rsparts_any zau ka kb v [x,g] w h (by intro t ht;simp at ht;rcases ht with rfl | rfl;exact hx;exact hg) (by simp)
theorem one_encI:∀ x:Int,∀ u∈encI x,u.oneCell'=true:=by intro x u hu;simp at hu;subst hu;rfl
theorem rpositions_yes (p:ParL) (k:Int × Int) (g:List UInt8) (w:World) (hp:ParOk p) (hg:g.length<=60000) :
  Calls prog 120 #[.agg (parC p),.agg #[.int .u64 k.1,.int .u64 k.2],zak g] w (PosPost p k g w):=by
 have hl1:=hp.len1;have hl2:=hp.len2;have e1:=hp.h1;have e0:=hp.h2;have d9:p.len≠0:=by omega
 have d8:p.len - 1≠0:=by omega
 obtain ⟨H,hH⟩:∃ H:Nat,p.hashes=H:=⟨p.hashes.toNat,by omega⟩;obtain ⟨h0,h1⟩:=zjd k.1 k.2 [[49],g];obtain ⟨h2,h3⟩:=zjd k.1 k.2 [[50],g];have d4:IntKind.u64.wrap p.len=p.len:=by rw [IntKind.wrap_u64];omega
 have a8:IntKind.i64.wrap (p.len - 1)=p.len - 1:=by rw [IntKind.wrap_i64];omega
 have a7:IntKind.u64.wrap (p.len - 1)=p.len - 1:=by rw [IntKind.wrap_u64];omega
 obtain ⟨X,hX⟩:=xex (zgs p k g);obtain ⟨Y,hY⟩:=xex ((zdk k.1 k.2 [[50],g]) % (p.len - 1));have d7:(zdk k.1 k.2 [[49],g]).tmod p.len=X:=by rw [<- hX,Int.tmod_eq_emod_of_nonneg h0];rfl
 have d6:(zdk k.1 k.2 [[50],g]).tmod (p.len - 1)=Y:=by rw [<- hY,Int.tmod_eq_emod_of_nonneg h2]
 have x0:0<=X:=by rw [<- hX];exact Int.emod_nonneg _ d9
 have x1:X<p.len:=by rw [<- hX];exact Int.emod_lt_of_pos _ (by omega)
 have y0:0<=Y:=by rw [<- hY];exact Int.emod_nonneg _ d8
 have y1:Y<p.len - 1:=by rw [<- hY];exact Int.emod_lt_of_pos _ (by omega)
 have hc1:IntKind.i64.wrap X=X:=by rw [IntKind.wrap_i64];omega
 have hc2:IntKind.i64.wrap Y=Y:=by rw [IntKind.wrap_i64];omega
 have hc3:IntKind.i64.wrap (1+Y)=1+Y:=by rw [IntKind.wrap_i64];omega
 have a3:zbv p k g=posN p.len (1+Y) H X:=by unfold zbv;rw [hX,hH,Int.toNat_natCast,<- hY];rfl
 unfold PosPost;rw [a3];have hHb:H<=16:=by omega
 have hH1:1<=H:=by omega
 have HP:=zjy hp;have HH:=zjy hH;clear hX hY h0 h1 h2 h3 hp hH a3 e1 e0;go_enter func120,ntmps120
 go_wp2_with fail
 refine zah (fun W hW=>?_)
 have b7:=xam hW
 have b0:W.heap[w.heap.size]?=some (.cells (parC p) 87 (0,0)):=by rw [hW];exact zaf (zac rfl)
 have b6:W.heap[w.heap.size+1]?=some (.cells #[.int .u64 k.1,.int .u64 k.2] 41 (0,0)):=by rw [hW];exact zac (by simp)
 clear hW;have hi:InI p.len:=⟨by omega,by omega⟩;refine (zin p W hi).mono ?_;have c5:zc1 p=0:=by unfold zc1;rw [if_pos HP.o.bloom]
 rw [c5];rintro e w1 ⟨rfl,hb⟩;have d0:=zjy (b7.trans (hb.mono b7.size));have b8:=zjy (zab hb (zaa b0) b0);have c0:=zjy (zab hb (zaa b6) b6);have c2:=zaa b8.o;have c3:=zaa c0.o;have dz:((0:Int) != 0)=false:=rfl;clear b7 b0 b6 hb c5 hi
 have HC:=zjy (show ∀ w',Below w1.heap.size w1 w'->w'.cell? ⟨w.heap.size+1,0,none⟩=some (.int .u64 k.1)/\w'.cell? ⟨w.heap.size+1,1,none⟩=some (.int .u64 k.2)/\w'.cell? ⟨w.heap.size,0,none⟩=some (.int .i64 p.len) from fun w' hb =>
  ⟨(zae (zab hb c3 c0.o)).1,(zae (zab hb c3 c0.o)).2,(zan (zab hb c2 b8.o)).1⟩)
 go_wp2_with fail
 have bD:Below w1.heap.size w1 w1.drew:=(Below.refl _ _).drew;go_cut [9] (fun s9 wx=>s9 = .int .i64 X/\Below w1.heap.size w1 wx)
 case first =>
  refine wp_region_noPanic ?_
  refine wp_region_held_drew (S:=(fun w'=>w'.cell? ⟨w.heap.size+1,0,none⟩=some (.int .u64 k.1)/\w'.cell? ⟨w.heap.size+1,1,none⟩=some (.int .u64 k.2)/\w'.cell? ⟨w.heap.size,0,none⟩=some (.int .i64 p.len))) (by kernel_rfl) (HC.o _ bD) (fun hHeld=>?_)
  refine tH 0 ?_;refine tH 1 ?_;refine tH 4 ?_;refine tH 5 ?_;refine tH 6 ?_
  refine xrH 2 rfl fun K hK=>?_
  go_simp;skip
  refine hK.out _ _ (HC.o _ (bD.alloc bD.size _)) (fun hHeld=>?_)
  clear hK K
  refine zcl (fun W1 hW1=>?_)
  have b1:Below w1.heap.size w1 W1:=by rw [hW1];exact bD.alloc bD.size (.cells #[zak [49],zak g] 9)
  have gs:W1.heap[w1.heap.size]?=some (.cells (([[49],g]:List (List UInt8)).flatMap za8).toArray 9 (0,0)):=by rw [hW1];exact zac rfl
  have a9:Vec W1 zau 1 za8 (.slice (some ⟨w1.heap.size,0,none⟩) 2 2) [[49],g]:=ze5 (k:=1) (enc:=za8) (fun _=>rfl) gs trivial 2 rfl
  clear hW1 hHeld;have hHeld:=HC.o _ b1
  refine xrH 3 rfl fun K hK=>?_
  go_simp;refine (rpartsx k.1 k.2 [49] g _ _ a9 hg).mono ?_;rintro e W2 ⟨rfl,hb⟩;have b2:=b1.trans (hb.mono b1.size);clear hb
  refine hK.out _ _ (HC.o _ b2) (fun hHeld=>?_)
  clear hK K;refine tH 7 ?_;refine tH 8 ?_;refine tH 9 ?_;refine wpAnyH_done (by kernel_rfl) ?_ _;refine NoPanic.normal ?_;go_wp2_with fail
  go_meet;exact ⟨rfl,b2⟩
 case rest =>
  obtain ⟨w2,a8⟩:∃ u,u=wc:=⟨_,rfl⟩;subst a8;obtain ⟨rfl,a5⟩:=hcut;have a1:=zjy a5;clear a5 bD;have bD:Below w2.heap.size w2 w2.drew:=(Below.refl _ _).drew;have a6:=zjy (show ∀ w',Below w2.heap.size w2 w'->w'.cell? ⟨w.heap.size+1,0,none⟩=some (.int .u64 k.1)/\w'.cell? ⟨w.heap.size+1,1,none⟩=some (.int .u64 k.2)/\w'.cell? ⟨w.heap.size,0,none⟩=some (.int .i64 p.len) from fun w' hb=>HC.o _ (a1.o.trans (hb.mono a1.o.size)))
  go_wp2_with fail
  go_cut [10] (fun s10 wx=>s10 = .int .i64 (1+Y)/\Below w2.heap.size w2 wx)
  case first =>
   refine wp_region_noPanic ?_
   refine wp_region_held_drew (S:=(fun w'=>w'.cell? ⟨w.heap.size+1,0,none⟩=some (.int .u64 k.1)/\w'.cell? ⟨w.heap.size+1,1,none⟩=some (.int .u64 k.2)/\w'.cell? ⟨w.heap.size,0,none⟩=some (.int .i64 p.len))) (by kernel_rfl) (a6.o _ bD) (fun hHeld=>?_)
   refine tH 0 ?_;refine tH 1 ?_;refine tH 4 ?_;refine tH 5 ?_;refine tH 6 ?_;refine tH 7 ?_
   refine xrH 2 rfl fun K hK=>?_
   go_simp;skip
   refine hK.out _ _ (a6.o _ (bD.alloc bD.size _)) (fun hHeld=>?_)
   clear hK K
   refine zcl (fun W1 hW1=>?_)
   have b1:Below w2.heap.size w2 W1:=by rw [hW1];exact bD.alloc bD.size (.cells #[zak [50],zak g] 9)
   have gs:W1.heap[w2.heap.size]?=some (.cells (([[50],g]:List (List UInt8)).flatMap za8).toArray 9 (0,0)):=by rw [hW1];exact zac rfl
   have a9:Vec W1 zau 1 za8 (.slice (some ⟨w2.heap.size,0,none⟩) 2 2) [[50],g]:=ze5 (k:=1) (enc:=za8) (fun _=>rfl) gs trivial 2 rfl
   clear hW1 hHeld;have hHeld:=a6.o _ b1
   refine xrH 3 rfl fun K hK=>?_
   go_simp;refine (rpartsx k.1 k.2 [50] g _ _ a9 hg).mono ?_;rintro e W2 ⟨rfl,hb⟩;have b2:=b1.trans (hb.mono b1.size);clear hb
   refine hK.out _ _ (a6.o _ b2) (fun hHeld=>?_)
   clear hK K;refine tH 8 ?_;refine tH 9 ?_;refine tH 10 ?_;refine tH 11 ?_;refine wpAnyH_done (by kernel_rfl) ?_ _;refine NoPanic.normal ?_;go_wp2_with fail
   go_meet;exact ⟨rfl,b2⟩
  case rest =>
   obtain ⟨w3,a7⟩:∃ u,u=wc:=⟨_,rfl⟩;subst a7;obtain ⟨rfl,a4⟩:=hcut;have c9:=xhh a1 a4;clear a4 bD a6 d7 d6 d4 a8 a7;have a2:=zjy (d0.o.trans (c9.o.mono d0.o.size));have c8:=zjy (zab c9.o c2 b8.o);have c1:=zaa c8.o;go_wp2_with fail
   go_loopw [11,12] (fun v i wr=>∃ n:Nat,n<=H/\i = .int .i64 n/\OwnV 3 1 encI w3 v (posN p.len (1+Y) n X) wr) (fun _ i _=>H - (intOf i).toNat)
   case atStart=>exact ⟨0,by omega,rfl,OwnV.start _ _ _ _⟩
   case round =>
    obtain ⟨n,hn,rfl,ho⟩:=hrel;have HO:=zjy ho;obtain ⟨q0,q1,q2⟩:=zan (zab ho.2 c1 c8.o);have lpr:=Nat.lt_of_lt_of_le c1 ho.2.size;rw [HH.o] at q1;obtain ⟨av,cv,rfl⟩:=zar ho.1;rw [zen];clear ho;by_cases hlt:n<H
    ·have hq:decide ((n:Int)<(H:Int))=true:=by simp;omega
     obtain ⟨Z,hZ⟩:=xex ((X+n*(1+Y)) % p.len)
     have b5:0<=(n:Int)*(1+Y)/\(n:Int)*(1+Y)<=16*1024:=by
      constructor
      ·exact Int.mul_nonneg (by omega) (by omega)
      ·exact Int.mul_le_mul (by omega) (by omega) (by omega) (by omega)
     have d2:IntKind.i64.wrap ((n:Int)*(1+Y))=(n:Int)*(1+Y):=by rw [IntKind.wrap_i64];omega
     have d3:IntKind.i64.wrap (X+(n:Int)*(1+Y))=X+(n:Int)*(1+Y):=by rw [IntKind.wrap_i64];omega
     have d1:(X+(n:Int)*(1+Y)).tmod p.len=Z:=by rw [Int.tmod_eq_emod_of_nonneg (by omega)];exact hZ
     have a0:posN p.len (1+Y) (n+1) X=posN p.len (1+Y) n X++[Z]:=by rw [posN_snoc,itN_mul _ _ _ (by omega) x0 x1,hZ]
     have c7:=zjy a0;have c6:Below wr.heap.size wr (wr.alloc (.cells #[.int .i64 Z] 3)):=(Below.refl _ _).alloc xnl _;have b9:=zjy (HO.o.below c6);have e4:=zjy (show zck (wr.alloc (.cells #[.int .i64 Z] 3)) 1 (.slice (some ⟨wr.heap.size,0,none⟩) 1 1) [Z].length ([Z].flatMap encI) from za0 (xs:=[Z].flatMap encI) (fr:=(0,0)) (t:=3) (zac rfl) rfl);have c4:(posN p.len (1+Y) n X).length+[Z].length<=1000000000:=by rw [zen];simp;omega
     rw [zen] at b9;obtain ⟨PL,e2⟩:=xex (posN p.len (1+Y) n X);rw [e2] at b9 c4 c7;have b4:=b5.1;have b3:=b5.2;obtain ⟨M,e3⟩:=xex ((n:Int)*(1+Y));rw [e3] at d2 d3 d1 b4 b3;clear hZ c6 a0 b5 HO;go_wp2_with (at_builtin;refine zcv rfl (.tmp 44) (.tmp 53) 22 rfl 3 (.int .i64 0) 1 8 encI (fun _=>rfl) one_encI underlying22 infoI rfl (by decide) (by decide) (w0:=w3) (v:=.slice av n cv) (A:=PL) (B:=[Z]) rfl b9.o rfl e4.o c4 ?_;intro v5 w5 d5 hk5 hz5)
     go_roundw
     case rel=>exact ⟨n+1,by omega,by go_num,by rw [c7.o];exact d5⟩
     case measure=>simp [intOf];omega
    ·have hq:decide ((n:Int)<(H:Int))=false:=by simp;omega
     obtain rfl:n=H:=by omega
     have hv:=zjy ((OwnV.vec (size:=1) (enc:=encI) (fun _=>rfl) HO.o).move (S':=fun b=>w.heap.size<=b) xnl fun b _ hs=>⟨rfl,by have hs':w3.heap.size<=b:=hs;have:=a2.o.size;omega⟩)
     have e5:=zjy (a2.o.trans (HO.o.2.mono a2.o.size));rw [zen] at hv;go_wp2_with fail
     go_ret2;exact ⟨_,rfl,hv.o,e5.o⟩
end
section
open Go.RowKit
structure EncR (w:World) (p:ParL) (k:Int × Int) (bx:Nat) (a:Option Addr) (cap:Nat) (W:List Int) (wr:World):Prop where
 hp:wr.heap[w.heap.size]?=some (.cells (parC p) 87 (0,0))
 hk:wr.heap[w.heap.size+1]?=some (.cells #[.int .u64 k.1,.int .u64 k.2] 41 (0,0))
 hr:wr.heap[w.heap.size+2]?=some (.cells #[.int .i64 0,.slice none 0 0] 56 (0,0))
 hb:wr.heap[bx]?=some (.cells #[.int .i64 p.len,.slice a W.length cap] 56 (0,0))
 hv:Vec wr (fun b=>b≠bx/\w.heap.size+2<b) 1 zc7 (.slice a W.length cap) W
 ne:w.heap.size+2<bx
 b:Below w.heap.size w wr
theorem EncR.below {w:World} {p:ParL} {k:Int × Int} {bx:Nat} {a:Option Addr} {cap:Nat} {W:List Int} {wr wx:World} (h:EncR w p k bx a cap W wr) (hb:Below wr.heap.size wr wx):EncR w p k bx a cap W wx :=
 ⟨zab hb (zaa h.hp) h.hp,zab hb (zaa h.hk) h.hk,zab hb (zaa h.hr) h.hr,zab hb (zaa h.hb) h.hb,h.hv.below hb,h.ne,h.b.trans (hb.mono h.b.size)⟩
theorem EncR.step {w:World} {p:ParL} {k:Int × Int} {bx:Nat} {a a':Option Addr} {cap cap':Nat} {W W':List Int} {wr wx:World} (h:EncR w p k bx a cap W wr) (hb:Below wr.heap.size wr wx) (hv:Vec wx (fun b=>wr.heap.size<=b) 1 zc7 (.slice a' W'.length cap') W') :
  EncR w p k bx a' cap' W' ((wx.setCell ⟨bx,0,none⟩ (.int .i64 p.len)).setCell ⟨bx,1,none⟩ (.slice a' W'.length cap')):=by
 have h':=h.below hb;have n:=h.ne;have l:=zaa h.hb;refine ⟨zam (zam h'.hp (by show w.heap.size≠bx;omega)) (by show w.heap.size≠bx;omega),zam (zam h'.hk (by show w.heap.size+1≠bx;omega)) (by show w.heap.size+1≠bx;omega),zam (zam h'.hr (by show w.heap.size+2≠bx;omega)) (by show w.heap.size+2≠bx;omega),zad (i:=1) (v:=.slice a' W'.length cap') (zad (i:=0) (v:=.int .i64 p.len) h'.hb),?_,n,(h'.b.setCell (p:=⟨bx,0,none⟩) (by show w.heap.size<=bx;omega) _).setCell (p:=⟨bx,1,none⟩) (by show w.heap.size<=bx;omega) _⟩;have a0:=hv.move (S':=fun b=>b≠bx/\w.heap.size+2<b) xnl fun b _ hs=>⟨rfl,by have a1:wr.heap.size<=b:=hs;omega,by have a1:wr.heap.size<=b:=hs;omega⟩
 exact (a0.set1 (a:=⟨bx,0,none⟩) (fun b hb=>hb.1) _).set1 (a:=⟨bx,1,none⟩) (fun b hb=>hb.1) _
theorem rbencode_yes (S:Nat->Prop) (p:ParL) (k:Int × Int) (v:Value) (G:List (List UInt8)) (w:World) (hp:ParOk p) (hv:Vec w S 1 za8 v G) (hg:∀ g∈G,g.length<=60000) (hn:G.length<=80) :
  Calls prog 79 #[.agg (parC p),.agg #[.int .u64 k.1,.int .u64 k.2],v] w (EncodePost (zhq p k G).1 w):=by
 obtain ⟨a,f3,rfl⟩:=hv.slice;have hl1:=hp.len1;have hl2:=hp.len2;have e6:(zhq p k G).1=⟨p.len,G.foldl (zeo p k) (ze6 p.len)⟩:=by unfold zhq;rw [if_pos hp.bloom,if_pos hn]
 rw [e6];have HP:=zjy hp;have HV:=zjy hv.any;have i5:=zjy hg;have g6:decide ((80:Int)<G.length)=false:=by simp;omega
 clear hp e6 hv hg;go_enter func79,ntmps79
 go_wp2_with fail
 refine zah (fun W hW=>?_)
 have d3:Below w.heap.size w W:=by rw [hW];exact (((Below.refl _ _).alloc xnl _).alloc (by simp) _).alloc (by simp;omega) _
 have c2:W.heap[w.heap.size]?=some (.cells (parC p) 87 (0,0)):=by rw [hW];exact zaf (zaf (zac rfl))
 have c8:W.heap[w.heap.size+1]?=some (.cells #[.int .u64 k.1,.int .u64 k.2] 41 (0,0)):=by rw [hW];exact zaf (zac (by simp))
 have c1:W.heap[w.heap.size+2]?=some (.cells #[.int .i64 0,.slice none 0 0] 56 (0,0)):=by rw [hW];exact zac (by simp)
 clear hW;have hi:InI p.len:=⟨by omega,by omega⟩;have e5:zc1 p=0:=by unfold zc1;rw [if_pos HP.o.bloom]
 refine (zin p W hi).mono ?_;rw [e5];rintro e w1 ⟨rfl,hb⟩;have b3:=zab hb (zaa c2) c2;have c7:=zab hb (zaa c8) c8;have e3:=zab hb (zaa c1) c1;have e9:=d3.trans (hb.mono d3.size);have b7:=zjy e9;have d9:=zjy b3;have e0:=zjy c7;have b5:=zjy e3;obtain ⟨q0,q1,q2⟩:=zan b3;obtain ⟨k0,k1⟩:=zae c7;have lp1:=zaa b3;clear d3 c2 c8 c1 hb b3 c7 e3 e9 e5 hi;go_wp2_with fail
 refine (zgm p.len _ HP.o.right).mono ?_;rintro e w2 ⟨gw,m,rfl,hm,g7,b8,hb⟩;have g2:=zaa b5.o;have a9:(ze6 p.len).length=m:=by unfold ze6;rw [List.length_replicate];omega
 have hm8:m<=8:=by omega
 have hE:EncR w p k w2.heap.size (some ⟨gw,0,none⟩) m (ze6 p.len) (w2.alloc (.cells #[.int .i64 p.len,.slice (some ⟨gw,0,none⟩) m m] 56)):=by
  have hz1:=zaa b8;refine ⟨zaf (zab hb (zaa d9.o) d9.o),zaf (zab hb (zaa e0.o) e0.o),zaf (zab hb (zaa b5.o) b5.o),by rw [a9];exact zac rfl,?_,by have:=hb.size;omega,(b7.o.trans (hb.mono b7.o.size)).alloc (by have:=b7.o.size;have:=hb.size;omega) _⟩;have h:=ze5 (S:=fun b=>b≠w2.heap.size/\w.heap.size+2<b) (w:=w2.alloc (.cells #[.int .i64 p.len,.slice (some ⟨gw,0,none⟩) m m] 56)) (k:=1) (enc:=zc7) (fun _=>rfl) (zaf b8) (show (fun b=>b≠w2.heap.size/\w.heap.size+2<b) gw from ⟨by omega,by omega⟩) m a9.symm
  rw [a9];exact h
 have HM:=zjy hm;have h3:=zjy a9;have HE:=zjy hE;have a2:w.heap.size+2<w2.heap.size:=by have:=hb.size;omega
 clear hE hm g7 b8 hb q0 q1 q2 k0 k1 b7 d9 e0 b5 g2 a9;obtain ⟨bx,c9⟩:=xex (w2.heap.size);go_wp2_with fail
 refine zal (fun W0 hW0=>?_)
 rw [<- hW0] at HE;rw [c9] at HE a2;try rw [c9]
 clear hW0 c9;go_loopw [11] (fun i wr=>∃ (j:Nat) (a:Option Addr) (f3:Nat),i = .int .i64 j/\j<=G.length/\EncR w p k bx a f3 ((G.take j).foldl (zeo p k) (ze6 p.len)) wr) (fun i _=>G.length - (intOf i).toNat)
 case atStart=>exact ⟨0,_,_,rfl,by omega,HE.o⟩
 case round =>
  obtain ⟨j,av,cv,rfl,hj,he⟩:=hrel;have a0:=zjy he;clear he HE;by_cases hlt:j<G.length
  ·have hq:decide ((j:Int)<G.length)=true:=by simp;omega
   have hji:(j:Int)<(G.length:Int):=by omega
   obtain ⟨g,hg⟩:=xex (G[j]);have g8:g.length<=60000:=i5.o g (by rw [<- hg];exact List.getElem_mem _);have e2:(G.take (j+1)).foldl (zeo p k) (ze6 p.len)=zeo p k ((G.take j).foldl (zeo p k) (ze6 p.len)) g:=by rw [List.take_succ_eq_append_getElem hlt,hg,List.foldl_append];rfl
   have f5:=zjy e2;clear e2;obtain ⟨b,off,rfl,g9,hc⟩:=(HV.o.below a0.o.b).get j hlt;have c0:=hc 0 _ rfl;rw [Nat.mul_one,Nat.add_zero,hg] at c0;obtain ⟨q0,q1,q2⟩:=zan a0.o.hp;obtain ⟨k0,k1⟩:=zae a0.o.hk;obtain ⟨Wj,d5⟩:=xex ((G.take j).foldl (zeo p k) (ze6 p.len));have f2:Wj.length=m:=by rw [<- d5,orGrams_len,h3.o]
   rw [d5] at a0 f5;have h5:=zjy f2;obtain ⟨WR,h0⟩:∃ u,u=wr:=⟨_,rfl⟩;subst h0;have f7:=zaa a0.o.hp;have f8:=zaa a0.o.hk;have bD:Below WR.heap.size WR WR.drew:=(Below.refl _ _).drew
   have HC:=zjy (show ∀ w',Below WR.heap.size WR w'->(w'.cell? ⟨w.heap.size,0,none⟩=some (.int .i64 p.len)/\w'.cell? ⟨w.heap.size,1,none⟩=some (.int .i64 p.hashes)/\w'.cell? ⟨w.heap.size,2,none⟩=some (.int .i64 p.salt))/\(w'.cell? ⟨w.heap.size+1,0,none⟩=some (.int .u64 k.1)/\w'.cell? ⟨w.heap.size+1,1,none⟩=some (.int .u64 k.2))/\w'.cell? ⟨b,off+j,none⟩=some (zak g) from
    fun w' hb=>⟨zan (zab hb f7 a0.o.hp),zae (zab hb f8 a0.o.hk),(hb.cell (p:=⟨b,off+j,none⟩) g9).trans c0⟩)
   clear hc d5 hg f2;go_wp2_with fail
   refine wp_region_noPanic ?_
   refine wp_region_held_drew (S:=(fun w'=>(w'.cell? ⟨w.heap.size,0,none⟩=some (.int .i64 p.len)/\w'.cell? ⟨w.heap.size,1,none⟩=some (.int .i64 p.hashes)/\w'.cell? ⟨w.heap.size,2,none⟩=some (.int .i64 p.salt))/\(w'.cell? ⟨w.heap.size+1,0,none⟩=some (.int .u64 k.1)/\w'.cell? ⟨w.heap.size+1,1,none⟩=some (.int .u64 k.2))/\w'.cell? ⟨b,off+j,none⟩=some (zak g))) (by kernel_rfl) (HC.o _ bD) (fun hHeld=>?_)
   refine tH 0 ?_;refine tH 1 ?_;refine tH 2 ?_;refine tH 3 ?_;refine tH 4 ?_;refine tH 5 ?_
   refine xrH 6 rfl fun K hK=>?_
   go_simp;refine (rpositions_yes p k g _ HP.o g8).mono ?_;rintro e w4 ⟨v4,rfl,b9,e8⟩;obtain ⟨a4,c4,rfl⟩:=b9.slice;have b4:=bD.trans (e8.mono bD.size);have f4:=zjy b9;clear b9 e8
   refine hK.out _ _ (HC.o _ b4) (fun hHeld=>?_)
   clear hK K;refine tH 7 ?_;refine tH 8 ?_;refine tH 9 ?_;refine tH 10 ?_;refine tH 11 ?_;refine wpAnyH_done (by kernel_rfl) ?_ _;refine NoPanic.normal ?_;have f6:=zjy (a0.o.below b4);have e7:=posN_bd p.len (zib p k g) (by omega) p.hashes.toNat (zgs p k g) (Int.emod_nonneg _ (by omega)) (Int.emod_lt_of_pos _ (by omega));have b0:(zbv p k g).length<=16:=by unfold zbv;rw [zen];have:=HP.o.h2;omega
   have c3:zeo p k Wj g=(zbv p k g).foldl zf6 Wj:=rfl;have f9:=zaa a0.o.hb;have d8:=zjy (f4.o.move (S':=fun b=>b≠bx) xnl fun b _ hs=>⟨rfl,by have hs':WR.drew.heap.size<=b:=hs;have:WR.drew.heap.size=WR.heap.size:=rfl;omega⟩)
   obtain ⟨l,hl⟩:=xex (zbv p k g);have b1:∀ i∈l,0<=i/\i<p.len:=by rw [<- hl];exact e7
   rw [hl] at b0 c3 d8 ⊢;have i6:=zjy b1;have i4:=zjy c3;clear e7 hl b1 c3 a0 q0 q1 q2 k0 k1 c0 HC bD b4 f4 f9;go_wp2_with fail
   go_loopw [14] (fun i wr=>∃ (n:Nat) (av:Option Addr) (cv:Nat),i = .int .i64 n/\n<=l.length/\EncR w p k bx av cv ((l.take n).foldl zf6 Wj) wr/\Vec wr (fun b=>b≠bx) 1 encI (.slice a4 l.length c4) l) (fun i _=>l.length - (intOf i).toNat)
   case atStart=>exact ⟨0,_,_,rfl,by omega,f6.o,d8.o⟩
   case round =>
    obtain ⟨n,av,cv,rfl,hn,he,hv⟩:=hrel;have a1:=zjy he;have d7:=zjy hv;clear he hv f6 d8;by_cases a2:n<l.length
    ·have g5:decide ((n:Int)<l.length)=true:=by simp;omega
     have hni:(n:Int)<(l.length:Int):=by omega
     obtain ⟨i,hi⟩:=xex (l[n]);obtain ⟨i0,i1⟩:=i6.o i (by rw [<- hi];exact List.getElem_mem _);have a7:(l.take (n+1)).foldl zf6 Wj=zf6 ((l.take n).foldl zf6 Wj) i:=by rw [List.take_succ_eq_append_getElem a2,hi,List.foldl_append];rfl
     obtain ⟨Wn,d4⟩:=xex ((l.take n).foldl zf6 Wj);have a8:Wn.length=m:=by rw [<- d4,orBits_len,h5.o]
     rw [d4] at a1 a7;have i3:=zjy a7
     have e1:zap ⟨p.len,Wn⟩=true:=by
      unfold zap;dsimp only;rw [HP.o.right,a8];have:=HM.o;simp;omega
     obtain ⟨b4,a5,rfl,d2,e4⟩:=d7.o.get n a2;have c5:=e4 0 _ rfl;rw [Nat.mul_one,Nat.add_zero,hi] at c5;obtain ⟨d0,d1⟩:=zae a1.o.hb;have f0:=frozen_of_row _ _ 0 _ _ a1.o.hb;have f1:=frozen_of_row _ _ 1 _ _ a1.o.hb;have lb:=zaa a1.o.hb;obtain ⟨WN,h1⟩:∃ u,u=wr:=⟨_,rfl⟩;subst h1;have bD:Below WN.heap.size WN WN.drew:=(Below.refl _ _).drew
     have HC:=zjy (show ∀ w',Below WN.heap.size WN w'->(w'.cell? ⟨bx,0,none⟩=some (.int .i64 p.len)/\w'.cell? ⟨bx,1,none⟩=some (.slice av Wn.length cv))/\w'.cell? ⟨b4,a5+n,none⟩=some (.int .i64 i) from
      fun w' hb=>⟨zae (zab hb lb a1.o.hb),(hb.cell (p:=⟨b4,a5+n,none⟩) d2).trans c5⟩)
     have h7:=zjy e1;have h4:=zjy a8;clear e4 d4 hi a7 e1 a8;go_wp2_with fail
     refine wp_region_noPanic ?_
     refine zaw (by kernel_rfl) (fun w'=>(w'.cell? ⟨bx,0,none⟩=some (.int .i64 p.len)/\w'.cell? ⟨bx,1,none⟩=some (.slice av Wn.length cv))/\w'.cell? ⟨b4,a5+n,none⟩=some (.int .i64 i)) 9 (HC.o _ bD) (fun hHeld=>?_)
     refine tK 0 ?_;refine tK 1 ?_;refine tK 2 ?_;refine tK 3 ?_;refine tK 4 ?_
     refine xrK 5 rfl fun K hK=>?_
     go_simp;refine (rset9_yes zau _ ⟨p.len,Wn⟩ i _ ⟨_,rfl,(a1.o.hv.below bD).any⟩ h7.o i0 i1).mono ?_;rintro e w6 ⟨_,rfl,⟨_,rfl,b2⟩,hb6⟩;have b6:=bD.trans (hb6.mono bD.size);dsimp only at b2;obtain ⟨a6,c6,rfl⟩:=b2.slice;have i2:=zjy b2;have a3:=zab b6 lb a1.o.hb;have g0:=frozen_of_row _ _ 0 _ _ a3;have g1:=frozen_of_row _ _ 1 _ _ a3;obtain ⟨dd0,dd1⟩:=zae a3;have lb6:=zaa a3;clear b2 hb6
     refine zbc hK (HC.o _ b6) (fun hHeld=>?_)
     clear hK K;refine tK 6 ?_;refine tK 7 ?_;refine t0 8 ?_
     refine xrK 9 rfl fun K hK=>?_
     go_simp;refine zav hK (by decide) ?_;clear hK K;refine zas (by kernel_rfl) ?_ _;refine NoPanic.normal ?_;go_wp2_with fail
     go_roundw
     case rel =>
      have g4:=a1.o.step b6 (i2.o.move (S':=fun b=>WN.heap.size<=b) xnl fun b _ hs=>⟨rfl,hs⟩)
      refine ⟨n+1,a6,c6,by go_num,by omega,by rw [i3.o];exact g4,?_⟩;exact ((d7.o.below b6).set1 (a:=⟨bx,0,none⟩) (fun b hb=>hb) _).set1 (a:=⟨bx,1,none⟩) (fun b hb=>hb) _
     case measure=>simp [intOf];omega
    ·have g5:decide ((n:Int)<l.length)=false:=by simp;omega
     obtain rfl:n=l.length:=by omega
     rw [List.take_of_length_le xnl,<- i4.o,<- f5.o] at a1;clear d7;go_wp2_with fail
     go_roundw
     case rel=>exact ⟨j+1,_,_,by go_num,by omega,a1.o⟩
     case measure=>simp [intOf];omega
  ·have hq:decide ((j:Int)<G.length)=false:=by simp;omega
   obtain rfl:j=G.length:=by omega
   rw [List.take_of_length_le xnl] at a0;obtain ⟨d0,d1⟩:=zae a0.o.hb;obtain ⟨r0,r1⟩:=zae a0.o.hr;have f0:=frozen_of_row _ _ 0 _ _ a0.o.hr;have f1:=frozen_of_row _ _ 1 _ _ a0.o.hr;have zr:=zaa a0.o.hr;have zb:=zaa a0.o.hb;obtain ⟨WE,d6⟩:=xex (G.foldl (zeo p k) (ze6 p.len));have h6:=zjy d6;rw [d6] at a0 d1;clear d6;go_wp2_with fail
   refine zai rfl rfl (zad (i:=1) (v:=.slice av WE.length cv) (zad (i:=0) (v:=.int .i64 p.len) a0.o.hr)) underlying56 rfl (by kernel_rfl) ?_;have g3:=a0.o.hv.move (S':=fun b=>w.heap.size<=b/\b≠w.heap.size+2) xnl fun b _ hs=>⟨rfl,by have:=hs.2;omega,by have:=hs.2;omega⟩
   have h8:=(g3.set1 (a:=⟨w.heap.size+2,0,none⟩) (fun b hb=>hb.2) (.int .i64 p.len)).set1 (a:=⟨w.heap.size+2,1,none⟩) (fun b hb=>hb.2) (.slice av WE.length cv)
   have h9:=h8.move (S':=fun b=>w.heap.size<=b) xnl fun b _ hb=>⟨rfl,hb.1⟩
   refine ⟨_,rfl,⟨_,rfl,?_⟩,(a0.o.b.setCell (p:=⟨w.heap.size+2,0,none⟩) (by simp) _).setCell (p:=⟨w.heap.size+2,1,none⟩) (by simp) _⟩;dsimp only;rw [h6.o];exact h9
end
section
open Go.RowKit
attribute [local go_sem] zag zaj zba
theorem rgrams_any (s:ByteArray) (w:World) (hs:s.size<=64) :
  Calls prog 119 #[.string s] w fun e w'=>∃ v,e = .returned v/\OwnAt w v (zfe s.data.toList) w':=by
 have hl:s.data.toList.length=s.size:=by simp
 obtain ⟨c3,a4⟩:=toks_len s.data.toList (by omega);have hc:=zik s w (by omega);obtain ⟨T,hT⟩:=xex (zcu s.data.toList);have hG:zfe s.data.toList=setL (zbg T):=by unfold zfe;rw [hT]
 rw [hT] at c3 a4 hc;rw [hG];have HC:=zjy hc;have a5:=zjy a4;have d1:decide ((64:Int)<s.size)=false:=by simp;omega
 clear hl hc hT hG a4;go_enter func119,ntmps119
 go_wp2_with fail
 refine HC.o.mono ?_;rintro e w1 ⟨vt,rfl,ho⟩;have b1:=zjy (OwnV.vec (enc:=za8) (fun _=>rfl) ho).any
 have b2:=zjy ho.2;obtain ⟨at',ct,rfl⟩:=b1.o.slice;clear ho HC d1;go_wp2_with fail
 go_loopw [3,5] (fun v i wr=>∃ k:Nat,k<=T.length/\i = .int .i64 k/\OwnAt w1 v (zbg (T.take k)) wr) (fun _ i _=>T.length - (intOf i).toNat)
 case atStart=>exact ⟨0,by omega,rfl,OwnAt.start w1⟩
 case round =>
  obtain ⟨k,hk,rfl,ho⟩:=hrel;have HO:=zjy ho;clear ho;by_cases hlt:k<T.length
  ·have hq:decide ((k:Int)<T.length)=true:=by simp;omega
   have hi0:(k:Int)<(T.length:Int):=by omega
   have c0:=ze2 (T.take k) (fun t ht=>a5.o t (List.mem_of_mem_take ht))
   have htl:=List.length_take_le k T;have b3:(T.getD k []).length<=64:=by rw [List.getD,List.getElem?_eq_getElem hlt];exact a5.o _ (List.getElem_mem hlt)
   obtain ⟨bt,ot,rfl,_,c2,a8⟩:=zb7 b1.o (by omega);have c1:=(HO.o.2.cell (p:=⟨bt,ot+k,none⟩) c2).trans (a8 k hlt);have HG:=zjy (zjm T k hlt);obtain ⟨t,ht⟩:=xex (T.getD k []);rw [ht] at c1 b3 HG;clear ht a8;obtain ⟨wo,rfl⟩:∃ wo:World,wo=wr:=⟨_,rfl⟩;go_wp2_with fail
   go_loopw [3,7] (fun v i wr=>∃ j:Nat,j<=1+t.length/\i = .int .i64 j/\OwnAt w1 v (zbg (T.take k)++(bigrA (zea t)).take j) wr) (fun _ i _=>1+t.length - (intOf i).toNat)
   case atStart=>exact ⟨0,by omega,rfl,by simpa using HO.o⟩
   case round =>
    obtain ⟨j,hj,rfl,a7⟩:=hrel;have a1:=zjy a7;clear a7;have b4:(zea t).length=t.length+2:=by simp [zea]
    by_cases hlj:j<1+t.length
    ·have b7:decide ((j:Int)<1+t.length)=true:=by simp;omega
     have b6:decide ((j:Int)+2<=t.length+1+1)=true:=by simp;omega
     have a0:=take_two (zea t) j (by omega);have b0:=bigr_getD (zea t) j (by omega);have a9:j<(bigrA (zea t)).length:=by rw [zia];omega
     have a2:=zfo (bigrA (zea t)) j a9;rw [show (default:List UInt8)=[] from rfl,b0] at a2;obtain ⟨z,hz⟩:=xex ([(zea t).getD j 0,(zea t).getD (j+1) 0]);rw [hz] at a0 a2;rw [wrapT_cons] at a0;have c4:=zjy a2
     have b9:(zbg (T.take k)++(bigrA (zea t)).take j).length<1099511627776:=by
      have:=List.length_take_le j (bigrA (zea t));simp only [List.length_append];omega
     have a3:∀ u∈(#[zak z]:Array Value).toList,u.oneCell'=true:=by intro u hu;simp at hu;subst hu;rfl
     clear b0 a9 a2 hz b4;go_wp2_with (at_builtin;refine zay rfl _ _ 28 rfl w1.heap.size 9 1 16 (.string ⟨#[]⟩) underlying28 zdt rfl (by decide) (by decide) _ _ _ rfl a1.o.1 #[zak z] 1 rfl rfl a3 b9 a1.o.2.size ?_;intro v2 w8 b8 b5)
     go_roundw
     case rel=>exact ⟨j+1,by omega,by go_num,by rw [c4.o,<- List.append_assoc];exact ⟨by rw [List.length_append,zd4];exact b8,b5 _ a1.o.2⟩⟩
     case measure=>simp [intOf];omega
    ·have b7:decide ((j:Int)<1+t.length)=false:=by simp;omega
     have b6:decide ((j:Int)+2<=t.length+1+1)=false:=by simp;omega
     rw [show (bigrA (zea t)).take j=bigrA (zea t) from List.take_of_length_le (by rw [zia];omega),<- HG.o] at a1;go_wp2_with fail
     go_roundw
     case rel=>exact ⟨k+1,by omega,by go_num,a1.o⟩
     case measure=>simp [intOf];omega
  ·have hq:decide ((k:Int)<T.length)=false:=by simp;omega
   rw [List.take_of_length_le (by omega)] at HO;have c0:=ze2 T a5.o;have HV:=zjy (Vec.owns (S:=zau) (k:=1) (enc:=za8) (fun _=>rfl) HO.o.1 (fun _ _ _=>trivial))
   go_wp2_with fail
   refine (rset_any zau _ (zbg T) _ HV.o (by omega)).mono ?_;rw [foldI_set];rintro e w3 ⟨v3,rfl,a6⟩;have c6:=zjy (b2.o.trans (HO.o.2.mono b2.o.size));have c5:=zjy (OwnV.rebase a6 c6.o);clear a6;go_wp2_with fail
   go_ret;exact ⟨v3,rfl,c5.o⟩
theorem set_ascB {L:List (List UInt8)} (h:AscB L):setL L=L:=by
 have hp:L.Pairwise (· < ·):=by
  rw [List.pairwise_iff_getElem];intro i j hi hj hij
  have a0:∀ d,∀ i,(hi:i+d+1<L.length)->L[i]<L[i+d+1]:=by
   intro d;induction d with
   | zero =>
    intro i hi;have:=h i (by omega);rw [bytesLess_eq,decide_eq_true_iff,List.getD,List.getD,List.getElem?_eq_getElem (by omega),List.getElem?_eq_getElem (by omega)] at this;exact this
   | succ d ih =>
    intro i hi;have h1:=ih i (by omega);have h2:=h (i+d+1) (by omega);rw [bytesLess_eq,decide_eq_true_iff,List.getD,List.getD,List.getElem?_eq_getElem (by omega),List.getElem?_eq_getElem (by omega)] at h2;exact List.lt_trans h1 h2
  have:=a0 (j - i - 1) i (by omega);simpa [show i+(j - i - 1)+1=j by omega] using this
 have hn:L.Nodup:=hp.imp fun {a b} h e=>by subst e;exact List.lt_irrefl a h
 have hs:L.mergeSort leB=L:=List.mergeSort_of_pairwise (hp.imp fun {a b} h=>by simpa [leB] using List.le_of_lt h)
 rw [<- set_of_perm hn fun z=>Iff.rfl,hs]
theorem rpositional_any (s:ByteArray) (w:World) (hs:s.size<=26) :
  Calls prog 118 #[.string s] w fun e w'=>∃ v,e = .returned v/\OwnAt w v (posL 0 s.data.toList) w':=by
 have hl:s.data.toList.length=s.size:=by simp
 have HL:=zjy hl;clear hl;have d1:decide ((26:Int)<s.size)=false:=by simp;omega
 go_enter func118,ntmps118
 go_wp2_with fail
 clear d1;go_loopw [3,4] (fun v i wr=>∃ k:Nat,k<=s.size/\i = .int .i64 k/\OwnAt w v (posL 0 (s.data.toList.take k)) wr) (fun _ i _=>s.size - (intOf i).toNat)
 case atStart=>exact ⟨0,by omega,rfl,OwnAt.start w⟩
 case round =>
  obtain ⟨k,hk,rfl,ho⟩:=hrel;have HO:=zjy ho;clear ho;by_cases hlt:k<s.size
  ·have hq:decide ((k:Int)<s.size)=true:=by simp;omega
   have ht:=zew s k hlt;have a1:=posL_snoc (s.data.toList.take k) s[k] 0;have a0:(s.data.toList.take k).length=k:=by rw [List.length_take,HL.o];omega
   rw [a0,Nat.zero_add] at a1;have HT:=zjy ht;have b0:=zjy a1;have a2:(posL 0 (s.data.toList.take k)).length<1099511627776:=by rw [zjc,a0];omega
   have hbz:=HO.o.2.size;have ha:((UInt8.ofNat (97+k)).toNat:Int)=97+(k:Int):=by rw [UInt8.toNat_ofNat'];omega
   have a7:=two_bytes wr (UInt8.ofNat (97+k)) s[k];rw [ha] at a7;obtain ⟨z,hz⟩:=xex ([UInt8.ofNat (97+k),s[k]]);rw [hz] at a7;have HZ:=zjy hz;have a3:∀ u∈(#[zak z]:Array Value).toList,u.oneCell'=true:=by intro u hu;simp at hu;subst hu;rfl
   have a5:=zjy (HO.o.below (w':=wr.alloc (.cells #[.int .u8 (97+(k:Int)),.int .u8 s[k].toNat] 5)) ((Below.refl _ _).alloc xnl _));have b2:=zjy (show wr.heap.size+1=(wr.alloc (.cells #[.int .u8 (97+(k:Int)),.int .u8 s[k].toNat] 5)).heap.size by simp);clear ht a1 a0 ha hz;go_wp2_with (at_builtin;refine zbs rfl _ _ 28 rfl w.heap.size 9 1 16 (.string ⟨#[]⟩) underlying28 zdt rfl (by decide) (by decide) _ _ _ rfl a5.o.1 (wr.heap.size+1) b2.o #[zak z] 1 rfl rfl a3 a2 a5.o.2.size ?_;intro v2 w8 a9 a8)
   go_roundw
   case rel=>exact ⟨k+1,by omega,by go_num,by rw [HT.o,b0.o];exact ⟨by rw [List.length_append,zd4,HZ.o];exact a9,a8 _ a5.o.2⟩⟩
   case measure=>simp [intOf];omega
  ·have hq:decide ((k:Int)<s.size)=false:=by simp;omega
   rw [List.take_of_length_le (by rw [HL.o];omega)] at HO;have a4:=zjy (set_ascB (pos_asc s.data.toList 0 (by rw [HL.o];omega)));have a2:(posL 0 s.data.toList).length<=1000000:=by rw [zjc,HL.o];omega
   have HV:=zjy (Vec.owns (S:=zau) (k:=1) (enc:=za8) (fun _=>rfl) HO.o.1 (fun _ _ _=>trivial))
   go_wp2_with fail
   refine (rset_any zau _ (posL 0 s.data.toList) _ HV.o a2).mono ?_;rw [foldI_set,a4.o];rintro e w3 ⟨v3,rfl,a6⟩;have b1:=zjy (OwnV.rebase a6 HO.o.2);clear a6;go_wp2_with fail
   go_ret;exact ⟨v3,rfl,b1.o⟩
end
section
open Go.RowKit Cal
attribute [local go_sem] zag zaj za6
theorem rsgrams_any (S:Nat->Prop) (vf vt vn vs:Value) (s:SchemaL) (f:Int) (x:List UInt8) (w:World) (h:SchemaAt w S vf vt vn vs s) (hx:x.length<=1000000) (p:List (List UInt8) × Int) (hp:p=zfx s f x) :
  Calls prog 78 #[.agg #[vf,vt,vn,vs],.int .i64 f,zak x] w (GramsIs p w):=by
 have HS:=zjy h.any;obtain ⟨af,cf,rfl⟩:=h.1.slice;have c4:=zjy h.1.any;have a4:zbq s f=if za1 s=0 then (if 0<=f/\f<s.fields.length then ((s.fields.getD f.toNat default).2,0) else (0,2)) else (0,za1 s):=rfl
 have a0:zfx s f x=if (zbq s f).2=0 then (if zat s f x=true then (zge (zbq s f).1 x,0) else ([],7)) else ([],(zbq s f).2):=rfl
 have a1:(zbq s f).2=0->x≠[]->zat s f x=ownK (zbq s f).1 s.rules x:=fun h0 h1=>by unfold zat;rw [if_pos h0,if_neg h1]
 have a2:(zbq s f).2=0->x=[]->zat s f x=true:=fun h0 h1=>by unfold zat;rw [if_pos h0,if_pos h1]
 have a9:=zei (s:=s) (f:=f);have b3:=fun h=>(zc3 (s:=s) h).1
 have K:=zeb zau (.slice af s.fields.length cf) vt vn vs s (w.alloc (.cells #[.slice af s.fields.length cf,vt,vn,vs] 33)) (HS.o.below ((Below.refl _ _).alloc xnl _));obtain ⟨c,hc⟩:=xex (za1 s);rw [hc] at K a4 b3;have HK:=zjy K;clear K h;by_cases he:c=0
 ·subst he
  have c3:=(b3 rfl).2;clear b3;rw [if_pos rfl] at a4;by_cases hr:0<=f/\f<s.fields.length
  ·rw [if_pos hr] at a4
   obtain ⟨r1,r2⟩:=hr;obtain ⟨k,rfl⟩:=Int.eq_ofNat_of_zero_le r1;rw [Int.toNat_natCast] at a4;have hk:k<s.fields.length:=by omega
   obtain ⟨b,off,rfl,_,hb,a6⟩:=zco c4.o (by omega);obtain ⟨y,hy⟩:=xex (s.fields.getD k default);have b5:=a6 k hk;rw [hy] at b5 a4;obtain ⟨nm,kd⟩:=y;have C1:=zjy (show w.cell? ⟨b,off+k*2+1,none⟩=some (.int .i64 kd) from b5 1 _ rfl);rw [a4] at a0 a9 a1 a2;dsimp only at a0 a9 a1 a2;have b2:=a9 rfl;rw [if_pos rfl] at a0;have t1:decide ((k:Int)<0)=false:=by simp
   have t2:decide ((s.fields.length:Int)<=k)=false:=by simp;omega
   have t3:(k:Int)<(s.fields.length:Int):=by omega
   have N0:=rsnormal_any zau (.slice (some ⟨b,off,none⟩) s.fields.length cf) vt vn vs s (k:Int) ⟨x.toArray⟩;rw [show (⟨x.toArray⟩:ByteArray).data.toList=x by simp] at N0;obtain ⟨nb,b8⟩:=xex (zat s (k:Int) x);rw [b8] at N0 a0 a1 a2;have HN:=zjy N0;have HP:=zjy (hp.trans a0);have c0:=zjy b2;have b7:=zjy (a1 rfl);have c5:=zjy (a2 rfl);clear b5 a6 a4 a9 a0 hy r1 r2 N0 hp b8 b2 a1 a2;go_enter func78,ntmps78
   go_wp2_with fail
   refine HK.o.mono ?_;rintro e w1 ⟨rfl,a5⟩;have a8:=zjy (xbt a5);have a7:=zjy (xbn a5);clear a5 HK;have z0:=zaa a7.o;obtain ⟨p0,p1,p2,p3⟩:=zbp a7.o;go_wp2_with fail
   refine (HN.o _ (HS.o.below a8.o) (by rw [zaj];omega)).mono ?_;rintro e w2 ⟨rfl,b6⟩;have a3:=xhh a8 b6;have b9:=zjy (zab b6 z0 a7.o);clear b6 p0 p1 p2 p3 a7 a8 z0;have z0:=zaa b9.o;obtain ⟨p0,p1,p2,p3⟩:=zbp b9.o;cases nb
   ·have HE:=zjy (show p=([],7) by rw [HP.o,if_neg (by simp)])
    go_wp2_with fail
    go_ret2;exact ⟨_,by rw [HE.o];rfl,by rw [HE.o];exact Vec.nil _ _ _ _,a3.o⟩
   ·have HG:=zjy (show p=(zge kd x,0) by rw [HP.o,if_pos rfl])
    by_cases hx0:x=[]
    ·have HE:=zjy (show p=([],0) by rw [HG.o];unfold zge;rw [if_pos hx0])
     subst hx0;go_wp2_with fail
     go_ret2;exact ⟨_,by rw [HE.o];rfl,by rw [HE.o];exact Vec.nil _ _ _ _,a3.o⟩
    ·have q1:(x == [])=false:=by simpa using hx0
     have q2:x.isEmpty=false:=by simpa using hx0
     obtain ⟨f1,f2,f3⟩:=zjf (b7.o hx0).symm c0.o;have b4:=zjy (show zge kd x=if kd=2 then posL 0 x else if kd=3 then [61 :: x] else zfe x by unfold zge;rw [if_neg hx0]);have c1:w2.cell? ⟨b,off+k*2+1,none⟩=some (.int .i64 kd):=(a3.o.cell (p:=⟨b,off+k*2+1,none⟩) hb).trans C1.o;have zb:b<w2.heap.size:=Nat.lt_of_lt_of_le hb a3.o.size;have b2:=c0.o;have F3:=zjy f3;clear f2 f3 hx0
     rcases b2 with rfl | rfl | rfl | rfl
     ·have HE:=zjy (show p=(zfe x,0) by rw [HG.o,b4.o];rfl)
      go_wp2_with fail
      refine (rgrams_any ⟨x.toArray⟩ _ (by rw [zaj];omega)).mono ?_;rw [show (⟨x.toArray⟩:ByteArray).data.toList=x by simp];rintro e w3 ⟨v,rfl,ho⟩;have b1:=zjy (a3.o.trans (ho.2.mono a3.o.size));have b0:=zjy (OwnV.vec (enc:=za8) (fun _=>rfl) ho).any
      clear ho p0 p1 p2 p3 c1;go_wp2_with fail
      go_ret2;exact ⟨v,by rw [HE.o];rfl,by rw [HE.o];exact b0.o,b1.o⟩
     ·have HE:=zjy (show p=(posL 0 x,0) by rw [HG.o,b4.o];rfl)
      go_wp2_with fail
      refine (rpositional_any ⟨x.toArray⟩ _ (by rw [zaj];have:=F3.o (by first | rfl | trivial);omega)).mono ?_;rw [show (⟨x.toArray⟩:ByteArray).data.toList=x by simp];rintro e w3 ⟨v,rfl,ho⟩;have b1:=zjy (a3.o.trans (ho.2.mono a3.o.size));have b0:=zjy (OwnV.vec (enc:=za8) (fun _=>rfl) ho).any
      clear ho p0 p1 p2 p3 c1;go_wp2_with fail
      go_ret2;exact ⟨v,by rw [HE.o];rfl,by rw [HE.o];exact b0.o,b1.o⟩
     ·have HE:=zjy (show p=([61 :: x],0) by rw [HG.o,b4.o];rfl)
      go_wp2_with fail
      go_ret2;exact ⟨_,by rw [HE.o];rfl,by rw [HE.o];exact vec_block (L:=[61 :: x]) (zac rfl) 1 rfl,a3.o.alloc a3.o.size _⟩
     ·have HE:=zjy (show p=(zfe x,0) by rw [HG.o,b4.o];rfl)
      go_wp2_with fail
      refine (rgrams_any ⟨x.toArray⟩ _ (by rw [zaj];omega)).mono ?_;rw [show (⟨x.toArray⟩:ByteArray).data.toList=x by simp];rintro e w3 ⟨v,rfl,ho⟩;have b1:=zjy (a3.o.trans (ho.2.mono a3.o.size));have b0:=zjy (OwnV.vec (enc:=za8) (fun _=>rfl) ho).any
      clear ho p0 p1 p2 p3 c1;go_wp2_with fail
      go_ret2;exact ⟨v,by rw [HE.o];rfl,by rw [HE.o];exact b0.o,b1.o⟩
  ·have HE:=zjy (show p=([],2) by rw [hp,a0,a4,if_neg hr];rfl)
   have c2:f<0\/(0<=f/\(s.fields.length:Int)<=f):=by omega
   clear a4 a0 a9 a1 a2 hp hr
   rcases c2 with hf | ⟨hf0,hf⟩
   all_goals
    go_enter func78,ntmps78
    go_wp2_with fail
    refine HK.o.mono ?_;rintro e w1 ⟨rfl,a5⟩;have a8:=zjy (xbt a5);have a7:=zjy (xbn a5);clear a5 HK;have z0:=zaa a7.o;obtain ⟨p0,p1,p2,p3⟩:=zbp a7.o;go_wp2_with fail
    go_ret2;exact ⟨_,by rw [HE.o];rfl,by rw [HE.o];exact Vec.nil _ _ _ _,a8.o⟩
 ·have HE:=zjy (show p=([],c) by rw [hp,a0,a4,if_neg he];dsimp only;rw [if_neg he])
  have q1:(c != 0)=true:=by simpa using he
  clear a4 a0 a9 a1 a2 hp b3 he;go_enter func78,ntmps78
  go_wp2_with fail
  refine HK.o.mono ?_;rintro e w1 ⟨rfl,a5⟩;have a8:=zjy (xbt a5);clear a5 HK;go_wp2_with fail
  go_ret2;exact ⟨_,by rw [HE.o];rfl,by rw [HE.o];exact Vec.nil _ _ _ _,a8.o⟩
end
section
open Go.RowKit Cal
attribute [local go_sem] zag zaj
structure RcAt (b:Nat) (vf vt vn vs id ver sv:Value) (w:World):Prop where
 s:w.heap[b]?=some (.cells #[vf,vt,vn,vs] 33 (0,0))
 r:w.heap[b+1]?=some (.cells #[id,ver,sv] 68 (0,0))
theorem RcAt.below {b:Nat} {vf vt vn vs id ver sv:Value} {w w':World} (h:RcAt b vf vt vn vs id ver sv w) (hb:Below w.heap.size w w'):RcAt b vf vt vn vs id ver sv w' :=
 ⟨zab hb (zaa h.s) h.s,zab hb (zaa h.r) h.r⟩
theorem checkI_no {s:SchemaL} {r:RecL} (h:¬ (1<=r.id/\r.id<=1048576/\1<=r.ver/\r.ver<=1048576/\r.vals.length=s.fields.length)):zeu s r=7:=by
 unfold zeu zbl;rw [if_neg];simp only [Bool.and_eq_true,decide_eq_true_eq,beq_iff_eq];intro hh;exact h ⟨hh.1.1.1.1.1,hh.1.1.1.1.2,hh.1.1.1.2,hh.1.1.2,hh.1.2⟩
theorem checkI_norm {s:SchemaL} {r:RecL} (h:1<=r.id/\r.id<=1048576/\1<=r.ver/\r.ver<=1048576/\r.vals.length=s.fields.length):zeu s r=if zfa s 0 r.vals=true then 0 else 7:=by
 unfold zeu zbl;simp [h]
theorem normA_no {s:SchemaL} {L:List (List UInt8)} {k:Nat} (hk:k<L.length) (h:zat s k L[k]=false):zfa s 0 L=false:=by
 cases hh:zfa s 0 L with
 | false=>rfl
 | true =>
  have:=zji s L 0 hh k hk;rw [Nat.zero_add,show L.getD k []=L[k] by simp [List.getD,hk],h] at this;cases this
theorem rrcheck_any (S T:Nat->Prop) (vf vt vn vs:Value) (s:SchemaL) (r:RecL) (sv:Value) (w:World) (h:SchemaAt w S vf vt vn vs s) (hv:Vec w T 1 za8 sv r.vals) (hs:∀ x∈r.vals,x.length<=1000000) (hn:r.vals.length<=1000000) :
  Calls prog 76 #[.agg #[vf,vt,vn,vs],.agg #[.int .i64 r.id,.int .i64 r.ver,sv]] w fun e w'=>e = .returned (.int .i64 (zdq s r))/\Below w.heap.size w w':=by
 obtain ⟨c,hc⟩:=xex (zdq s r);obtain ⟨d,hd⟩:=xex (za1 s);have a0:=hc;unfold zdq at a0;rw [hd] at a0;rw [hc];obtain ⟨af,cf,rfl⟩:=h.1.slice;obtain ⟨a,b4,rfl⟩:=hv.slice;obtain ⟨id,ver,vals⟩:=r;dsimp only at hv hs hn ⊢;have HV:=zjy hv.any;have HS:=zjy h.any;have a1:=zjy a0;have HD:=zjy hd;have b8:=zjy hs;clear hv h a0 hc hd hs;go_enter func76,ntmps76
 go_wp2_with fail
 refine zah (fun W hW=>?_)
 have a4:=xam hW
 have k0:RcAt w.heap.size (.slice af s.fields.length cf) vt vn vs (.int .i64 id) (.int .i64 ver) (.slice a vals.length b4) W:=by rw [hW];exact ⟨zaf (zac rfl),zac (by simp)⟩
 clear hW;refine (zeb zau _ _ _ _ s _ (HS.o.below a4)).mono ?_;rw [HD.o];rintro e w1 ⟨rfl,hb⟩;have K1:=zjy (k0.below hb);have a2:=zjy (a4.trans (hb.mono a4.size));clear hb a4 k0;obtain ⟨s0,s1,s2,s3⟩:=zaq K1.o.s;obtain ⟨r0,r1,r2⟩:=zan K1.o.r;have ls:=zaa K1.o.s;have lr:=zaa K1.o.r;by_cases h0:d=0
 ·subst h0
  have a8:=a1.o;rw [if_pos rfl] at a8;have HI:=zjy a8;have dz:((0:Int) != 0)=false:=rfl;clear a8 a1;by_cases hin:1<=id/\id<=1048576/\1<=ver/\ver<=1048576/\vals.length=s.fields.length
  ·have a6:=checkI_norm (r:=⟨id,ver,vals⟩) hin
   rw [HI.o] at a6;have b5:=zjy a6;obtain ⟨i1,i2,i3,i4,i5⟩:=hin;have e1:decide (id<(1:Int))=false:=by simp;omega
   have e2:decide ((1048576:Int)<id)=false:=by simp;omega
   have e3:decide (ver<(1:Int))=false:=by simp;omega
   have e4:decide ((1048576:Int)<ver)=false:=by simp;omega
   have e5:((vals.length:Int) != (s.fields.length:Int))=false:=by rw [i5];simp
   clear i1 i2 i3 i4 i5 a6;go_wp2_with fail
   clear s0 s1 s2 s3 r0 r1 r2 e1 e2 e3 e4 e5;go_loopw [6] (fun t wr=>∃ k:Nat,k<=vals.length/\t = .int .i64 k/\Hid (∀ j (hj:j<k) (hl:j<vals.length),zat s j vals[j]=true)/\Below w1.heap.size w1 wr) (fun t _=>vals.length - (intOf t).toNat)
   case atStart=>exact ⟨0,by omega,rfl,zjy fun j hj=>by omega,Below.refl _ _⟩
   case round =>
    obtain ⟨k,hk,rfl,HN,a3⟩:=hrel;have Kw:=zjy (K1.o.below a3);have a5:=xhh a2 a3;have b7:=zjy a3;clear a3;obtain ⟨s0,s1,s2,s3⟩:=zaq Kw.o.s;obtain ⟨r0,r1,r2⟩:=zan Kw.o.r;have ls:=zaa Kw.o.s;have lr:=zaa Kw.o.r;by_cases hlt:k<vals.length
    ·have hq:decide ((k:Int)<vals.length)=true:=by simp;omega
     have hki:(k:Int)<(vals.length:Int):=by omega
     obtain ⟨u,hu⟩:=xex (vals[k]);have hul:u.length<=1000000:=b8.o u (by rw [<- hu];exact List.getElem_mem _);obtain ⟨b,off,rfl,hb,b1⟩:=(HV.o.below a5.o).get k hlt;have d0:=b1 0 _ rfl;rw [Nat.mul_one,Nat.add_zero,hu] at d0;have lb:b<wr.heap.size:=hb;have HU:=zjy hu;obtain ⟨nb,b0⟩:=xex (zat s k u);have a9:=zjy b0;have bD:Below wr.heap.size wr wr.drew:=(Below.refl _ _).drew;clear b1 hu b0 hb;go_wp2_with fail
     refine wp_region_noPanic ?_
     refine wp_region_held_drew (S:=(fun w'=>w'.cell? ⟨w.heap.size,0,none⟩=some (.slice af s.fields.length cf)/\w'.cell? ⟨w.heap.size,1,none⟩=some vt/\w'.cell? ⟨w.heap.size,2,none⟩=some vn/\w'.cell? ⟨w.heap.size,3,none⟩=some vs/\w'.cell? ⟨w.heap.size+1,2,none⟩=some (.slice (some ⟨b,off,none⟩) vals.length b4)/\w'.cell? ⟨b,off+k,none⟩=some (zak u))) (by kernel_rfl) (⟨s0,s1,s2,s3,r2,d0⟩) (fun hHeld=>?_)
     refine tH 0 ?_;refine tH 1 ?_;refine tH 2 ?_;refine tH 3 ?_;refine tH 4 ?_;refine tH 5 ?_;refine tH 6 ?_
     refine xrH 7 rfl fun K hK=>?_
     go_simp;refine (rsnormal_any zau _ vt vn vs s k ⟨u.toArray⟩ _ ((HS.o.below a5.o).below bD) (by rw [zaj];omega)).mono ?_;rw [show (⟨u.toArray⟩:ByteArray).data.toList=u by simp,a9.o];rintro e w2 ⟨rfl,b3⟩;have b2:=bD.trans (b3.mono bD.size);clear b3
     refine hK.out _ _ (⟨(b2.cell (p:=⟨w.heap.size,0,none⟩) ls).trans s0,(b2.cell (p:=⟨w.heap.size,1,none⟩) ls).trans s1,(b2.cell (p:=⟨w.heap.size,2,none⟩) ls).trans s2,(b2.cell (p:=⟨w.heap.size,3,none⟩) ls).trans s3,(b2.cell (p:=⟨w.heap.size+1,2,none⟩) lr).trans r2,(b2.cell (p:=⟨b,off+k,none⟩) lb).trans d0⟩) (fun hHeld=>?_)
     clear hK K;refine tH 8 ?_;refine wpAnyH_done (by kernel_rfl) ?_ _;refine NoPanic.normal ?_;have c0:=xhh b7 b2;have b9:=xhh a5 b2;clear hHeld s0 s1 s2 s3 r0 r1 r2 d0 b2;cases nb with
     | true =>
      go_wp2_with fail
      go_roundw
      case rel =>
       refine ⟨k+1,by omega,by go_num,zjy fun j hj hl=>?_,c0.o⟩
       by_cases hjk:j=k
       ·subst hjk;rw [HU.o];exact a9.o
       ·exact HN.o j (by omega) hl
      case measure=>simp [intOf];omega
     | false =>
      have a7:c=7:=by rw [b5.o,normA_no hlt (by rw [HU.o];exact a9.o)];rfl
      subst a7;go_wp2_with fail
      go_ret;exact ⟨rfl,b9.o⟩
    ·have hq:decide ((k:Int)<vals.length)=false:=by simp;omega
     obtain rfl:k=vals.length:=by omega
     have b6:c=0:=by
      rw [b5.o,normA_of s vals 0 fun j hj=>by rw [Nat.zero_add,show vals.getD j []=vals[j] by simp [List.getD,hj]];exact HN.o j hj hj];rfl
     subst b6;go_wp2_with fail
     go_ret;exact ⟨rfl,a5.o⟩
  ·have a7:c=7:=by rw [<- HI.o];exact checkI_no hin
   subst a7;clear HI;by_cases i1:id<1
   ·have e1:decide (id<(1:Int))=true:=by simpa using i1
    go_wp2_with fail
    go_ret;exact ⟨rfl,a2.o⟩
   have e1:decide (id<(1:Int))=false:=by simpa using i1
   by_cases i2:1048576<id
   ·have e2:decide ((1048576:Int)<id)=true:=by simpa using i2
    go_wp2_with fail
    go_ret;exact ⟨rfl,a2.o⟩
   have e2:decide ((1048576:Int)<id)=false:=by simpa using i2
   by_cases i3:ver<1
   ·have e3:decide (ver<(1:Int))=true:=by simpa using i3
    go_wp2_with fail
    go_ret;exact ⟨rfl,a2.o⟩
   have e3:decide (ver<(1:Int))=false:=by simpa using i3
   by_cases i4:1048576<ver
   ·have e4:decide ((1048576:Int)<ver)=true:=by simpa using i4
    go_wp2_with fail
    go_ret;exact ⟨rfl,a2.o⟩
   have e4:decide ((1048576:Int)<ver)=false:=by simpa using i4
   have e5:((vals.length:Int) != (s.fields.length:Int))=true:=by simp;omega
   clear i1 i2 i3 i4 hin;go_wp2_with fail
   go_ret;exact ⟨rfl,a2.o⟩
 ·have h1:d=c:=by have:=a1.o;rwa [if_neg h0] at this
  subst h1;have hne:(d != 0)=true:=by simpa using h0
  clear h0;go_wp2_with fail
  go_ret;exact ⟨rfl,a2.o⟩
end
section
open Go.RowKit Cal
attribute [local go_sem] zag zaj
theorem rrall_any (S T:Nat->Prop) (vf vt vn vs rv:Value) (s:SchemaL) (R:List RecL) (w:World) (h:SchemaAt w S vf vt vn vs s) (hr:RecsVec w T rv R) (hl:∀ r∈R,∀ x∈r.vals,x.length<=1000000) (hn:∀ r∈R,r.vals.length<=1000000) (hR:R.length<=1000000) :
  Calls prog 42 #[.agg #[vf,vt,vn,vs],rv] w fun e w'=>e = .returned (.int .i64 (allN s R))/\Below w.heap.size w w':=by
 obtain ⟨ar,cr,rfl⟩:=hr.slice;have HS:=zjy h;have HR:=zjy hr.any;have HL:=zjy hl;have HN:=zjy hn;obtain ⟨E,hE⟩:=xex (allN s R);rw [hE];have HE:=zjy hE;clear h hr hl hn hE;go_enter func42,ntmps42
 go_wp2_with fail
 refine zah (fun W hW=>?_)
 have b0:=xal hW
 have b5:W.heap[w.heap.size]?=some (.cells #[vf,vt,vn,vs] 33 (0,0)):=by rw [hW];exact zac rfl
 clear hW;refine (zeb S _ _ _ _ s W (HS.o.below b0)).mono ?_;rintro e w1 ⟨rfl,hb⟩;have d1:=zab hb (zaa b5) b5;have a0:=zjy (b0.trans (hb.mono b0.size));have c5:=zjy d1;clear hb b0 b5 d1;obtain ⟨c,hc⟩:=xex (za1 s);rw [hc];by_cases hc0:c=0
 ·subst hc0
  have dz:((0:Int) != 0)=false:=rfl;have HC:=zjy hc;by_cases h64:R.length<=64
  ·have e6:decide ((64:Int)<(R.length:Int))=false:=by simp;omega
   have d4:=zjy (show allA s none R=E by rw [<- HE.o];unfold allN;rw [if_pos hc,if_pos h64]);clear hc HE;go_wp2_with fail
   go_loopw [6] (fun t wr=>∃ j:Nat,t = .int .i64 j/\j<=R.length/\Hid (allA s (zg7 R j) (R.drop j)=E)/\Below w1.heap.size w1 wr) (fun t _=>R.length - (intOf t).toNat)
   case atStart=>exact ⟨0,rfl,by omega,d4,Below.refl _ _⟩
   case round =>
    obtain ⟨j,rfl,hj,HT,a4⟩:=hrel;have f0:=zjy a4;by_cases hlt:j<R.length
    ·have hq:decide ((j:Int)<(R.length:Int))=true:=by simp;omega
     have hji:(j:Int)<(R.length:Int):=by omega
     have a1:=a0.o.trans (a4.mono a0.o.size);obtain ⟨b,off,id,a7,aa,nn,cc,vals,rfl,lb,c0,c1,c2,b8,c9⟩:=(HR.o.below a1).at j hlt;obtain ⟨s0,s1,s2,s3⟩:=zaq (zab a4 (zaa c5.o) c5.o);have a8:w.heap.size<wr.heap.size:=by have:=zaa c5.o;have:=a4.size;omega
     have hT:=HT.o;rw [List.drop_eq_getElem_cons hlt,allA_cons] at hT;have a3:R[j]∈R:=List.getElem_mem hlt;have c7:=zjy (HL.o _ a3);have c6:=HN.o _ a3
     have HP:=zjy (show j≠0->∃ a2:Int,zg7 R j=some a2/\wr.cell? ⟨b,off+(j - 1)*3,none⟩=some (.int .i64 a2) from fun h0=>by
      obtain ⟨b',d7,d8,d6,aa',nn',cc',c8,he,_,d0,_,_,e2,_⟩:=(HR.o.below a1).at (j - 1) (by omega);cases he;refine ⟨d8,?_,d0⟩;unfold zg7
      rw [if_neg h0,zbb _ _ (by omega),e2])
     rw [b8] at hT c7 c6;have d3:=zjy b8;have HV:=zjy c9;have b3:=zjy hT;have f2:=zjy a1;clear hT a3 b8 c9 HT a4 a1;dsimp only at c7 c6;have e0:=HV.o.len.1;subst e0;obtain ⟨ci,b6⟩:=xex (zeu s ⟨id,a7,vals⟩);have e9:=zjy (show zdq s ⟨id,a7,vals⟩=ci by unfold zdq;rw [if_pos HC.o,b6]);have d5:=zjy b6;have bD:Below wr.heap.size wr wr.drew:=(Below.refl _ _).drew;clear b6;go_wp2_with fail
     go_cut [7] (fun t7 wx=>t7 = .int .i64 ci/\Below wr.heap.size wr wx)
     case first =>
      refine wp_region_noPanic ?_
      refine wp_region_held_drew (S:=(fun w'=>w'.cell? ⟨w.heap.size,0,none⟩=some vf/\w'.cell? ⟨w.heap.size,1,none⟩=some vt/\w'.cell? ⟨w.heap.size,2,none⟩=some vn/\w'.cell? ⟨w.heap.size,3,none⟩=some vs/\w'.cell? ⟨b,off+j*3,none⟩=some (.int .i64 id)/\w'.cell? ⟨b,off+j*3+1,none⟩=some (.int .i64 a7)/\w'.cell? ⟨b,off+j*3+2,none⟩=some (.slice aa vals.length cc))) (by kernel_rfl) (⟨s0,s1,s2,s3,c0,c1,c2⟩) (fun hHeld=>?_)
      refine tH 0 ?_;refine tH 1 ?_;refine tH 2 ?_;refine tH 3 ?_;refine tH 4 ?_
      refine xrH 5 rfl fun K hK=>?_
      go_simp;refine (rrcheck_any S zau _ _ _ _ s ⟨id,a7,vals⟩ _ _ ((HS.o.below f2.o).below bD) (HV.o.below bD) c7.o c6).mono ?_;rw [e9.o];rintro e w2 ⟨rfl,hb⟩;have b2:=bD.trans (hb.mono bD.size);clear hb
      refine hK.out _ _ (⟨(b2.cell (p:=⟨w.heap.size,0,none⟩) a8).trans s0,(b2.cell (p:=⟨w.heap.size,1,none⟩) a8).trans s1,(b2.cell (p:=⟨w.heap.size,2,none⟩) a8).trans s2,(b2.cell (p:=⟨w.heap.size,3,none⟩) a8).trans s3,(b2.cell (p:=⟨b,off+j*3,none⟩) lb).trans c0,(b2.cell (p:=⟨b,off+j*3+1,none⟩) lb).trans c1,(b2.cell (p:=⟨b,off+j*3+2,none⟩) lb).trans c2⟩) (fun hHeld=>?_)
      clear hK K;refine tH 6 ?_;refine wpAnyH_done (by kernel_rfl) ?_ _;refine NoPanic.normal ?_;go_wp2_with fail
      go_meet;exact ⟨rfl,b2⟩
     case rest =>
      obtain ⟨w2,d9⟩:∃ u,u=wc:=⟨_,rfl⟩;subst d9;obtain ⟨rfl,a9⟩:=hcut;have b4:=xhh f0 a9;have f1:=zjy a9;have r0:=(a9.cell (p:=⟨b,off+j*3,none⟩) lb).trans c0;clear a9 s0 s1 s2 s3 c0 c1 c2 bD;by_cases hci0:ci=0
      ·subst hci0
       have b7:=b3.o;rw [d5.o,if_pos rfl] at b7;have b1:=zjy b7;clear b7 b3;by_cases hj0:j=0
       ·have dj:decide (0<j)=false:=by simp;omega
        have e8:=zjy (show allA s (zg7 R (j+1)) (R.drop (j+1))=E by
         have:=b1.o;rw [show zg7 R j=none by unfold zg7;rw [if_pos hj0]] at this;rw [<- this];unfold zg7
         rw [if_neg (by omega),show j+1 - 1=j by omega,zbb _ _ hlt,d3.o];rfl)
        clear b1 HP;go_wp2_with fail
        refine wp_region_noPanic ?_
        refine wp_region_held_drew (S:=(fun w'=>True)) (by kernel_rfl) (trivial) (fun hHeld=>?_)
        refine tH 0 ?_;refine tH 1 ?_;refine tH 2 ?_;refine sH 3 ?_;refine sH 4 ?_;refine sH 5 ?_;refine sH 6 ?_;refine sH 7 ?_;refine sH 8 ?_;refine sH 9 ?_;refine sH 10 ?_;refine sH 11 ?_;refine sH 12 ?_;refine sH 13 ?_;refine sH 14 ?_;refine tH 15 ?_;refine wpAnyH_done (by kernel_rfl) ?_ _;refine NoPanic.normal ?_;go_wp2_with fail
        go_roundw
        case rel=>exact ⟨j+1,by go_num,by omega,e8,b4.o.drew⟩
        case measure=>simp [intOf];omega
       ·have dj:decide (0<j)=true:=by simp;omega
        obtain ⟨a2,e1,d2⟩:=HP.o hj0;have a5:=(f1.o.cell (p:=⟨b,off+(j - 1)*3,none⟩) lb).trans d2;have hj1:(j:Int) - 1<(R.length:Int):=by omega
        have hj2:(1:Int)<=(j:Int):=by omega
        have hj3:((j:Int) - 1).toNat=j - 1:=by omega
        have hwr:IntKind.i64.wrap ((j:Int) - 1)=(j:Int) - 1:=by rw [IntKind.wrap_i64];omega
        have a6:=b1.o;rw [e1] at a6;clear HP d2 b1;by_cases hle:id<=a2
        ·have c4:decide (id<=a2)=true:=by simpa using hle
         have b9:E=12:=by rw [<- a6];unfold notB;dsimp only;rw [if_pos c4]
         subst b9;clear a6;go_wp2_with fail
         refine wp_region_noPanic ?_
         refine wp_region_held_drew (S:=(fun w'=>w'.cell? ⟨b,off+(j - 1)*3,none⟩=some (.int .i64 a2)/\w'.cell? ⟨b,off+j*3,none⟩=some (.int .i64 id))) (by kernel_rfl) (⟨a5,r0⟩) (fun hHeld=>?_)
         refine tH 0 ?_;refine tH 1 ?_;refine tH 2 ?_;refine tH 3 ?_;refine tH 4 ?_;refine tH 5 ?_;refine tH 6 ?_;refine tH 7 ?_;refine tH 8 ?_;refine tH 9 ?_;refine tH 10 ?_;refine tH 11 ?_;refine tH 12 ?_;refine tH 13 ?_;refine tH 14 ?_;refine tH 15 ?_;refine wpAnyH_done (by kernel_rfl) ?_ _;refine NoPanic.normal ?_;go_wp2_with fail
         go_ret;exact ⟨rfl,a0.o.trans (b4.o.drew.mono a0.o.size)⟩
        ·have c4:decide (id<=a2)=false:=by simpa using hle
         have e7:=zjy (show allA s (zg7 R (j+1)) (R.drop (j+1))=E by
          rw [<- a6];unfold notB;dsimp only;rw [if_neg (by rw [c4];decide)];unfold zg7
          rw [if_neg (by omega),show j+1 - 1=j by omega,zbb _ _ hlt,d3.o])
         clear a6;go_wp2_with fail
         refine wp_region_noPanic ?_
         refine wp_region_held_drew (S:=(fun w'=>w'.cell? ⟨b,off+(j - 1)*3,none⟩=some (.int .i64 a2)/\w'.cell? ⟨b,off+j*3,none⟩=some (.int .i64 id))) (by kernel_rfl) (⟨a5,r0⟩) (fun hHeld=>?_)
         refine tH 0 ?_;refine tH 1 ?_;refine tH 2 ?_;refine tH 3 ?_;refine tH 4 ?_;refine tH 5 ?_;refine tH 6 ?_;refine tH 7 ?_;refine tH 8 ?_;refine tH 9 ?_;refine tH 10 ?_;refine tH 11 ?_;refine tH 12 ?_;refine tH 13 ?_;refine tH 14 ?_;refine tH 15 ?_;refine wpAnyH_done (by kernel_rfl) ?_ _;refine NoPanic.normal ?_;go_wp2_with fail
         go_roundw
         case rel=>exact ⟨j+1,by go_num,by omega,e7,b4.o.drew⟩
         case measure=>simp [intOf];omega
      ·have e3:E=ci:=by rw [<- b3.o,d5.o,if_neg hci0]
       have e5:(ci != (0:Int))=true:=by simpa using hci0
       subst e3;clear b3 d4 HP;go_wp2_with fail
       go_ret;exact ⟨rfl,a0.o.trans (b4.o.mono a0.o.size)⟩
    ·have hq:decide ((j:Int)<(R.length:Int))=false:=by simp;omega
     obtain rfl:j=R.length:=by omega
     have e4:E=0:=by rw [<- HT.o,List.drop_length];rfl
     subst e4;go_wp2_with fail
     go_ret;exact ⟨rfl,a0.o.trans (a4.mono a0.o.size)⟩
  ·have e6:decide ((64:Int)<(R.length:Int))=true:=decide_eq_true (by omega)
   have c3:E=1:=by rw [<- HE.o];unfold allN;rw [if_pos hc,if_neg h64]
   subst c3;clear hc HE;go_wp2_with fail
   go_ret;exact ⟨rfl,a0.o⟩
 ·have e5:(c != (0:Int))=true:=by simpa using hc0
  have c3:E=c:=by rw [<- HE.o];unfold allN;rw [hc,if_neg hc0]
  subst c3;clear HE;go_wp2_with fail
  go_ret;exact ⟨rfl,a0.o⟩
end
end Go.Proofs.YtgkaafncfjlooaaGreatDoor
