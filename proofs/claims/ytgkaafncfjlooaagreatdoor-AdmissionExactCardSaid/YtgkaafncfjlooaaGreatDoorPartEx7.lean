/- Parts of one proof: AdmD, AdmAss, BloomD, EncK, EncG, RecAll, DeckRecs, EncL, EncN, EncO, EncLaw, NumPlain, EbVars, LinePlain, EncH, BackLaw, AdmLaw, BlkD, BlkE, Sls, AppendV, AdmF, AdmAll, DeckDict, EShort, EexB, AdmG, AdmI, AdmE, AdmJ, LawE, LawF, OpenSchema, OpenRecs, OpenEnc. -/
import Derived.Test.YtgkaafncfjlooaaGreatDoorPartEx6
import Derived.Lib.Split
import Derived.Lib.Atoi
import Derived.Lib.AtoiTie
import Derived.Lib.LaidTab
import Derived.Lib.AtoiErrMem
import Derived.Deep.SlicePairs
import Derived.Deep.Strs
import Derived.Lib.SmallJoins
import Derived.OpenShut
set_option maxHeartbeats 16000000
set_option maxRecDepth 100000
open Go.Proofs.Tryz
set_option linter.unusedSimpArgs false
set_option linter.unusedVariables false
namespace Go.Proofs.YtgkaafncfjlooaaGreatDoor
section
open Go.RowKit
theorem zhl (k a b c d:Int) (w:World) :
  Calls prog 59 #[.int .i64 k,.agg #[.int .i64 a,.int .i64 b,.int .i64 c,.int .i64 d]] w fun e w'=>e = .returned (.agg #[.int .i64 k,.int .i64 a,.int .i64 b,.int .i64 c,.int .i64 d])/\Below w.heap.size w w':=by
 go_enter func59,ntmps59
 go_wp2
 exact za5 rfl rfl (zac (by simp)) underlying61 rfl rfl ⟨rfl,((Below.refl _ _).alloc xnl _).alloc (by simp) _⟩
theorem infoEx:(prog.info? 61).map (fun i=>(i.zero,i.size,i.bytes))=some (some (.agg #[.int .i64 0,.int .i64 0,.int .i64 0,.int .i64 0,.int .i64 0]),5,40):=by kernel_rfl
def nst (x y:Ex):Nat->Array Value
 | 0=>#[.int .i64 x.u,.int .i64 x.h,.int .i64 x.c,.int .i64 x.i]
 | 1=>#[.int .i64 (max x.u y.u),.int .i64 x.h,.int .i64 x.c,.int .i64 x.i]
 | 2=>#[.int .i64 (max x.u y.u),.int .i64 (max x.h y.h),.int .i64 x.c,.int .i64 x.i]
 | 3=>#[.int .i64 (max x.u y.u),.int .i64 (max x.h y.h),.int .i64 (max x.c y.c),.int .i64 x.i]
 | _=>#[.int .i64 (max x.u y.u),.int .i64 (max x.h y.h),.int .i64 (max x.c y.c),.int .i64 (max x.i y.i)]
theorem free4 {w:World} {b:Nat} {cs:Array Value} {t:TypeId} (h:w.heap[b]?=some (.cells cs t (0,0))) :
  w.frozen? ⟨b,0,none⟩=false/\w.frozen? ⟨b,1,none⟩=false/\w.frozen? ⟨b,2,none⟩=false/\w.frozen? ⟨b,3,none⟩=false:=⟨frozen_of_row _ _ _ _ _ h,frozen_of_row _ _ _ _ _ h,frozen_of_row _ _ _ _ _ h,frozen_of_row _ _ _ _ _ h⟩
theorem mx_if (a b:Int):(if a<b then b else a)=max a b:=by rw [Int.max_def];split <;> split <;> omega
def zi1 (r:List Ex) (w:World) (e:Ending) (w':World):Prop:=(∃ v,e = .returned (.tuple #[v,.int .i64 0])/\ExRow w' (fun b=>w.heap.size<=b) v r)/\Below w.heap.size w w'
theorem enter_nil (ua va:Option Addr) (uc vc:Nat) (a l:List Ex) (w:World) (hu:ExRow w (All w) (.slice ua a.length uc) a) (hl:ExRow w (All w) (.slice va l.length vc) l) (hc:zcd l l=0) (na:a.length<=1000000) (nl:l.length<=1000000) (h0:a.length=0) :
  Calls prog 26 #[.slice ua a.length uc,.slice va l.length vc] w (zi1 (zcc 0 l l) w):=by
 have KC:=fun w h1 h2=>zjy (zgu (.slice va l.length vc) (.slice va l.length vc) l l w h1 h2 (by omega) nl)
 obtain ⟨a9,b6,b5⟩:=zh9 hc;rw [hc] at KC;have a5:=zjy a9;have e1a:l.length<=l.length:=by omega
 have e1b:l.length<=l.length:=by omega
 have l5:l.length<=5:=by omega
 have hz:((a.length:Int) == 0)=true:=by simp [h0]
 clear a9 b6 b5 hc h0;have HU:=zjy hu;clear hu;have HL:=zjy hl;clear hl;have HB:=zjy (Below.refl w.heap.size w);go_enter func26,ntmps26
 go_wp2_with fail
 refine ((KC _ HL.o HL.o).o).mono ?_;rintro e w0 ⟨rfl,hb⟩;have hx:=zjy (by first | exact HB.o.trans (hb.mono HB.o.size) | exact (HB.o.alloc HB.o.size _).trans (hb.mono (by have:=HB.o.size;first | omega | (simp;done) | (simp;omega))) | exact ((HB.o.alloc HB.o.size _).alloc (by have:=HB.o.size;first | omega | (simp;done) | (simp;omega)) _).trans (hb.mono (by have:=HB.o.size;first | omega | (simp;done) | (simp;omega))):Below w.heap.size w w0);clear HB hb;have HB:=hx;clear hx;go_wp2_with fail
 go_loopw [7,25] (fun out i wr=>∃ k:Nat,k<=l.length/\i = .int .i64 k/\wr.ownsRow w.heap.size 61 5 out k (zdl ((zcc 0 l l).take k))/\Below w.heap.size w wr) (fun _ i _=>l.length - (intOf i).toNat)
 case atStart=>exact ⟨0,by omega,rfl,World.ownsRow_nil _ _ _ _,HB.o⟩
 case round =>
  obtain ⟨k,hk,rfl,a0,hb⟩:=hrel;clear HB;by_cases hlt:k<l.length
  ·have a7:k<l.length:=by omega
   have b7:(k:Int)<(l.length:Int):=by omega
   obtain ⟨bl,ol,rfl,a1,c0,c1,c2,c3,c4⟩:=HL.o.get k hlt;generalize hx:l[k]=x at *;have d0:=(hb.cell (p:=⟨bl,ol+k*5,none⟩) a1).trans c0;have d1:=(hb.cell (p:=⟨bl,ol+k*5+1,none⟩) a1).trans c1;have d2:=(hb.cell (p:=⟨bl,ol+k*5+2,none⟩) a1).trans c2;have d3:=(hb.cell (p:=⟨bl,ol+k*5+3,none⟩) a1).trans c3;have d4:=(hb.cell (p:=⟨bl,ol+k*5+4,none⟩) a1).trans c4;have HX:=zjy hx;clear hx;have a3:=zjy a0;clear a0;have hz':=hb.size;have HB:=zjy hb;clear hb;go_wp2_with fail
   refine (zee x _).mono ?_;rintro e w1 ⟨rfl,hb⟩;have a2:=zjy ((HB.o.alloc HB.o.size _).trans (hb.mono (by have:=HB.o.size;simp;omega)));have a8:=zjy ((a3.o.alloc (.cells #[.int .i64 x.f,.int .i64 x.u,.int .i64 x.h,.int .i64 x.c,.int .i64 x.i] 61)).kept (row:=none) ⟨hb.os,hb.tape,hb.output,hb.size,fun k hk _=>hb.block k hk⟩ (by simp [Value.ownBlock];exact Classical.em _))
   clear hb a3 HB d0 d1 d2 d3 d4;have g0:=(a2.o.cell (p:=⟨bl,ol+k*5,none⟩) a1).trans c0;have g1:=(a2.o.cell (p:=⟨bl,ol+k*5+1,none⟩) a1).trans c1;have g2:=(a2.o.cell (p:=⟨bl,ol+k*5+2,none⟩) a1).trans c2;have g3:=(a2.o.cell (p:=⟨bl,ol+k*5+3,none⟩) a1).trans c3;have g4:=(a2.o.cell (p:=⟨bl,ol+k*5+4,none⟩) a1).trans c4;have zz:=a2.o.size;have hb1:bl<w1.heap.size:=Nat.lt_of_lt_of_le a1 zz;go_wp2_with fail
   refine (zee x _).mono ?_;rintro e w2 ⟨rfl,hb⟩;have N2:=zjy (zab (b:=w1.heap.size) hb (by simp) (zac rfl));have b2:=zjy ((a2.o.alloc a2.o.size _).trans (hb.mono (by have:=a2.o.size;simp;omega)));have a6:=zjy (fun k hk=>(a8.o.lt k hk).2)
   have b9:=zjy ((a8.o.alloc (.cells #[.int .i64 x.u,.int .i64 x.h,.int .i64 x.c,.int .i64 x.i] 99)).kept (row:=none) ⟨hb.os,hb.tape,hb.output,hb.size,fun k hk _=>hb.block k hk⟩ (by simp [Value.ownBlock];exact Classical.em _))
   clear hb a2 a8 g0 g1 g2 g3 g4 c0 c1 c2 c3 c4;go_wp2_with fail
   have i0:=fun cs v hv w=>@idx4 0 cs v (by decide) (by decide) hv w
   have i1:=fun cs v hv w=>@idx4 1 cs v (by decide) (by decide) hv w
   have i2:=fun cs v hv w=>@idx4 2 cs v (by decide) (by decide) hv w
   have i3:=fun cs v hv w=>@idx4 3 cs v (by decide) (by decide) hv w
   obtain ⟨wu,rfl⟩:∃ wu:World,wu=wr:=⟨_,rfl⟩;go_loopw [37] (fun i wr=>∃ j:Nat,j<=4/\i = .int .i64 j/\wr.heap[w1.heap.size]?=some (.cells (nst x x j) 99 (0,0))/\w2.grownBy wr (some w1.heap.size)) (fun i _=>4 - (intOf i).toNat)
   case atStart=>exact ⟨0,by omega,rfl,N2.o,zdu _ _⟩
   case round =>
    obtain ⟨j,hj,rfl,hN,b0⟩:=hrel;have HN:=zjy hN;clear hN;have HG:=zjy b0;clear b0;have:j=0\/j=1\/j=2\/j=3\/j=4:=by omega
    rcases this with rfl | rfl | rfl | rfl | rfl
    all_goals
     simp only [nst] at HN;obtain ⟨n0,n1,n2,n3⟩:=zbp HN.o;obtain ⟨p0,p1,p2,p3⟩:=free4 HN.o;go_wp2_with fail
    ·go_roundw
     case rel=>exact ⟨1,by omega,rfl,(zad HN.o).trans (by simp [nst,mx_if]),zc0 HG.o⟩
     case measure=>simp [intOf]
    ·go_roundw
     case rel=>exact ⟨2,by omega,rfl,(zad HN.o).trans (by simp [nst,mx_if]),zc0 HG.o⟩
     case measure=>simp [intOf]
    ·go_roundw
     case rel=>exact ⟨3,by omega,rfl,(zad HN.o).trans (by simp [nst,mx_if]),zc0 HG.o⟩
     case measure=>simp [intOf]
    ·go_roundw
     case rel=>exact ⟨4,by omega,rfl,(zad HN.o).trans (by simp [nst,mx_if]),zc0 HG.o⟩
     case measure=>simp [intOf]
    ·refine (zhl _ _ _ _ _ _).mono ?_;rintro e w3 ⟨rfl,hb⟩
     have a4:=zcs HG.o (zg2 hb)
     have b8:=zjy (b9.o.kept a4 (by
      right;intro he;have:=a6.o _ he;omega))
     have b1:=zjy (b2.o.trans (show Below w.heap.size w2 w3 from ⟨a4.os,a4.tape,a4.output,a4.size,fun k hk=>a4.block k (by have:=b2.o.size;omega) (by simp;omega)⟩))
     clear hb a4 n0 n1 n2 n3 p0 p1 p2 p3 i0 i1 i2 i3 HN HG;go_wp2_with (at_builtin;refine zay rfl _ _ 46 rfl w.heap.size 61 5 40 _ underlying46 infoEx rfl (by decide) (by decide) _ _ _ rfl b8.o _ 1 rfl rfl (by simp [Value.oneCell']) (by omega) b1.o.size ?_;intro v4 w4 b4 b3)
     go_roundw
     case rel =>
      refine ⟨k+1,by omega,by go_num,?_,b3 _ b1.o⟩;have hm:k<(zcc 0 l l).length:=by rw [zdh l 0 l (show l.length=l.length by first | rfl | exact a5.o).symm];exact hlt
      rw [List.take_succ_eq_append_getElem hm,zfp l 0 l (show l.length=l.length by first | rfl | exact a5.o).symm k hlt a7 hm];rw [HX.o];have e2:∀ (A:List Ex) (z:Ex),zdl (A++[z])=zdl A++z.cells:=fun A z=>by simp [zdl]
      rw [e2];simpa [Ex.cells,Ex.max2] using b4
     case measure=>simp [intOf];omega
  ·have HB:=zjy hb;clear hb
   have a3:=zjy a0;clear a0;go_wp2_with fail
   go_ret2;have a0:=a3.o;obtain rfl:k=l.length:=by omega
   have hm:(zcc 0 l l).length=l.length:=zdh l 0 l (show l.length=l.length by first | rfl | exact a5.o).symm;rw [List.take_of_length_le (by omega)] at a0;exact ⟨⟨_,rfl,by unfold ExRow;rw [hm];exact Row.owns a0 fun b hb _=>hb⟩,HB.o⟩
theorem enter_reg (ua va:Option Addr) (uc vc:Nat) (a l:List Ex) (w:World) (hu:ExRow w (All w) (.slice ua a.length uc) a) (hl:ExRow w (All w) (.slice va l.length vc) l) (hc:zcd a l=0) (na:a.length<=1000000) (nl:l.length<=1000000) (h0:a.length≠0) :
  Calls prog 26 #[.slice ua a.length uc,.slice va l.length vc] w (zi1 (zcc 0 l a) w):=by
 have KC:=fun w h1 h2=>zjy (zgu (.slice ua a.length uc) (.slice va l.length vc) a l w h1 h2 (by omega) nl)
 obtain ⟨b0,b7,b6⟩:=zh9 hc;rw [hc] at KC;have a4:=zjy b0;have e1a:a.length<=l.length:=by omega
 have e1b:l.length<=a.length:=by omega
 have l5:l.length<=5:=by omega
 have hz:((a.length:Int) == 0)=false:=by exact beq_eq_false_iff_ne.2 (by omega)
 clear b0 b7 b6 hc h0;have HU:=zjy hu;clear hu;have HL:=zjy hl;clear hl;have HB:=zjy (Below.refl w.heap.size w);go_enter func26,ntmps26
 go_wp2_with fail
 refine ((KC _ HU.o HL.o).o).mono ?_;rintro e w0 ⟨rfl,hb⟩;have hx:=zjy (by first | exact HB.o.trans (hb.mono HB.o.size) | exact (HB.o.alloc HB.o.size _).trans (hb.mono (by have:=HB.o.size;first | omega | (simp;done) | (simp;omega))) | exact ((HB.o.alloc HB.o.size _).alloc (by have:=HB.o.size;first | omega | (simp;done) | (simp;omega)) _).trans (hb.mono (by have:=HB.o.size;first | omega | (simp;done) | (simp;omega))):Below w.heap.size w w0);clear HB hb;have HB:=hx;clear hx;go_wp2_with fail
 go_loopw [7,25] (fun out i wr=>∃ k:Nat,k<=l.length/\i = .int .i64 k/\wr.ownsRow w.heap.size 61 5 out k (zdl ((zcc 0 l a).take k))/\Below w.heap.size w wr) (fun _ i _=>l.length - (intOf i).toNat)
 case atStart=>exact ⟨0,by omega,rfl,World.ownsRow_nil _ _ _ _,HB.o⟩
 case round =>
  obtain ⟨k,hk,rfl,a0,hb⟩:=hrel;clear HB;by_cases hlt:k<l.length
  ·have a6:k<a.length:=by omega
   have b8:(k:Int)<(a.length:Int):=by omega
   obtain ⟨bl,ol,rfl,a7,c0,c1,c2,c3,c4⟩:=HL.o.get k hlt;obtain ⟨bb,ob,rfl,a5,e0,e1,e2,e3,e4⟩:=HU.o.get k a6;generalize hy:a[k]=y at *;have HY:=zjy hy;clear hy;generalize hx:l[k]=x at *;have d0:=(hb.cell (p:=⟨bl,ol+k*5,none⟩) a7).trans c0;have d1:=(hb.cell (p:=⟨bl,ol+k*5+1,none⟩) a7).trans c1;have d2:=(hb.cell (p:=⟨bl,ol+k*5+2,none⟩) a7).trans c2;have d3:=(hb.cell (p:=⟨bl,ol+k*5+3,none⟩) a7).trans c3;have d4:=(hb.cell (p:=⟨bl,ol+k*5+4,none⟩) a7).trans c4;clear c0 c1 c2 c3 c4;have HX:=zjy hx;clear hx;have a2:=zjy a0;clear a0;have hz':=hb.size;have HB:=zjy hb;clear hb;go_wp2_with fail
   refine (zee x _).mono ?_;rintro e w1 ⟨rfl,hb⟩;have a1:=zjy ((HB.o.alloc HB.o.size _).trans (hb.mono (by have:=HB.o.size;simp;omega)));have a9:=zjy ((a2.o.alloc (.cells #[.int .i64 x.f,.int .i64 x.u,.int .i64 x.h,.int .i64 x.c,.int .i64 x.i] 61)).kept (row:=none) ⟨hb.os,hb.tape,hb.output,hb.size,fun k hk _=>hb.block k hk⟩ (by simp [Value.ownBlock];exact Classical.em _))
   clear hb a2 HB d0 d1 d2 d3 d4;have g0:=(a1.o.cell (p:=⟨bb,ob+k*5,none⟩) a5).trans e0;have g1:=(a1.o.cell (p:=⟨bb,ob+k*5+1,none⟩) a5).trans e1;have g2:=(a1.o.cell (p:=⟨bb,ob+k*5+2,none⟩) a5).trans e2;have g3:=(a1.o.cell (p:=⟨bb,ob+k*5+3,none⟩) a5).trans e3;have g4:=(a1.o.cell (p:=⟨bb,ob+k*5+4,none⟩) a5).trans e4;have zz:=a1.o.size;have hb1:bb<w1.heap.size:=Nat.lt_of_lt_of_le a5 zz;go_wp2_with fail
   refine (zee y _).mono ?_;rintro e w2 ⟨rfl,hb⟩;have N2:=zjy (zab (b:=w1.heap.size) hb (by simp) (zac rfl));have b3:=zjy ((a1.o.alloc a1.o.size _).trans (hb.mono (by have:=a1.o.size;simp;omega)));have a8:=zjy (fun k hk=>(a9.o.lt k hk).2)
   have c5:=zjy ((a9.o.alloc (.cells #[.int .i64 x.u,.int .i64 x.h,.int .i64 x.c,.int .i64 x.i] 99)).kept (row:=none) ⟨hb.os,hb.tape,hb.output,hb.size,fun k hk _=>hb.block k hk⟩ (by simp [Value.ownBlock];exact Classical.em _))
   clear hb a1 a9 g0 g1 g2 g3 g4;go_wp2_with fail
   have i0:=fun cs v hv w=>@idx4 0 cs v (by decide) (by decide) hv w
   have i1:=fun cs v hv w=>@idx4 1 cs v (by decide) (by decide) hv w
   have i2:=fun cs v hv w=>@idx4 2 cs v (by decide) (by decide) hv w
   have i3:=fun cs v hv w=>@idx4 3 cs v (by decide) (by decide) hv w
   obtain ⟨wu,rfl⟩:∃ wu:World,wu=wr:=⟨_,rfl⟩;go_loopw [37] (fun i wr=>∃ j:Nat,j<=4/\i = .int .i64 j/\wr.heap[w1.heap.size]?=some (.cells (nst x y j) 99 (0,0))/\w2.grownBy wr (some w1.heap.size)) (fun i _=>4 - (intOf i).toNat)
   case atStart=>exact ⟨0,by omega,rfl,N2.o,zdu _ _⟩
   case round =>
    obtain ⟨j,hj,rfl,hN,b1⟩:=hrel;have HN:=zjy hN;clear hN;have HG:=zjy b1;clear b1;have:j=0\/j=1\/j=2\/j=3\/j=4:=by omega
    rcases this with rfl | rfl | rfl | rfl | rfl
    all_goals
     simp only [nst] at HN;obtain ⟨n0,n1,n2,n3⟩:=zbp HN.o;obtain ⟨p0,p1,p2,p3⟩:=free4 HN.o;go_wp2_with fail
    ·go_roundw
     case rel=>exact ⟨1,by omega,rfl,(zad HN.o).trans (by simp [nst,mx_if]),zc0 HG.o⟩
     case measure=>simp [intOf]
    ·go_roundw
     case rel=>exact ⟨2,by omega,rfl,(zad HN.o).trans (by simp [nst,mx_if]),zc0 HG.o⟩
     case measure=>simp [intOf]
    ·go_roundw
     case rel=>exact ⟨3,by omega,rfl,(zad HN.o).trans (by simp [nst,mx_if]),zc0 HG.o⟩
     case measure=>simp [intOf]
    ·go_roundw
     case rel=>exact ⟨4,by omega,rfl,(zad HN.o).trans (by simp [nst,mx_if]),zc0 HG.o⟩
     case measure=>simp [intOf]
    ·refine (zhl _ _ _ _ _ _).mono ?_;rintro e w3 ⟨rfl,hb⟩
     have a3:=zcs HG.o (zg2 hb)
     have b9:=zjy (c5.o.kept a3 (by
      right;intro he;have:=a8.o _ he;omega))
     have b2:=zjy (b3.o.trans (show Below w.heap.size w2 w3 from ⟨a3.os,a3.tape,a3.output,a3.size,fun k hk=>a3.block k (by have:=b3.o.size;omega) (by simp;omega)⟩))
     clear hb a3 n0 n1 n2 n3 p0 p1 p2 p3 i0 i1 i2 i3 HN HG;go_wp2_with (at_builtin;refine zay rfl _ _ 46 rfl w.heap.size 61 5 40 _ underlying46 infoEx rfl (by decide) (by decide) _ _ _ rfl b9.o _ 1 rfl rfl (by simp [Value.oneCell']) (by omega) b2.o.size ?_;intro v4 w4 b5 b4)
     go_roundw
     case rel =>
      refine ⟨k+1,by omega,by go_num,?_,b4 _ b2.o⟩;have hm:k<(zcc 0 l a).length:=by rw [zdh l 0 a (show a.length=l.length by first | rfl | exact a4.o).symm];exact hlt
      rw [List.take_succ_eq_append_getElem hm,zfp l 0 a (show a.length=l.length by first | rfl | exact a4.o).symm k hlt a6 hm];rw [HX.o,HY.o];have e2:∀ (A:List Ex) (z:Ex),zdl (A++[z])=zdl A++z.cells:=fun A z=>by simp [zdl]
      rw [e2];simpa [Ex.cells,Ex.max2] using b5
     case measure=>simp [intOf];omega
  ·have HB:=zjy hb;clear hb
   have a2:=zjy a0;clear a0;go_wp2_with fail
   go_ret2;have a0:=a2.o;obtain rfl:k=l.length:=by omega
   have hm:(zcc 0 l a).length=l.length:=zdh l 0 a (show a.length=l.length by first | rfl | exact a4.o).symm;rw [List.take_of_length_le (by omega)] at a0;exact ⟨⟨_,rfl,by unfold ExRow;rw [hm];exact Row.owns a0 fun b hb _=>hb⟩,HB.o⟩
def EnterBad (c:Int) (w:World) (e:Ending) (w':World):Prop:=e = .returned (.tuple #[.slice none 0 0,.int .i64 c])/\Below w.heap.size w w'
theorem enter_bad (u v:Value) (a l:List Ex) (w:World) (hu:ExRow w (All w) u a) (hl:ExRow w (All w) v l) (hc:zdm a l≠0) (na:a.length<=1000000) (nl:l.length<=1000000) :
  Calls prog 26 #[u,v] w (EnterBad (zdm a l) w):=by
 obtain ⟨ua,uc,rfl⟩:=hu.val;obtain ⟨va,vc,rfl⟩:=hl.val;have HB:=zjy (Below.refl w.heap.size w);by_cases h0:a.length=0
 ·have KC:=fun w h1 h2=>zjy (zgu (.slice va l.length vc) (.slice va l.length vc) l l w h1 h2 nl nl)
  have e1:zdm a l=zcd l l:=by unfold zdm regE;rw [if_pos h0]
  rw [e1] at hc ⊢;have hz:((a.length:Int) == 0)=true:=by simp [h0]
  have HL:=zjy hl;clear hl hu h0 e1;generalize zcd l l=c at *;have a1:((c:Int) == 0)=false:=by simpa using hc
  have a0:((c:Int) != 0)=true:=by simpa using hc
  clear hc;go_enter func26,ntmps26
  go_wp2_with fail
  refine ((KC _ HL.o HL.o).o).mono ?_;rintro e w1 ⟨rfl,hb⟩;have hx:=zjy (by first | exact HB.o.trans (hb.mono HB.o.size) | exact (HB.o.alloc HB.o.size _).trans (hb.mono (by have:=HB.o.size;first | omega | (simp;done) | (simp;omega))) | exact ((HB.o.alloc HB.o.size _).alloc (by have:=HB.o.size;first | omega | (simp;done) | (simp;omega)) _).trans (hb.mono (by have:=HB.o.size;first | omega | (simp;done) | (simp;omega))):Below w.heap.size w w1);clear HB hb;have HB:=hx;clear hx;go_wp2_with fail
  go_ret2;exact ⟨rfl,HB.o⟩
 ·have KC:=fun w h1 h2=>zjy (zgu (.slice ua a.length uc) (.slice va l.length vc) a l w h1 h2 na nl)
  have e1:zdm a l=zcd a l:=by unfold zdm regE;rw [if_neg h0]
  rw [e1] at hc ⊢;have hz:((a.length:Int) == 0)=false:=beq_eq_false_iff_ne.2 (by omega);have HL:=zjy hl;have HU:=zjy hu;clear hl hu h0 e1;generalize zcd a l=c at *;have a1:((c:Int) == 0)=false:=by simpa using hc
  have a0:((c:Int) != 0)=true:=by simpa using hc
  clear hc;go_enter func26,ntmps26
  go_wp2_with fail
  refine ((KC _ HU.o HL.o).o).mono ?_;rintro e w1 ⟨rfl,hb⟩;have hx:=zjy (by first | exact HB.o.trans (hb.mono HB.o.size) | exact (HB.o.alloc HB.o.size _).trans (hb.mono (by have:=HB.o.size;first | omega | (simp;done) | (simp;omega))) | exact ((HB.o.alloc HB.o.size _).alloc (by have:=HB.o.size;first | omega | (simp;done) | (simp;omega)) _).trans (hb.mono (by have:=HB.o.size;first | omega | (simp;done) | (simp;omega))):Below w.heap.size w w1);clear HB hb;have HB:=hx;clear hx;go_wp2_with fail
  go_ret2;exact ⟨rfl,HB.o⟩
theorem enter_good (u v:Value) (a l:List Ex) (w:World) (hu:ExRow w (All w) u a) (hl:ExRow w (All w) v l) (hc:zdm a l=0) (na:a.length<=1000000) (nl:l.length<=1000000) :
  Calls prog 26 #[u,v] w (zi1 (zcc 0 l (regE a l)) w):=by
 obtain ⟨ua,uc,rfl⟩:=hu.val;obtain ⟨va,vc,rfl⟩:=hl.val;by_cases h0:a.length=0
 ·have e1:regE a l=l:=by unfold regE;rw [if_pos h0]
  unfold zdm at hc;rw [e1] at hc ⊢;exact enter_nil ua va uc vc a l w hu hl hc na nl h0
 ·have e1:regE a l=a:=by unfold regE;rw [if_neg h0]
  unfold zdm at hc;rw [e1] at hc ⊢;exact enter_reg ua va uc vc a l w hu hl hc na nl h0
end
section
open Go.RowKit
theorem guess_len1 (S:List Int) (D:List zc2) (i:Nat):(zcr S D i).length<=1:=by
 obtain ⟨⟨r,s⟩,hr⟩:∃ p,zbt S (S.getD i 0)=p:=⟨_,rfl⟩;have hd:(mapM D D).Pairwise fun p q=>p.1≠q.1:=by have:=map_dist D D.length xnl;rwa [List.take_length] at this
 cases s
 ·rw [zh4 S D i hr (.inl rfl)];simp
 ·rcases dist_one hd r with h | ⟨p,h⟩
  ·rw [zh4 S D i hr (.inr h)];simp
  ·rw [guess_yes S D i hr h];simp
theorem guess_range (S:List Int) (D:List zc2):∀ g∈zd7 S D,0<=g.1/\g.1<(S.length:Int):=by
 intro g hg;obtain ⟨i,hi,h⟩:=List.mem_flatMap.1 hg;have hi2:=List.mem_range.1 hi;unfold zcr at h;split at h
 ·obtain ⟨d,_,rfl⟩:=List.mem_map.1 h
  dsimp only;omega
 ·cases h
theorem guess_len (S:List Int) (D:List zc2):(zd7 S D).length<=S.length:=by
 unfold zd7
 have:∀ l:List Nat,(l.flatMap (zcr S D)).length<=l.length:=by
  intro l;induction l with
  | nil=>simp
  | cons i l ih=>rw [List.flatMap_cons,List.length_append,List.length_cons];have:=guess_len1 S D i;omega
 have h:=this (List.range S.length);rwa [List.length_range] at h
theorem cells5X {w:World} {b:Nat} {a0 a1 a2 a3 a4:Value} {t:TypeId} (h:w.heap[b]?=some (.cells #[a0,a1,a2,a3,a4] t (0,0))):w.cell? ⟨b,0,none⟩=some a0/\w.cell? ⟨b,1,none⟩=some a1/\w.cell? ⟨b,2,none⟩=some a2/\w.cell? ⟨b,3,none⟩=some a3/\w.cell? ⟨b,4,none⟩=some a4:=by
 refine ⟨?_,?_,?_,?_,?_⟩ <;> (rw [cell_of_row _ _ _ _ _ _ h];rfl)
theorem free5X {w:World} {b:Nat} {cs:Array Value} {t:TypeId} (h:w.heap[b]?=some (.cells cs t (0,0))):w.frozen? ⟨b,0,none⟩=false/\w.frozen? ⟨b,1,none⟩=false/\w.frozen? ⟨b,2,none⟩=false/\w.frozen? ⟨b,3,none⟩=false/\w.frozen? ⟨b,4,none⟩=false :=
 ⟨frozen_of_row _ _ _ _ _ h,frozen_of_row _ _ _ _ _ h,frozen_of_row _ _ _ _ _ h,frozen_of_row _ _ _ _ _ h,frozen_of_row _ _ _ _ _ h⟩
def zhs (f:Int) (C:List BitsL) (V:List (List UInt8)) (D:List zc2):Ex × Int :=
 if zbh D=0 then (⟨f,zdp (zd0 C),zhj (zd0 C) V (zd7 (zao (zd0 C)) D),zb6 C,zie 0 C⟩,0) else (⟨0,0,0,0,0⟩,zbh D)
theorem assess_any (S T U:Nat->Prop) (f:Int) (cv vv dv:Value) (C:List BitsL) (V:List (List UInt8)) (D:List zc2) (w:World) (hc:BitsVec w S cv C) (hv:Vec w T 1 za8 vv V) (hd:Vec w U 2 zd1 dv D)
  (hi:∀ b∈C,InI b.len) (hw:∀ b∈C,zap b=true->zgx b.words) (hn:C.length<=64) (hl:V.length=C.length) (hm:D.length<=1000000) :
  Calls prog 40 #[.int .i64 f,cv,vv,dv] w fun e w'=>e = .returned (.tuple #[(zhs f C V D).1.val,.int .i64 (zhs f C V D).2])/\Below w.heap.size w w':=by
 have b2:=groups_ok C;obtain ⟨ca,cc,rfl⟩:=hc.slice;obtain ⟨va,vc,rfl⟩:=hv.slice;obtain ⟨da,dc,rfl⟩:=hd.slice;have f9:=zjy hc;have f5:=zjy hv;have f8:=zjy hd;have HI:=zjy hi;have e0:=zjy hw;obtain ⟨n,b6⟩:=xex (C.length);obtain ⟨m,c7⟩:=xex (D.length);have c6:V.length=n:=by omega
 have a4:=zjy b6;have d0:=zjy c6;have e1:=zjy c7;obtain ⟨G,hG⟩:=xex (zd0 C);have hE:(zhs f C V D)=if zbh D=0 then (⟨f,zdp G,zhj G V (zd7 (zao G) D),zb6 C,zie 0 C⟩,0) else (⟨0,0,0,0,0⟩,zbh D):=by unfold zhs;rw [hG]
 rw [hG] at b2;have d9:=b2.few;have d4:=zjy b2;have b1:=fun (W':World) (hb:Below w.heap.size w W')=>groups_any S _ C W' (hc.below hb) hi (by omega)
 rw [hG] at b1;rw [b6,c6,c7];rw [b6] at b1 d9;have f6:=zjy b1;rw [hE];obtain ⟨c,c1⟩:=xex (zbh D);rw [c1];have g0:=zjy c1;have hn6:n<=64:=by omega
 have e9:m<=1000000:=by omega
 obtain ⟨gs,b9⟩:=xex (zd7 (zao G) D);rw [b9];have d3:=zjy b9;clear hc hv hd hi hw hG hE b2 b1 c1 b6 c7 c6 hl hn hm b9;obtain ⟨r1,h1⟩:=xex (zdp G);obtain ⟨r2,h2⟩:=xex (zhj G V gs);obtain ⟨r3,h3⟩:=xex (zb6 C);obtain ⟨r4,h4⟩:=xex (zie 0 C);rw [h1,h2,h3,h4];have H1:=zjy h1;have H2:=zjy h2;have H3:=zjy h3;have H4:=zjy h4;clear h1 h2 h3 h4;go_enter func40,ntmps40
 go_wp2_with fail
 refine zah (fun W0 hW0=>?_)
 have b0:=xal hW0
 have c9:W0.heap[w.heap.size]?=some (.cells #[.int .i64 0,.int .i64 0,.int .i64 0,.int .i64 0,.int .i64 0] 61 (0,0)):=by rw [hW0];exact zac rfl
 clear hW0;have HB0:=zjy b0;refine (f6.o W0 b0).mono ?_;rintro e w1 ⟨v1,rfl,c0,c5⟩;have d5:=zjy c0;have c8:=zab c5 (zaa c9) c9;have a1:=b0.trans (c5.mono b0.size);have g6:=zjy a1;obtain ⟨ga,gc,rfl⟩:=c0.slice;obtain ⟨q,hq⟩:=xex (G.length);have HQ:=zjy hq;have a3:=align_any _ U _ _ G D w1 d5.o (f8.o.below a1) (by omega) (by rw [e1.o];exact e9);unfold zgy at a3;rw [g0.o,d3.o] at a3;rw [hq] at a3 d9 d5 ⊢;rw [e1.o] at a3;have g7:=zjy a3;clear b0 c9 c0 c5 a1 hq a3;go_wp2_with fail
 refine g7.o.mono ?_;rintro e w2 ⟨v2,rfl,d7,b5⟩;have b8:=zjy d7;have d6:=xhh g6 b5;have a0:=zjy (zab b5 (zaa c8) c8);have e2:=zjy (d5.o.below b5);have e8:=zaa a0.o;clear c8 b5 d7;by_cases h0:c=0
 ·subst h0
  rw [if_pos rfl] at b8;obtain ⟨sa,sc,rfl⟩:=b8.o.slice;have a5:=hits_any _ _ T _ _ _ G gs V w2 e2.o b8.o (f5.o.below d6.o) (by rw [<- d3.o];intro g hg;have:=guess_range _ _ g hg;simpa [zao] using this) (by rw [d0.o,<- a4.o];exact d4.o.low) (by rw [<- d3.o];have h1:=guess_len (zao G) D;have h2:(zao G).length=G.length:=(by simp [zao]);have:=HQ.o;omega) (by intro g hg;have:=d4.o.mems g hg;have:=a4.o;omega) (by rw [d0.o];omega) (by rw [HQ.o];omega);rw [H2.o] at a5;obtain ⟨ng,d8⟩:=xex (gs.length);rw [d8] at a5 b8 ⊢;rw [d0.o] at a5;have d2:=zjy a5;clear a5 d8;go_wp2_with fail
  refine d2.o.mono ?_;rintro e w3 ⟨rfl,b4⟩;have f7:=zjy (e2.o.below b4);have g5:=xhh d6 b4;have a9:=zjy (zab b4 e8 a0.o);clear b4;have e7:=zaa a9.o;go_wp2_with fail
  refine (singular_any _ _ G w3 f7.o (by rw [HQ.o];omega) (by intro g hg;have:=d4.o.mems g hg;have:=a4.o;omega)).mono ?_;rw [H1.o];rintro e w4 ⟨rfl,c4⟩;have e3:=xhh g5 c4;have a8:=zjy (zab c4 e7 a9.o);have e6:=zaa a8.o;clear c4;go_wp2_with fail
  have b7:=f9.o.below e3.o;rw [a4.o] at b7;refine (always_any S _ C w4 b7 HI.o e0.o (by rw [a4.o];omega)).mono ?_;rw [H3.o];rintro e w5 ⟨rfl,b3⟩;have g4:=xhh e3 b3;have a7:=zjy (zab b3 e6 a8.o);have e5:=zaa a7.o;have g1:=zjy (b7.below b3);clear b3 b7;go_wp2_with fail
  refine (fill_any S _ C w5 g1.o HI.o e0.o (by rw [a4.o];omega)).mono ?_;rw [H4.o];rintro e w6 ⟨rfl,c3⟩;have g3:=xhh g4 c3;have a6:=zjy (zab c3 e5 a7.o);have e4:=zaa a6.o;clear c3;go_wp2_with fail
  refine (zhl _ _ _ _ _ _).mono ?_;rintro e w7 ⟨rfl,c2⟩;have g2:=xhh g3 c2;have a2:=zjy (zab c2 e4 a6.o);clear c2;obtain ⟨x0,x1,x2,x3,x4⟩:=cells5X a2.o;obtain ⟨f0,f1,f2,f3,f4⟩:=free5X a2.o;go_wp2_with fail
  refine zai rfl rfl (zad (zad (zad (zad (zad a2.o))))) underlying61 rfl (by kernel_rfl) ⟨?_,?_⟩
  ·rfl
  ·exact ((((g2.o.setCell (p:=⟨w.heap.size,0,none⟩) xnl _).setCell (p:=⟨w.heap.size,1,none⟩) xnl _).setCell (p:=⟨w.heap.size,2,none⟩) xnl _).setCell (p:=⟨w.heap.size,3,none⟩) xnl _).setCell (p:=⟨w.heap.size,4,none⟩) xnl _
 ·have d1:(c != 0)=true:=by simpa using h0
  have HE0:=zjy h0;obtain ⟨x0,x1,x2,x3,x4⟩:=cells5X a0.o;obtain ⟨f0,f1,f2,f3,f4⟩:=free5X a0.o;clear h0;go_wp2_with fail
  refine zai rfl rfl (zad (zad (zad (zad (zad a0.o))))) underlying61 rfl (by kernel_rfl) ⟨?_,?_⟩
  ·rfl
  ·exact ((((d6.o.setCell (p:=⟨w.heap.size,0,none⟩) xnl _).setCell (p:=⟨w.heap.size,1,none⟩) xnl _).setCell (p:=⟨w.heap.size,2,none⟩) xnl _).setCell (p:=⟨w.heap.size,3,none⟩) xnl _).setCell (p:=⟨w.heap.size,4,none⟩) xnl _
end
section
open Go.RowKit
theorem zfm {p:ParL} (h:zdr p=true):ParOk p:=by
 unfold zdr zda at h;simp only [Bool.and_eq_true,decide_eq_true_iff,beq_iff_eq] at h;exact ⟨by omega,by omega,by omega,by omega,by omega,by omega,by omega⟩
def zc1 (p:ParL):Int:=if zdr p=true then 0 else 10
theorem bcheck_any (p:ParL) (w:World) (hi:InI p.len) :
  Calls prog 63 #[.agg #[.int .i64 p.len,.int .i64 p.hashes,.int .i64 p.salt]] w fun e w'=>e = .returned (.int .i64 (zc1 p))/\Below w.heap.size w w':=by
 obtain ⟨E,hE⟩:=xex (zc1 p);rw [hE];have a0:zdr p=true->E=0:=fun h=>by rw [<- hE];unfold zc1;rw [if_pos h]
 have a1:zdr p=false->E=10:=fun h=>by rw [<- hE];unfold zc1;rw [h];rfl
 have HY:=zjy a0;have HN:=zjy a1;clear hE a0 a1;cases hr:zda p.len
 ·have hE:E=10:=HN.o (by unfold zdr;rw [hr];rfl)
  subst hE;have HR:=zjy hr;clear hr;go_enter func63,ntmps63
  go_wp2_with fail
  refine (bnew_no _ _ HR.o hi.1 hi.2).mono ?_;rintro e w1 ⟨rfl,hb⟩;have HB:=zjy (xbt hb);clear hb;go_wp2_with fail
  go_ret;first | exact ⟨rfl,HB.o.alloc HB.o.size _⟩ | exact ⟨rfl,HB.o⟩
 have HR:=zjy hr;clear hr;by_cases h1:p.hashes<1
 ·have d1:decide (p.hashes<(1:Int))=true:=by simpa using h1
  have hE:E=10:=HN.o (by rw [Bool.eq_false_iff];intro h;have q:=zfm h;have:=q.h1;have:=q.h2;have:=q.s1;have:=q.s2;omega);subst hE;clear h1;go_enter func63,ntmps63
  go_wp2_with fail
  refine (zg5 _ _ HR.o).mono ?_;rintro e w1 ⟨g,m,rfl,-,hg,-,hb⟩;have HB:=zjy (xbt hb);have HX:=zjy (xbn hb);clear hb hg;have z0:=zaa HX.o;obtain ⟨p0,p1,p2⟩:=zan HX.o;go_wp2_with fail
  go_ret;first | exact ⟨rfl,HB.o.alloc HB.o.size _⟩ | exact ⟨rfl,HB.o⟩
 have d1:decide (p.hashes<(1:Int))=false:=by simpa using h1
 by_cases h2:16<p.hashes
 ·have d2:decide ((16:Int)<p.hashes)=true:=by simpa using h2
  have hE:E=10:=HN.o (by rw [Bool.eq_false_iff];intro h;have q:=zfm h;have:=q.h1;have:=q.h2;have:=q.s1;have:=q.s2;omega);subst hE;clear h2;go_enter func63,ntmps63
  go_wp2_with fail
  refine (zg5 _ _ HR.o).mono ?_;rintro e w1 ⟨g,m,rfl,-,hg,-,hb⟩;have HB:=zjy (xbt hb);have HX:=zjy (xbn hb);clear hb hg;have z0:=zaa HX.o;obtain ⟨p0,p1,p2⟩:=zan HX.o;go_wp2_with fail
  go_ret;first | exact ⟨rfl,HB.o.alloc HB.o.size _⟩ | exact ⟨rfl,HB.o⟩
 have d2:decide ((16:Int)<p.hashes)=false:=by simpa using h2
 by_cases h3:p.salt < -1
 ·have d3:decide (p.salt<(-1:Int))=true:=by simpa using h3
  have hE:E=10:=HN.o (by rw [Bool.eq_false_iff];intro h;have q:=zfm h;have:=q.h1;have:=q.h2;have:=q.s1;have:=q.s2;omega);subst hE;clear h3;go_enter func63,ntmps63
  go_wp2_with fail
  refine (zg5 _ _ HR.o).mono ?_;rintro e w1 ⟨g,m,rfl,-,hg,-,hb⟩;have HB:=zjy (xbt hb);have HX:=zjy (xbn hb);clear hb hg;have z0:=zaa HX.o;obtain ⟨p0,p1,p2⟩:=zan HX.o;go_wp2_with fail
  go_ret;first | exact ⟨rfl,HB.o.alloc HB.o.size _⟩ | exact ⟨rfl,HB.o⟩
 have d3:decide (p.salt<(-1:Int))=false:=by simpa using h3
 by_cases h4:5<=p.salt
 ·have d4:decide ((5:Int)<=p.salt)=true:=by simpa using h4
  have hE:E=10:=HN.o (by rw [Bool.eq_false_iff];intro h;have q:=zfm h;have:=q.h1;have:=q.h2;have:=q.s1;have:=q.s2;omega);subst hE;clear h4;go_enter func63,ntmps63
  go_wp2_with fail
  refine (zg5 _ _ HR.o).mono ?_;rintro e w1 ⟨g,m,rfl,-,hg,-,hb⟩;have HB:=zjy (xbt hb);have HX:=zjy (xbn hb);clear hb hg;have z0:=zaa HX.o;obtain ⟨p0,p1,p2⟩:=zan HX.o;go_wp2_with fail
  go_ret;first | exact ⟨rfl,HB.o.alloc HB.o.size _⟩ | exact ⟨rfl,HB.o⟩
 have d4:decide ((5:Int)<=p.salt)=false:=by simpa using h4
 have hE:E=0:=HY.o (by
  unfold zdr;rw [HR.o];simp only [Bool.true_and,Bool.and_eq_true,decide_eq_true_eq]
  omega)
 subst hE;clear h1 h2 h3 h4;go_enter func63,ntmps63
 go_wp2_with fail
 refine (zg5 _ _ HR.o).mono ?_;rintro e w1 ⟨g,m,rfl,-,hg,-,hb⟩;have HB:=zjy (xbt hb);have HX:=zjy (xbn hb);clear hb hg;have z0:=zaa HX.o;obtain ⟨p0,p1,p2⟩:=zan HX.o;go_wp2_with fail
 go_ret;first | exact ⟨rfl,HB.o.alloc HB.o.size _⟩ | exact ⟨rfl,HB.o⟩
end
section
open Go.RowKit Cal
def zfi (n i:Nat) (p:ParL):Bool:=zdr p && decide (p.salt<n) && !(p.salt == i)
def parsA (n:Nat):Nat->List ParL->Int
 | _,[]=>0
 | i,p :: l=>if zfi n i p=true then parsA n (i+1) l else 10
def zcj (s:SchemaL) (P:List ParL):Int:=if za1 s=0 then (if P.length=s.fields.length then parsA P.length 0 P else 8) else za1 s
theorem parsA_ok (n:Nat):∀ (L:List ParL) (i:Nat),parsA n i L=0->∀ j,j<L.length->zfi n (i+j) (L.getD j default)=true
 | [],i,_,j,hj=>by simp at hj
 | p :: l,i,h,j,hj=>by
  unfold parsA at h;split at h
  ·next h1 =>
   cases j with
   | zero=>exact h1
   | succ j =>
    have h2:=parsA_ok n l (i+1) h j (by simpa using hj);rw [List.getD_cons_succ,show i+(j+1)=i+1+j by omega];exact h2
  ·exact absurd h (by decide)
theorem checkP_ok {s:SchemaL} {P:List ParL} (h:zcj s P=0):za1 s=0/\P.length=s.fields.length/\ParsOk P:=by
 unfold zcj at h;split at h
 ·next h1 =>
  split at h
  ·next h2 =>
   have h3:=parsA_ok P.length P 0 h
   refine ⟨h1,h2,fun i hi=>?_,fun i hi=>?_⟩
   ·have:=h3 i hi
    unfold zfi at this;simp only [Bool.and_eq_true] at this;exact zfm this.1.1
   ·have:=h3 i hi
    unfold zfi at this;simp only [Bool.and_eq_true,decide_eq_true_eq,Bool.not_eq_true',beq_eq_false_iff_ne,ne_eq,Nat.zero_add] at this;exact ⟨this.1.2,this.2⟩
  ·exact absurd h (by decide)
 ·next h1=>exact absurd h h1
theorem echeck_any (S:Nat->Prop) (vf vt vn vs:Value) (s:SchemaL) (P:List ParL) (pv:Value) (w:World) (h:SchemaAt w S vf vt vn vs s) (hp:Vec w zau 3 zcm pv P) (hi:∀ p∈P,InI p.len) (hn:P.length<=1000000) :
  Calls prog 37 #[.agg #[vf,vt,vn,vs],pv] w fun e w'=>e = .returned (.int .i64 (zcj s P))/\Below w.heap.size w w':=by
 obtain ⟨E,hE⟩:=xex (zcj s P);rw [hE];obtain ⟨a,cap,rfl⟩:=hp.slice;obtain ⟨af,cf,rfl⟩:=h.1.slice;have HP:=zjy hp;have HS:=zjy h.any;have HE:=zjy hE;have HI:=zjy hi;obtain ⟨c,hc⟩:=xex (za1 s);have HC:=zjy hc;obtain ⟨m,hm⟩:=xex (s.fields.length);rw [hm];have HM:=zjy hm;clear hp h hE hi hc hm;go_enter func37,ntmps37
 go_wp2_with fail
 refine zah (fun W hW=>?_)
 have a7:=xal hW
 have a9:W.heap[w.heap.size]?=some (.cells #[.slice af m cf,vt,vn,vs] 33 (0,0)):=by rw [hW];exact zac rfl
 clear hW;refine (zgl zau _ _ _ _ s _ (by have:=HS.o.below a7;rw [HM.o] at this;exact this)).mono ?_;rw [HC.o];rintro e w1 ⟨rfl,hb⟩;have b1:=zab hb (zaa a9) a9;have a0:=zjy (a7.trans (hb.mono a7.size));obtain ⟨s0,s1,s2,s3⟩:=zaq b1;clear hb a7 a9 b1;by_cases hc0:c=0;rotate_left
 ·have dz:(c != 0)=true:=by simpa using hc0
  have a1:E=c:=by rw [<- HE.o];unfold zcj;rw [if_neg (by rw [HC.o];exact hc0),HC.o]
  subst a1;clear HE HC hc0;go_wp2_with fail
  go_ret;exact ⟨rfl,a0.o⟩
 have dz:(c != 0)=false:=by simpa using hc0
 by_cases hl:P.length=m;rotate_left
 ·have b4:((P.length:Int) != (m:Int))=true:=by rw [bne_iff_ne];omega
  have a1:E=8:=by rw [<- HE.o];unfold zcj;rw [if_pos (by rw [HC.o];exact hc0),if_neg (by rw [HM.o];exact hl)]
  subst a1;clear HE HC hc0 hl;go_wp2_with fail
  go_ret;exact ⟨rfl,a0.o⟩
 have b4:((P.length:Int) != (m:Int))=false:=by rw [hl];simp
 have a4:=zjy (show parsA P.length 0 P=E by rw [<- HE.o];unfold zcj;rw [if_pos (by rw [HC.o];exact hc0),if_pos (by rw [HM.o];exact hl)]);clear HE HC hc0 hl;go_wp2_with fail
 clear s0 s1 s2 s3;go_loopw [6,7,21] (fun _ _ i wr=>∃ j:Nat,i = .int .i64 j/\j<=P.length/\Hid (parsA P.length j (P.drop j)=E)/\Below w1.heap.size w1 wr) (fun _ _ i _=>P.length - (intOf i).toNat)
 case atStart=>exact ⟨0,rfl,by omega,a4,Below.refl _ _⟩
 case round =>
  obtain ⟨j,rfl,hj,HT,hb⟩:=hrel;have a5:=zjy hb;clear hb;by_cases hlt:j<P.length
  ·have hq:decide ((j:Int)<P.length)=true:=by simp;omega
   have b3:=a0.o.trans (a5.o.mono a0.o.size);obtain ⟨p,a6⟩:=xex (P[j]);have hT:=HT.o;rw [List.drop_eq_getElem_cons hlt,a6,parsA] at hT;have a2:=zjy hT;have b2:InI p.len:=HI.o p (by rw [<- a6];exact List.getElem_mem _);obtain ⟨b,off,rfl,hb,hc⟩:=(HP.o.below b3).get j hlt;rw [a6] at hc;have c0:=hc 0 _ rfl;have c1:=hc 1 _ rfl;have c2:=hc 2 _ rfl;rw [Nat.add_zero] at c0;have b6:=zjy b2;clear hc a6 b3 hT HT b2;go_wp2_with fail
   refine (bcheck_any p _ b6.o).mono ?_;rintro e w2 ⟨rfl,b0⟩;have hx:=zab (b:=wr.heap.size) (o:=.cells (zcm p).toArray 87 (0,0)) b0 (by simp) (zac rfl);have a8:=zjy ((a5.o.alloc a5.o.size (.cells (zcm p).toArray 87)).trans (b0.mono (by have:=a5.o.size;simp;omega)));obtain ⟨x0,x1,x2⟩:=zan hx;have hxl:=zaa hx;clear b0 hx c0 c1 c2;by_cases hk:zdr p=true;rotate_left
   ·have a1:E=10:=by rw [<- a2.o,if_neg];unfold zfi;simp [hk]
    have a3:zc1 p=10:=by unfold zc1;rw [if_neg hk]
    rw [a3];have d1:((10:Int) != 0)=true:=rfl;subst a1;clear a2 a4 hk a3;go_wp2_with fail
    go_ret;exact ⟨rfl,a0.o.trans (a8.o.mono a0.o.size)⟩
   have a3:zc1 p=0:=by unfold zc1;rw [if_pos hk]
   rw [a3];have d1:((0:Int) != 0)=false:=rfl;by_cases h1:(P.length:Int)<=p.salt
   ·have e1:decide ((P.length:Int)<=p.salt)=true:=by simpa using h1
    have a1:E=10:=by rw [<- a2.o,if_neg];unfold zfi;rw [decide_eq_false (by omega)];simp
    subst a1;clear a2 a4 hk a3 h1;go_wp2_with fail
    go_ret;exact ⟨rfl,a0.o.trans (a8.o.mono a0.o.size)⟩
   have e1:decide ((P.length:Int)<=p.salt)=false:=by simpa using h1
   by_cases h2:p.salt=(j:Int)
   ·have e2:(p.salt == (j:Int))=true:=by simpa using h2
    have a1:E=10:=by rw [<- a2.o,if_neg];unfold zfi;rw [e2];simp
    subst a1;clear a2 a4 hk a3 h1 h2;go_wp2_with fail
    go_ret;exact ⟨rfl,a0.o.trans (a8.o.mono a0.o.size)⟩
   have e2:(p.salt == (j:Int))=false:=by simpa using h2
   have b5:=zjy (show parsA P.length (j+1) (P.drop (j+1))=E by
    rw [<- a2.o,if_pos];unfold zfi;rw [hk,e2,decide_eq_true (by omega)];rfl)
   clear a2 hk a3 h1 h2;go_wp2_with fail
   go_roundw
   case rel=>exact ⟨j+1,by go_num,by omega,b5,a8.o⟩
   case measure=>simp [intOf];omega
  ·have hq:decide ((j:Int)<P.length)=false:=by simp;omega
   obtain rfl:j=P.length:=by omega
   have a1:E=0:=by rw [<- HT.o,List.drop_length];rfl
   subst a1;clear a4 HT;go_wp2_with fail
   go_ret;exact ⟨rfl,a0.o.trans (a5.o.mono a0.o.size)⟩
end
section
open Go.RowKit
attribute [local go_sem] zag zaj za6
theorem own_new {α:Type} {w0 w:World} {e:TypeId} {enc:α->List Value} {L:List α} {g size n:Nat} (hb:Below w0.heap.size w0 w) (hg:w0.heap.size<=g) (h:w.heap[g]?=some (.cells (L.flatMap enc).toArray e (0,0))) (hl:(L.flatMap enc).length=L.length*size) (hm:L.length<=1000000) (hn:n=L.length) :
  OwnV e size enc w0 (.slice (some ⟨g,0,none⟩) n n) L w:=by
 subst hn;exact ⟨⟨hl,.inr ⟨g,L.length,_,rfl,hg,h,Nat.le_refl _,by unfold maxLen;omega,by simpa using hl,by rw [<- hl];show List.take _ (L.flatMap enc)=_;exact List.take_length⟩⟩,hb⟩
end
section
open Go.RowKit
structure RV where
 id:Int
 ver:Int
 a:Option Addr
 n:Nat
 c:Nat
 vals:List (List UInt8)
abbrev encRV (x:RV):List Value:=[.int .i64 x.id,.int .i64 x.ver,.slice x.a x.n x.c]
def pR (x:RV):RecL:=⟨x.id,x.ver,x.vals⟩
def RecsVec (w:World) (S:Nat->Prop) (v:Value) (R:List RecL):Prop:=∃ C:List RV,Vec w S 3 encRV v C/\C.map pR=R/\∀ x∈C,Vec w S 1 za8 (.slice x.a x.n x.c) x.vals
theorem RecsVec.move {w w':World} {S T:Nat->Prop} {v:Value} {R:List RecL} (h:RecsVec w S v R) (hz:w.heap.size<=w'.heap.size) (hS:∀ x,x<w.heap.size->S x->w'.heap[x]?=w.heap[x]?/\T x):RecsVec w' T v R:=by
 obtain ⟨C,h1,h2,h3⟩:=h;exact ⟨C,h1.move hz hS,h2,fun x hx=>(h3 x hx).move hz hS⟩
theorem RecsVec.below {w w':World} {S:Nat->Prop} {v:Value} {R:List RecL} (h:RecsVec w S v R) (hb:Below w.heap.size w w'):RecsVec w' S v R:=h.move hb.size fun x hx hs=>⟨hb.block x hx,hs⟩
theorem RecsVec.any {w:World} {S:Nat->Prop} {v:Value} {R:List RecL} (h:RecsVec w S v R):RecsVec w zau v R:=h.move xnl fun x hx hs=>⟨rfl,trivial⟩
theorem RecsVec.slice {w:World} {S:Nat->Prop} {v:Value} {R:List RecL} (h:RecsVec w S v R):∃ a cap,v = .slice a R.length cap:=by
 obtain ⟨C,h1,h2,_⟩:=h;obtain ⟨a,cap,rfl⟩:=h1.slice;exact ⟨a,cap,by rw [<- h2,List.length_map]⟩
theorem RecsVec.at {w:World} {S:Nat->Prop} {a:Option Addr} {n cap:Nat} {R:List RecL} (h:RecsVec w S (.slice a n cap) R) (j:Nat) (hj:j<R.length) :
  ∃ (b off:Nat) (id ver:Int) (aa:Option Addr) (nn cc:Nat) (vals:List (List UInt8)),a=some ⟨b,off,none⟩/\b<w.heap.size/\w.cell? ⟨b,off+j*3,none⟩=some (.int .i64 id)/\w.cell? ⟨b,off+j*3+1,none⟩=some (.int .i64 ver)/\w.cell? ⟨b,off+j*3+2,none⟩=some (.slice aa nn cc)/\R[j]=⟨id,ver,vals⟩/\Vec w S 1 za8 (.slice aa nn cc) vals:=by
 obtain ⟨C,h1,h2,h3⟩:=h;have a0:j<C.length:=by rw [<- h2,List.length_map] at hj;exact hj
 obtain ⟨b,off,e,hb,hc⟩:=h1.get j a0;refine ⟨b,off,C[j].id,C[j].ver,C[j].a,C[j].n,C[j].c,C[j].vals,e,hb,hc 0 _ rfl,hc 1 _ rfl,hc 2 _ rfl,?_,h3 _ (List.getElem_mem a0)⟩;subst h2;rw [List.getElem_map];rfl
def notB:Option Int->Int->Bool
 | some q,x=>decide (x<=q)
 | none,_=>false
def allA (s:SchemaL):Option Int->List RecL->Int
 | _,[]=>0
 | p,r :: R=>if zeu s r=0 then (if notB p r.id=true then 12 else allA s (some r.id) R) else zeu s r
theorem allA_cons (s:SchemaL) (p:Option Int) (r:RecL) (R:List RecL):allA s p (r :: R)=if zeu s r=0 then (if notB p r.id=true then 12 else allA s (some r.id) R) else zeu s r:=rfl
def allN (s:SchemaL) (R:List RecL):Int:=if za1 s=0 then (if R.length<=64 then allA s none R else 1) else za1 s
def zg7 (R:List RecL) (j:Nat):Option Int:=if j=0 then none else some (R.getD (j - 1) noRec).id
theorem allA_yes {s:SchemaL}:∀ (R:List RecL) (p:Option Int),(∀ r∈R,zeu s r=0)->(∀ q r,p=some q->R.head?=some r->q<r.id)->(∀ j (h:j+1<R.length),(R[j]'(by omega)).id<R[j+1].id)->allA s p R=0
 | [],p,_,_,_=>rfl
 | r :: R,p,h1,h2,h3=>by
  unfold allA;rw [if_pos (h1 r List.mem_cons_self),if_neg]
  ·refine allA_yes R (some r.id) (fun x hx=>h1 x (List.mem_cons_of_mem _ hx)) (fun q x hq hx=>?_) (fun j h=>h3 (j+1) (by simpa using h))
   cases hq;cases R with
   | nil=>cases hx
   | cons y R=>cases hx;exact h3 0 (by simp)
  ·cases p with
   | none=>simp [notB]
   | some q =>
    have:=h2 q r rfl rfl;simp [notB];omega
theorem rall_any (S T:Nat->Prop) (vf vt vn vs rv:Value) (s:SchemaL) (R:List RecL) (w:World) (h:SchemaAt w S vf vt vn vs s) (hr:RecsVec w T rv R) (hl:∀ r∈R,∀ x∈r.vals,x.length<=1000000) (hn:∀ r∈R,r.vals.length<=1000000) (hR:R.length<=1000000) :
  Calls prog 38 #[.agg #[vf,vt,vn,vs],rv] w fun e w'=>e = .returned (.int .i64 (allN s R))/\Below w.heap.size w w':=by
 obtain ⟨ar,cr,rfl⟩:=hr.slice;have HS:=zjy h;have HR:=zjy hr.any;have HL:=zjy hl;have HN:=zjy hn;obtain ⟨E,hE⟩:=xex (allN s R);rw [hE];have HE:=zjy hE;clear h hr hl hn hE;go_enter func38,ntmps38
 go_wp2_with fail
 refine zah (fun W hW=>?_)
 have a9:=xal hW
 have b5:W.heap[w.heap.size]?=some (.cells #[vf,vt,vn,vs] 33 (0,0)):=by rw [hW];exact zac rfl
 clear hW;refine (zgl S _ _ _ _ s W (HS.o.below a9)).mono ?_;rintro e w1 ⟨rfl,hb⟩;have d1:=zab hb (zaa b5) b5;have a0:=zjy (a9.trans (hb.mono a9.size));have c5:=zjy d1;clear hb a9 b5 d1;obtain ⟨c,hc⟩:=xex (za1 s);rw [hc];by_cases hc0:c=0
 ·subst hc0
  have dz:((0:Int) != 0)=false:=rfl;by_cases h64:R.length<=64
  ·have e4:decide ((64:Int)<(R.length:Int))=false:=by simp;omega
   have d4:=zjy (show allA s none R=E by rw [<- HE.o];unfold allN;rw [if_pos hc,if_pos h64]);clear hc HE;go_wp2_with fail
   go_loopw [19] (fun t wr=>∃ j:Nat,t = .int .i64 j/\j<=R.length/\Hid (allA s (zg7 R j) (R.drop j)=E)/\Below w1.heap.size w1 wr) (fun t _=>R.length - (intOf t).toNat)
   case atStart=>exact ⟨0,rfl,by omega,d4,Below.refl _ _⟩
   case round =>
    obtain ⟨j,rfl,hj,HT,a4⟩:=hrel;have e7:=zjy a4;by_cases hlt:j<R.length
    ·have hq:decide ((j:Int)<(R.length:Int))=true:=by simp;omega
     have hji:(j:Int)<(R.length:Int):=by omega
     have a3:=a0.o.trans (a4.mono a0.o.size);obtain ⟨b,off,id,b3,aa,nn,cc,vals,rfl,lb,c0,c1,c2,b8,c9⟩:=(HR.o.below a3).at j hlt;obtain ⟨s0,s1,s2,s3⟩:=zaq (zab a4 (zaa c5.o) c5.o);have lsr:w.heap.size<wr.heap.size:=by have:=zaa c5.o;have:=a4.size;omega
     have hT:=HT.o;rw [List.drop_eq_getElem_cons hlt,allA_cons] at hT;have a2:R[j]∈R:=List.getElem_mem hlt;have c7:=zjy (HL.o _ a2);have c6:=HN.o _ a2
     have HP:=zjy (show j≠0->∃ a1:Int,zg7 R j=some a1/\wr.cell? ⟨b,off+(j - 1)*3,none⟩=some (.int .i64 a1) from fun h0=>by
      obtain ⟨b',d6,d7,d5,aa',nn',cc',c8,he,_,d0,_,_,e0,_⟩:=(HR.o.below a3).at (j - 1) (by omega);cases he;refine ⟨d7,?_,d0⟩;unfold zg7
      rw [if_neg h0,zbb _ _ (by omega),e0])
     rw [b8] at hT c7 c6;have d3:=zjy b8;have HV:=zjy c9;have b1:=zjy hT;clear hT a2 b8 c9 HT a4;dsimp only at c7 c6;have d8:=HV.o.len.1;subst d8;obtain ⟨ci,a6⟩:=xex (zeu s ⟨id,b3,vals⟩);go_wp2_with fail
     refine zah (fun Wc hWc=>?_)
     have a7:=xal hWc
     have hy:Wc.heap[wr.heap.size]?=some (.cells #[.int .i64 id,.int .i64 b3,.slice aa vals.length cc] 68 (0,0)):=by rw [hWc];exact zac rfl
     clear hWc;refine (rchk_any S _ _ _ _ s ⟨id,b3,vals⟩ _ Wc ((HS.o.below a3).below a7) (HV.o.below a7) c7.o c6).mono ?_;rw [a6];rintro e w2 ⟨rfl,hb⟩;have b6:=a7.trans (hb.mono a7.size);have b4:=zab hb (zaa hy) hy;have b2:=xhh e7 b6;obtain ⟨r0,r1,r2⟩:=zan b4;have ly:=zaa b4;have e8:=zjy b6;clear hb a7 hy b4 b6 s0 s1 s2 s3 c0 c1 c2;by_cases hci0:ci=0
     ·subst hci0
      have b7:=b1.o;rw [a6,if_pos rfl] at b7;have b0:=zjy b7;clear b7 b1 a6;by_cases hj0:j=0
      ·have dj:decide (0<j)=false:=by simp;omega
       have e6:=zjy (show allA s (zg7 R (j+1)) (R.drop (j+1))=E by
        have:=b0.o;rw [show zg7 R j=none by unfold zg7;rw [if_pos hj0]] at this;rw [<- this];unfold zg7
        rw [if_neg (by omega),show j+1 - 1=j by omega,zbb _ _ hlt,d3.o];rfl)
       clear b0 HP;go_upto_region 12 with fail
       refine wp_region_noPanic ?_
       refine wp_region_held_drew (S:=(fun w'=>True)) (by kernel_rfl) (trivial) (fun hHeld=>?_)
       refine tH 0 ?_;refine tH 1 ?_;refine tH 2 ?_;refine sH 3 ?_;refine sH 4 ?_;refine sH 5 ?_;refine sH 6 ?_;refine sH 7 ?_;refine sH 8 ?_;refine sH 9 ?_;refine sH 10 ?_;refine sH 11 ?_;refine tH 12 ?_;refine wpAnyH_done (by kernel_rfl) ?_ _;refine NoPanic.normal ?_;go_wp2_with fail
       go_roundw
       case rel=>exact ⟨j+1,by go_num,by omega,e6,b2.o.drew⟩
       case measure=>simp [intOf];omega
      ·have dj:decide (0<j)=true:=by simp;omega
       obtain ⟨a1,d9,d2⟩:=HP.o hj0;have a5:=(e8.o.cell (p:=⟨b,off+(j - 1)*3,none⟩) lb).trans d2;have hj1:(j:Int) - 1<(R.length:Int):=by omega
       have hj2:(1:Int)<=(j:Int):=by omega
       have hj3:((j:Int) - 1).toNat=j - 1:=by omega
       have hwr:IntKind.i64.wrap ((j:Int) - 1)=(j:Int) - 1:=by rw [IntKind.wrap_i64];omega
       have a8:=b0.o;rw [d9] at a8;clear HP d2 b0;by_cases hle:id<=a1
       ·have c4:decide (id<=a1)=true:=by simpa using hle
        have b9:E=12:=by rw [<- a8];unfold notB;dsimp only;rw [if_pos c4]
        subst b9;clear a8;go_upto_region 12 with fail
        refine wp_region_noPanic ?_
        refine wp_region_held_drew (S:=(fun w'=>w'.cell? ⟨b,off+(j - 1)*3,none⟩=some (.int .i64 a1)/\w'.cell? ⟨wr.heap.size,0,none⟩=some (.int .i64 id))) (by kernel_rfl) (⟨a5,r0⟩) (fun hHeld=>?_)
        refine tH 0 ?_;refine tH 1 ?_;refine tH 2 ?_;refine tH 3 ?_;refine tH 4 ?_;refine tH 5 ?_;refine tH 6 ?_;refine tH 7 ?_;refine tH 8 ?_;refine tH 9 ?_;refine tH 10 ?_;refine tH 11 ?_;refine tH 12 ?_;refine wpAnyH_done (by kernel_rfl) ?_ _;refine NoPanic.normal ?_;go_wp2_with fail
        go_ret;exact ⟨rfl,a0.o.trans (b2.o.drew.mono a0.o.size)⟩
       ·have c4:decide (id<=a1)=false:=by simpa using hle
        have e5:=zjy (show allA s (zg7 R (j+1)) (R.drop (j+1))=E by
         rw [<- a8];unfold notB;dsimp only;rw [if_neg (by rw [c4];decide)];unfold zg7
         rw [if_neg (by omega),show j+1 - 1=j by omega,zbb _ _ hlt,d3.o])
        clear a8;go_upto_region 12 with fail
        refine wp_region_noPanic ?_
        refine wp_region_held_drew (S:=(fun w'=>w'.cell? ⟨b,off+(j - 1)*3,none⟩=some (.int .i64 a1)/\w'.cell? ⟨wr.heap.size,0,none⟩=some (.int .i64 id))) (by kernel_rfl) (⟨a5,r0⟩) (fun hHeld=>?_)
        refine tH 0 ?_;refine tH 1 ?_;refine tH 2 ?_;refine tH 3 ?_;refine tH 4 ?_;refine tH 5 ?_;refine tH 6 ?_;refine tH 7 ?_;refine tH 8 ?_;refine tH 9 ?_;refine tH 10 ?_;refine tH 11 ?_;refine tH 12 ?_;refine wpAnyH_done (by kernel_rfl) ?_ _;refine NoPanic.normal ?_;go_wp2_with fail
        go_roundw
        case rel=>exact ⟨j+1,by go_num,by omega,e5,b2.o.drew⟩
        case measure=>simp [intOf];omega
     ·have e1:E=ci:=by rw [<- b1.o,a6,if_neg hci0]
      have e3:(ci != (0:Int))=true:=by simpa using hci0
      subst e1;clear b1 a6 d4 HP;go_wp2_with fail
      go_ret;exact ⟨rfl,a0.o.trans (b2.o.mono a0.o.size)⟩
    ·have hq:decide ((j:Int)<(R.length:Int))=false:=by simp;omega
     obtain rfl:j=R.length:=by omega
     have e2:E=0:=by rw [<- HT.o,List.drop_length];rfl
     subst e2;go_wp2_with fail
     go_ret;exact ⟨rfl,a0.o.trans (a4.mono a0.o.size)⟩
  ·have e4:decide ((64:Int)<(R.length:Int))=true:=decide_eq_true (by omega)
   have c3:E=1:=by rw [<- HE.o];unfold allN;rw [if_pos hc,if_neg h64]
   subst c3;clear hc HE;go_wp2_with fail
   go_ret;exact ⟨rfl,a0.o⟩
 ·have e3:(c != (0:Int))=true:=by simpa using hc0
  have c3:E=c:=by rw [<- HE.o];unfold allN;rw [hc,if_neg hc0]
  subst c3;clear HE;go_wp2_with fail
  go_ret;exact ⟨rfl,a0.o⟩
end
section
open Go.RowKit Cal
attribute [local go_sem] zag zaj zba
theorem allA_ok {s:SchemaL}:∀ (R:List RecL) (p:Option Int),allA s p R=0->∀ r∈R,zeu s r=0
 | [],_,_,r,hr=>by simp at hr
 | x :: R,p,h,r,hr=>by
  unfold allA at h;split at h
  ·next h1 =>
   split at h
   ·cases h
   ·rcases List.mem_cons.1 hr with rfl | h2
    ·exact h1
    ·exact allA_ok R _ h r h2
  ·next h1=>exact absurd h h1
theorem zi0 {s:SchemaL} {R:List RecL} (h:allN s R=0):za1 s=0/\R.length<=64/\∀ r∈R,zdq s r=0:=by
 unfold allN at h;split at h
 ·next h0 =>
  split at h
  ·next h1=>exact ⟨h0,h1,fun r hr=>by unfold zdq;rw [if_pos h0];exact allA_ok R none h r hr⟩
  ·cases h
 ·next h0=>exact absurd h h0
structure RecsOk (s:SchemaL) (R:List RecL):Prop where
 all:allN s R=0
 short:∀ r∈R,∀ x∈r.vals,x.length<=64
theorem RecsOk.vals {s:SchemaL} {R:List RecL} (h:RecsOk s R) (hn:s.fields.length<=1000):∀ r∈R,r.vals.length<=1000000:=by
 intro r hr;have:=(zgt ((zi0 h.all).2.2 r hr)).2.2.1;omega
theorem check_short {s:SchemaL} {r:RecL} (h:zdq s r=0):∀ x∈r.vals,x.length<=64:=by
 obtain ⟨hc,_,hl,a4⟩:=zgt h;intro x hx;obtain ⟨j,hj,rfl⟩:=List.mem_iff_getElem.1 hx;by_cases h0:r.vals[j]=[]
 ·rw [h0];simp
 ·have a0:=zji s r.vals 0 a4 j hj
  rw [Nat.zero_add,zbb _ _ hj] at a0;have a2:zbq s (j:Int)=((s.fields.getD j default).2,0):=findN_in hc (by omega)
  have a1:ownK (s.fields.getD j default).2 s.rules r.vals[j]=true:=by
   unfold zat at a0;rw [a2,if_pos rfl,if_neg h0] at a0;exact a0
  have a3:=zei (s:=s) (f:=(j:Int)) (by rw [a2]);rw [a2] at a3;exact (zjf a1 a3).1
theorem infoR:(prog.info? 68).map (fun i=>(i.zero,i.size,i.bytes))=some (some (.agg #[.int .i64 0,.int .i64 0,.slice none 0 0]),3,40):=by kernel_rfl
theorem one_encRV:∀ x:RV,∀ u∈encRV x,u.oneCell'=true:=by intro x u hu;simp at hu;rcases hu with rfl | rfl | rfl <;> rfl
structure ROut (D:Nat) (W:World) (s:SchemaL) (v:Value) (C:List RV) (id:Int) (wr:World):Prop where
 own:OwnM D 68 3 encRV W v C wr
 vals:∀ x∈C,Vec wr (zg6 W.heap.size v) 1 za8 (.slice x.a x.n x.c) x.vals
 ok:∀ x∈C,zdq s (pR x)=0/\∀ y∈x.vals,y.length<=64
 asc:C.Pairwise fun x y=>x.id<y.id
 le:∀ x∈C,x.id<=id
 id0:0<=id
 id3:id<=3*C.length
theorem ROut.nil {D:Nat} {W wr:World} {s:SchemaL} (m:Moved D W wr):ROut D W s (.slice none 0 0) [] 0 wr:=⟨OwnM.nil m,fun x h=>by simp at h,fun x h=>by simp at h,List.Pairwise.nil,fun x h=>by simp at h,by omega,by simp⟩
theorem ROut.moved {D:Nat} {W wr wx:World} {s:SchemaL} {v:Value} {C:List RV} {id:Int} (h:ROut D W s v C id wr) (m:Moved D wr wx):ROut D W s v C id wx :=
 ⟨h.own.moved m,fun x hx=>(h.vals x hx).move m.size fun b hb hs=>⟨m.grown.block b hb (by have:=h.own.2.lt;have:=hs.1;simp;omega),hs⟩,h.ok,h.asc,h.le,h.id0,h.id3⟩
theorem recs_ok {s:SchemaL} {C:List RV} (h0:za1 s=0) (ok:∀ x∈C,zdq s (pR x)=0/\∀ y∈x.vals,y.length<=64) (asc:C.Pairwise fun x y=>x.id<y.id) (hl:C.length<=64):RecsOk s (C.map pR):=by
 refine ⟨?_,fun r hr=>?_⟩
 ·unfold allN
  rw [if_pos h0,if_pos (by simpa using hl)]
  refine allA_yes _ none (fun r hr=>?_) (fun q r hq=>by cases hq) (fun j hj=>?_)
  ·obtain ⟨x,hx,rfl⟩:=List.mem_map.1 hr
   have:=(ok x hx).1;unfold zdq at this;rwa [if_pos h0] at this
  ·rw [List.getElem_map,List.getElem_map]
   exact List.pairwise_iff_getElem.1 asc j (j+1) _ _ (by omega)
 ·obtain ⟨x,hx,rfl⟩:=List.mem_map.1 hr
  exact (ok x hx).2
def RecordsPost (D:Nat) (s:SchemaL) (most:Nat) (w:World) (e:Ending) (w':World):Prop:=∃ v R,e = .returned v/\RecsVec w' (fun b=>w.heap.size<=b) v R/\RecsOk s R/\R.length<=most/\(R.Pairwise fun x y=>x.id<y.id)/\Moved D w w'
def RecordsOwn (D:Nat) (s:SchemaL) (most:Nat) (w:World) (e:Ending) (w':World):Prop:=∃ (v:Value) (C:List RV) (W:World) (id:Int),e = .returned v/\ROut D W s v C id w'/\Moved D w W/\C.length<=most/\za1 s=0
theorem RecordsOwn.post {D:Nat} {s:SchemaL} {most:Nat} {w w':World} {e:Ending} (hm:most<=64) (h:RecordsOwn D s most w e w'):RecordsPost D s most w e w':=by
 obtain ⟨v,C,W,id,rfl,ho,mv,hl,hc⟩:=h;have hz:=mv.size
 refine ⟨_,C.map pR,rfl,⟨C,(OwnM.vec (size:=3) (enc:=encRV) (fun _=>rfl) ho.own).move xnl (fun x _ hx=>⟨rfl,by have a0:W.heap.size<=x:=hx;show w.heap.size<=x;omega⟩),rfl,fun y hy=>(ho.vals y hy).move xnl (fun x _ hx=>⟨rfl,by have a0:=hx.1;show w.heap.size<=x;omega⟩)⟩,recs_ok hc ho.ok ho.asc (by omega),by rw [List.length_map];omega,?_,mv.trans ho.own.2⟩
 exact List.pairwise_map.2 ho.asc
theorem records_dealO (D:Nat) (S:Nat->Prop) (vf vt vn vs:Value) (s:SchemaL) (most:Nat) (w:World) (h:DeckAt w D) (hs:SchemaAt w S vf vt vn vs s) (hS:∀ b,S b->b≠D) (hd:SchemaD s) (hm:most<=64) :
  Calls prog 11 #[.pointer (some ⟨D,0,none⟩),.agg #[vf,vt,vn,vs],.int .i64 most] w (RecordsOwn D s most w):=by
 have zD:=h.lt;have M0:=zjy (Moved.start h);clear h;have HS:=zjy hs;have c1:=zjy hd;have a6:=zjy hS;clear hs hd hS;go_enter func11,ntmps11
 go_wp2_with fail
 refine zah (fun W hW=>?_)
 have b7:Moved D w W:=by rw [hW];exact M0.o.alloc _
 have b9:=xal hW
 have b4:W.heap[w.heap.size]?=some (.cells #[vf,vt,vn,vs] 33 (0,0)):=by rw [hW];exact zac rfl
 have b3:W.heap.size=w.heap.size+1:=by rw [hW];simp
 clear hW;have HM:=zjy b7;have d6:=zjy b4;have d5:=zjy (HS.o.below b9);have HZW:=zjy b3;clear b7 b4 b9 b3;refine (zb5 D _ (most+1) HM.o.deck (by omega) (by omega)).mono ?_;rintro e w1 ⟨q,rfl,q0,q1,mv⟩;obtain ⟨q,rfl⟩:=Int.eq_ofNat_of_zero_le q0;have MW:=zjy mv;clear mv;go_wp2_with fail
 go_loopw [7,8,9] (fun v t i wr=>∃ (j:Nat) (id:Int) (C:List RV),t = .int .i64 id/\i = .int .i64 j/\C.length+j=q/\ROut D W s v C id wr) (fun _ _ i _=>(intOf i).toNat)
 case atStart=>exact ⟨q,0,[],rfl,rfl,by simp,ROut.nil MW.o⟩
 case round =>
  obtain ⟨j,id,C,rfl,rfl,hj,ho⟩:=hrel;have HO:=zjy ho;have HJ:=zjy hj;clear ho hj;have hzr:=HO.o.own.2.size;by_cases hlt:0<j
  ·have hq:decide ((0:Int)<(j:Int))=true:=by simp;omega
   have hCl:C.length<=63:=by have:=HJ.o;omega
   have hjq:j<=65:=by have:=HJ.o;omega
   have hi0:=HO.o.id0;have hi3:=HO.o.id3;go_wp2_with fail
   refine (zb5 D _ 3 HO.o.own.2.deck (by omega) (by omega)).mono ?_;rintro e w2 ⟨x,rfl,x0,x1,mv⟩;have a2:=zjy (HO.o.moved mv);have a9:=a2.o.own.2.blk (k:=w.heap.size) (by omega) d6.o;have d4:=zjy a9;obtain ⟨s0,s1,s2,s3⟩:=zaq a9;have c8:=zaa a9;clear mv HO a9;go_wp2_with fail
   refine (record_deal D S _ _ _ _ s (id+(1+x)) w2 a2.o.own.2.deck (d5.o.moved a6.o a2.o.own.2) a6.o c1.o (by omega) (by omega)).mono ?_;rintro e w3 ⟨_,r,rfl,⟨sv,rfl,hv⟩,hid,hck,hsh,mv⟩;obtain ⟨av,cv,rfl⟩:=hv.slice;have c7:=a2.o.own.2.size
   have a5:∀ x,w2.heap.size<=x->some x≠u7.ownBlock:=by
    intro x a8
    rcases a2.o.own.1.2 with ⟨h0,_⟩ | ⟨g,cap,cur,h0,hg,hh,_⟩
    ·rw [h0];simp [Value.ownBlock]
    ·rw [h0];have:=zaa hh;simp [Value.ownBlock];omega
   have a1:=zjy (a2.o.moved mv);have c3:=zjy (a1.o.own.moved ((Moved.start a1.o.own.2.deck).alloc (.cells #[.int .i64 r.id,.int .i64 r.ver,.slice av r.vals.length cv] 68)));have c2:=zjy (show zck (w3.alloc (.cells #[.int .i64 r.id,.int .i64 r.ver,.slice av r.vals.length cv] 68)) 3 (.slice (some ⟨w3.heap.size,0,none⟩) 1 1) [(⟨r.id,r.ver,av,r.vals.length,cv,r.vals⟩:RV)].length ([(⟨r.id,r.ver,av,r.vals.length,cv,r.vals⟩:RV)].flatMap encRV) from za0 (xs:=[(⟨r.id,r.ver,av,r.vals.length,cv,r.vals⟩:RV)].flatMap encRV) (fr:=(0,0)) (t:=68) (zac rfl) rfl);have c0:=zjy (hv.move (w':=w3) (S':=fun x=>some x≠u7.ownBlock/\W.heap.size<=x) xnl (fun x _ a8=>⟨rfl,a5 x a8,by have h':w2.heap.size<=x:=a8;omega⟩))
   have d3:=zjy (fun y (hy:y∈C)=>(a1.o.vals y hy).move (w':=w3) (S':=fun x=>some x≠u7.ownBlock/\W.heap.size<=x) xnl (fun x a8 hs=>⟨rfl,hs.2,hs.1⟩))
   have b8:C.length+[(⟨r.id,r.ver,av,r.vals.length,cv,r.vals⟩:RV)].length<=1000000000:=by simp only [List.length_cons,List.length_nil];omega
   have c6:=zjy (show zdq s r=0/\∀ y∈r.vals,y.length<=64 from ⟨hck,hsh⟩);have c5:=zjy hid;have b2:=zjy a1.o.asc;have c4:=zjy a1.o.le;have b1:=zjy a1.o.ok;obtain ⟨a7,a3,a0⟩:=r;dsimp only at c3 c2 c0 b8 c6 c5;clear hv hid hck hsh mv s0 s1 s2 s3 c8 d4 a2 a1;go_wp2_with (at_builtin;refine zgi rfl (.tmp 23) (.tmp 28) 37 rfl D 68 (.agg #[.int .i64 0,.int .i64 0,.slice none 0 0]) 3 40 encRV (fun _=>rfl) one_encRV underlying37 infoR rfl (by decide) (by decide) (wA:=W) (v:=u7) (A:=C) (B:=[⟨a7,a3,av,a0.length,cv,a0⟩]) rfl c3.o rfl c2.o b8 ?_;intro v4 w4 d0 d1 c9 b0)
   go_roundw
   case rel =>
    have b6:∀ b,b<w3.heap.size->(some b≠u7.ownBlock/\W.heap.size<=b)->w4.heap[b]?=w3.heap[b]?/\zg6 W.heap.size v4 b:=by
     intro b hb hS;obtain ⟨q1,q2⟩:=hS;refine ⟨?_,q2,?_⟩
     ·obtain ⟨ob,b5⟩:∃ ob,w3.heap[b]?=some ob:=⟨_,Array.getElem?_eq_getElem hb⟩
      rw [b5];exact d1 b ob q1 (zaf b5)
     ·rcases b0 with h1 | h1 | h1
      ·rw [h1];simp
      ·rw [<- h1];exact q1
      ·rw [h1];simp;omega
    have a4:w3.heap.size<=w4.heap.size:=by simp at c9;omega
    have d2:=c5.o
    refine ⟨j - 1,id+(1+x),C++[⟨a7,a3,av,a0.length,cv,a0⟩],rfl,by go_num,by rw [List.length_append];have:=HJ.o;show C.length+1+(j - 1)=q;omega,d0,fun y hy=>?_,fun y hy=>?_,?_,fun y hy=>?_,by omega,by rw [List.length_append];simp;omega⟩
    ·rcases List.mem_append.1 hy with h1 | h1
     ·exact (d3.o y h1).move a4 b6
     ·simp at h1;subst h1;exact c0.o.move a4 b6
    ·rcases List.mem_append.1 hy with h1 | h1
     ·exact b1.o y h1
     ·simp at h1;subst h1;exact c6.o
    ·refine List.pairwise_append.2 ⟨b2.o,List.pairwise_singleton _ _,fun y hy z hz=>?_⟩
     simp at hz;subst hz;have:=c4.o y hy;show y.id<a7;omega
    ·rcases List.mem_append.1 hy with h1 | h1
     ·have:=c4.o y h1;omega
     ·simp at h1;subst h1;show a7<=_;omega
   case measure=>simp [intOf];omega
  ·have hq:decide ((0:Int)<(j:Int))=false:=by simp;omega
   obtain rfl:j=0:=by omega
   go_wp2_with fail
   go_ret;exact ⟨_,C,W,id,rfl,HO.o,HM.o,by have:=HJ.o;omega,c1.o.check⟩
theorem records_deal (D:Nat) (S:Nat->Prop) (vf vt vn vs:Value) (s:SchemaL) (most:Nat) (w:World) (h:DeckAt w D) (hs:SchemaAt w S vf vt vn vs s) (hS:∀ b,S b->b≠D) (hd:SchemaD s) (hm:most<=64) :
  Calls prog 11 #[.pointer (some ⟨D,0,none⟩),.agg #[vf,vt,vn,vs],.int .i64 most] w (RecordsPost D s most w) :=
 (records_dealO D S vf vt vn vs s most w h hs hS hd hm).mono fun _ _ h=>h.post hm
end
section
open Go.RowKit Cal
attribute [local go_sem] zag zaj za6
def EncPair (p:EncL × Int) (w:World) (e:Ending) (w':World):Prop:=∃ v,e = .returned (.tuple #[v,.int .i64 p.2])/\EncVal w' (fun x=>w.heap.size<=x) v p.1/\Below w.heap.size w w'
theorem recIn_of {s:SchemaL} {P:List ParL} {r:RecL} (hp:zcj s P=0) (hr:zdq s r=0):RecIn s P r:=by
 obtain ⟨h1,h2,h3⟩:=checkP_ok hp;exact ⟨h1,hr,h2,h3,check_short hr⟩
end
section
open Go.RowKit Cal
attribute [local go_sem] zag zaj za6
structure EV where
 id:Int
 ver:Int
 a:Option Addr
 n:Nat
 c:Nat
abbrev zez (x:EV):List Value:=[.int .i64 x.id,.int .i64 x.ver,.slice x.a x.n x.c]
theorem one_encEV:∀ x:EV,∀ u∈zez x,u.oneCell'=true:=by
 intro x u hu;simp at hu;rcases hu with rfl | rfl | rfl <;> rfl
theorem infoEV:(prog.info? 59).map (fun i=>(i.zero,i.size,i.bytes))=some (some (.agg #[.int .i64 0,.int .i64 0,.slice none 0 0]),3,40):=by kernel_rfl
def EncsAll (w:World) (S:Nat->Prop) (C:List EV) (L:List EncL):Prop:=C.length=L.length/\∀ n (h1:n<C.length) (h2:n<L.length),EncVal w S (.agg (zez C[n]).toArray) L[n]
def EncsVec (w:World) (S:Nat->Prop) (v:Value) (L:List EncL):Prop:=∃ C,Vec w S 3 zez v C/\EncsAll w S C L
theorem EncVal.move {w w':World} {S T:Nat->Prop} {v:Value} {e:EncL} (h:EncVal w S v e) (hz:w.heap.size<=w'.heap.size) (hS:∀ x,x<w.heap.size->S x->w'.heap[x]?=w.heap[x]?/\T x):EncVal w' T v e:=by
 obtain ⟨s,rfl,h1⟩:=h;exact ⟨s,rfl,h1.move hz hS⟩
theorem EncVal.weaken {w:World} {S T:Nat->Prop} {v:Value} {e:EncL} (h:EncVal w S v e) (hS:∀ x,x<w.heap.size->S x->T x):EncVal w T v e:=h.move xnl fun x hx hs=>⟨rfl,hS x hx hs⟩
theorem EncVal.form {w:World} {S:Nat->Prop} {v:Value} {e:EncL} (h:EncVal w S v e):∃ c:EV,v = .agg (zez c).toArray/\EncVal w S (.agg (zez c).toArray) e:=by
 obtain ⟨s,rfl,h1⟩:=h;obtain ⟨a,a0,rfl⟩:=h1.slice;exact ⟨⟨e.id,e.ver,a,e.fields.length,a0⟩,rfl,_,rfl,h1⟩
theorem EncsAll.move {w w':World} {S T:Nat->Prop} {C:List EV} {L:List EncL} (h:EncsAll w S C L) (hz:w.heap.size<=w'.heap.size) (hS:∀ x,x<w.heap.size->S x->w'.heap[x]?=w.heap[x]?/\T x):EncsAll w' T C L :=
 ⟨h.1,fun n h1 h2=>(h.2 n h1 h2).move hz hS⟩
theorem EncsAll.snoc {w:World} {S:Nat->Prop} {C:List EV} {L:List EncL} {c:EV} {e:EncL} (h:EncsAll w S C L) (hc:EncVal w S (.agg (zez c).toArray) e):EncsAll w S (C++[c]) (L++[e]):=by
 refine ⟨by simp [h.1],fun n h1 h2=>?_⟩
 by_cases hn:n<C.length
 ·have a0:n<L.length:=by rw [<- h.1];exact hn
  rw [List.getElem_append_left hn,List.getElem_append_left a0];exact h.2 n hn a0
 ·have a0:¬ n<L.length:=by rw [<- h.1];exact hn
  rw [List.getElem_append_right (by omega),List.getElem_append_right (by omega)];have:n=C.length:=by simp at h1;omega
  subst this;simp only [Nat.sub_self,h.1];simpa using hc
theorem EncsVec.move {w w':World} {S T:Nat->Prop} {v:Value} {L:List EncL} (h:EncsVec w S v L) (hz:w.heap.size<=w'.heap.size) (hS:∀ x,x<w.heap.size->S x->w'.heap[x]?=w.heap[x]?/\T x):EncsVec w' T v L:=by
 obtain ⟨C,h1,h2⟩:=h;exact ⟨C,h1.move hz hS,h2.move hz hS⟩
theorem EncsVec.below {w w':World} {S:Nat->Prop} {v:Value} {L:List EncL} (h:EncsVec w S v L) (hb:Below w.heap.size w w'):EncsVec w' S v L:=h.move hb.size fun x hx hs=>⟨hb.block x hx,hs⟩
theorem EncsVec.slice {w:World} {S:Nat->Prop} {v:Value} {L:List EncL} (h:EncsVec w S v L):∃ a cap,v = .slice a L.length cap:=by
 obtain ⟨C,h1,h2⟩:=h;obtain ⟨a,cap,rfl⟩:=h1.slice;exact ⟨a,cap,by rw [h2.1]⟩
theorem EncsVec.nil (w:World) (S:Nat->Prop):EncsVec w S (.slice none 0 0) []:=⟨[],Vec.nil _ _ _ _,rfl,fun n h1 _=>by simp at h1⟩
theorem EncsVec.at {w:World} {S:Nat->Prop} {a:Option Addr} {n cap:Nat} {L:List EncL} (h:EncsVec w S (.slice a n cap) L) (j:Nat) (hj:j<L.length) :
  ∃ (b off:Nat) (c:EV),a=some ⟨b,off,none⟩/\b<w.heap.size/\(w.cell? ⟨b,off+j*3,none⟩=some (.int .i64 c.id)/\w.cell? ⟨b,off+j*3+1,none⟩=some (.int .i64 c.ver)/\w.cell? ⟨b,off+j*3+2,none⟩=some (.slice c.a c.n c.c))/\EncVal w S (.agg (zez c).toArray) L[j]:=by
 obtain ⟨C,hC,hA⟩:=h;have a0:j<C.length:=by rw [hA.1];exact hj
 obtain ⟨b,off,e,hb,hc⟩:=hC.get j a0;exact ⟨b,off,C[j],e,hb,⟨hc 0 _ rfl,hc 1 _ rfl,hc 2 _ rfl⟩,hA.2 j a0 hj⟩
theorem EncsAll.grow {w:World} {v v':Value} {C:List EV} {L:List EncL} {c:EV} {e:EncL} {wr wy w5:World} (h:EncsAll wr (zg6 w.heap.size v) C L) (hown:∀ g,v.ownBlock=some g->g<wr.heap.size) (hwz:w.heap.size<=wr.heap.size) (hb:Below wr.heap.size wr wy) (hc:EncVal wy (fun b=>wr.heap.size<=b) (.agg (zez c).toArray) e)
  (hk:∀ q o,some q≠v.ownBlock->wy.heap[q]?=some o->w5.heap[q]?=some o) (hz:wy.heap.size<=w5.heap.size) (hat:v'.ownBlock=none\/v.ownBlock=v'.ownBlock\/∃ g,v'.ownBlock=some g/\wy.heap.size<=g):EncsAll w5 (zg6 w.heap.size v') (C++[c]) (L++[e]):=by
 have hS:∀ b,b<wy.heap.size->zg6 w.heap.size v b->w5.heap[b]?=wy.heap[b]?/\zg6 w.heap.size v' b:=by
  intro b a1 hs;obtain ⟨ob,a0⟩:∃ ob,wy.heap[b]?=some ob:=⟨_,Array.getElem?_eq_getElem a1⟩;rw [a0];refine ⟨hk b ob hs.2 a0,hs.1,?_⟩
  rcases hat with h1 | h1 | ⟨g,h1,h2⟩
  ·rw [h1];simp
  ·rw [<- h1];exact hs.2
  ·rw [h1];intro e;cases e;omega
 have h1:EncsAll wy (zg6 w.heap.size v) C L:=h.move hb.size fun x hx hs=>⟨hb.block x hx,hs⟩
 have h2:EncVal wy (zg6 w.heap.size v) (.agg (zez c).toArray) e:=hc.weaken fun b _ a1=>⟨by omega,fun e=>by have:=hown b e.symm;omega⟩
 exact (h1.move hz hS).snoc (h2.move hz hS)
structure CapB (sb pb kb:Nat) (vf vt vn vs:Value) (s:SchemaL) (pa:Option Addr) (pc:Nat) (P:List ParL) (k:Int × Int) (w:World):Prop where
 bs:w.heap[sb]?=some (.cells #[vf,vt,vn,vs] 33 (0,0))
 bp:w.heap[pb]?=some (.cells #[.slice pa P.length pc] 35 (0,0))
 bk:w.heap[kb]?=some (.cells #[.int .u64 k.1,.int .u64 k.2] 41 (0,0))
 sch:SchemaAt w zau vf vt vn vs s
 par:Vec w zau 3 zcm (.slice pa P.length pc) P
theorem CapB.below {sb pb kb:Nat} {vf vt vn vs:Value} {s:SchemaL} {pa:Option Addr} {pc:Nat} {P:List ParL} {k:Int × Int} {w w':World} (h:CapB sb pb kb vf vt vn vs s pa pc P k w) (hb:Below w.heap.size w w'):CapB sb pb kb vf vt vn vs s pa pc P k w' :=
 ⟨zab hb (zaa h.bs) h.bs,zab hb (zaa h.bp) h.bp,zab hb (zaa h.bk) h.bk,h.sch.below hb,h.par.below hb⟩
theorem closB_yes (sb pb kb:Nat) (vf vt vn vs:Value) (s:SchemaL) (pa:Option Addr) (pc:Nat) (P:List ParL) (k:Int × Int) (i:Int) (r:RecL) (sv:Value) (w:World) (h:CapB sb pb kb vf vt vn vs s pa pc P k w) (hv:Vec w zau 1 za8 sv r.vals) (hf:EncIn s P r.vals) :
  Calls prog 66 #[.int .i64 i,.agg #[.int .i64 r.id,.int .i64 r.ver,sv],.pointer (some ⟨sb,0,none⟩),.pointer (some ⟨pb,0,none⟩),.pointer (some ⟨kb,0,none⟩)] w (EncPost (zi2 s P k r) w):=by
 obtain ⟨av,cv,rfl⟩:=hv.slice;obtain ⟨a4,a1,vals⟩:=r;dsimp only at hv hf ⊢;obtain ⟨X,hX⟩:=xex (zi2 s P k ⟨a4,a1,vals⟩);rw [hX];have HX:=zjy hX;have HC:=zjy h;have HV:=zjy hv;have HF:=zjy hf;obtain ⟨s0,s1,s2,s3⟩:=zaq h.bs;obtain ⟨k0,k1⟩:=zae h.bk;have p0:w.cell? ⟨pb,0,none⟩=some (.slice pa P.length pc):=by rw [cell_of_row _ _ _ _ _ _ h.bp];rfl
 have ls:=zaa h.bs;have lp:=zaa h.bp;have lk:=zaa h.bk;clear h hv hf hX;go_enter func66,ntmps66
 go_wp2_with fail
 refine zah (fun W hW=>?_)
 have a2:=xam hW
 have a5:W.heap[w.heap.size+1]?=some (.cells #[.int .i64 0,.int .i64 0,.slice none 0 0] 59 (0,0)):=by rw [hW];exact zac (by simp)
 clear hW;have a9:=zjy a2;have a3:=zjy a5;refine (encoded_yes zau _ _ _ _ s P _ k ⟨a4,a1,vals⟩ _ _ (HC.o.sch.below a2) (HC.o.par.below a2) (HV.o.below a2) HF.o).mono ?_;rw [HX.o];rintro e w1 ⟨_,rfl,a6,hb⟩;obtain ⟨⟨xi,xv,xa,xn,xc⟩,rfl,hev'⟩:=a6.form;have a7:=zjy hev';have a8:=xhh a9 hb;have a0:=zjy (zab hb (zaa a3.o) a3.o);have lz0:=zaa a3.o;obtain ⟨z0,z1,z2⟩:=zan a0.o;have lz:=zaa a0.o;have f0:=frozen_of_row _ _ 0 _ _ a0.o;have f1:=frozen_of_row _ _ 1 _ _ a0.o;have f2:=frozen_of_row _ _ 2 _ _ a0.o;clear hb a2 a5 a6 hev' s0 s1 s2 s3 k0 k1 p0;go_wp2_with fail
 refine zai rfl rfl (zad (i:=2) (v:=.slice xa xn xc) (zad (i:=1) (v:=.int .i64 xv) (zad (i:=0) (v:=.int .i64 xi) a0.o))) underlying59 rfl (by kernel_rfl)
  ⟨_,rfl,a7.o.move (by simp [World.setCell]) (fun b hb hs=>?_),((a8.o.setCell (p:=⟨w.heap.size+1,0,none⟩) (by simp) _).setCell (p:=⟨w.heap.size+1,1,none⟩) (by simp) _).setCell (p:=⟨w.heap.size+1,2,none⟩) (by simp) _⟩
 have hs':W.heap.size<=b:=hs;rw [heap_setCell_other _ _ _ _ (by show b≠w.heap.size+1;omega),heap_setCell_other _ _ _ _ (by show b≠w.heap.size+1;omega),heap_setCell_other _ _ _ _ (by show b≠w.heap.size+1;omega)];exact ⟨rfl,by omega⟩
def EachAllPost (L:List EncL) (w:World) (e:Ending) (w':World):Prop:=∃ v,e = .returned (.tuple #[v,.int .i64 0])/\EncsVec w' (fun x=>w.heap.size<=x) v L/\Below w.heap.size w w'
theorem eachE_yes (sb pb kb:Nat) (vf vt vn vs:Value) (s:SchemaL) (pa:Option Addr) (pc:Nat) (P:List ParL) (k:Int × Int) (rv:Value) (R:List RecL) (w:World) (h:CapB sb pb kb vf vt vn vs s pa pc P k w) (hr:RecsVec w zau rv R) (hf:∀ r∈R,EncIn s P r.vals) (hR:R.length<=1000000) :
  Calls prog 65 #[rv,.func (.func 66) #[] #[.pointer (some ⟨sb,0,none⟩),.pointer (some ⟨pb,0,none⟩),.pointer (some ⟨kb,0,none⟩)]] w (EachAllPost (R.map (zi2 s P k)) w):=by
 obtain ⟨a,cap,rfl⟩:=hr.slice;have HC:=zjy h;have HR:=zjy hr;have HF:=zjy hf;clear h hr hf;go_enter func65,ntmps65
 go_wp2_with fail
 go_loopw [6,13] (fun v i wr=>∃ (j:Nat) (C:List EV),i = .int .i64 j/\j<=R.length/\C.length=j/\OwnV 59 3 zez w v C wr/\EncsAll wr (zg6 w.heap.size v) C ((R.take j).map (zi2 s P k))) (fun _ i _=>R.length - (intOf i).toNat)
 case atStart=>exact ⟨0,[],rfl,by omega,rfl,OwnV.start _ _ _ _,rfl,fun n h1 _=>by simp at h1⟩
 case round =>
  obtain ⟨j,C,rfl,hj,a9,ho,b2⟩:=hrel;have HO:=zjy ho;have b0:=zjy b2;have b5:=zjy a9;obtain ⟨va,vc,ev⟩:=zar ho.1;rw [a9] at ev;subst ev;clear ho b2 a9;obtain ⟨WR,c5⟩:∃ u,u=wr:=⟨_,rfl⟩;subst c5;by_cases hlt:j<R.length
  ·have hq:decide ((j:Int)<R.length)=true:=by simp;omega
   have hji:(j:Int)<(R.length:Int):=by omega
   obtain ⟨b,off,id,a0,aa,nn,cc,vals,rfl,lb,c0,c1,c2,a8,a4⟩:=(HR.o.below HO.o.2).at j hlt;have b8:=a4.len.1;subst b8;have a6:=HF.o _ (List.getElem_mem hlt);rw [a8] at a6;have a5:(R.take (j+1)).map (zi2 s P k)=(R.take j).map (zi2 s P k)++[zi2 s P k ⟨id,a0,vals⟩]:=by rw [List.take_succ_eq_append_getElem hlt,a8];simp
   obtain ⟨X,hX⟩:=xex (zi2 s P k ⟨id,a0,vals⟩);rw [hX] at a5;have d1:=zjy a6;have c7:=zjy a5;have c6:=zjy a4;have HX:=zjy hX;clear a6 a5 a4 a8 hX;go_wp2_with fail
   have a2:Below WR.heap.size WR (WR.alloc (.cells #[.int .i64 id,.int .i64 a0,.slice aa vals.length cc] 68)):=(Below.refl _ _).alloc xnl _;refine (closB_yes sb pb kb vf vt vn vs s pa pc P k (j:Int) ⟨id,a0,vals⟩ _ _ (HC.o.below (HO.o.2.trans (a2.mono HO.o.2.size))) (c6.o.below a2) d1.o).mono ?_;rw [HX.o];rintro e w1 ⟨_,rfl,b1,b4⟩;obtain ⟨⟨xi,xv,xa,xn,xc⟩,rfl,hev'⟩:=b1.form;have a3:Below WR.heap.size WR w1:=a2.trans (b4.mono a2.size);have a1:=hev'.weaken (T:=fun b=>WR.heap.size<=b) (fun b _ hb=>by have c4:(WR.alloc (.cells #[.int .i64 id,.int .i64 a0,.slice aa vals.length cc] 68)).heap.size<=b:=hb;simp at c4;omega)
   have b3:Below WR.heap.size WR ((w1.alloc (.cells (zez ⟨xi,xv,xa,xn,xc⟩).toArray 59)).alloc (.cells (zez ⟨xi,xv,xa,xn,xc⟩).toArray 59)):=(a3.alloc a3.size _).alloc (by have:=a3.size;simp;omega) _;have c9:=zjy (HO.o.below b3);have d2:=zjy a3;have d0:=zjy a1;have c8:=zjy (show zck ((w1.alloc (.cells (zez ⟨xi,xv,xa,xn,xc⟩).toArray 59)).alloc (.cells (zez ⟨xi,xv,xa,xn,xc⟩).toArray 59)) 3 (.slice (some ⟨w1.heap.size+1,0,none⟩) 1 1) [(⟨xi,xv,xa,xn,xc⟩:EV)].length ([(⟨xi,xv,xa,xn,xc⟩:EV)].flatMap zez) from za0 (xs:=[(⟨xi,xv,xa,xn,xc⟩:EV)].flatMap zez) (fr:=(0,0)) (t:=59) (zac (by simp)) rfl);have c3:C.length+[(⟨xi,xv,xa,xn,xc⟩:EV)].length<=1000000000:=by rw [b5.o];simp only [List.length_cons,List.length_nil];omega
   clear b1 hev' a1 b4 a3 b3 a2 c0 c1 c2;go_wp2_with (at_builtin;refine zc8 rfl (.tmp 28) (.tmp 30) 50 rfl 59 (.agg #[.int .i64 0,.int .i64 0,.slice none 0 0]) 3 40 zez (fun _=>rfl) one_encEV underlying50 infoEV rfl (by decide) (by decide) (w0:=w) (v:=.slice va j vc) (A:=C) (B:=[⟨xi,xv,xa,xn,xc⟩]) rfl c9.o rfl c8.o c3 ?_;intro v2 w2 b7 b9 b6 a7)
   go_roundw
   case rel =>
    refine ⟨j+1,C++[⟨xi,xv,xa,xn,xc⟩],by go_num,by omega,by rw [List.length_append,b5.o];rfl,b7,?_⟩;rw [c7.o]
    exact b0.o.grow (fun g e=>(World.ownsRow.lt HO.o.1 g e).2) HO.o.2.size d2.o d0.o (fun q o h1 h2=>b9 q o h1 (zaf (zaf h2))) (Nat.le_trans (by simp;omega) b6) (by
     rcases a7 with h1 | h1 | h1
     ·exact .inl h1
     ·exact .inr (.inl h1)
     ·exact .inr (.inr ⟨_,h1,by simp;omega⟩))
   case measure=>simp [intOf];omega
  ·have hq:decide ((j:Int)<R.length)=false:=by simp;omega
   obtain rfl:j=R.length:=by omega
   rw [List.take_of_length_le xnl] at b0;go_wp2_with fail
   go_ret2;exact ⟨_,rfl,⟨C,OwnV.vec (size:=3) (enc:=zez) (fun _=>rfl) HO.o,b0.o.move xnl fun x _ hx=>⟨rfl,hx.1⟩⟩,HO.o.2⟩
end
section
open Go.RowKit Cal
def zjv (s:SchemaL) (P:List ParL) (k:Int × Int) (R:List RecL):List EncL × Int :=
 if zcj s P=0 then (if allN s R=0 then (R.map (zi2 s P k),0) else ([],allN s R)) else ([],zcj s P)
def AllEPost (p:List EncL × Int) (w:World) (e:Ending) (w':World):Prop:=∃ v,e = .returned (.tuple #[v,.int .i64 p.2])/\EncsVec w' (fun x=>w.heap.size<=x) v p.1/\Below w.heap.size w w'
theorem encIn_all {s:SchemaL} {P:List ParL} {R:List RecL} (hc:zcj s P=0) (hR:allN s R=0):∀ r∈R,EncIn s P r.vals:=fun r hr=>(recIn_of hc ((zi0 hR).2.2 r hr)).enc
theorem eall_any (S T:Nat->Prop) (vf vt vn vs rv:Value) (s:SchemaL) (P:List ParL) (pv:Value) (k:Int × Int) (R:List RecL) (w:World) (h:SchemaAt w S vf vt vn vs s) (hp:Vec w zau 3 zcm pv P) (hr:RecsVec w T rv R) (hi:∀ p∈P,InI p.len) (hn:P.length<=1000000)
  (hs:∀ r∈R,∀ x∈r.vals,x.length<=1000000) (hm:∀ r∈R,r.vals.length<=1000000) (hR:R.length<=1000000) :
  Calls prog 39 #[.agg #[vf,vt,vn,vs],pv,.agg #[.int .u64 k.1,.int .u64 k.2],rv] w (AllEPost (zjv s P k R) w):=by
 obtain ⟨a,a9,rfl⟩:=hp.slice;obtain ⟨ar,cr,rfl⟩:=hr.slice;have HS:=zjy h.any;have HP:=zjy hp;have HR:=zjy hr.any;have HI:=zjy hi;have b5:=zjy hs;have HM:=zjy hm;obtain ⟨ce,b1⟩:=xex (zcj s P);obtain ⟨ca,b2⟩:=xex (allN s R);obtain ⟨Z,hZ⟩:=xex (zjv s P k R);rw [hZ];have a1:=zjy b1;have a2:=zjy b2;have HZ:=zjy hZ;clear h hp hr hi hs hm b1 b2 hZ;go_enter func39,ntmps39
 go_wp2_with fail
 refine zah (fun W hW=>?_)
 have a0:Below w.heap.size w W:=by rw [hW];exact (((Below.refl w.heap.size w).alloc xnl _).alloc (by simp) _).alloc (by simp;omega) _
 have a6:W.heap[w.heap.size]?=some (.cells #[vf,vt,vn,vs] 33 (0,0)):=by rw [hW];exact zaf (zaf (zac rfl))
 have a7:W.heap[w.heap.size+1]?=some (.cells #[.slice a P.length a9] 35 (0,0)):=by rw [hW];exact zaf (zac (by simp))
 have a8:W.heap[w.heap.size+2]?=some (.cells #[.int .u64 k.1,.int .u64 k.2] 41 (0,0)):=by rw [hW];exact zac (by simp)
 clear hW;refine (echeck_any zau _ _ _ _ s P _ _ (HS.o.below a0) (HP.o.below a0) HI.o hn).mono ?_;rw [a1.o];rintro e w1 ⟨rfl,hb⟩;have a5:=zjy (a0.trans (hb.mono a0.size));have b0:=zjy (show CapB w.heap.size (w.heap.size+1) (w.heap.size+2) vf vt vn vs s a a9 P k w1 from ⟨zab hb (zaa a6) a6,zab hb (zaa a7) a7,zab hb (zaa a8) a8,HS.o.below (a0.trans (hb.mono a0.size)),HP.o.below (a0.trans (hb.mono a0.size))⟩);clear hb a0 a6 a7 a8;obtain ⟨s0,s1,s2,s3⟩:=zaq b0.o.bs;have ls:=zaa b0.o.bs;by_cases hc0:ce=0;rotate_left
 ·have dz:(ce != 0)=true:=by simpa using hc0
  have a3:Z=([],ce):=by rw [<- HZ.o];unfold zjv;rw [if_neg (by rw [a1.o];exact hc0),a1.o]
  subst a3;clear a1 a2 HZ hc0;go_wp2_with fail
  go_ret2;exact ⟨_,rfl,EncsVec.nil _ _,a5.o⟩
 have dz:(ce != 0)=false:=by simpa using hc0
 go_wp2_with fail
 refine (rall_any zau zau _ _ _ _ _ s R _ (HS.o.below a5.o) (HR.o.below a5.o) b5.o HM.o hR).mono ?_;rw [a2.o];rintro e w2 ⟨rfl,hb⟩;have a4:=xhh a5 hb;have b4:=zjy (b0.o.below hb);clear hb s0 s1 s2 s3 ls;by_cases ha0:ca=0;rotate_left
 ·have da:(ca != 0)=true:=by simpa using ha0
  have a3:Z=([],ca):=by rw [<- HZ.o];unfold zjv;rw [if_pos (by rw [a1.o];exact hc0),if_neg (by rw [a2.o];exact ha0),a2.o]
  subst a3;clear a1 a2 HZ hc0 ha0;go_wp2_with fail
  go_ret2;exact ⟨_,rfl,EncsVec.nil _ _,a4.o⟩
 have da:(ca != 0)=false:=by simpa using ha0
 obtain ⟨L,hL⟩:=xex (R.map (zi2 s P k));have a3:Z=(L,0):=by rw [<- HZ.o,<- hL];unfold zjv;rw [if_pos (by rw [a1.o];exact hc0),if_pos (by rw [a2.o];exact ha0)]
 have b6:=zjy (encIn_all (a1.o.trans hc0) (a2.o.trans ha0));have b3:=zjy a3;have HL:=zjy hL;clear a1 a2 HZ hc0 ha0 a3 hL;go_wp2_with fail
 refine (eachE_yes _ _ _ vf vt vn vs s a a9 P k _ R _ b4.o (HR.o.below a4.o) b6.o hR).mono ?_;rw [HL.o];rintro e w3 ⟨v,rfl,hv,hb⟩;obtain ⟨va,vc,rfl⟩:=hv.slice;have HV:=zjy (hv.move (T:=fun x=>w.heap.size<=x) xnl fun x _ hx=>⟨rfl,by have hx':w2.heap.size<=x:=hx;have:=a4.o.size;omega⟩)
 have b7:=xhh a4 hb;clear hv hb;go_wp2_with fail
 go_ret2;rw [b3.o];exact ⟨_,rfl,HV.o,b7.o⟩
end
section
open Go.RowKit
theorem zg4 (s:SchemaL) (P:List ParL) (k:Int × Int) (A:List (List UInt8)) (n:Nat):(zc6 s P k A n).length=n:=by simp [zc6]
theorem digs_one (i:Nat) (h:i<10):Lib.decDigits i=[UInt8.ofNat (48+i)]:=by
 have:∀ j:Fin 10,Lib.decDigits j=[UInt8.ofNat (48+j.val)]:=by decide +kernel
 exact this ⟨i,h⟩
end
section
theorem zjr {n k:Nat} (hk:1<=k) (h:n<10 ^ k):(Lib.decDigits n).length<=k:=by
 rw [Lib.decDigits_length];induction k generalizing n with
 | zero=>omega
 | succ k ih =>
  by_cases hn:n<10
  ·rw [Lib.nDigits_small hn];omega
  ·rw [Lib.nDigits_big hn]
   have a0:1<=k:=by
    rcases Nat.eq_zero_or_pos k with h0 | h0
    ·subst h0;simp at h;omega
    ·exact h0
   have:=ih (n:=n / 10) a0 (by rw [Nat.pow_succ] at h;omega);omega
end
section
open Go.RowKit
end
section
def BitsIn (b:BitsL):Prop:=b=zch\/(zap b=true/\∀ w∈b.words,0<=w/\w<18446744073709551616)
theorem zh1:zap zch=false:=by decide
end
section
open Go.RowKit
attribute [local go_sem] zag zaj za6
def WordsOk (b:BitsL):Prop:=∀ x∈b.words,0<=x/\x<18446744073709551616
def HexIn (b:BitsL):Prop:=InI b.len/\(zap b=true->WordsOk b)
end
section
def WsOk (ws:List Int):Prop:=∀ x∈ws,0<=x/\x<18446744073709551616
theorem orBit_ok {ws:List Int} (h:WsOk ws) (i:Int):WsOk (zf6 ws i):=by
 intro x hx;unfold zf6 at hx
 rcases List.mem_or_eq_of_mem_set hx with h1 | h1
 ·exact h x h1
 ·rw [h1];exact bits_range _ _ _
theorem orBits_ok (l:List Int):∀ ws:List Int,WsOk ws->WsOk (l.foldl zf6 ws):=by
 induction l with
 | nil=>intro ws h;exact h
 | cons x l ih=>intro ws h;rw [List.foldl_cons];exact ih _ (orBit_ok h x)
theorem orGrams_ok (p:ParL) (k:Int × Int) (G:List (List UInt8)):∀ ws:List Int,WsOk ws->WsOk (G.foldl (zeo p k) ws):=by
 induction G with
 | nil=>intro ws h;exact h
 | cons x l ih=>intro ws h;rw [List.foldl_cons];exact ih _ (orBits_ok _ _ h)
theorem zeroW_ok (n:Int):WsOk (ze6 n):=by
 intro x hx;unfold ze6 at hx;rw [List.eq_of_mem_replicate hx];decide
theorem fieldN_in {s:SchemaL} {p:ParL} {k:Int × Int} {A:List (List UInt8)} {i:Nat} (hp:ParOk p) (hn:zat s i (A.getD i [])=true) (hf:(zbq s i).2=0):BitsIn (zff s p k A i):=by
 unfold zff;split
 ·exact .inl rfl
 ·refine .inr ?_
  have a0:=(grams_fit hn hf).2.1;unfold zhq;rw [if_pos hp.bloom,if_pos a0];refine ⟨?_,orGrams_ok p _ _ _ (zeroW_ok _)⟩;unfold zap;dsimp only;rw [hp.right,Bool.true_and,beq_iff_eq,orGrams_len];unfold ze6;rw [List.length_replicate];have:=hp.len1;omega
theorem fieldsN_in {s:SchemaL} {P:List ParL} {k:Int × Int} {r:RecL} (h:RecIn s P r):∀ b∈zc6 s P k r.vals P.length,BitsIn b:=by
 intro b hb;unfold zc6 at hb;obtain ⟨i,hi,rfl⟩:=List.mem_map.1 hb;rw [List.mem_range] at hi;obtain ⟨h0,_,hl,a0⟩:=zgt h.rec_;have a1:i<r.vals.length:=by rw [hl,<- h.len];exact hi
 have hn:=zji s r.vals 0 a0 i a1;rw [Nat.zero_add] at hn;exact fieldN_in (h.pars.1 i hi) hn (by rw [findN_in h0 (by rw [<- h.len];exact hi)])
theorem bitsIn_hex {b:BitsL} (h:BitsIn b):HexIn b:=by
 rcases h with rfl | ⟨h1,h2⟩
 ·exact ⟨⟨by decide,by decide⟩,fun h=>by rw [zh1] at h;cases h⟩
 ·exact ⟨valid_in h1,fun _=>h2⟩
end
section
open Go.RowKit
def zig (E:List EncL) (f:Nat):List BitsL:=E.map fun e=>e.fields.getD f zch
def zfg (R:List RecL) (f:Nat):List (List UInt8):=R.map fun r=>r.vals.getD f []
def zdj:List (List zc2)->Int
 | []=>0
 | D :: L=>if zbh D=0 then zdj L else zbh D
def expoN (E:List EncL) (R:List RecL) (f:Nat) (D:List zc2):Ex :=
 ⟨f,zdp (zd0 (zig E f)),zhj (zd0 (zig E f)) (zfg R f) (zd7 (zao (zd0 (zig E f))) D),zb6 (zig E f),zie 0 (zig E f)⟩
def zfz (E:List EncL) (R:List RecL):Nat->List (List zc2)->List Ex
 | _,[]=>[]
 | f,D :: L=>expoN E R f D :: zfz E R (f+1) L
def zcp (s:SchemaL) (P:List ParL) (k:Int × Int) (R:List RecL) (Ds:List (List zc2)):List Ex × Int :=
 if zcj s P=0 then
  if allN s R=0 then
   if Ds.length=s.fields.length then
    if zdj Ds=0 then (zfz (R.map (zi2 s P k)) R 0 Ds,0) else ([],zdj Ds)
   else ([],8)
  else ([],allN s R)
 else ([],zcj s P)
theorem assessN_eq (E:List EncL) (R:List RecL) (f:Nat) (D:List zc2) (h:zbh D=0):zhs f (zig E f) (zfg R f) D=(expoN E R f D,0):=by
 unfold zhs expoN;rw [if_pos h]
theorem zej (E:List EncL) (R:List RecL):∀ (Ds:List (List zc2)) (f:Nat),(zfz E R f Ds).length=Ds.length
 | [],_=>rfl
 | D :: L,f=>by show (zfz E R (f+1) L).length+1=L.length+1;rw [zej E R L]
theorem ziu (E:List EncL) (R:List RecL) (D:List zc2):∀ (Ds:List (List zc2)) (f:Nat),zfz E R f (Ds++[D])=zfz E R f Ds++[expoN E R (f+Ds.length) D]
 | [],f=>rfl
 | X :: L,f=>by
  show expoN E R f X :: zfz E R (f+1) (L++[D])=_;rw [ziu E R D L (f+1),show f+1+L.length=f+(X :: L).length by simp;omega];rfl
theorem zhp {Ds:List (List zc2)} (h:∀ D∈Ds,zbh D=0):zdj Ds=0:=by
 induction Ds with
 | nil=>rfl
 | cons D L ih=>unfold zdj;rw [if_pos (h D List.mem_cons_self)];exact ih fun X hX=>h X (List.mem_cons_of_mem _ hX)
theorem zf0 {Ds:List (List zc2)} (h:zdj Ds=0):∀ D∈Ds,zbh D=0:=by
 induction Ds with
 | nil=>intro D h;cases h
 | cons X L ih =>
  unfold zdj at h;split at h
  ·next h0 =>
   intro D hD
   rcases List.mem_cons.1 hD with rfl | h1
   ·exact h0
   ·exact ih h D h1
  ·next h0=>exact absurd h h0
theorem countB_len {b:BitsL} (h:zap b=true):zcn b<=b.len:=by
 unfold zcn;rw [if_pos h];have:=sumPop_bd b.words;have:=(zcw h).1.1;omega
theorem fillB_1000 {b:BitsL} (h:zap b=true):0<=zjo b/\zjo b<=1000:=by
 have h1:=(zcw h).1;have h2:=zjs b;have h3:=countB_len h;unfold zjo;have e:(2000*zcn b+b.len).tdiv (2*b.len)=(2000*zcn b+b.len) / (2*b.len):=Int.tdiv_eq_ediv_of_nonneg (by omega);rw [e];refine ⟨Int.ediv_nonneg (by omega) (by omega),?_⟩;have hlt:(2000*zcn b+b.len) / (2*b.len)<1001:=Int.ediv_lt_of_lt_mul (by omega) (by omega);omega
end
section
open Go.RowKit
end
section
open Go.RowKit
structure SV where
 a:Option Addr
 n:Nat
 c:Nat
abbrev encSV (x:SV):List Value:=[.slice x.a x.n x.c]
end
section
open Go.RowKit
variable {α:Type}
abbrev svV (x:SV):Value:=.slice x.a x.n x.c
def SlsAll (k:Nat) (enc:α->List Value) (w:World) (S:Nat->Prop) (C:List SV) (L:List (List α)):Prop:=C.length=L.length/\∀ n (h1:n<C.length) (h2:n<L.length),Vec w S k enc (svV C[n]) L[n]
def SlsVec (k:Nat) (enc:α->List Value) (w:World) (S:Nat->Prop) (v:Value) (L:List (List α)):Prop:=∃ C,Vec w S 1 encSV v C/\SlsAll k enc w S C L
theorem one_encSL:∀ x:SV,∀ u∈encSV x,u.oneCell'=true:=by intro x u hu;simp at hu;subst hu;rfl
theorem SlsAll.move {k:Nat} {enc:α->List Value} {w w':World} {S T:Nat->Prop} {C:List SV} {L:List (List α)} (h:SlsAll k enc w S C L) (hz:w.heap.size<=w'.heap.size) (hS:∀ x,x<w.heap.size->S x->w'.heap[x]?=w.heap[x]?/\T x):SlsAll k enc w' T C L :=
 ⟨h.1,fun n h1 h2=>(h.2 n h1 h2).move hz hS⟩
theorem SlsAll.snoc {k:Nat} {enc:α->List Value} {w:World} {S:Nat->Prop} {C:List SV} {L:List (List α)} {c:SV} {l:List α} (h:SlsAll k enc w S C L) (hc:Vec w S k enc (svV c) l):SlsAll k enc w S (C++[c]) (L++[l]):=by
 refine ⟨by simp [h.1],fun n h1 h2=>?_⟩
 by_cases hn:n<C.length
 ·rw [List.getElem_append_left hn,List.getElem_append_left (by rw [<- h.1];exact hn)];exact h.2 n _ _
 ·have:n=C.length:=by simp at h1;omega
  subst this;rw [List.getElem_append_right xnl,List.getElem_append_right (by rw [h.1];exact Nat.le_refl _)];simpa [h.1] using hc
theorem SlsVec.slice {k:Nat} {enc:α->List Value} {w:World} {S:Nat->Prop} {v:Value} {L:List (List α)} (h:SlsVec k enc w S v L):∃ a cap,v = .slice a L.length cap:=by
 obtain ⟨C,hC,hA⟩:=h;obtain ⟨a,cap,rfl⟩:=hC.slice;exact ⟨a,cap,by rw [hA.1]⟩
theorem SlsVec.move {k:Nat} {enc:α->List Value} {w w':World} {S T:Nat->Prop} {v:Value} {L:List (List α)} (h:SlsVec k enc w S v L) (hz:w.heap.size<=w'.heap.size) (hS:∀ x,x<w.heap.size->S x->w'.heap[x]?=w.heap[x]?/\T x):SlsVec k enc w' T v L:=by
 obtain ⟨C,hC,hA⟩:=h;exact ⟨C,hC.move hz hS,hA.move hz hS⟩
theorem SlsVec.below {k:Nat} {enc:α->List Value} {w w':World} {S:Nat->Prop} {v:Value} {L:List (List α)} (h:SlsVec k enc w S v L) (hb:Below w.heap.size w w'):SlsVec k enc w' S v L :=
 h.move hb.size fun x hx hs=>⟨hb.block x hx,hs⟩
theorem SlsVec.nil (k:Nat) (enc:α->List Value) (w:World) (S:Nat->Prop):SlsVec k enc w S (.slice none 0 0) []:=⟨[],Vec.nil _ _ _ _,rfl,fun n h1 _=>by simp at h1⟩
theorem SlsVec.at {k:Nat} {enc:α->List Value} {w:World} {S:Nat->Prop} {a:Option Addr} {n cap:Nat} {L:List (List α)} (h:SlsVec k enc w S (.slice a n cap) L) (j:Nat) (hj:j<L.length) :
  ∃ (b off:Nat) (c:SV),a=some ⟨b,off,none⟩/\b<w.heap.size/\w.cell? ⟨b,off+j,none⟩=some (.slice c.a c.n c.c)/\Vec w S k enc (.slice c.a c.n c.c) L[j]:=by
 obtain ⟨C,hC,hA⟩:=h;have a0:j<C.length:=by rw [hA.1];exact hj
 obtain ⟨b,off,e,hb,hc⟩:=hC.get j a0;exact ⟨b,off,C[j],e,hb,by have:=hc 0 _ rfl;simpa using this,hA.2 j a0 hj⟩
theorem SlsVec.weaken {k:Nat} {enc:α->List Value} {w:World} {S T:Nat->Prop} {v:Value} {L:List (List α)} (h:SlsVec k enc w S v L) (hS:∀ x,x<w.heap.size->S x->T x):SlsVec k enc w T v L:=h.move xnl fun x hx hs=>⟨rfl,hS x hx hs⟩
end
section
open Go.RowKit
section
variable {α:Type} {P:Program} {w:World} {o:Oper} {a:Act} {K:Act->World->Prop} {Q:Exit->Act->World->Prop}
theorem zc4 (s x:Operand) (t:TypeId) (ho:o.op = .call { callee:=.builtin .append,args:=#[s,x],argTypes:=#[t,t] })
  (e:TypeId) (z:Value) (size bytes:Nat) (enc:α->List Value) (hk:∀ x,(enc x).length=size) (h1:∀ x,∀ u∈enc x,u.oneCell'=true) (ht:P.underlying t=some (.slice e)) (hinfo:(P.info? e).map (fun i=>(i.zero,i.size,i.bytes))=some (some z,size,bytes))
  (hzs:z.cells.size=size) (hsz:0<size) (hby:bytes<=128) {w0:World} {v u:Value} {A B:List α} (hs:a.eval s=v) (hown:OwnV e size enc w0 v A w) (hx:a.eval x=u) (hr:zck w size u B.length (B.flatMap enc)) (hn:A.length+B.length<=1000000000)
  (h:∀ v' w',OwnV e size enc w0 v' (A++B) w'->(∀ k o,some k≠v.ownBlock->w.heap[k]?=some o->w'.heap[k]?=some o)->w.heap.size<=w'.heap.size->(v'.ownBlock=none\/v.ownBlock=v'.ownBlock\/v'.ownBlock=some w.heap.size)->K (a.put o.dst v') w'):Oper.wp P o a w K Q:=by
 refine zdn s x t ho w0.heap.size e z size bytes ht hinfo hzs hsz v A.length (A.flatMap enc) hs hown.1 u B.length (B.flatMap enc) hx hr (fun u hu=>?_) (by unfold maxLen;omega) ?_ hown.2.size ?_
 ·obtain ⟨y,_,hy⟩:=List.mem_flatMap.1 hu
  exact h1 y u hy
 ·exact Nat.le_trans (Nat.mul_le_mul hn hby) (by decide)
 ·intro v' w' a0 hg a1
  refine h v' w' ⟨by rw [List.length_append,List.flatMap_append];exact a0,hown.2.grown hg hown.2.size fun k hk=>?_⟩ (fun k o hk hko=>(hg.block k (zaa hko) hk).trans hko) hg.size a1
  rcases hown.1.2 with ⟨rfl,_⟩ | ⟨g,cap,cur,rfl,hg1,_⟩
  ·simp [Value.ownBlock] at hk
  ·have:g=k:=by simpa [Value.ownBlock] using hk
   omega
end
structure TwoOwn {α β:Type} (e f size size2:Nat) (enc:α->List Value) (enc2:β->List Value) (w0:World) (u v:Value) (A:List α) (B:List β) (w:World):Prop where
 one:OwnV e size enc w0 u A w
 two:OwnV f size2 enc2 w0 v B w
 off:u.ownBlock=none\/u.ownBlock≠v.ownBlock
section
variable {α β:Type} {e f size size2:Nat} {enc:α->List Value} {enc2:β->List Value} {w0:World} {u v:Value} {A:List α} {B:List β} {w:World}
theorem TwoOwn.nil (hb:Below w0.heap.size w0 w):TwoOwn e f size size2 enc enc2 w0 (.slice none 0 0) (.slice none 0 0) ([]:List α) ([]:List β) w:=⟨OwnV.nil hb,OwnV.nil hb,.inl rfl⟩
theorem TwoOwn.below {w':World} (h:TwoOwn e f size size2 enc enc2 w0 u v A B w) (hb:Below w.heap.size w w'):TwoOwn e f size size2 enc enc2 w0 u v A B w':=⟨h.one.below hb,h.two.below hb,h.off⟩
theorem OwnV.keptV {w':World} (h:OwnV e size enc w0 u A w) (hb:Below w0.heap.size w0 w') {r:Option Nat} (hk:∀ k o,some k≠r->w.heap[k]?=some o->w'.heap[k]?=some o) (hr:u.ownBlock=none\/u.ownBlock≠r):OwnV e size enc w0 u A w':=⟨zdb h.1 hk hr,hb⟩
theorem TwoOwn.put1 {u':Value} {A':List α} {w':World} (h:TwoOwn e f size size2 enc enc2 w0 u v A B w) (ho:OwnV e size enc w0 u' A' w') (hk:∀ k o,some k≠u.ownBlock->w.heap[k]?=some o->w'.heap[k]?=some o) (hat:u'.ownBlock=none\/u.ownBlock=u'.ownBlock\/u'.ownBlock=some w.heap.size):TwoOwn e f size size2 enc enc2 w0 u' v A' B w':=by
 refine ⟨ho,h.two.keptV ho.2 hk ?_,?_⟩
 ·rcases h.off with h1 | h1
  ·by_cases h2:v.ownBlock=none
   ·exact .inl h2
   ·exact .inr (by rw [h1];exact h2)
  ·exact .inr (Ne.symm h1)
 ·rcases hat with h1 | h1 | h1
  ·exact .inl h1
  ·rw [<- h1];exact h.off
  ·right
   intro e2;have:=(h.two.1.lt _ (by rw [<- e2];exact h1)).2;omega
theorem TwoOwn.put2 {v':Value} {B':List β} {w':World} (h:TwoOwn e f size size2 enc enc2 w0 u v A B w) (ho:OwnV f size2 enc2 w0 v' B' w') (hk:∀ k o,some k≠v.ownBlock->w.heap[k]?=some o->w'.heap[k]?=some o) (hat:v'.ownBlock=none\/v.ownBlock=v'.ownBlock\/v'.ownBlock=some w.heap.size):TwoOwn e f size size2 enc enc2 w0 u v' A B' w':=by
 refine ⟨h.one.keptV ho.2 hk h.off,ho,?_⟩
 rcases hat with h1 | h1 | h1
 ·by_cases h2:u.ownBlock=none
  ·exact .inl h2
  ·exact .inr (by rw [h1];exact h2)
 ·rw [<- h1];exact h.off
 ·right
  intro e2;have:=(h.one.1.lt _ (by rw [e2];exact h1)).2;omega
end
end
section
open Go.RowKit
theorem chk_ok {l:List Ex} (h:ze4 l=0):(1<=l.length/\l.length<=5)/\∀ j,(hj:j<l.length)->(l[j]).ok (j:Int):=by
 unfold ze4 at h;split at h
 ·rename_i h1
  split at h
  ·rename_i h2
   refine ⟨h1,fun j hj=>?_⟩
   have:=(zhg l 0).1 h2 j hj;rwa [Nat.zero_add] at this
  ·cases h
 ·cases h
theorem refCheck_any (v:Value) (l:List Ex) (w:World) (hl:ExRow w (All w) v l) (hc:ze4 l=0) :
  Calls prog 32 #[v] w fun e w'=>e = .returned (.int .i64 0)/\Below w.heap.size w w':=by
 obtain ⟨⟨h1,h5⟩,hok⟩:=chk_ok hc;clear hc;obtain ⟨ua,uc,rfl⟩:=hl.val;have HL:=zjy hl;clear hl;have a2:=zjy hok;clear hok;have g1:((l.length:Int)<1)=False:=by simp;omega
 have g2:(5<(l.length:Int))=False:=by simp;omega
 go_enter func32,ntmps32
 go_wp2_with fail
 clear g1 g2;go_loopw [3] (fun i wr=>∃ k:Nat,k<=l.length/\i = .int .i64 k/\Below w.heap.size w wr) (fun i _=>l.length - (intOf i).toNat)
 case atStart=>exact ⟨0,by omega,rfl,Below.refl _ _⟩
 case round =>
  obtain ⟨k,hk,rfl,hb⟩:=hrel;by_cases hlt:k<l.length
  ·obtain ⟨b,off,rfl,a0,c0,c1,c2,c3,c4⟩:=HL.o.get k hlt
   have a1:=a2.o k hlt;have d0:=(hb.cell (p:=⟨b,off+k*5,none⟩) a0).trans c0;have d1:=(hb.cell (p:=⟨b,off+k*5+1,none⟩) a0).trans c1;have d2:=(hb.cell (p:=⟨b,off+k*5+2,none⟩) a0).trans c2;have d3:=(hb.cell (p:=⟨b,off+k*5+3,none⟩) a0).trans c3;have d4:=(hb.cell (p:=⟨b,off+k*5+4,none⟩) a0).trans c4;clear c0 c1 c2 c3 c4;have HB:=zjy hb;clear hb;generalize l[k]=x at *;obtain ⟨xf,xu,xh,xc,xi⟩:=x;obtain ⟨e0,⟨e1,e2⟩,⟨e3,e4⟩,⟨e5,e6⟩,⟨e7,e8⟩⟩:=a1;dsimp only at *;subst e0;have t1:(xu<0)=False:=by simp;omega
   have t2:(64<xu)=False:=by simp;omega
   have t3:(xh<0)=False:=by simp;omega
   have t4:(64<xh)=False:=by simp;omega
   have t5:(xc<0)=False:=by simp;omega
   have t6:(512<xc)=False:=by simp;omega
   have t7:(xi<0)=False:=by simp;omega
   have t8:(1000<xi)=False:=by simp;omega
   clear e1 e2 e3 e4 e5 e6 e7 e8;go_wp2_with fail
   go_roundw
   case rel=>exact ⟨k+1,by omega,by go_num,HB.o.alloc HB.o.size _⟩
   case measure=>simp [intOf];omega
  ·go_wp2_with fail
   go_ret;exact ⟨rfl,hb⟩
end
section
open Go.RowKit Cal
theorem zjh:∀ x:List UInt8,∀ u∈za8 x,u.oneCell'=true:=by intro x u hu;simp at hu;subst hu;rfl
def AssessPost (p:List Ex × Int) (w:World) (e:Ending) (w':World):Prop:=∃ v,e = .returned (.tuple #[v,.int .i64 p.2])/\ExRow w' (fun x=>w.heap.size<=x) v p.1/\Below w.heap.size w w'
theorem BitsAll.move4 {w':World} {C:List BV} {L:List BitsL} {w0:World} (h:BitsAll w0 (fun b=>b<w0.heap.size) C L) (hb:Below w0.heap.size w0 w'):BitsAll w' (fun b=>b<w0.heap.size) C L:=h.move hb.size fun b hb' hs=>⟨hb.block b hb',hs⟩
theorem BitsAt.move4 {w':World} {v:Value} {b:BitsL} {w0:World} (h:BitsAt w0 (fun b=>b<w0.heap.size) v b) (hb:Below w0.heap.size w0 w'):BitsAt w' (fun b=>b<w0.heap.size) v b:=h.move hb.size fun x hx _=>hb.block x hx
theorem zd5 (w:World) (S:Nat->Prop):ExRow w S (.slice none 0 0) []:=⟨none,0,rfl,rfl,fun h=>absurd h (Nat.lt_irrefl 0)⟩
theorem zh7 (E:List EncL) (f:Nat):(zig E f).length=E.length:=by simp [zig]
theorem zfr (R:List RecL) (f:Nat):(zfg R f).length=R.length:=by simp [zfg]
theorem col_next {E:List EncL} {f j:Nat} (h:j<E.length):(zig E f).take (j+1)=(zig E f).take j++[E[j].fields.getD f zch]:=by
 rw [List.take_succ_eq_append_getElem (by rw [zh7];exact h)];simp [zig]
theorem vals_next {R:List RecL} {f j:Nat} (h:j<R.length):(zfg R f).take (j+1)=(zfg R f).take j++[R[j].vals.getD f []]:=by
 rw [List.take_succ_eq_append_getElem (by rw [zfr];exact h)];simp [zfg]
theorem col_in {s:SchemaL} {P:List ParL} {k:Int × Int} {R:List RecL} (hR:∀ r∈R,RecIn s P r) (f:Nat):∀ b∈zig (R.map (zi2 s P k)) f,BitsIn b:=by
 intro b hb;unfold zig at hb;rw [List.map_map] at hb;obtain ⟨r,hr,rfl⟩:=List.mem_map.1 hb;by_cases hf:f<P.length
 ·have h:=fieldsN_in (k:=k) (hR r hr)
  have h2:(zi2 s P k r).fields.getD f zch∈zc6 s P k r.vals P.length:=by
   have hl:f<(zc6 s P k r.vals P.length).length:=by rw [zg4];exact hf
   show (zc6 s P k r.vals P.length).getD f zch∈_;rw [zbb _ _ hl];exact List.getElem_mem hl
  exact h _ h2
 ·left
  show (zc6 s P k r.vals P.length).getD f zch=zch;rw [List.getD,List.getElem?_eq_none (by rw [zg4];omega)];rfl
theorem bitsIn_I {b:BitsL} (h:BitsIn b):InI b.len:=(bitsIn_hex h).1
theorem bitsIn_U {b:BitsL} (h:BitsIn b):zap b=true->zgx b.words:=by
 intro hv
 rcases h with rfl | h
 ·rw [zh1] at hv;cases hv
 ·exact h.2
theorem dictErr_app (A:List (List zc2)) (D:List zc2) (L:List (List zc2)) (h:zdj A=0):zdj (A++D :: L)=zdj (D :: L):=by
 induction A with
 | nil=>rfl
 | cons X A ih =>
  have hx:zbh X=0:=zf0 h X List.mem_cons_self;have h2:zdj A=0:=zhp fun Y hY=>zf0 h Y (List.mem_cons_of_mem _ hY)
  rw [List.cons_append];show (if zbh X=0 then zdj (A++D :: L) else zbh X)=_;rw [if_pos hx,ih h2]
theorem assessA_any (S T U:Nat->Prop) (vf vt vn vs rv dv:Value) (s:SchemaL) (P:List ParL) (pv:Value) (k:Int × Int) (R:List RecL) (Ds:List (List zc2)) (w:World) (h:SchemaAt w S vf vt vn vs s) (hp:Vec w zau 3 zcm pv P) (hr:RecsVec w T rv R) (hd:SlsVec 2 zd1 w U dv Ds) (hi:∀ p∈P,InI p.len) (hn:P.length<=1000000)
  (hs:∀ r∈R,∀ x∈r.vals,x.length<=1000000) (hm:∀ r∈R,r.vals.length<=1000000) (hR:R.length<=1000000) (hD:Ds.length<=1000000) (hDn:∀ D∈Ds,D.length<=1000000) :
  Calls prog 14 #[.agg #[vf,vt,vn,vs],pv,.agg #[.int .u64 k.1,.int .u64 k.2],rv,dv] w (AssessPost (zcp s P k R Ds) w):=by
 obtain ⟨pa,pc,rfl⟩:=hp.slice;obtain ⟨ar,cr,rfl⟩:=hr.slice;obtain ⟨da,dc,rfl⟩:=hd.slice;obtain ⟨af,cf,rfl⟩:=h.1.slice;have o2:=zjy h.any;have HP:=zjy hp;have HR:=zjy hr.any;have HI:=zjy hi;have q9:=zjy hs;have HM:=zjy hm;have HD:=zjy (hd.weaken (T:=zau) fun _ _ _=>trivial);have r9:=zjy hDn
 obtain ⟨Z,hZ⟩:=xex (zcp s P k R Ds);have o5:=fun (W:World) (hb:Below w.heap.size w W)=>eall_any zau zau _ _ _ _ _ s P _ k R W (h.any.below hb) (hp.below hb) (hr.any.below hb) hi hn hs hm hR
 obtain ⟨ce,g8⟩:=xex (zcj s P);obtain ⟨d6,b9⟩:=xex (allN s R);have m7:ce=0->d6=0->∀ r∈R,RecIn s P r:=fun h1 h2 r hr=>recIn_of (by rw [g8];exact h1) ((zi0 (by rw [b9];exact h2)).2.2 r hr)
 have f2:d6=0->R.length<=64:=fun h2=>(zi0 (by rw [b9];exact h2)).2.1
 have n6:ce=0->d6=0->zjv s P k R=(R.map (zi2 s P k),0):=fun h1 h2=>by unfold zjv;rw [if_pos (by rw [g8];exact h1),if_pos (by rw [b9];exact h2)]
 rw [hZ];have HZ:=zjy hZ;have d9:=zjy g8;have e7:=zjy b9;have r4:=zjy m7;have l5:=zjy f2;have r7:=zjy n6;have a4:=zjy o5;obtain ⟨nR,i7⟩:=xex (R.length);obtain ⟨nP,i8⟩:=xex (P.length);obtain ⟨nD,j0⟩:=xex (Ds.length);obtain ⟨nF,i9⟩:=xex (s.fields.length);have c9:=zjy i7;have o4:=zjy i8;have c6:=zjy j0;have d7:=zjy i9;rw [i7] at a4 hR ⊢;rw [i8] at a4 hn ⊢;rw [j0] at hD ⊢;rw [i9] at a4 ⊢;clear h hp hr hd hi hs hm hZ g8 b9 m7 f2 n6 o5 hDn i7 i8 j0 i9;go_enter func14,ntmps14
 go_wp2_with fail
 refine zah (fun W hW=>?_)
 have f5:=xam hW
 have i1:W.heap[w.heap.size]?=some (.cells #[.slice af nF cf,vt,vn,vs] 33 (0,0)):=by rw [hW];exact zaf (zac rfl)
 have j2:W.heap[w.heap.size+1]?=some (.cells #[.int .u64 k.1,.int .u64 k.2] 41 (0,0)):=by rw [hW];exact zac (by simp)
 clear hW;have j5:=echeck_any zau _ _ _ _ s P _ W (o2.o.below f5) (HP.o.below f5) HI.o (by rw [o4.o];exact hn);rw [d9.o,o4.o,d7.o] at j5;refine j5.mono ?_;rintro e w1 ⟨rfl,hb⟩;have a5:=zjy (f5.trans (hb.mono f5.size));have X1:=zjy (zab hb (zaa i1) i1);have Y1:=zjy (zab hb (zaa j2) j2);clear hb f5 i1 j2 j5;obtain ⟨s0,s1,s2,s3⟩:=zaq X1.o;have lx:=zaa X1.o;by_cases hc0:ce=0;rotate_left
 ·have d0:(ce != 0)=true:=by simpa using hc0
  have a3:Z=([],ce):=by rw [<- HZ.o];unfold zcp;rw [if_neg (by rw [d9.o];exact hc0),d9.o]
  have c5:=zjy a3;clear a3 hc0;go_wp2_with fail
  go_ret2;rw [c5.o];exact ⟨_,rfl,zd5 _ _,a5.o⟩
 have d0:(ce != 0)=false:=by simpa using hc0
 have e8:=zjy hc0;clear hc0;go_wp2_with fail
 have i3:=rall_any zau zau _ _ _ _ _ s R w1 (o2.o.below a5.o) (HR.o.below a5.o) q9.o HM.o (by rw [c9.o];exact hR);rw [e7.o,c9.o,d7.o] at i3;refine i3.mono ?_;rintro e w2 ⟨rfl,hb⟩;have a9:=xhh a5 hb;have X2:=zjy (zab hb lx X1.o);have Y2:=zjy (zab hb (zaa Y1.o) Y1.o);clear hb i3 s0 s1 s2 s3 lx;obtain ⟨s0,s1,s2,s3⟩:=zaq X2.o;have lx:=zaa X2.o;obtain ⟨k0,k1⟩:=zae Y2.o;have ly:=zaa Y2.o;by_cases hc1:d6=0;rotate_left
 ·have d1:(d6 != 0)=true:=by simpa using hc1
  have a3:Z=([],d6):=by rw [<- HZ.o];unfold zcp;rw [if_pos (by rw [d9.o];exact e8.o),if_neg (by rw [e7.o];exact hc1),e7.o]
  have c5:=zjy a3;clear a3 hc1;go_wp2_with fail
  go_ret2;rw [c5.o];exact ⟨_,rfl,zd5 _ _,a9.o⟩
 have d1:(d6 != 0)=false:=by simpa using hc1
 have g1:=zjy hc1;have j9:=l5.o hc1;rw [c9.o] at j9;clear hc1;by_cases hc2:nD=nF;rotate_left
 ·have d2:((nD:Int) != (nF:Int))=true:=by simp;omega
  have a3:Z=([],8):=by rw [<- HZ.o];unfold zcp;rw [if_pos (by rw [d9.o];exact e8.o),if_pos (by rw [e7.o];exact g1.o),if_neg (by rw [c6.o,d7.o];exact hc2)]
  have c5:=zjy a3;clear a3 hc2;go_wp2_with fail
  go_ret2;rw [c5.o];exact ⟨_,rfl,zd5 _ _,a9.o⟩
 have d2:((nD:Int) != (nF:Int))=false:=by simp;omega
 have g0:=zjy hc2;have r6:=zjy (r7.o e8.o g1.o);have l1:=zjy (r4.o e8.o g1.o);clear hc2;go_wp2_with fail
 refine (a4.o _ a9.o).mono ?_;rw [r6.o];rintro e w3 ⟨ev,rfl,e5,n3⟩;obtain ⟨E,hE⟩:=xex (R.map (zi2 s P k));have k2:E.length=nR:=by rw [<- hE,List.length_map];exact c9.o
 dsimp only at e5 ⊢;rw [hE] at e5;obtain ⟨ea,ec,rfl⟩:=e5.slice;rw [k2] at e5 ⊢;have g9:=zjy k2;have HE:=zjy hE;have r5:=zjy e5;have c7:=xhh a9 n3;clear e5 n3 k2 hE s0 s1 s2 s3 lx k0 k1 ly;have dz:((0:Int) != 0)=false:=rfl;go_wp2_with fail
 go_loopw [16,56] (fun o t wr=>∃ f:Nat,t = .int .i64 f/\f<=nD/\OwnV 61 5 Ex.cells w3 o (zfz E R 0 (Ds.take f)) wr/\Hid (zdj (Ds.take f)=0)) (fun _ t _=>nD - (intOf t).toNat)
 case atStart=>exact ⟨0,rfl,by omega,OwnV.nil (Below.refl _ _),zjy rfl⟩
 case round =>
  obtain ⟨f,rfl,hf,ho,h0⟩:=hrel;obtain ⟨W2,p7⟩:∃ u,u=wr:=⟨_,rfl⟩;subst p7;have HO:=zjy ho;have a8:=zjy (c7.o.trans (ho.2.mono c7.o.size));obtain ⟨oa,oc,eo⟩:=zar ho.1;have i4:(zfz E R 0 (Ds.take f)).length=f:=by rw [zej,List.length_take,c6.o];omega
  rw [i4] at eo;subst eo;have o3:=zjy i4;clear i4;by_cases hlt:f<nD
  ·have hq:decide ((f:Int)<(nD:Int))=true:=by simp;omega
   have hfi:(f:Int)<(nD:Int):=by omega
   have g5:f<Ds.length:=by rw [c6.o];exact hlt
   obtain ⟨db,q7,⟨xa,xn,xc⟩,e,ldb,dc0,hdv⟩:=(HD.o.below a8.o).at f g5;cases e;dsimp only at dc0 hdv;have n7:=r9.o _ (List.getElem_mem g5);have h7:Ds.take (f+1)=Ds.take f++[Ds[f]]:=List.take_succ_eq_append_getElem g5;have b8:Ds=Ds.take f++Ds[f] :: Ds.drop (f+1):=by rw [<- List.drop_eq_getElem_cons g5,List.take_append_drop]
   obtain ⟨D,n8⟩:=xex (Ds[f]);rw [n8] at hdv n7 h7 b8;have r8:=zjy hdv;have o1:=zjy h7;have f9:=zjy b8;have p2:=hdv.len.1;subst p2;clear hdv h7 b8 n8 ho;go_wp2_with fail
   go_loopw [19,20,21,63] (fun c v _ t wr=>∃ (j:Nat) (CB:List BV),t = .int .i64 j/\j<=nR/\CB.length=j/\TwoOwn 56 9 2 1 za4 za8 W2 c v CB ((zfg R f).take j) wr/\BitsAll W2 (fun b=>b<W2.heap.size) CB ((zig E f).take j)) (fun _ _ _ t _=>nR - (intOf t).toNat)
   case atStart=>exact ⟨0,[],rfl,by omega,rfl,by simpa using TwoOwn.nil (Below.refl _ _),rfl,fun n h1 _=>by simp at h1⟩
   case round =>
    obtain ⟨j,CB,rfl,hj,k5,ht,n2⟩:=hrel;obtain ⟨f7,j7⟩:∃ u,u=wr:=⟨_,rfl⟩;subst j7;obtain ⟨ca,cc,o0⟩:=zar ht.one.1;obtain ⟨va,vc,n9⟩:=zar ht.two.1;have h6:((zfg R f).take j).length=j:=by rw [List.length_take,zfr,c9.o];omega
    rw [k5] at o0;rw [h6] at n9;subst o0;subst n9;have d8:=zjy k5;have k7:=zjy h6;have HT:=zjy ht;have e3:=zjy n2;clear k5 h6 n2;by_cases hlj:j<nR
    ·have p5:decide ((j:Int)<(nR:Int))=true:=by simp;omega
     have hji:(j:Int)<(nR:Int):=by omega
     have m6:j<E.length:=by rw [g9.o];exact hlj
     have g4:j<R.length:=by rw [c9.o];exact hlj
     obtain ⟨eb,d5,⟨k6,d4,fa,fn,fc⟩,e,leb,⟨e0,e1,e2⟩,hval⟩:=((r5.o.below HO.o.2).at j m6);cases e;dsimp only at e0 e1 e2;obtain ⟨sx,es,j6⟩:=hval;obtain ⟨o8,q8,rfl⟩:=j6.slice;have p8:k6=E[j].id/\d4=E[j].ver/\(fa=o8/\fn=E[j].fields.length/\fc=q8):=by simpa [eq_comm] using es
     obtain ⟨-,-,rfl,m8,rfl⟩:=p8
     have k3:E[j].fields.length=nF:=by
      have h1:E[j]=zi2 s P k R[j]:=by have:=HE.o;subst this;simp
      rw [h1];show (zc6 s P k R[j].vals P.length).length=nF;rw [zg4,(l1.o _ (List.getElem_mem g4)).len,d7.o]
     have m9:f<E[j].fields.length:=by rw [k3,<- g0.o];exact hlt
     obtain ⟨bb,a0,⟨zl,za,zn,zc⟩,e,lbb,z0,z1,hat⟩:=j6.at f m9;cases e;dsimp only at z0 z1;have h8:=col_next (E:=E) (f:=f) m6;have f1:=vals_next (R:=R) (f:=f) g4
     have b5:R[j].vals.length=nF:=by
      have:=(zgt (l1.o _ (List.getElem_mem g4)).rec_).2.2.1;rw [this,d7.o]
     obtain ⟨rb,c2,rid,o9,raa,rnn,l9,b4,e,m1,r0,r1,r2,n5,i2⟩:=(HR.o.below a8.o).at j g4;cases e;rw [n5] at f1 b5;dsimp only at f1 b5;have m5:=i2.len.1;have j3:f<b4.length:=by rw [b5,<- g0.o];exact hlt
     obtain ⟨sb,a6,e,m0,m4⟩:=i2.get f j3;have e9:=m4 0 _ rfl;rw [Nat.mul_one,Nat.add_zero] at e9;rw [<- zbb b4 [] j3] at e9;obtain ⟨sv,m3⟩:=xex (b4.getD f []);obtain ⟨bz,n1⟩:=xex (E[j].fields.getD f zch);rw [m3] at e9 f1;rw [n1] at hat h8
     have l7:=zjy (show BitsAt W2 (fun b=>b<W2.heap.size) (.agg (za4 ⟨zl,za,zn,zc⟩).toArray) bz from by
      obtain ⟨s',e',p4⟩:=hat
      exact ⟨s',e',p4.move xnl fun q hq _=>⟨rfl,hq⟩⟩)
     have k9:=zjy h8;have k8:=zjy f1;subst e;rw [m8,k3] at e2;rw [m5,b5] at r2;have hfF:(f:Int)<(nF:Int):=by have:=g0.o;omega
     have c8:=ht.one.2;have p0:=(c8.cell (p:=⟨rb,c2+j*3+2,none⟩) m1).trans r2;have h3:=(c8.cell (p:=⟨sb,a6+f,none⟩) m0).trans e9;have q1:=(c8.cell (p:=⟨eb,d5+j*3,none⟩) leb).trans e0;have q0:=(c8.cell (p:=⟨eb,d5+j*3+1,none⟩) leb).trans e1;have p9:=(c8.cell (p:=⟨eb,d5+j*3+2,none⟩) leb).trans e2;have o7:=(c8.cell (p:=⟨bb,a0+f*2,none⟩) lbb).trans z0;have o6:=(c8.cell (p:=⟨bb,a0+f*2+1,none⟩) lbb).trans z1;clear h8 f1 m3 n1 hat i2 m4 n5 j6 es b5 m8 k3 m9 m5 j3 ht;go_wp2_with fail
     refine zal (fun WR hWR=>?_)
     have bW:=xal hWR
     have x0:WR.heap[f7.heap.size]?=some (.cells #[.int .i64 k6,.int .i64 d4,.slice (some ⟨bb,a0,none⟩) nF fc] 59 (0,0)):=by rw [hWR];exact zac rfl
     have T0:=zjy (HT.o.below bW);have e4:=zjy T0.o.one.2;obtain ⟨xb,g3⟩:=xex (f7.heap.size);have e6:=zjy (show (∀ g,(Value.slice ca j cc).ownBlock=some g->g<xb)/\(∀ g,(Value.slice va j vc).ownBlock=some g->g<xb) from ⟨fun g e=>by rw [<- g3];exact (HT.o.one.1.lt g e).2,fun g e=>by rw [<- g3];exact (HT.o.two.1.lt g e).2⟩)
     rw [g3] at x0 ⊢;have HS:=zjy (show ∀ W',Below W2.heap.size W2 W'->W'.heap[xb]?=some (.cells #[.int .i64 k6,.int .i64 d4,.slice (some ⟨bb,a0,none⟩) nF fc] 59 (0,0))->W'.cell? ⟨xb,2,none⟩=some (.slice (some ⟨bb,a0,none⟩) nF fc)/\W'.cell? ⟨rb,c2+j*3+2,none⟩=some (.slice (some ⟨sb,a6,none⟩) nF l9)/\W'.cell? ⟨sb,a6+f,none⟩=some (zak sv)/\W'.cell? ⟨bb,a0+f*2,none⟩=some (.int .i64 zl)/\W'.cell? ⟨bb,a0+f*2+1,none⟩=some (.slice za zn zc) from fun W' hb hx=>⟨(zan hx).2.2,(hb.cell (p:=⟨rb,c2+j*3+2,none⟩) m1).trans r2,(hb.cell (p:=⟨sb,a6+f,none⟩) m0).trans e9,(hb.cell (p:=⟨bb,a0+f*2,none⟩) lbb).trans z0,(hb.cell (p:=⟨bb,a0+f*2+1,none⟩) lbb).trans z1⟩)
     have lx0:=zaa x0;clear hWR bW p0 h3 q1 q0 p9 o7 o6 e0 e1 c8 g3;obtain ⟨q2,q3,q4,q5,q6⟩:=HS.o WR e4.o x0;refine wp_region_noPanic ?_
     refine wp_region_held_drew (S:=(fun w'=>w'.cell? ⟨xb,2,none⟩=some (.slice (some ⟨bb,a0,none⟩) nF fc)/\w'.cell? ⟨rb,c2+j*3+2,none⟩=some (.slice (some ⟨sb,a6,none⟩) nF l9)/\w'.cell? ⟨sb,a6+f,none⟩=some (zak sv)/\w'.cell? ⟨bb,a0+f*2,none⟩=some (.int .i64 zl)/\w'.cell? ⟨bb,a0+f*2+1,none⟩=some (.slice za zn zc))) (by kernel_rfl) (⟨q2,q3,q4,q5,q6⟩) (fun hHeld=>?_)
     refine tH 0 ?_;refine tH 1 ?_;refine tH 2 ?_;refine tH 3 ?_;refine tH 4 ?_;refine tH 5 ?_;refine tH 8 ?_;refine tH 9 ?_;refine tH 10 ?_;refine tH 11 ?_;refine tH 12 ?_;refine tH 13 ?_;refine tH 14 ?_;refine tH 15 ?_;refine tH 16 ?_;refine wpAnyH_ready (rs:=[6,17]) (by kernel_rfl) (by simp) ?_
     refine AllReadyH.cons rfl (fun K hK=>?_) (AllReadyH.cons rfl (fun K hK=>?_) (AllReadyH.nil))
     focus
      go_simp;have b1:Below WR.heap.size WR (WR.alloc (.cells #[.int .i64 zl,.slice za zn zc] 56)).drew:=((Below.refl _ _).alloc xnl _).drew;have x1:=zab b1 (zaa x0) x0
      refine hK.out _ _ (HS.o _ (e4.o.trans (b1.mono e4.o.size)) x1) (fun hHeld=>?_)
      clear hK K
      refine zcl (fun V1 hV=>?_)
      rw [<- hV] at b1 x1;have g6:V1.heap[WR.heap.size]?=some (.cells #[.int .i64 zl,.slice za zn zc] 56 (0,0)):=by rw [hV];exact zac rfl
      have T1:=zjy (T0.o.below b1);have a5:=xhh e4 b1;have z1:=b1.size;clear hV hHeld;have hHeld:=HS.o _ a5.o x1;refine wpAnyH_ready (rs:=[7,17]) (by kernel_rfl) (by simp) ?_
      refine AllReadyH.cons rfl (fun K hK=>?_) (AllReadyH.cons rfl (fun K hK=>?_) (AllReadyH.nil))
      focus
       have f8:=zjy (show zck V1 2 (.slice (some ⟨WR.heap.size,0,none⟩) 1 1) [(⟨zl,za,zn,zc⟩:BV)].length ([(⟨zl,za,zn,zc⟩:BV)].flatMap za4) from za0 (xs:=[(⟨zl,za,zn,zc⟩:BV)].flatMap za4) (fr:=(0,0)) (t:=56) g6 rfl)
       refine zc4 (.tmp 68) (.tmp 74) 57 (by rfl) 56 (.agg #[.int .i64 0,.slice none 0 0]) 2 32 za4 (fun _=>rfl) ze9 underlying57 zgd rfl (by decide) (by decide) (w0:=W2) (v:=.slice ca j cc) (A:=CB) (B:=[⟨zl,za,zn,zc⟩]) (by rfl) T1.o.one (by rfl) f8.o (by rw [d8.o];simp only [List.length_cons,List.length_nil];omega) ?_
       intro u2 V2 i5 j1 p1 f6;have T2:=zjy (T1.o.put1 i5 j1 f6);have x2:=j1 _ _ (fun e=>by have h1:=e6.o.1 _ e.symm;omega) x1
       have a9:=zjy i5.2;have z2:=p1;clear i5 j1 f6
       refine hK.out _ _ (HS.o _ a9.o x2) (fun hHeld=>?_)
       clear hK K;refine wpAnyH_ready (rs:=[17]) (by kernel_rfl) (by simp) ?_
       refine AllReadyH.cons rfl (fun K hK=>?_) (AllReadyH.nil)
       go_simp;have b3:Below V2.heap.size V2 (V2.alloc (.cells #[zak sv] 9)):=((Below.refl _ _).alloc xnl _);have x3:=zab b3 (zaa x2) x2
       refine hK.out _ _ (HS.o _ (a9.o.trans (b3.mono a9.o.size)) x3) (fun hHeld=>?_)
       clear hK K
       refine zcl (fun V3 hV=>?_)
       rw [<- hV] at b3 x3;have b0:V3.heap[V2.heap.size]?=some (.cells #[zak sv] 9 (0,0)):=by rw [hV];exact zac rfl
       have T3:=zjy (T2.o.below b3);have c7:=xhh a9 b3;have z3:=b3.size;clear hV hHeld;have hHeld:=HS.o _ c7.o x3;refine wpAnyH_ready (rs:=[18]) (by kernel_rfl) (by simp) ?_
       refine AllReadyH.cons rfl (fun K hK=>?_) (AllReadyH.nil)
       have c1:=zjy (show zck V3 1 (.slice (some ⟨V2.heap.size,0,none⟩) 1 1) [sv].length ([sv].flatMap za8) from za0 (xs:=[sv].flatMap za8) (fr:=(0,0)) (t:=9) b0 rfl)
       refine zc4 (.tmp 76) (.tmp 85) 28 (by rfl) 9 (.string ⟨#[]⟩) 1 16 za8 (fun _=>rfl) zjh underlying28 zdt rfl (by decide) (by decide) (w0:=W2) (v:=.slice va j vc) (A:=(zfg R f).take j) (B:=[sv]) (by rfl) T3.o.two (by rfl) c1.o (by rw [k7.o];simp only [List.length_cons,List.length_nil];omega) ?_
       intro v4 V4 b6 b7 f0 a2;have T4:=zjy (T3.o.put2 b6 b7 a2);have x4:=b7 _ _ (fun e=>by have h1:=e6.o.2 _ e.symm;omega) x3
       have a7:=zjy b6.2;have z4:=f0;clear b6 b7 a2
       refine hK.out _ _ (HS.o _ a7.o x4) (fun hHeld=>?_)
       clear hK K;refine tH 19 ?_;refine tH 20 ?_;refine wpAnyH_done (by kernel_rfl) ?_ _;refine NoPanic.normal ?_;go_wp2_with fail
       go_roundw
       case rel=>exact ⟨j+1,CB++[⟨zl,za,zn,zc⟩],by go_num,by omega,by rw [List.length_append,d8.o];rfl,by rw [k8.o];exact T4.o,by rw [k9.o];exact e3.o.snoc l7.o⟩
       case measure=>simp [intOf];omega
      focus
       go_simp;have b2:Below V1.heap.size V1 (V1.alloc (.cells #[zak sv] 9)):=((Below.refl _ _).alloc xnl _);have x2:=zab b2 (zaa x1) x1
       refine hK.out _ _ (HS.o _ (a5.o.trans (b2.mono a5.o.size)) x2) (fun hHeld=>?_)
       clear hK K
       refine zcl (fun V2 hV=>?_)
       rw [<- hV] at b2 x2;have b0:V2.heap[V1.heap.size]?=some (.cells #[zak sv] 9 (0,0)):=by rw [hV];exact zac rfl
       have T2:=zjy (T1.o.below b2);have a9:=xhh a5 b2;have g6:=zab b2 (zaa g6) g6;have z2:=b2.size;clear hV hHeld;have hHeld:=HS.o _ a9.o x2;refine wpAnyH_ready (rs:=[7]) (by kernel_rfl) (by simp) ?_
       refine AllReadyH.cons rfl (fun K hK=>?_) (AllReadyH.nil)
       have f8:=zjy (show zck V2 2 (.slice (some ⟨WR.heap.size,0,none⟩) 1 1) [(⟨zl,za,zn,zc⟩:BV)].length ([(⟨zl,za,zn,zc⟩:BV)].flatMap za4) from za0 (xs:=[(⟨zl,za,zn,zc⟩:BV)].flatMap za4) (fr:=(0,0)) (t:=56) g6 rfl)
       refine zc4 (.tmp 68) (.tmp 74) 57 (by rfl) 56 (.agg #[.int .i64 0,.slice none 0 0]) 2 32 za4 (fun _=>rfl) ze9 underlying57 zgd rfl (by decide) (by decide) (w0:=W2) (v:=.slice ca j cc) (A:=CB) (B:=[⟨zl,za,zn,zc⟩]) (by rfl) T2.o.one (by rfl) f8.o (by rw [d8.o];simp only [List.length_cons,List.length_nil];omega) ?_
       intro u3 V3 d3 c3 h4 c0;have T3:=zjy (T2.o.put1 d3 c3 c0);have x3:=c3 _ _ (fun e=>by have h1:=e6.o.1 _ e.symm;omega) x2
       have c7:=zjy d3.2;have b0:=c3 _ _ (fun e=>by have h1:=(T0.o.one).1.lt _ e.symm;omega) b0
       have z3:=h4;clear d3 c3 c0
       refine hK.out _ _ (HS.o _ c7.o x3) (fun hHeld=>?_)
       clear hK K;refine wpAnyH_ready (rs:=[18]) (by kernel_rfl) (by simp) ?_
       refine AllReadyH.cons rfl (fun K hK=>?_) (AllReadyH.nil)
       have c1:=zjy (show zck V3 1 (.slice (some ⟨V1.heap.size,0,none⟩) 1 1) [sv].length ([sv].flatMap za8) from za0 (xs:=[sv].flatMap za8) (fr:=(0,0)) (t:=9) b0 rfl)
       refine zc4 (.tmp 76) (.tmp 85) 28 (by rfl) 9 (.string ⟨#[]⟩) 1 16 za8 (fun _=>rfl) zjh underlying28 zdt rfl (by decide) (by decide) (w0:=W2) (v:=.slice va j vc) (A:=(zfg R f).take j) (B:=[sv]) (by rfl) T3.o.two (by rfl) c1.o (by rw [k7.o];simp only [List.length_cons,List.length_nil];omega) ?_
       intro v4 V4 b6 b7 f0 a2;have T4:=zjy (T3.o.put2 b6 b7 a2);have x4:=b7 _ _ (fun e=>by have h1:=e6.o.2 _ e.symm;omega) x3
       have a7:=zjy b6.2;have z4:=f0;clear b6 b7 a2
       refine hK.out _ _ (HS.o _ a7.o x4) (fun hHeld=>?_)
       clear hK K;refine tH 19 ?_;refine tH 20 ?_;refine wpAnyH_done (by kernel_rfl) ?_ _;refine NoPanic.normal ?_;go_wp2_with fail
       go_roundw
       case rel=>exact ⟨j+1,CB++[⟨zl,za,zn,zc⟩],by go_num,by omega,by rw [List.length_append,d8.o];rfl,by rw [k8.o];exact T4.o,by rw [k9.o];exact e3.o.snoc l7.o⟩
       case measure=>simp [intOf];omega
     focus
      go_simp;have b1:Below WR.heap.size WR (WR.alloc (.cells #[zak sv] 9)).drew:=((Below.refl _ _).alloc xnl _).drew;have x1:=zab b1 (zaa x0) x0
      refine hK.out _ _ (HS.o _ (e4.o.trans (b1.mono e4.o.size)) x1) (fun hHeld=>?_)
      clear hK K
      refine zcl (fun V1 hV=>?_)
      rw [<- hV] at b1 x1;have b0:V1.heap[WR.heap.size]?=some (.cells #[zak sv] 9 (0,0)):=by rw [hV];exact zac rfl
      have T1:=zjy (T0.o.below b1);have a5:=xhh e4 b1;have z1:=b1.size;clear hV hHeld;have hHeld:=HS.o _ a5.o x1;refine wpAnyH_ready (rs:=[6]) (by kernel_rfl) (by simp) ?_
      refine AllReadyH.cons rfl (fun K hK=>?_) (AllReadyH.nil)
      go_simp;have b2:Below V1.heap.size V1 (V1.alloc (.cells #[.int .i64 zl,.slice za zn zc] 56)):=((Below.refl _ _).alloc xnl _);have x2:=zab b2 (zaa x1) x1
      refine hK.out _ _ (HS.o _ (a5.o.trans (b2.mono a5.o.size)) x2) (fun hHeld=>?_)
      clear hK K
      refine zcl (fun V2 hV=>?_)
      rw [<- hV] at b2 x2;have g6:V2.heap[V1.heap.size]?=some (.cells #[.int .i64 zl,.slice za zn zc] 56 (0,0)):=by rw [hV];exact zac rfl
      have T2:=zjy (T1.o.below b2);have a9:=xhh a5 b2;have b0:=zab b2 (zaa b0) b0;have z2:=b2.size;clear hV hHeld;have hHeld:=HS.o _ a9.o x2;refine wpAnyH_ready (rs:=[7]) (by kernel_rfl) (by simp) ?_
      refine AllReadyH.cons rfl (fun K hK=>?_) (AllReadyH.nil)
      have f8:=zjy (show zck V2 2 (.slice (some ⟨V1.heap.size,0,none⟩) 1 1) [(⟨zl,za,zn,zc⟩:BV)].length ([(⟨zl,za,zn,zc⟩:BV)].flatMap za4) from za0 (xs:=[(⟨zl,za,zn,zc⟩:BV)].flatMap za4) (fr:=(0,0)) (t:=56) g6 rfl)
      refine zc4 (.tmp 68) (.tmp 74) 57 (by rfl) 56 (.agg #[.int .i64 0,.slice none 0 0]) 2 32 za4 (fun _=>rfl) ze9 underlying57 zgd rfl (by decide) (by decide) (w0:=W2) (v:=.slice ca j cc) (A:=CB) (B:=[⟨zl,za,zn,zc⟩]) (by rfl) T2.o.one (by rfl) f8.o (by rw [d8.o];simp only [List.length_cons,List.length_nil];omega) ?_
      intro u3 V3 d3 c3 h4 c0;have T3:=zjy (T2.o.put1 d3 c3 c0);have x3:=c3 _ _ (fun e=>by have h1:=e6.o.1 _ e.symm;omega) x2
      have c7:=zjy d3.2;have b0:=c3 _ _ (fun e=>by have h1:=(T0.o.one).1.lt _ e.symm;omega) b0
      have z3:=h4;clear d3 c3 c0
      refine hK.out _ _ (HS.o _ c7.o x3) (fun hHeld=>?_)
      clear hK K;refine wpAnyH_ready (rs:=[18]) (by kernel_rfl) (by simp) ?_
      refine AllReadyH.cons rfl (fun K hK=>?_) (AllReadyH.nil)
      have c1:=zjy (show zck V3 1 (.slice (some ⟨WR.heap.size,0,none⟩) 1 1) [sv].length ([sv].flatMap za8) from za0 (xs:=[sv].flatMap za8) (fr:=(0,0)) (t:=9) b0 rfl)
      refine zc4 (.tmp 76) (.tmp 85) 28 (by rfl) 9 (.string ⟨#[]⟩) 1 16 za8 (fun _=>rfl) zjh underlying28 zdt rfl (by decide) (by decide) (w0:=W2) (v:=.slice va j vc) (A:=(zfg R f).take j) (B:=[sv]) (by rfl) T3.o.two (by rfl) c1.o (by rw [k7.o];simp only [List.length_cons,List.length_nil];omega) ?_
      intro v4 V4 b6 b7 f0 a2;have T4:=zjy (T3.o.put2 b6 b7 a2);have x4:=b7 _ _ (fun e=>by have h1:=e6.o.2 _ e.symm;omega) x3
      have a7:=zjy b6.2;have z4:=f0;clear b6 b7 a2
      refine hK.out _ _ (HS.o _ a7.o x4) (fun hHeld=>?_)
      clear hK K;refine tH 19 ?_;refine tH 20 ?_;refine wpAnyH_done (by kernel_rfl) ?_ _;refine NoPanic.normal ?_;go_wp2_with fail
      go_roundw
      case rel=>exact ⟨j+1,CB++[⟨zl,za,zn,zc⟩],by go_num,by omega,by rw [List.length_append,d8.o];rfl,by rw [k8.o];exact T4.o,by rw [k9.o];exact e3.o.snoc l7.o⟩
      case measure=>simp [intOf];omega
    ·have p5:decide ((j:Int)<(nR:Int))=false:=by simp;omega
     obtain rfl:j=nR:=by omega
     have h9:(zfg R f).take j=zfg R f:=List.take_of_length_le (by rw [zfr,c9.o];omega);have i0:(zig E f).take j=zig E f:=List.take_of_length_le (by rw [zh7,g9.o];omega);rw [h9] at HT;rw [i0] at e3;have a1:=(col_in (k:=k) l1.o f);rw [HE.o] at a1;have n0:CB.length=j:=d8.o;have k4:BitsVec f7 zau (.slice ca j cc) (zig E f):=⟨CB,by have:=(OwnV.vec (size:=2) (enc:=za4) (fun _=>rfl) HT.o.one).any;exact this,(e3.o.move4 HT.o.one.2).weaken fun _ _=>trivial⟩
     have j8:Vec f7 zau 1 za8 (.slice va j vc) (zfg R f):=(OwnV.vec (size:=1) (enc:=za8) (fun _=>rfl) HT.o.two).any
     have c4:=assess_any zau zau zau (f:Int) _ _ _ (zig E f) (zfg R f) D f7 k4 j8 (r8.o.below HT.o.one.2) (fun b hb=>bitsIn_I (a1 b hb)) (fun b hb=>bitsIn_U (a1 b hb)) (by rw [zh7,g9.o];omega) (by rw [zh7,zfr,g9.o,c9.o]) n7
     obtain ⟨⟨xf,xu,xh,g2,xi⟩,hx⟩:∃ x:Ex,expoN E R f D=x:=⟨_,rfl⟩;have HX:=zjy hx;by_cases hcd:zbh D=0
     ·rw [assessN_eq E R f D hcd,hx] at c4
      dsimp only [Ex.val] at c4;have l8:=zjy c4;have s4:=zjy hcd;have l0:=zjy HT.o.one.2;clear c4 hcd a1 n0 k4 j8 h9 i0 hx HT e3 ht;go_wp2_with fail
      refine l8.o.mono ?_;rintro e w4 ⟨rfl,f4⟩;have a7:=xhh l0 f4;clear f4;have i6:=ziu E R D (Ds.take f) 0;rw [Nat.zero_add,List.length_take,c6.o,Nat.min_eq_left (Nat.le_of_lt hlt),HX.o,<- o1.o] at i6;have r3:=zjy i6
      have f3:zdj (Ds.take (f+1))=0:=by
       rw [o1.o]
       refine zhp fun Y hY=>?_
       rcases List.mem_append.1 hY with h | h
       ·exact zf0 h0.o Y h
       ·rw [List.mem_singleton.1 h];exact s4.o
      have l6:=zjy f3;clear f3;clear i6;have hw:∀ W6,W6=(w4.alloc (.cells #[.int .i64 xf,.int .i64 xu,.int .i64 xh,.int .i64 g2,.int .i64 xi] 61))->W6.heap[w4.heap.size]?=some (.cells #[.int .i64 xf,.int .i64 xu,.int .i64 xh,.int .i64 g2,.int .i64 xi] 61 (0,0))/\Below W2.heap.size W2 W6:=fun W6 h=>by rw [h];exact ⟨zac rfl,a7.o.alloc a7.o.size _⟩
      have HW:=zjy hw;clear hw;have l4:=zjy (HO.o.below ((a7.o.alloc a7.o.size (.cells #[.int .i64 xf,.int .i64 xu,.int .i64 xh,.int .i64 g2,.int .i64 xi] 61))));have l3:=l4.o.1;rw [o3.o] at l3;have l2:=zjy l3;clear l3;go_wp2_with (at_builtin;refine zbs rfl _ _ 46 rfl w3.heap.size 61 5 40 _ underlying46 infoEx rfl (by decide) (by decide) _ _ _ rfl l2.o (w4.heap.size+1) (by simp) #[.int .i64 xf,.int .i64 xu,.int .i64 xh,.int .i64 g2,.int .i64 xi] 1 rfl rfl (by simp [Value.oneCell']) (by omega) l4.o.2.size ?_;intro v5 w5 p6 p3)
      go_roundw
      case rel =>
       refine ⟨f+1,by go_num,by omega,⟨?_,p3 _ l4.o.2⟩,l6⟩;rw [r3.o,List.length_append,o3.o,List.flatMap_append];simpa [Ex.cells] using p6
      case measure=>simp [intOf];omega
     ·have n4:zhs (f:Int) (zig E f) (zfg R f) D=(⟨0,0,0,0,0⟩,zbh D):=by unfold zhs;rw [if_neg hcd]
      rw [n4] at c4;obtain ⟨er,g7⟩:=xex (zbh D);rw [g7] at c4 hcd
      have j4:zdj Ds=er:=by
       rw [f9.o,dictErr_app _ _ _ h0.o];show (if zbh D=0 then _ else zbh D)=er;rw [if_neg (by rw [g7];exact hcd),g7]
      have a3:Z=([],er):=by rw [<- HZ.o];unfold zcp;rw [if_pos (by rw [d9.o];exact e8.o),if_pos (by rw [e7.o];exact g1.o),if_pos (by rw [c6.o,d7.o];exact g0.o),if_neg (by rw [j4];exact hcd),j4]
      have c5:=zjy a3;have de:(er != 0)=true:=by simpa using hcd
      dsimp only [Ex.val] at c4;have l8:=zjy c4;have l0:=zjy HT.o.one.2;clear c4 hcd a1 n0 k4 j8 h9 i0 hx HT e3 ht n4 g7 j4 a3;go_wp2_with fail
      refine l8.o.mono ?_;rintro e w4 ⟨rfl,f4⟩;have a7:=xhh l0 f4;clear f4;go_wp2_with fail
      go_ret2;rw [c5.o];exact ⟨_,rfl,zd5 _ _,(a8.o.trans (a7.o.mono a8.o.size)).alloc (by have:=a8.o.size;have:=a7.o.size;omega) _⟩
  ·have hq:decide ((f:Int)<(nD:Int))=false:=by simp;omega
   obtain rfl:f=nD:=by omega
   have m2:Ds.take f=Ds:=List.take_of_length_le (by rw [c6.o];omega);rw [m2] at HO h0;have a3:Z=(zfz E R 0 Ds,0):=by rw [<- HZ.o];unfold zcp;rw [if_pos (by rw [d9.o];exact e8.o),if_pos (by rw [e7.o];exact g1.o),if_pos (by rw [c6.o,d7.o];exact g0.o),if_pos h0.o,HE.o]
   have c5:=zjy a3;clear a3 m2 ho;go_wp2_with fail
   go_ret2;rw [c5.o];refine ⟨_,rfl,?_,a8.o⟩;have h5:=HO.o.1;rw [zej,c6.o] at h5;unfold ExRow;rw [zej,c6.o];exact Row.owns h5 fun b hb _=>Nat.le_trans c7.o.size hb
end
section
open Go.RowKit
def dictV:List (List UInt8):=[[97,110,110,32,109,105,108,108,101,114],[111,110,101,105,108,108],[112,101,116,101,114],[114,111,98,101,114,116,32,115,109,105,116,104],[114,117,112,101,114,116],[114,117,116,104]]
structure DictD (k:Nat) (L:List zc2):Prop where
 sub:(L.map Prod.fst).Sublist (dictV.take k)
 cnt:∀ d∈L,1<=d.2/\d.2<=6
theorem DictD.nil (k:Nat):DictD k []:=⟨by simp,by simp⟩
theorem DictD.len {k:Nat} {L:List zc2} (h:DictD k L):L.length<=k:=by
 have:=h.sub.length_le;rw [List.length_map,List.length_take] at this;omega
theorem DictD.skip {k:Nat} {L:List zc2} (h:DictD k L) (hk:k<dictV.length):DictD (k+1) L :=
 ⟨by rw [List.take_succ_eq_append_getElem hk];exact h.sub.trans (List.sublist_append_left _ _),h.cnt⟩
theorem DictD.snoc {k:Nat} {L:List zc2} (h:DictD k L) (hk:k<dictV.length) {c:Int} (h1:1<=c) (h6:c<=6):DictD (k+1) (L++[(dictV[k],c)]):=by
 refine ⟨?_,fun d hd=>?_⟩
 ·rw [List.take_succ_eq_append_getElem hk,List.map_append]
  exact List.Sublist.append h.sub (List.Sublist.refl _)
 ·rcases List.mem_append.1 hd with h2 | h2
  ·exact h.cnt d h2
  ·rw [List.mem_singleton.1 h2];exact ⟨h1,h6⟩
theorem infoEnt:(prog.info? 91).map (fun i=>(i.zero,i.size,i.bytes))=some (some (.agg #[.string ⟨#[]⟩,.int .i64 0]),2,24):=by kernel_rfl
def DictPost (D:Nat) (w:World) (e:Ending) (w':World):Prop:=∃ v L,e = .returned v/\Vec w' (fun b=>w.heap.size<=b) 2 zd1 v L/\DictD 6 L/\Moved D w w'
theorem dict_deal (D:Nat) (w:World) (h:DeckAt w D) :
  Calls prog 13 #[.pointer (some ⟨D,0,none⟩)] w (DictPost D w):=by
 have zD:=h.lt;have M0:=zjy (Moved.start h);clear h;go_enter func13,ntmps13
 go_wp2_with fail
 refine zal (fun W hW=>?_)
 have a9:Moved D w W:=by rw [hW];exact M0.o.alloc _
 have a7:RowB W w.heap.size dictV:=by rw [hW];exact zac rfl
 have b4:=zjy a7;have b7:=zjy a9;have zW:W.heap.size=w.heap.size+1:=by rw [hW];simp
 clear hW a7 a9 M0;go_loopw [3,5] (fun v i wr=>∃ (k:Nat) (L:List zc2),i = .int .i64 k/\k<=6/\OwnM D 91 2 zd1 W v L wr/\RowB wr w.heap.size dictV/\DictD k L) (fun _ i _=>6 - (intOf i).toNat)
 case atStart=>exact ⟨0,[],rfl,by omega,OwnM.nil (Moved.start b7.o.deck),b4.o,DictD.nil 0⟩
 case round =>
  obtain ⟨k,L,rfl,hk,ho,a1,hd⟩:=hrel;have HO:=zjy ho;have HR:=zjy a1;have HD:=zjy hd;obtain ⟨av,cv,ev⟩:=zar ho.1;obtain ⟨n,hn⟩:=xex (L.length);rw [hn] at ev;subst ev;have HN:=zjy hn;have hn6:n<=6:=by have:=hd.len;omega
  clear ho a1 hd hn b4;by_cases hlt:k<6
  ·have hq:decide ((k:Int)<6)=true:=by simp;omega
   have hki:(k:Int)<6:=by omega
   have a0:k<dictV.length:=hlt;go_wp2_with fail
   refine (zfj D _ 4 HO.o.2.deck (by omega) (by omega)).mono ?_;rintro e w1 ⟨u,rfl,mv⟩;have a3:=zjy (HO.o.moved mv);have a2:=zjy (show RowB w1 w.heap.size dictV from mv.blk (k:=w.heap.size) (by omega) HR.o);clear mv HO HR;cases u
   ·have c0:=a2.o.cell k a0
    obtain ⟨t,ht⟩:=xex (dictV.getD k []);rw [ht] at c0;have HT:=zjy ht;have lw:=zaa a2.o;clear ht;go_wp2_with fail
    refine wp_region_noPanic ?_
    refine wp_region_held_drew (S:=(fun w'=>w'.cell? ⟨w.heap.size,k,none⟩=some (zak t))) (by kernel_rfl) (c0) (fun hHeld=>?_)
    refine tH 0 ?_;refine tH 1 ?_;refine tH 2 ?_;refine tH 3 ?_;refine tH 4 ?_;refine tH 5 ?_
    refine xrH 6 rfl fun K hK=>?_
    go_simp;refine (zb5 D _ 6 (a3.o.2.drew).deck (by omega) (by omega)).mono ?_;rintro e w2 ⟨x,rfl,x0,x1,mv⟩;have hwx:IntKind.i64.wrap (1+x)=1+x:=(by rw [IntKind.wrap_i64];omega);have m2:Moved D w1 w2:=(Moved.start a3.o.2.deck).drew.trans mv;have b6:=zjy (a3.o.moved m2);have b3:=zjy (show RowB w2 w.heap.size dictV from m2.blk (k:=w.heap.size) (by omega) a2.o);have c2:=b3.o.cell k a0;rw [HT.o] at c2;clear mv
    refine hK.out _ _ (c2) (fun hHeld=>?_)
    clear hK K;refine tH 7 ?_;refine tH 8 ?_;have hA:=(Moved.start b6.o.2.deck).alloc (.cells #[zak t,.int .i64 (1+x)] 91);have b5:=zjy (b6.o.moved hA);have b1:=zjy (show RowB (w2.alloc (.cells #[zak t,.int .i64 (1+x)] 91)) w.heap.size dictV from hA.blk (k:=w.heap.size) (by omega) b3.o);have cA:=b1.o.cell k a0;rw [HT.o] at cA
    refine xrH 9 rfl fun K hK=>?_
    go_simp;skip
    refine hK.out _ _ (cA) (fun hHeld=>?_)
    clear hK K;have b9:=zjy (show zck (w2.alloc (.cells #[zak t,.int .i64 (1+x)] 91)) 2 (.slice (some ⟨w2.heap.size,0,none⟩) 1 1) [((t,1+x):zc2)].length ([((t,1+x):zc2)].flatMap zd1) from za0 (xs:=[((t,1+x):zc2)].flatMap zd1) (fr:=(0,0)) (t:=91) (zac rfl) rfl);have a5:some w.heap.size≠(Value.slice av n cv).ownBlock:=fun e=>by have:=(b5.o.1.lt _ e.symm).1;omega
    refine xrH 10 rfl fun K hK=>?_
    refine wp_append_m (.tmp 15) (.tmp 24) 44 (by rfl) D 91 (.agg #[.string ⟨#[]⟩,.int .i64 0]) 2 24 zd1 (fun _=>rfl) one_encEn underlying44 infoEnt rfl (by decide) (by decide) (wA:=W) (v:=.slice av n cv) (A:=L) (B:=[(t,1+x)]) (by rfl) b5.o (by rfl) b9.o (by rw [HN.o];simp;omega) ?_;intro v4 w4 a8 b0;have c1:=zjy a8;have b2:=zjy (show RowB w4 w.heap.size dictV from b0 _ _ a5 b1.o);have c4:=b2.o.cell k a0;rw [HT.o] at c4;clear a8 b0
    refine hK.out _ _ (c4) (fun hHeld=>?_)
    clear hK K;refine tH 11 ?_;refine wpAnyH_done (by kernel_rfl) ?_ _;refine NoPanic.normal ?_;go_wp2_with fail
    have a4:=HD.o.snoc (c:=1+x) a0 (by omega) (by omega);have a6:dictV[k]=t:=by rw [<- HT.o];exact (zbb _ _ a0).symm
    rw [a6] at a4;have b8:=zjy a4;clear a4 a6;go_roundw
    case rel=>exact ⟨k+1,L++[(t,1+x)],by go_num,by omega,c1.o,b2.o,b8.o⟩
    case measure=>simp [intOf];omega
   ·go_wp2_with fail
    go_roundw
    case rel=>exact ⟨k+1,L,by go_num,by omega,a3.o,a2.o,HD.o.skip a0⟩
    case measure=>simp [intOf];omega
  ·have hq:decide ((k:Int)<6)=false:=by simp;omega
   obtain rfl:k=6:=by omega
   go_wp2_with fail
   go_ret;exact ⟨_,L,rfl,(OwnM.vec (size:=2) (enc:=zd1) (fun _=>rfl) HO.o).move xnl (fun b _ hb=>⟨rfl,by have hb':W.heap.size<=b:=hb;omega⟩),HD.o,b7.o.trans HO.o.2⟩
end
section
open Go.RowKit
theorem eshort_any (S:Nat->Prop) (v:Value) (L:List (List UInt8)) (w:World) (h:Vec w S 1 za8 v L) (hn:L.length<=1000000) :
  Calls prog 21 #[v] w fun e w'=>e = .returned (.bool (L.all fun x=>decide (x.length<=200)))/\Below w.heap.size w w':=by
 obtain ⟨a,cap,rfl⟩:=h.slice;have HV:=zjy h;have HF:=zjy (show ∀ b,(L.all fun x=>decide (x.length<=200))=b->Ending.returned (.bool b) = .returned (.bool (L.all fun x=>decide (x.length<=200))) from fun b h=>by rw [h])
 clear h;go_enter func21,ntmps21
 go_wp2_with fail
 go_loopw [3] (fun i wr=>∃ k:Nat,k<=L.length/\i = .int .i64 k/\Below w.heap.size w wr/\Hid (∀ j,j<k->(L.getD j []).length<=200)) (fun i _=>L.length - (intOf i).toNat)
 case atStart=>exact ⟨0,by omega,rfl,Below.refl _ _,zjy fun j hj=>by omega⟩
 case round =>
  obtain ⟨k,hk,rfl,a0,HA⟩:=hrel;have HW:=zjy a0;by_cases hlt:k<L.length
  ·have hq:decide ((k:Int)<L.length)=true:=by simp;omega
   have hi:(k:Int)<(L.length:Int):=by omega
   obtain ⟨b,off,rfl,_,hb,hc⟩:=zb7 HV.o (by omega);have c0:=(a0.cell (p:=⟨b,off+k,none⟩) hb).trans (hc k hlt);obtain ⟨x,hx⟩:=xex (L.getD k []);rw [hx] at c0;have HX:=zjy hx;clear a0 hc hx;by_cases hxl:x.length<=200
   ·have d:decide ((200:Int)<x.length)=false:=by simp;omega
    go_wp2_with fail
    go_roundw
    case rel=>exact ⟨k+1,by omega,by go_num,HW.o,zjy fun j hj=>by
     by_cases e:j=k
     ·subst e;rw [HX.o];exact hxl
     ·exact HA.o j (by omega)⟩
    case measure=>simp [intOf];omega
   ·have d:decide ((200:Int)<x.length)=true:=by simp;omega
    have HE:=zjy (show (L.all fun x=>decide (x.length<=200))=false by
     rw [List.all_eq_false]
     exact ⟨x,by rw [<- HX.o,List.getD,List.getElem?_eq_getElem hlt];exact List.getElem_mem hlt,by simpa using hxl⟩)
    go_wp2_with fail
    go_ret;exact ⟨HF.o _ HE.o,HW.o⟩
  ·have hq:decide ((k:Int)<L.length)=false:=by simp;omega
   have HE:=zjy (show (L.all fun x=>decide (x.length<=200))=true by
    rw [List.all_eq_true];intro x hx;obtain ⟨j,hj,rfl⟩:=List.mem_iff_getElem.1 hx;have:=HA.o j (by omega);rw [List.getD,List.getElem?_eq_getElem hj] at this
    simpa using this)
   clear a0;go_wp2_with fail
   go_ret;exact ⟨HF.o _ HE.o,HW.o⟩
end
section
open Go.RowKit Cal
abbrev Off (D:Nat):Nat->Prop:=fun b=>b≠D
theorem RecsVec.movedD {D:Nat} {w w':World} {v:Value} {R:List RecL} (h:RecsVec w (Off D) v R) (m:Moved D w w'):RecsVec w' (Off D) v R :=
 h.move m.size fun b hb hs=>⟨m.grown.block b hb (by have:b≠D:=hs;simp;omega),hs⟩
theorem Vec.off {D:Nat} {w:World} {S:Nat->Prop} {α:Type} {k:Nat} {enc:α->List Value} {v:Value} {L:List α} (h:Vec w S k enc v L) (hS:∀ b,b<w.heap.size->S b->b≠D):Vec w (Off D) k enc v L:=h.move xnl fun b hb hs=>⟨rfl,hS b hb hs⟩
theorem RecsVec.off {D:Nat} {w:World} {S:Nat->Prop} {v:Value} {R:List RecL} (h:RecsVec w S v R) (hS:∀ b,b<w.heap.size->S b->b≠D):RecsVec w (Off D) v R:=h.move xnl fun b hb hs=>⟨rfl,hS b hb hs⟩
structure ShortR (r:RecL):Prop where
 n:r.vals.length<=20
 s:∀ x∈r.vals,x.length<=200
structure EX (D B Y:Nat) (W0:World) (key:Int × Int) (r:RecL) (ra:Option Addr) (rc:Nat) (o:EncL) (oa:Option Addr) (oc:Nat) (S:Nat->Prop) (vf vt vn vs:Value) (s:SchemaL) (rv:Value) (R:List RecL) (wr:World):Prop where
 m:Moved D W0 wr
 k:wr.heap[B]?=some (.cells #[.int .u64 key.1,.int .u64 key.2] 41 (0,0))
 x:wr.heap[B+1]?=some (.cells #[.int .i64 r.id,.int .i64 r.ver,.slice ra r.vals.length rc] 68 (0,0))
 ob:wr.heap[B+2]?=some (.cells #[.int .i64 o.id,.int .i64 o.ver,.slice oa o.fields.length oc] 59 (0,0))
 y:wr.heap[Y]?=some (.cells #[vf,vt,vn,vs] 33 (0,0))
 sa:SchemaAt wr S vf vt vn vs s
 rs:RecsVec wr (Off D) rv R
 vv:Vec wr (Off D) 1 za8 (.slice ra r.vals.length rc) r.vals
 oo:BitsVec wr (Off D) (.slice oa o.fields.length oc) o.fields
 ne:∀ b,S b->b≠D
 bD:B+2<D
 yD:Y≠D
theorem pars_in {n:Nat} {P:List ParL} (h:ParsD n n P):∀ p∈P,InI p.len:=by
 intro p hp;obtain ⟨i,hi,rfl⟩:=List.mem_iff_getElem.1 hp;have h1:=(h.par i (by rw [<- h.len];exact hi)).1;rw [zbb _ _ hi] at h1;exact ⟨by have:=h1.len1;omega,by have:=h1.len2;omega⟩
end
section
open Go.RowKit
theorem same_any (u v:Value) (l:List Ex) (w:World) (hu:ExRow w (All w) u l) (hv:ExRow w (All w) v l) (hn:l.length<=1000) :
  Calls prog 23 #[u,v] w fun e w'=>e = .returned (.bool true)/\Below w.heap.size w w':=by
 obtain ⟨ua,uc,rfl⟩:=hu.val;obtain ⟨va,vc,rfl⟩:=hv.val;have HU:=zjy hu;clear hu;have HV:=zjy hv;clear hv;go_enter func23,ntmps23
 go_wp2_with fail
 go_loopw [5] (fun i wr=>∃ k:Nat,k<=l.length/\i = .int .i64 k/\Below w.heap.size w wr) (fun i _=>l.length - (intOf i).toNat)
 case atStart=>exact ⟨0,by omega,rfl,Below.refl _ _⟩
 case round =>
  obtain ⟨k,hk,rfl,hb⟩:=hrel;by_cases hlt:k<l.length
  ·obtain ⟨bl,ol,rfl,a0,c0,c1,c2,c3,c4⟩:=HU.o.get k hlt
   obtain ⟨bb,ob,rfl,a1,e0,e1,e2,e3,e4⟩:=HV.o.get k hlt;generalize l[k]=x at *;obtain ⟨xf,xu,xh,xc,xi⟩:=x;dsimp only at *;have d0:=(hb.cell (p:=⟨bl,ol+k*5,none⟩) a0).trans c0;have d1:=(hb.cell (p:=⟨bl,ol+k*5+1,none⟩) a0).trans c1;have d2:=(hb.cell (p:=⟨bl,ol+k*5+2,none⟩) a0).trans c2;have d3:=(hb.cell (p:=⟨bl,ol+k*5+3,none⟩) a0).trans c3;have d4:=(hb.cell (p:=⟨bl,ol+k*5+4,none⟩) a0).trans c4;have g0:=(hb.cell (p:=⟨bb,ob+k*5,none⟩) a1).trans e0;have g1:=(hb.cell (p:=⟨bb,ob+k*5+1,none⟩) a1).trans e1;have g2:=(hb.cell (p:=⟨bb,ob+k*5+2,none⟩) a1).trans e2;have g3:=(hb.cell (p:=⟨bb,ob+k*5+3,none⟩) a1).trans e3;have g4:=(hb.cell (p:=⟨bb,ob+k*5+4,none⟩) a1).trans e4;clear c0 c1 c2 c3 c4 e0 e1 e2 e3 e4;have HB:=zjy hb;clear hb;go_wp2_with fail
   refine wp_region_noPanic ?_
   refine wp_region_held_drew (S:=(fun w'=>w'.cell? ⟨bl,ol+k*5,none⟩=some (.int .i64 xf)/\w'.cell? ⟨bl,ol+k*5+1,none⟩=some (.int .i64 xu)/\w'.cell? ⟨bl,ol+k*5+2,none⟩=some (.int .i64 xh)/\w'.cell? ⟨bl,ol+k*5+3,none⟩=some (.int .i64 xc)/\w'.cell? ⟨bl,ol+k*5+4,none⟩=some (.int .i64 xi)/\w'.cell? ⟨bb,ob+k*5,none⟩=some (.int .i64 xf)/\w'.cell? ⟨bb,ob+k*5+1,none⟩=some (.int .i64 xu)/\w'.cell? ⟨bb,ob+k*5+2,none⟩=some (.int .i64 xh)/\w'.cell? ⟨bb,ob+k*5+3,none⟩=some (.int .i64 xc)/\w'.cell? ⟨bb,ob+k*5+4,none⟩=some (.int .i64 xi))) (by kernel_rfl) (⟨d0,d1,d2,d3,d4,g0,g1,g2,g3,g4⟩) (fun hHeld=>?_)
   refine tH 0 ?_;refine tH 1 ?_;refine tH 2 ?_;refine tH 3 ?_;refine tH 4 ?_;refine tH 5 ?_;refine tH 6 ?_;refine tH 7 ?_;refine tH 8 ?_;refine wpAnyH_done (by kernel_rfl) ?_ _;refine NoPanic.normal ?_;go_wp2_with fail
   go_roundw
   case rel=>exact ⟨k+1,by omega,by go_num,HB.o.drew⟩
   case measure=>simp [intOf];omega
  ·go_wp2_with fail
   go_ret;exact ⟨rfl,hb⟩
end
section
open Go.RowKit
theorem calls_world {P:Program} {f:Nat} {args:Array Value} {w:World} {Q:Ending->World->Prop} (h:∀ wS,wS=w->Calls P f args wS Q):Calls P f args w Q:=h w rfl
def wA:Ex:=⟨0,3,1,2,400⟩
def wB:Ex:=⟨0,3,2,2,400⟩
theorem one_row {w:World} {b:Nat} {x:Ex} (h:w.heap[b]?=some (.cells x.cells.toArray 61 (0,0))):ExRow w (All w) (.slice (some ⟨b,0,none⟩) 1 1) [x] :=
 ⟨_,_,rfl,rfl,fun _=>⟨b,0,rfl,zaa h,fun j hj=>by rw [cell_of_row _ _ _ _ _ _ h];simp [zdl]⟩⟩
theorem zf2 (w:World) :
  Calls prog 6 #[] w fun e w'=>e = .returned (.bool true)/\Below w.heap.size w w':=by
 go_enter func6,ntmps6
 go_wp2_with fail
 refine calls_world (fun w0 h0=>?_)
 have A0:w0.heap[w.heap.size]?=some (.cells wA.cells.toArray 61 (0,0)):=by rw [h0];exact zaf (zac rfl)
 have B0:w0.heap[w.heap.size+1]?=some (.cells wB.cells.toArray 61 (0,0)):=by rw [h0];exact zac (by simp)
 have d6:=zjy (show Below w.heap.size w w0 by rw [h0];exact ((Below.refl _ _).alloc xnl _).alloc (by simp) _);clear h0;have b4:=zjy (one_row A0);have a5:=zjy (one_row B0);refine (enter_good _ _ [wA] [wB] _ b4.o a5.o (by decide) (by decide) (by decide)).mono ?_;rintro e w1 ⟨⟨v,rfl,hv⟩,hb⟩;obtain ⟨va,vc,rfl⟩:∃ va vc,v = .slice va 1 vc:=hv.val;obtain ⟨bv,ov,rfl,zv,v0,v1,v2,v3,v4⟩:=hv.get 0 (by decide);simp only [Nat.zero_mul,Nat.add_zero] at v0 v1 v2 v3 v4;change _=some (Value.int .i64 0) at v0;change _=some (Value.int .i64 3) at v1;change _=some (Value.int .i64 2) at v2;change _=some (Value.int .i64 2) at v3;change _=some (Value.int .i64 400) at v4;have B1:=zab (b:=w.heap.size+1) hb (zaa B0) B0;have zp:=zaa B1;have p0:w1.cell? ⟨w.heap.size+1,0,none⟩=some (.int .i64 0):=(cell_of_row _ _ _ _ _ _ B1).trans rfl;have p1:w1.cell? ⟨w.heap.size+1,1,none⟩=some (.int .i64 3):=(cell_of_row _ _ _ _ _ _ B1).trans rfl;have p2:w1.cell? ⟨w.heap.size+1,2,none⟩=some (.int .i64 2):=(cell_of_row _ _ _ _ _ _ B1).trans rfl;have p3:w1.cell? ⟨w.heap.size+1,3,none⟩=some (.int .i64 2):=(cell_of_row _ _ _ _ _ _ B1).trans rfl;have p4:w1.cell? ⟨w.heap.size+1,4,none⟩=some (.int .i64 400):=(cell_of_row _ _ _ _ _ _ B1).trans rfl;have b0:=zjy (b4.o.below hb);have a3:=zjy (a5.o.below hb);have Hx:=xhh d6 hb;clear hv hb A0 B0 B1 b4 a5 d6;go_wp2_with fail
 have hx:=zjy (show ExRow w1.drew (All w1.drew) _ [wA] from b0.o);clear b0;have b0:=hx;clear hx;have hx:=zjy (show ExRow w1.drew (All w1.drew) _ [wB] from a3.o);clear a3;have a3:=hx;clear hx;have hx:=zjy (Hx.o.drew);clear Hx;have Hx:=hx;clear hx;refine wp_region_noPanic ?_
 refine wp_region_held_drew (S:=(fun w'=>w'.cell? ⟨bv,ov,none⟩=some (.int .i64 0)/\w'.cell? ⟨bv,ov+1,none⟩=some (.int .i64 3)/\w'.cell? ⟨bv,ov+2,none⟩=some (.int .i64 2)/\w'.cell? ⟨bv,ov+3,none⟩=some (.int .i64 2)/\w'.cell? ⟨bv,ov+4,none⟩=some (.int .i64 400)/\w'.cell? ⟨w.heap.size+1,0,none⟩=some (.int .i64 0)/\w'.cell? ⟨w.heap.size+1,1,none⟩=some (.int .i64 3)/\w'.cell? ⟨w.heap.size+1,2,none⟩=some (.int .i64 2)/\w'.cell? ⟨w.heap.size+1,3,none⟩=some (.int .i64 2)/\w'.cell? ⟨w.heap.size+1,4,none⟩=some (.int .i64 400))) (by kernel_rfl) (⟨v0,v1,v2,v3,v4,p0,p1,p2,p3,p4⟩) (fun hHeld=>?_)
 refine tH 0 ?_;refine tH 1 ?_
 refine xrH 2 rfl fun K hK=>?_
 go_simp;refine ((show _ from zjw _ _ [wA] [wA] _ b0.o b0.o (by decide) (by decide))).mono ?_;rintro e wa ⟨he,a2⟩;rw [show zcq [wA] [wA]=0 from by decide] at he;subst he;have c4:=(a2.cell (p:=⟨bv,ov,none⟩) zv).trans v0;have c2:=(a2.cell (p:=⟨bv,ov+1,none⟩) zv).trans v1;have c0:=(a2.cell (p:=⟨bv,ov+2,none⟩) zv).trans v2;have b8:=(a2.cell (p:=⟨bv,ov+3,none⟩) zv).trans v3;have b6:=(a2.cell (p:=⟨bv,ov+4,none⟩) zv).trans v4;have d4:=(a2.cell (p:=⟨w.heap.size+1,0,none⟩) zp).trans p0;have d2:=(a2.cell (p:=⟨w.heap.size+1,1,none⟩) zp).trans p1;have d0:=(a2.cell (p:=⟨w.heap.size+1,2,none⟩) zp).trans p2;have c8:=(a2.cell (p:=⟨w.heap.size+1,3,none⟩) zp).trans p3;have c6:=(a2.cell (p:=⟨w.heap.size+1,4,none⟩) zp).trans p4;have b3:=zjy (b0.o.below a2);have a4:=zjy (a3.o.below a2);have e9:=xhh Hx a2;have a7:=Nat.lt_of_lt_of_le zv a2.size;have a9:=Nat.lt_of_lt_of_le zp a2.size;clear a2
 refine hK.out _ _ (⟨c4,c2,c0,b8,b6,d4,d2,d0,c8,c6⟩) (fun hHeld=>?_)
 clear hK K;refine tH 3 ?_;refine tH 4 ?_;refine tH 5 ?_;refine tH 6 ?_
 refine xrH 7 rfl fun K hK=>?_
 go_simp;refine (zjw _ _ [wA] [wB] _ b3.o a4.o (by decide) (by decide)).mono ?_;rintro e wb ⟨he,a1⟩;rw [show zcq [wA] [wB]=11 from by decide] at he;subst he;have c3:=(a1.cell (p:=⟨bv,ov,none⟩) a7).trans c4;have c1:=(a1.cell (p:=⟨bv,ov+1,none⟩) a7).trans c2;have b9:=(a1.cell (p:=⟨bv,ov+2,none⟩) a7).trans c0;have b7:=(a1.cell (p:=⟨bv,ov+3,none⟩) a7).trans b8;have b5:=(a1.cell (p:=⟨bv,ov+4,none⟩) a7).trans b6;have d3:=(a1.cell (p:=⟨w.heap.size+1,0,none⟩) a9).trans d4;have d1:=(a1.cell (p:=⟨w.heap.size+1,1,none⟩) a9).trans d2;have c9:=(a1.cell (p:=⟨w.heap.size+1,2,none⟩) a9).trans d0;have c7:=(a1.cell (p:=⟨w.heap.size+1,3,none⟩) a9).trans c8;have c5:=(a1.cell (p:=⟨w.heap.size+1,4,none⟩) a9).trans c6;have b2:=zjy (b3.o.below a1);have b1:=zjy (a4.o.below a1);have e8:=xhh e9 a1;have a6:=Nat.lt_of_lt_of_le a7 a1.size;have a8:=Nat.lt_of_lt_of_le a9 a1.size;clear a1
 refine hK.out _ _ (⟨c3,c1,b9,b7,b5,d3,d1,c9,c7,c5⟩) (fun hHeld=>?_)
 clear hK K;refine tH 8 ?_;refine tH 9 ?_;refine tH 10 ?_;refine tH 11 ?_;refine tH 12 ?_;refine tH 13 ?_;refine tH 14 ?_;refine tH 15 ?_;refine tH 16 ?_;refine tH 17 ?_;refine tH 18 ?_;refine tH 19 ?_;refine tH 20 ?_;refine tH 21 ?_;refine tH 22 ?_;refine tH 23 ?_;refine tH 24 ?_;refine tH 25 ?_;refine tH 26 ?_;refine tH 27 ?_;refine tH 28 ?_;refine tH 29 ?_
 refine xrH 30 rfl fun K hK=>?_
 go_simp;refine (zh8 _ _ _ [wA] _ b2.o (by decide)).mono ?_;rintro e wc ⟨he,a0⟩;rw [show ze4 [wA]=0 from by decide] at he;subst he;have e1:=(a0.cell (p:=⟨bv,ov,none⟩) a6).trans c3;have e0:=(a0.cell (p:=⟨bv,ov+1,none⟩) a6).trans c1;have d9:=(a0.cell (p:=⟨bv,ov+2,none⟩) a6).trans b9;have d8:=(a0.cell (p:=⟨bv,ov+3,none⟩) a6).trans b7;have d7:=(a0.cell (p:=⟨bv,ov+4,none⟩) a6).trans b5;have e6:=(a0.cell (p:=⟨w.heap.size+1,0,none⟩) a8).trans d3;have e5:=(a0.cell (p:=⟨w.heap.size+1,1,none⟩) a8).trans d1;have e4:=(a0.cell (p:=⟨w.heap.size+1,2,none⟩) a8).trans c9;have e3:=(a0.cell (p:=⟨w.heap.size+1,3,none⟩) a8).trans c7;have e2:=(a0.cell (p:=⟨w.heap.size+1,4,none⟩) a8).trans c5;have f0:=zjy (b2.o.below a0);have d5:=zjy (b1.o.below a0);have e7:=xhh e8 a0;have zv3:=Nat.lt_of_lt_of_le a6 a0.size;have zp3:=Nat.lt_of_lt_of_le a8 a0.size;clear a0
 refine hK.out _ _ (⟨e1,e0,d9,d8,d7,e6,e5,e4,e3,e2⟩) (fun hHeld=>?_)
 clear hK K;refine tH 31 ?_;refine tH 32 ?_;refine tH 33 ?_;refine wpAnyH_done (by kernel_rfl) ?_ _;refine NoPanic.normal ?_;go_wp2_with fail
 go_ret;exact ⟨rfl,e7.o⟩
end
section
open Go.RowKit
theorem Moved.own {D:Nat} {w w3 w4:World} (h:Moved D w w3) (hb:Below w.heap.size w3 w4):Moved D w w4:=by
 have:=h.lt
 exact ⟨⟨hb.os.trans h.grown.os,hb.tape.trans h.grown.tape,hb.output.trans h.grown.output,Nat.le_trans h.grown.size hb.size,fun k hk hr=>(hb.block k hk).trans (h.grown.block k hk hr)⟩,
  h.deck.same fun k hk=>hb.block k (by omega),this⟩
def Ex.dealt (k:Int) (x:Ex):Prop:=x.f=k/\(0<=x.u/\x.u<=5)/\(0<=x.h/\x.h<=5)/\(0<=x.c/\x.c<=5)/\(0<=x.i/\x.i<=1000)
def Dealt (l:List Ex):Prop:=∀ j,(h:j<l.length)->(l[j]).dealt (j:Int)
def ExposPost (D n:Nat) (w:World) (e:Ending) (w':World):Prop :=
 ∃ v l,e = .returned v/\ExRow w' (fun b=>w.heap.size<=b) v l/\l.length=n/\Dealt l/\Moved D w w'
theorem Dealt.snoc {l:List Ex} {x:Ex} (h:Dealt l) (hx:x.dealt (l.length:Int)):Dealt (l++[x]):=by
 intro j hj
 rcases Nat.lt_or_ge j l.length with h1 | h1
 ·rw [List.getElem_append_left h1];exact h j h1
 ·obtain rfl:j=l.length:=by simp at hj;omega
  simpa using hx
theorem expos_any (D n:Nat) (w:World) (h:DeckAt w D) (hn:n<=1000) :
  Calls prog 24 #[.pointer (some ⟨D,0,none⟩),.int .i64 n] w (ExposPost D n w):=by
 have MV:=zjy (Moved.start h);clear h;go_enter func24,ntmps24
 go_wp2_with fail
 go_loopw [5,6] (fun out i wr=>∃ (k:Nat) (l:List Ex),k<=n/\i = .int .i64 k/\l.length=k/\wr.ownsRow w.heap.size 61 5 out k (zdl l)/\Dealt l/\Moved D w wr) (fun _ i _=>n - (intOf i).toNat)
 case atStart=>exact ⟨0,[],by omega,rfl,rfl,World.ownsRow_nil _ _ _ _,fun j h=>by simp at h,MV.o⟩
 case round =>
  obtain ⟨k,l,hk,rfl,hl,a4,hd,mv⟩:=hrel;have a3:=zjy hl;clear hl;have a2:=zjy a4;clear a4;have HD:=zjy hd;clear hd MV;have MV:=zjy mv;clear mv;by_cases hlt:k<n
  ·go_wp2_with fail
   refine (zb5 D _ _ MV.o.deck (by omega) (by omega)).mono ?_;rintro e w1 ⟨a,rfl,a0,a1,mv⟩;have O1:=zjy (a2.o.kept mv.grown (by right;intro he;have:=a2.o.lt _ he;have:=MV.o.lt;omega));have M1:=zjy (MV.o.trans mv);clear mv MV a2;go_wp2_with fail
   refine (zb5 D _ _ M1.o.deck (by omega) (by omega)).mono ?_;rintro e w2 ⟨b,rfl,b0,b1,mv⟩;have O2:=zjy (O1.o.kept mv.grown (by right;intro he;have:=O1.o.lt _ he;have:=M1.o.lt;omega));have M2:=zjy (M1.o.trans mv);clear mv M1 O1;go_wp2_with fail
   refine (zb5 D _ _ M2.o.deck (by omega) (by omega)).mono ?_;rintro e w3 ⟨c,rfl,c0,c1,mv⟩;have O3:=zjy (O2.o.kept mv.grown (by right;intro he;have:=O2.o.lt _ he;have:=M2.o.lt;omega));have M3:=zjy (M2.o.trans mv);clear mv M2 O2;go_wp2_with fail
   refine (zb5 D _ _ M3.o.deck (by omega) (by omega)).mono ?_;rintro e w4 ⟨d,rfl,d0,d1,mv⟩;have O4:=zjy (O3.o.kept mv.grown (by right;intro he;have:=O3.o.lt _ he;have:=M3.o.lt;omega));have M4:=zjy (M3.o.trans mv);clear mv M3 O3;go_wp2_with (at_builtin;refine zay rfl _ _ 46 rfl w.heap.size 61 5 40 _ underlying46 infoEx rfl (by decide) (by decide) _ _ _ rfl O4.o _ 1 rfl rfl (by simp [Value.oneCell']) (by omega) M4.o.size ?_;intro v5 w5 a6 a5)
   go_roundw
   case rel =>
    refine ⟨k+1,l++[⟨k,a,b,c,d⟩],by omega,by go_num,by simp [a3.o],?_,HD.o.snoc ⟨by rw [a3.o],⟨by show 0<=a;omega,by show a<=5;omega⟩,⟨by show 0<=b;omega,by show b<=5;omega⟩,⟨by show 0<=c;omega,by show c<=5;omega⟩,⟨by show 0<=d;omega,by show d<=1000;omega⟩⟩,M4.o.own (a5 _ (Below.refl _ _))⟩;have e2:zdl (l++[⟨k,a,b,c,d⟩])=zdl l++Ex.cells ⟨k,a,b,c,d⟩:=by simp [zdl]
    rw [e2];exact a6
   case measure=>simp [intOf];omega
  ·go_wp2_with fail
   go_ret;obtain rfl:k=n:=by omega
   exact ⟨_,l,rfl,by unfold ExRow;rw [a3.o];exact Row.owns a2.o fun b hb _=>hb,a3.o,HD.o,MV.o⟩
end
section
open Go.RowKit
theorem deck_law2 {w w1:World} {a:Option Addr} {n cap:Nat} {zs:List Int} (hn:n<=400) (hr:IsRow .i64 w a n cap zs) (hb:Below w.heap.size w w1) :
  DeckAt (w1.alloc (.cells #[.slice a n cap,.int .i64 0,.int .u64 11400714819323198485] 81)) w1.heap.size :=
 deck_new hn fun h0=>by
  obtain ⟨b,off,e1,e2,e3⟩:=hr.read h0;exact ⟨b,off,e1,Nat.lt_of_lt_of_le e2 hb.size,fun i hi=>by obtain ⟨x,hx⟩:=e3 i hi;exact ⟨x,(hb.cell (p:=⟨b,off+i,none⟩) e2).trans hx⟩⟩
theorem ExRow.all {w:World} {S:Nat->Prop} {v:Value} {l:List Ex} (h:ExRow w S v l):ExRow w (All w) v l:=Row.move h fun b hb _=>⟨rfl,hb⟩
theorem chk_of {l:List Ex} (h1:1<=l.length) (h5:l.length<=5) (h:∀ j,(hj:j<l.length)->(l[j]).ok (j:Int)):ze4 l=0:=by
 have:okAll 0 l:=(zhg l 0).2 fun j hj=>by rw [Nat.zero_add];exact h j hj
 unfold ze4;rw [if_pos ⟨h1,h5⟩,if_pos this]
theorem le_refl_all (a:List Ex):zg8 a a:=by
 rw [zgq];intro j hj hj';unfold Ex.le;omega
end
section
open Go.RowKit Cal
structure LX (D Y:Nat) (W0:World) (vf vt vn vs:Value) (s:SchemaL) (wr:World):Prop where
 m:Moved D W0 wr
 y:wr.heap[Y]?=some (.cells #[vf,vt,vn,vs] 33 (0,0))
 sa:SchemaAt wr (Off D) vf vt vn vs s
 yD:Y≠D
theorem LX.moved {D Y:Nat} {W0:World} {vf vt vn vs:Value} {s:SchemaL} {wr wd:World} (h:LX D Y W0 vf vt vn vs s wr) (m:Moved D wr wd):LX D Y W0 vf vt vn vs s wd :=
 ⟨h.m.trans m,m.blk h.yD h.y,h.sa.moved (fun b h=>h) m,h.yD⟩
theorem LX.below {D Y:Nat} {W0:World} {vf vt vn vs:Value} {s:SchemaL} {wr wd:World} (h:LX D Y W0 vf vt vn vs s wr) (hb:Below wr.heap.size wr wd):LX D Y W0 vf vt vn vs s wd :=
 h.moved ((Moved.start h.m.deck).below hb)
theorem SlsVec.movedD {D k:Nat} {α:Type} {enc:α->List Value} {w w':World} {v:Value} {L:List (List α)} (h:SlsVec k enc w (Off D) v L) (m:Moved D w w'):SlsVec k enc w' (Off D) v L :=
 h.move m.size fun b hb hs=>⟨m.grown.block b hb (by have:b≠D:=hs;simp;omega),hs⟩
end
section
open Go.RowKit Cal
structure DOut (D:Nat) (W:World) (v:Value) (C:List SV) (Ds:List (List zc2)) (wr:World):Prop where
 own:OwnM D 44 1 encSV W v C wr
 sls:SlsAll 2 zd1 wr (zg6 W.heap.size v) C Ds
 ok:∀ L∈Ds,DictD 6 L
end
section
open Go.RowKit Go.WideShapes Go.ChangeShapes Go.Joins
theorem vec_in {α:Type} {w:World} {a:Addr} {len cap k:Nat} {enc:α->List Value} (g:Nat->α) (hk:∀ x,(enc x).length=k) (hk0:0<k) (hl:len<=cap)
  (hc:∀ i,i<len->∀ j u,(enc (g i))[j]?=some u->w.cell? (a.add (i*k+j))=some u):Vec w zau k enc (.slice (some a) len cap) ((List.range len).map g):=by
 refine ⟨some a,cap,by simp,by simpa using hl,fun h0=>?_⟩
 have h0:0<len:=by simpa using h0
 obtain ⟨b,off,spot⟩:=a;obtain ⟨u,hu⟩:∃ u,(enc (g 0))[0]?=some u:=⟨_,List.getElem?_eq_getElem (by rw [hk];exact hk0)⟩;have c0:=hc 0 h0 0 u hu
 have hs:spot=none:=by
  cases spot with
  | none=>rfl
  | some s =>
   exfalso;have he:((⟨b,off,some s⟩:Addr).add (0*k+0)).spot.isSome=true:=by unfold Addr.add;split <;> simp_all
   unfold World.cell? at c0;split at c0
   ·rw [if_pos he] at c0;cases c0
   ·cases c0
 subst hs
 refine ⟨b,off,rfl,trivial,?_,fun j x hj i u hu=>?_⟩
 ·rw [zbu] at c0;exact World.block_lt_of_cell? _ _ c0
 ·have a0:j<len:=by have:=(List.getElem?_eq_some_iff.1 hj).1;simpa using this
  rw [List.getElem?_map,List.getElem?_range a0] at hj;obtain rfl:=Option.some.inj hj;have:=hc j a0 i u hu;rw [zbu] at this;rw [Nat.add_assoc];exact this
def bytesOf (v:Value):List UInt8:=match v with | .string s=>s.data.toList | _=>[]
theorem bytesOf_mk (s:ByteArray):Value.string s=zak (bytesOf (.string s)):=by
 show Value.string s = .string ⟨s.data.toList.toArray⟩;simp
section
variable {H:Type} {enc:TypeId × Value->H} {W:World} {base:Nat} {spare:Nat->Bool} {held:Bool}
theorem in_strs {fuel:Nat} {cs:List Value} {x:DataW H × List MemPlace} (h:DataW.trod enc prog W base spare held fuel 28 cs=some x):∃ v L,cs=[v]/\Vec W zau 1 za8 v L:=by
 rcases Go.Deep.open_strs underlying28 underlying9 (by kernel_rfl) h with ⟨rfl,_⟩ | ⟨a,len,cap,m,Sx,rfl,_,hl,_,hm,_,hx⟩
 ·exact ⟨_,[],rfl,Vec.nil _ _ _ _⟩
 ·have hlm:len<=m:=by rw [hm];split <;> omega
  refine ⟨_,_,rfl,vec_in (fun i=>(Sx i).data.toList) (fun _=>rfl) (by omega) hl fun i hi j u hu=>?_⟩
  cases j with
  | zero=>cases hu;rw [Nat.mul_one];rw [show zak (Sx i).data.toList = .string (Sx i) from (bytesOf_mk _).symm];exact (hx i (by omega)).1
  | succ j=>simp [za8] at hu
end
end
section
open Go.RowKit Go.WideShapes Go.ChangeShapes Go.Joins
instance inhRVo:Inhabited RV:=⟨⟨0,0,none,0,0,[]⟩⟩
section
variable {H:Type} {enc:TypeId × Value->H} {W:World} {base:Nat} {spare:Nat->Bool} {held:Bool}
theorem in_rec {fuel:Nat} {cs:List Value} {x:DataW H × List MemPlace} (h:DataW.trod enc prog W base spare held fuel 68 cs=some x) (hl:cs.length=3) :
  ∃ r:RV,cs=[.int .i64 r.id,.int .i64 r.ver,.slice r.a r.n r.c]/\Vec W zau 1 za8 (.slice r.a r.n r.c) r.vals:=by
 obtain ⟨c0,c1,c2,rfl⟩:∃ c0 c1 c2,cs=[c0,c1,c2]:=by
  match cs,hl with
  | [c0,c1,c2],_=>exact ⟨c0,c1,c2,rfl⟩
 obtain ⟨xs,n,_,_,_,a0,hx⟩:=DataW.trod_struct underlying68 h;have h0:=hx 0 _ rfl;have h1:=hx 1 _ rfl;have h2:=hx 2 _ rfl;rw [List.getElem?_eq_getElem (by rw [a0];decide)] at h0 h1 h2;obtain ⟨s0,e0,_⟩:=DataW.trod_int underlying3 h0;obtain ⟨s1,e1,_⟩:=DataW.trod_int underlying3 h1;obtain ⟨xs2,L,e2,hL⟩:=in_strs h2;have k3:prog.cellsOf 3=1:=by kernel_rfl
 have a1:prog.cellsOf 28=1:=by kernel_rfl
 simp [k3,a1] at e0 e1 e2;obtain ⟨va,vc,ev⟩:=hL.slice;exact ⟨⟨s0,s1,va,L.length,vc,L⟩,by rw [e0,e1,e2,ev],by rw [<- ev];exact hL⟩
theorem in_recs {fuel:Nat} {cs:List Value} {x:DataW H × List MemPlace} (h:DataW.trod enc prog W base spare held fuel 37 cs=some x):∃ v R,cs=[v]/\RecsVec W zau v R:=by
 rcases Go.Deep.open_slice underlying37 h with ⟨rfl,_⟩ | ⟨a,len,cap,m,n,D,Pl,rfl,_,hl,_,hmm,_,hx⟩
 ·exact ⟨_,[],rfl,[],Vec.nil _ _ _ _,rfl,fun n h=>by simp at h⟩
 ·have hlm:len<=m:=by rw [hmm];split <;> omega
  have ce:prog.cellsOf 68=3:=by kernel_rfl
  have a2:∀ i,i<len->∃ q:RV,(∀ j u,(encRV q)[j]?=some u->W.cell? (a.add (i*3+j))=some u)/\Vec W zau 1 za8 (.slice q.a q.n q.c) q.vals:=by
   intro i hi;obtain ⟨cs',h1,h2⟩:=hx i (by omega);rw [ce] at h1;obtain ⟨_,a1,a0⟩:=World.cells?_some h1;obtain ⟨q,rfl,hv⟩:=in_rec h2 a1
   refine ⟨q,fun j u hu=>?_,hv⟩
   have hj:j<3:=by have:=(List.getElem?_eq_some_iff.1 hu).1;simpa using this
   have e0:=a0 j (by omega);rw [Go.Deep.add_add] at e0;rw [<- hu];exact e0
  obtain ⟨q,hq⟩:=Go.Deep.choose_lt a2
  refine ⟨_,((List.range len).map q).map pR,rfl,(List.range len).map q,?_,rfl,fun y hy=>?_⟩
  ·exact vec_in (k:=3) (enc:=encRV) q (fun _=>rfl) (by omega) hl fun i hi j u hu=>(hq i hi).1 j u hu
  ·obtain ⟨i,hi,rfl⟩:=List.mem_map.1 hy
   exact (hq i (by simpa using hi)).2
theorem open_records {r:Reach} {b0:Nat} {v:Value} {d:DataW H} {ps:List MemPlace} (hv:Value.okWide prog W r b0 37 v) (h:DataW.Trod enc prog W base spare held 37 v d ps):∃ R,RecsVec W zau v R:=by
 obtain ⟨a,len,cap,rfl⟩:=okWide_slice underlying37 hv;obtain ⟨a0,hf⟩:=h;obtain ⟨u,R,e,hk⟩:=in_recs hf;simp [Value.cells] at e;exact ⟨R,by rw [e];exact hk⟩
end
end
section
open Go.RowKit Go.WideShapes Go.ChangeShapes Go.Joins
instance inhBVo:Inhabited BV:=⟨⟨0,none,0,0⟩⟩
instance inhBitsLo:Inhabited BitsL:=⟨zch⟩
theorem wf_i64 {n:Int} (h:(Lit.int .i64 n).wf=true):InI n:=by
 have h1:IntKind.i64.min<=n/\n<=9223372036854775807:=by simpa [Lit.wf] using h
 have h2:IntKind.i64.min = -9223372036854775808:=by decide
 exact ⟨by omega,by omega⟩
section
variable {H:Type} {enc:TypeId × Value->H} {W:World} {base:Nat} {spare:Nat->Bool} {held:Bool}
theorem in_par {fuel:Nat} {cs:List Value} {x:DataW H × List MemPlace} (h:DataW.trod enc prog W base spare held fuel 87 cs=some x) (hl:cs.length=3) :
  ∃ p:ParL,cs=zcm p/\InI p.len:=by
 obtain ⟨c0,c1,c2,rfl⟩:∃ c0 c1 c2,cs=[c0,c1,c2]:=by
  match cs,hl with
  | [c0,c1,c2],_=>exact ⟨c0,c1,c2,rfl⟩
 obtain ⟨xs,n,_,_,_,a0,hx⟩:=DataW.trod_struct underlying87 h;have h0:=hx 0 _ rfl;have h1:=hx 1 _ rfl;have h2:=hx 2 _ rfl;rw [List.getElem?_eq_getElem (by rw [a0];decide)] at h0 h1 h2;obtain ⟨s0,e0,_,w0⟩:=DataW.trod_int underlying3 h0;obtain ⟨s1,e1,_⟩:=DataW.trod_int underlying3 h1;obtain ⟨s2,e2,_⟩:=DataW.trod_int underlying3 h2;have k3:prog.cellsOf 3=1:=by kernel_rfl
 simp [k3] at e0 e1 e2;exact ⟨⟨s0,s1,s2⟩,by rw [e0,e1,e2],wf_i64 w0⟩
theorem in_pars {fuel:Nat} {cs:List Value} {x:DataW H × List MemPlace} (h:DataW.trod enc prog W base spare held fuel 35 cs=some x):∃ v P,cs=[v]/\Vec W zau 3 zcm v P/\(∀ p∈P,InI p.len)/\P.length<=maxLen:=by
 rcases Go.Deep.open_slice underlying35 h with ⟨rfl,_⟩ | ⟨a,len,cap,m,n,D,Pl,rfl,_,hl,hmx,hmm,_,hx⟩
 ·exact ⟨_,[],rfl,Vec.nil _ _ _ _,by simp,Nat.zero_le _⟩
 ·have hlm:len<=m:=by rw [hmm];split <;> omega
  have ce:prog.cellsOf 87=3:=by kernel_rfl
  have a2:∀ i,i<len->∃ q:ParL,(∀ j u,(zcm q)[j]?=some u->W.cell? (a.add (i*3+j))=some u)/\InI q.len:=by
   intro i hi;obtain ⟨cs',h1,h2⟩:=hx i (by omega);rw [ce] at h1;obtain ⟨_,a1,a0⟩:=World.cells?_some h1;obtain ⟨q,rfl,hv⟩:=in_par h2 a1
   refine ⟨q,fun j u hu=>?_,hv⟩
   have hj:j<3:=by have:=(List.getElem?_eq_some_iff.1 hu).1;simpa using this
   have e0:=a0 j (by omega);rw [Go.Deep.add_add] at e0;rw [<- hu];exact e0
  obtain ⟨q,hq⟩:=Go.Deep.choose_lt a2
  refine ⟨_,(List.range len).map q,rfl,vec_in (k:=3) (enc:=zcm) q (fun _=>rfl) (by omega) hl fun i hi j u hu=>(hq i hi).1 j u hu,fun y hy=>?_,by simp;omega⟩
  obtain ⟨i,hi,rfl⟩:=List.mem_map.1 hy;exact (hq i (by simpa using hi)).2
theorem open_pars {r:Reach} {b0:Nat} {v:Value} {d:DataW H} {ps:List MemPlace} (hv:Value.okWide prog W r b0 35 v) (h:DataW.Trod enc prog W base spare held 35 v d ps):∃ P,Vec W zau 3 zcm v P/\(∀ p∈P,InI p.len)/\P.length<=maxLen:=by
 obtain ⟨a,len,cap,rfl⟩:=okWide_slice underlying35 hv;obtain ⟨a0,hf⟩:=h;obtain ⟨u,P,e,hk⟩:=in_pars hf;simp [Value.cells] at e;exact ⟨P,by rw [e];exact hk⟩
end
end
end Go.Proofs.YtgkaafncfjlooaaGreatDoor
