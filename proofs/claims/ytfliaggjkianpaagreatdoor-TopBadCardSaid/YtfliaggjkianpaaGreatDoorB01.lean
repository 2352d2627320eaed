import Derived.Test.YtfliaggjkianpaaGreatDoorK26
import Derived.OpenShut
import Derived.WideShapes
import Derived.Deep.Fields
import Derived.ChangeArms
import Derived.ChangeSlices
set_option linter.unusedVariables false
set_option linter.unusedSimpArgs false
set_option maxRecDepth 100000
namespace Go.Proofs.YtfliaggjkianpaaGreatDoor
section
open Go.RowKit
attribute [local irreducible] smallT unitT kindT perT pagesT alignT chargeT
end
section
open Go.RowKit
attribute [local irreducible] smallT unitT kindT perT pagesT alignT chargeT
end
section
open Go.RowKit
attribute [local irreducible] smallT unitT kindT perT pagesT alignT chargeT
end
section
open Go.RowKit
attribute [local irreducible] smallT unitT kindT perT pagesT alignT chargeT
theorem refRight_any(K T N M H:Int)(s:ByteArray)(w:World)(hs:s.size≤maxLen) :
  Calls Tryz.prog 14 #[.agg #[.int .i64 K,.int .i64 T,.int .i64 N,.int .i64 M,.int .u64 H,.string s]] w fun e w'=>e=.returned (.bool (rightO K T s))∧Below w.heap.size w w':=by
 unfold maxLen at hs;cases h:rightO K T s with
 |true =>
  obtain⟨k0,k1,t0,t1,s1,g⟩:=right_iff.1 h;clear h;by_cases hk:K=10
  ·have e:(K==10)=true:=beq_iff_eq.2 hk
   clear hk g;go_enter Tryz.func14,Tryz.ntmps14
   go_wp2
   go_ret
   exact⟨rfl,(below_alloc (Nat.le_refl _) (Below.refl _ _))⟩
  ·have e:(K==10)=false:=beq_eq_false_iff_ne.2 hk
   obtain⟨z1,z2⟩:=empty_of (s:=s) (by omega);clear hk g;go_enter Tryz.func14,Tryz.ntmps14
   go_wp2
   go_ret
   exact⟨rfl,(below_alloc (Nat.le_refl _) (Below.refl _ _))⟩
 |false =>
  rcases right_not h with h|h|h|h|h|⟨h,g⟩
  ·skip
   go_enter Tryz.func14,Tryz.ntmps14
   go_wp2
   go_ret
   exact⟨rfl,(below_alloc (Nat.le_refl _) (Below.refl _ _))⟩
  ·obtain⟨a,b⟩:=h
   go_enter Tryz.func14,Tryz.ntmps14
   go_wp2
   go_ret
   exact⟨rfl,(below_alloc (Nat.le_refl _) (Below.refl _ _))⟩
  ·obtain⟨⟨a,b⟩,c⟩:=h
   go_enter Tryz.func14,Tryz.ntmps14
   go_wp2
   go_ret
   exact⟨rfl,(below_alloc (Nat.le_refl _) (Below.refl _ _))⟩
  ·obtain⟨⟨a,b⟩,c,d⟩:=h
   go_enter Tryz.func14,Tryz.ntmps14
   go_wp2
   go_ret
   exact⟨rfl,(below_alloc (Nat.le_refl _) (Below.refl _ _))⟩
  ·obtain⟨⟨a,b,c,d⟩,e⟩:=h
   go_enter Tryz.func14,Tryz.ntmps14
   go_wp2
   go_ret
   exact⟨rfl,(below_alloc (Nat.le_refl _) (Below.refl _ _))⟩
  ·obtain⟨a,b,c,d⟩:=h
   obtain⟨e,f,g⟩:=g;have g':(K==10)=false:=beq_eq_false_iff_ne.2 g;obtain⟨z1,z2⟩:=full_of f;clear g f z2;go_enter Tryz.func14,Tryz.ntmps14
   go_wp2
   go_ret
   exact⟨rfl,(below_alloc (Nat.le_refl _) (Below.refl _ _))⟩
end
section
open Go.RowKit Flt
theorem says_get:∀(l:List OpS) (s:AdS) (j:Nat) (h:j<l.length),(s.says l)[j]? = some ((s.aft (l.take j)).do_ l[j]).1
 |[],s,j,h=>by simp at h
 |x :: l,s,0,h=>rfl
 |x :: l,s,j+1,h=>by
  have:=says_get l (s.do_ x).2 j (by simpa using h);show ((s.do_ x).1 :: AdS.says (s.do_ x).2 l)[j+1]? = _;rw [List.getElem?_cons_succ,this];rfl
theorem aft_succ(l:List OpS)(s:AdS)(j:Nat)(h:j<l.length):s.aft (l.take (j+1))=((s.aft (l.take j)).do_ l[j]).2:=by
 rw [List.take_succ_eq_append_getElem h,aft_snoc]
theorem aft_PC:∀(l:List OpS) (s:AdS),(s.aft l).P=s.P∧(s.aft l).C=s.C
 |[],s=>⟨rfl,rfl⟩
 |x :: l,s=>by
  obtain⟨a,b⟩:=aft_PC l (s.do_ x).2;obtain⟨c,d⟩:=do_PC s x;exact⟨a.trans c,b.trans d⟩
def BadI(w2:World)(P C b:Nat)(ops:List OpS)(j:Nat)(W:World):Prop:=∃o B K,SyT w2 W o [2] b B K ((AdS.new P C).aft (ops.take j))∧K≤10*j
set_option maxHeartbeats 4000000 in
theorem topBad_walk(P C:Int)(s:ByteArray)(A:Option Addr)(n c:Nat)(xs:List OpS)(w:World)(hs:s.size≤maxLen)(hn:xs.length=n)(hmax:n≤maxLen)(hx:OpsAt w A xs)(hb:∀x∈xs,x.H<18446744073709551616∧x.s.size≤maxLen)(hT:TabW w) :
  Calls Tryz.prog 6 #[.agg #[.int .i64 P,.int .i64 C],.string s,.slice A n c] w fun e w'=>e=.returned (.bool true)∧Below w.heap.size w w':=by
 subst hn;have hB0:Hid (Below w.heap.size w (w.alloc (.cells #[.int .i64 P,.int .i64 C] 23))):=HD (below_alloc (Nat.le_refl _) (Below.refl _ _));have hpl:=HD (toPlayed P C s 120 (w.alloc (.cells #[.int .i64 P,.int .i64 C] 23)) hs (hT.alloc _));have hx0:=HD (hx.fr hB0.out);have hT0:=HD (hT.alloc (.cells #[.int .i64 P,.int .i64 C] 23));have hbb:=HD hb;have hmx:=HD hmax;clear hs hT hb hmax;have z0:(w.alloc (.cells #[.int .i64 P,.int .i64 C] 23)).cell? ⟨w.heap.size,0,none⟩=some (.int .i64 P):=new_cell rfl;have z1:(w.alloc (.cells #[.int .i64 P,.int .i64 C] 23)).cell? ⟨w.heap.size,1,none⟩=some (.int .i64 C):=new_cell rfl;go_enter Tryz.func6,Tryz.ntmps6
 go_wp2_with fail;refine hpl.out.mono ?_;rintro e w1 ⟨xv,AO,cO,AA,cA,ops,said,rfl,hR,hq⟩;have c0:=below_cell hR.below z0;have c1:=below_cell hR.below z1;have hx1:=HD (hx0.out.fr hR.below);have hT1:=HD (hT0.out.below hR.below);have hB1:=HD (hB0.out.trans (hR.below.mono hB0.out.size));obtain⟨_,hro,hra,hsa,hle,hok⟩:=hR;have hro:=HD hro;have hra:=HD hra;clear z0 z1 hx0 hT0 hB0 hpl hq hx;have hsl:said.length=ops.length:=by rw [←hsa,says_len]
 have aw:=HD (fun w hT=>toAwake w hT);by_cases hlen:40<(xs.length:Int)
 ·have d1:decide (40<(xs.length:Int))=true:=decide_eq_true hlen
  clear hlen hbb hmx hro hra hsa hle hok;go_wp2_with fail;refine(aw.out _ hT1.out).mono ?_;rintro e w2 ⟨rfl,hb2⟩;have hB2:=HD (hB1.out.trans (hb2.mono hB1.out.size));go_wp2_with fail;go_ret
  exact⟨rfl,hB2.out⟩
 have d1:decide (40<(xs.length:Int))=false:=decide_eq_false hlen;have hlo:=HD (fun w h=>toLong P C A c xs 50 w (by decide) h hmx.out (fun x hx=>(hbb.out x hx).2));go_wp2_with fail;refine(hlo.out _ hx1.out).mono ?_;rintro e w2 ⟨bb,rfl,hP,hb2⟩;have c0':=below_cell hb2 c0;have c1':=below_cell hb2 c1;have hT2:=HD (hT1.out.below hb2);have hB2:=HD (hB1.out.trans (hb2.mono hB1.out.size));have hx2:=HD (hx1.out.fr hb2);replace hro:=HD (hro.out.fr hb2);replace hra:=HD (hra.out.fr hb2);clear hlo hT1 hB1 hx1 c0 c1 hb2;cases bb with
 |true =>
  clear hP hbb hmx hro hra hsa hle hok;go_wp2_with fail;refine(aw.out _ hT2.out).mono ?_;rintro e w3 ⟨rfl,hb3⟩;have hB3:=HD (hB2.out.trans (hb3.mono hB2.out.size));go_wp2_with fail;go_ret
  exact⟨rfl,hB3.out⟩
 |false =>
 replace hP:=HD (hP rfl);cases hc:cfgB P C with
 |false =>
  have hno:=HD (svNew_no P C w2 hc);clear hP hbb hmx hro hra hsa hle hok hc;go_wp2_with fail;refine hno.out.mono ?_;rintro e w3 ⟨rfl,hb3⟩;have hB3:=HD (hB2.out.trans (hb3.mono hB2.out.size));have hT3:=HD (hT2.out.below hb3);clear hno hb3;go_wp2_with fail;refine(aw.out _ hT3.out).mono ?_;rintro e w4 ⟨rfl,hb4⟩;have hB4:=HD (hB3.out.trans (hb4.mono hB3.out.size));go_wp2_with fail;go_ret
  exact⟨rfl,hB4.out⟩
 |true =>
 have hcc:=cfg_iff.1 hc;obtain⟨P',rfl⟩:∃P':Nat,P=P':=⟨P.toNat,by omega⟩
 obtain⟨C',rfl⟩:∃C':Nat,C=C':=⟨C.toNat,by omega⟩
 rw [Int.toNat_natCast,Int.toNat_natCast] at hsa;have hnw:=HD (SyT.new P' C' w2 hT2.out rt2 hc);clear hP hc hcc hT2;go_wp2_with fail;refine hnw.out.mono ?_;rintro e w3 ⟨b,rfl,o3,g3⟩;have hI:Hid (BadI w2 P' C' b ops 0 w3):=HD ⟨o3,_,0,g3,Nat.le_refl _⟩;clear hnw g3;go_wp2_with fail;go_loopg [42] ops.length (fun gh i wx=>∃j:Nat,j≤ops.length∧gh=ops.length-j∧i=.int .i64 j∧Hid (BadI w2 P' C' b ops j wx))
 case atStart=>exact⟨0,Nat.zero_le _,rfl,rfl,hI⟩
 case round =>
  clear hI;obtain⟨j,hj,rfl,rfl,hR⟩:=hrel;by_cases hlt:j<ops.length
  ·have d0:decide ((j:Int)<(ops.length:Int))=true:=decide_eq_true (by omega)
   obtain⟨o4,B4,K4,g4,hK4⟩:=hR.out;obtain⟨go,offo,rfl,ho1⟩:=hro.out (by omega);obtain⟨ga,offa,rfl,ha1⟩:=hra.out (by omega);have hx3:=(ho1 j hlt).fr (fun i v hc=>below_cell g4.below hc);have hy3:=ha1 j (by omega);have hyy:(((AdS.new P' C').aft (ops.take j)).do_ ops[j]).1=said[j]:=by
    have:=says_get ops (AdS.new P' C') j hlt;rw [hsa,List.getElem?_eq_getElem (by omega)] at this;exact(Option.some.inj this).symm
   have hnx:∀W o B K,SyT w2 W o [2] b B K (((AdS.new P' C').aft (ops.take j)).do_ ops[j]).2→K≤10*(j+1)→BadI w2 P' C' b ops (j+1) W:=fun W o B K g hk=>⟨o,B,K,by rw [aft_succ _ _ _ hlt];exact g,hk⟩
   have hox:=hok _ (List.getElem_mem hlt);obtain⟨hP1,hC1⟩:=aft_PC (ops.take j) (AdS.new P' C');replace hnx:=HD hnx;generalize (AdS.new P' C').aft (ops.take j)=sj at *;generalize ops[j]=x at *;generalize said[j]=y at *;have hox:=HD hox;have hyy:=HD hyy;replace hy3:=HD hy3;clear ho1 ha1 hR;obtain⟨xK,xT,xN,xM,xH,xs_⟩:=x;obtain⟨ye,yh,ya,yn,yd,yc⟩:=y;have qy:∀w,(Op.equalIn 10000 47 (.agg #[.int .i64 ye,.int .u64 yh,.int .i64 ya,.int .i64 yn,.string yd,.int .i64 yc]) (.agg #[.int .i64 ye,.int .u64 yh,.int .i64 ya,.int .i64 yn,.string yd,.int .i64 yc])).run Tryz.prog w=.ok true w:=fun w=>(eq_ans ⟨ye,yh,ya,yn,yd,yc⟩ ⟨ye,yh,ya,yn,yd,yc⟩ w).trans (by rw [ansB_iff.2 rfl])
   obtain⟨x0,x1,x2,x3,x4,x5⟩:=hx3;simp only at x0 x1 x2 x3 x4 x5;have g5:=HD (g4.alloc (.cells #[.int .i64 xK,.int .i64 xT,.int .i64 xN,.int .i64 xM,.int .u64 xH,.string xs_] 32));have b5:=HD (Blk.made wr o4 [7] #[.int .i64 xK,.int .i64 xT,.int .i64 xN,.int .i64 xM,.int .u64 xH,.string xs_] 32);clear g4;by_cases hz:0<(xs.length:Int)
   ·have dz:decide (0<(xs.length:Int))=true:=decide_eq_true hz
    obtain⟨gb,offb,rfl,hb1⟩:=hx2.out (by omega);obtain⟨mm,hmm⟩:∃mm:Nat,mm=j%xs.length:=⟨_,rfl⟩
    have hml:mm<xs.length:=by rw [hmm];exact Nat.mod_lt _ (by omega)
    have hm1:(j:Int)%(xs.length:Int)=(mm:Int):=by rw [hmm];rfl
    have hm2:(j:Int).tmod (xs.length:Int)=(mm:Int):=by rw [Int.tmod_eq_emod_of_nonneg (by omega)];exact hm1
    have hw3:=(hb1 mm hml).fr (fun i v hc=>below_cell g5.out.below hc);have hwx:=hbb.out _ (List.getElem_mem hml);generalize xs[mm]=z at *;obtain⟨zK,zT,zN,zM,zH,zs⟩:=z;obtain⟨z0,z1,z2,z3,z4,z5⟩:=hw3;simp only at z0 z1 z2 z3 z4 z5 hwx;replace hwx:=HD hwx;clear hb1 hmm;have g6:=HD (g5.out.alloc (.cells #[.int .i64 zK,.int .i64 zT,.int .i64 zN,.int .i64 zM,.int .u64 zH,.string zs] 32));have n6:=own7_alloc (W:=(wr.alloc (.cells #[.int .i64 xK,.int .i64 xT,.int .i64 xN,.int .i64 xM,.int .u64 xH,.string xs_] 32))) (o:=setO o4 wr.heap.size [7]) (.cells #[.int .i64 zK,.int .i64 zT,.int .i64 zN,.int .i64 zM,.int .u64 zH,.string zs] 32);have b6:=HD (n6 _ _ _ b5.out);have hrt:=HD (fun w=>refRight_any zK zT zN zM zH zs w hwx.out.2);have bz6:=HD (Blk.made (wr.alloc (.cells #[.int .i64 xK,.int .i64 xT,.int .i64 xN,.int .i64 xM,.int .u64 xH,.string xs_] 32)) (setO o4 wr.heap.size [7]) [7] #[.int .i64 zK,.int .i64 zT,.int .i64 zN,.int .i64 zM,.int .u64 zH,.string zs] 32);have hsz1:(wr.alloc (.cells #[.int .i64 xK,.int .i64 xT,.int .i64 xN,.int .i64 xM,.int .u64 xH,.string xs_] 32)).heap.size=wr.heap.size+1:=World.size_alloc ..;rw [hsz1] at bz6 b6 g6;clear n6 b5 g5;go_wp2_with fail;refine(hrt.out _).mono ?_;rintro e w5 ⟨rfl,hb5⟩;have g7:=HD (g6.out.still hb5);have b7:=HD (own7_below hb5 _ _ _ b6.out);have bz7:=HD (own7_below hb5 _ _ _ bz6.out);clear hb5 g6 b6 bz6 hrt z0 z1 z2 z3 z4 z5 hsz1;generalize setO (setO o4 wr.heap.size [7]) (wr.heap.size+1) [7]=o7 at *;cases hrz:rightO zK zT zs with
    |true =>
     clear bz7 hwx;have gD:=g7.out.drew;have bD:=(b7.out).drew;have x0:=bD.cell' (i:=0) (v:=.int .i64 xK) rfl;have x1:=bD.cell' (i:=1) (v:=.int .i64 xT) rfl;have x2:=bD.cell' (i:=2) (v:=.int .i64 xN) rfl;have x3:=bD.cell' (i:=3) (v:=.int .i64 xM) rfl;have x4:=bD.cell' (i:=4) (v:=.int .u64 xH) rfl;have x5:=bD.cell' (i:=5) (v:=.string xs_) rfl;obtain⟨y0,y1,y2,y3,y4,y5⟩:=hy3.out.fr (fun i v hc=>below_cell gD.below hc);have hdo:=HD (gD.do_ ⟨xK,xT,xN,xM,xH,xs_⟩ rt2 (by omega) hox.out.1 (Nat.le_trans hox.out.2 (by decide)));rw [hyy.out] at hdo;replace bD:=HD bD;clear gD g7 b7;simp only at y0 y1 y2 y3 y4 y5;go_wp2_with fail;refine wp_region_noPanic ?_;refine wp_region_held_drew (S:=(fun W'=>W'.cell? ⟨wr.heap.size,0,none⟩=some (.int .i64 xK)∧W'.cell? ⟨wr.heap.size,1,none⟩=some (.int .i64 xT)∧W'.cell? ⟨wr.heap.size,2,none⟩=some (.int .i64 xN)∧W'.cell? ⟨wr.heap.size,3,none⟩=some (.int .i64 xM)∧W'.cell? ⟨wr.heap.size,4,none⟩=some (.int .u64 xH)∧W'.cell? ⟨wr.heap.size,5,none⟩=some (.string xs_)∧W'.cell? ⟨ga,offa+j*6,none⟩=some (.int .i64 ye)∧W'.cell? ⟨ga,offa+j*6+1,none⟩=some (.int .u64 yh)∧W'.cell? ⟨ga,offa+j*6+2,none⟩=some (.int .i64 ya)∧W'.cell? ⟨ga,offa+j*6+3,none⟩=some (.int .i64 yn)∧W'.cell? ⟨ga,offa+j*6+4,none⟩=some (.string yd)∧W'.cell? ⟨ga,offa+j*6+5,none⟩=some (.int .i64 yc))) (by kernel_rfl) ?_ (fun hHeld=>?_)
     ·exact⟨x0,x1,x2,x3,x4,x5,y0,y1,y2,y3,y4,y5⟩
     refine tkH 0 (h:=?_);refine tkH 1 (h:=?_);refine tkH 3 (h:=?_);refine tkH 4 (h:=?_);refine tkH 5 (h:=?_);refine tkH 6 (h:=?_);refine onH 2 (h:=fun K hK=>?_);go_simp;refine hdo.out.mono ?_;rintro e w11 ⟨rfl,o11,B11,g11,n11,_⟩;replace bD:=n11 _ _ _ bD.out;clear x0 x1 x2 x3 x4 x5 y0 y1 y2 y3 y4 y5;have x0:=bD.cell' (i:=0) (v:=.int .i64 xK) rfl;have x1:=bD.cell' (i:=1) (v:=.int .i64 xT) rfl;have x2:=bD.cell' (i:=2) (v:=.int .i64 xN) rfl;have x3:=bD.cell' (i:=3) (v:=.int .i64 xM) rfl;have x4:=bD.cell' (i:=4) (v:=.int .u64 xH) rfl;have x5:=bD.cell' (i:=5) (v:=.string xs_) rfl;obtain⟨y0,y1,y2,y3,y4,y5⟩:=hy3.out.fr (fun i v hc=>below_cell g11.below hc);simp only at y0 y1 y2 y3 y4 y5;replace g11:=HD g11;clear bD hdo n11;simp only [ansV];go_wp2_with fail;refine hK.out _ _ ?_ (fun hHeld=>?_)
     ·exact⟨x0,x1,x2,x3,x4,x5,y0,y1,y2,y3,y4,y5⟩
     clear hK;refine nmH (h:=?_);refine tkH 7 (h:=?_);refine wpAnyH_done (by kernel_rfl) ?_ _;refine NoPanic.normal ?_;go_wp2_with fail;go_roundg (ops.length-(j+1))
     case measure=>omega
     case rel=>exact⟨j+1,by omega,rfl,by go_num,HD (hnx.out _ _ _ _ g11.out (by omega))⟩
    |false =>
     have hal:=HD (g7.out.all rt2 (by omega));rw [hP1,hC1] at hal;have k0:=below_cell g7.out.below c0';have k1:=below_cell g7.out.below c1';go_wp2_with fail;refine hal.out.mono ?_;rintro e w8 ⟨rfl,o8,g8,n8⟩;have b8:=HD (n8 _ _ _ b7.out);have bz8:=n8 _ _ _ bz7.out;have z0:=bz8.cell' (i:=0) (v:=.int .i64 zK) rfl;have z1:=bz8.cell' (i:=1) (v:=.int .i64 zT) rfl;have z2:=bz8.cell' (i:=2) (v:=.int .i64 zN) rfl;have z3:=bz8.cell' (i:=3) (v:=.int .i64 zM) rfl;have z4:=bz8.cell' (i:=4) (v:=.int .u64 zH) rfl;have z5:=bz8.cell' (i:=5) (v:=.string zs) rfl;have hdo:=HD (g8.do_ ⟨zK,zT,zN,zM,zH,zs⟩ rt2 (by omega) hwx.out.1 hwx.out.2);rw [do_bad hrz] at hdo;have qb:∀w,(Op.equalIn 10000 47 (.agg #[.int .i64 1,.int .u64 0,.int .i64 0,.int .i64 0,.string ⟨#[]⟩,.int .i64 0]) (.agg #[.int .i64 1,.int .u64 0,.int .i64 0,.int .i64 0,.string ⟨#[]⟩,.int .i64 0])).run Tryz.prog w=.ok true w:=fun w=>eq_ans ⟨1,0,0,0,⟨#[]⟩,0⟩ ⟨1,0,0,0,⟨#[]⟩,0⟩ w
     clear g7 b7 bz7 bz8 hal n8 k0 k1 hwx;replace g8:=HD g8;go_wp2_with fail;refine hdo.out.mono ?_;rintro e w9 ⟨rfl,o9',B9,g9,n9,hB9⟩;obtain rfl:=hB9 hrz;have b9:=HD (n9 _ _ _ b8.out);have hal:=HD (g9.all rt2 (by omega));rw [hP1,hC1] at hal;have k0:=below_cell g9.below c0';have k1:=below_cell g9.below c1';simp only [ansV];clear hdo b8 n9 g8 g9 hB9 z0 z1 z2 z3 z4 z5;go_wp2_with fail;refine hal.out.mono ?_;rintro e w10 ⟨rfl,o10,g10,n10⟩;replace b9:=HD (n10 _ _ _ b9.out);replace g10:=HD g10;clear hal n10 k0 k1 qb;have gD:=g10.out.drew;have bD:=(b9.out).drew;have x0:=bD.cell' (i:=0) (v:=.int .i64 xK) rfl;have x1:=bD.cell' (i:=1) (v:=.int .i64 xT) rfl;have x2:=bD.cell' (i:=2) (v:=.int .i64 xN) rfl;have x3:=bD.cell' (i:=3) (v:=.int .i64 xM) rfl;have x4:=bD.cell' (i:=4) (v:=.int .u64 xH) rfl;have x5:=bD.cell' (i:=5) (v:=.string xs_) rfl;obtain⟨y0,y1,y2,y3,y4,y5⟩:=hy3.out.fr (fun i v hc=>below_cell gD.below hc);have hdo:=HD (gD.do_ ⟨xK,xT,xN,xM,xH,xs_⟩ rt2 (by omega) hox.out.1 (Nat.le_trans hox.out.2 (by decide)));rw [hyy.out] at hdo;replace bD:=HD bD;clear gD g10 b9;simp only at y0 y1 y2 y3 y4 y5;go_wp2_with fail;refine wp_region_noPanic ?_;refine wp_region_held_drew (S:=(fun W'=>W'.cell? ⟨wr.heap.size,0,none⟩=some (.int .i64 xK)∧W'.cell? ⟨wr.heap.size,1,none⟩=some (.int .i64 xT)∧W'.cell? ⟨wr.heap.size,2,none⟩=some (.int .i64 xN)∧W'.cell? ⟨wr.heap.size,3,none⟩=some (.int .i64 xM)∧W'.cell? ⟨wr.heap.size,4,none⟩=some (.int .u64 xH)∧W'.cell? ⟨wr.heap.size,5,none⟩=some (.string xs_)∧W'.cell? ⟨ga,offa+j*6,none⟩=some (.int .i64 ye)∧W'.cell? ⟨ga,offa+j*6+1,none⟩=some (.int .u64 yh)∧W'.cell? ⟨ga,offa+j*6+2,none⟩=some (.int .i64 ya)∧W'.cell? ⟨ga,offa+j*6+3,none⟩=some (.int .i64 yn)∧W'.cell? ⟨ga,offa+j*6+4,none⟩=some (.string yd)∧W'.cell? ⟨ga,offa+j*6+5,none⟩=some (.int .i64 yc))) (by kernel_rfl) ?_ (fun hHeld=>?_)
     ·exact⟨x0,x1,x2,x3,x4,x5,y0,y1,y2,y3,y4,y5⟩
     refine tkH 0 (h:=?_);refine tkH 1 (h:=?_);refine tkH 3 (h:=?_);refine tkH 4 (h:=?_);refine tkH 5 (h:=?_);refine tkH 6 (h:=?_);refine onH 2 (h:=fun K hK=>?_);go_simp;refine hdo.out.mono ?_;rintro e w11 ⟨rfl,o11,B11,g11,n11,_⟩;replace bD:=n11 _ _ _ bD.out;clear x0 x1 x2 x3 x4 x5 y0 y1 y2 y3 y4 y5;have x0:=bD.cell' (i:=0) (v:=.int .i64 xK) rfl;have x1:=bD.cell' (i:=1) (v:=.int .i64 xT) rfl;have x2:=bD.cell' (i:=2) (v:=.int .i64 xN) rfl;have x3:=bD.cell' (i:=3) (v:=.int .i64 xM) rfl;have x4:=bD.cell' (i:=4) (v:=.int .u64 xH) rfl;have x5:=bD.cell' (i:=5) (v:=.string xs_) rfl;obtain⟨y0,y1,y2,y3,y4,y5⟩:=hy3.out.fr (fun i v hc=>below_cell g11.below hc);simp only at y0 y1 y2 y3 y4 y5;replace g11:=HD g11;clear bD hdo n11;simp only [ansV];go_wp2_with fail;refine hK.out _ _ ?_ (fun hHeld=>?_)
     ·exact⟨x0,x1,x2,x3,x4,x5,y0,y1,y2,y3,y4,y5⟩
     clear hK;refine nmH (h:=?_);refine tkH 7 (h:=?_);refine wpAnyH_done (by kernel_rfl) ?_ _;refine NoPanic.normal ?_;go_wp2_with fail;go_roundg (ops.length-(j+1))
     case measure=>omega
     case rel=>exact⟨j+1,by omega,rfl,by go_num,HD (hnx.out _ _ _ _ g11.out (by omega))⟩
   ·have dz:decide (0<(xs.length:Int))=false:=decide_eq_false hz
    clear hx2;have gD:=g5.out.drew;have bD:=(b5.out).drew;have x0:=bD.cell' (i:=0) (v:=.int .i64 xK) rfl;have x1:=bD.cell' (i:=1) (v:=.int .i64 xT) rfl;have x2:=bD.cell' (i:=2) (v:=.int .i64 xN) rfl;have x3:=bD.cell' (i:=3) (v:=.int .i64 xM) rfl;have x4:=bD.cell' (i:=4) (v:=.int .u64 xH) rfl;have x5:=bD.cell' (i:=5) (v:=.string xs_) rfl;obtain⟨y0,y1,y2,y3,y4,y5⟩:=hy3.out.fr (fun i v hc=>below_cell gD.below hc);have hdo:=HD (gD.do_ ⟨xK,xT,xN,xM,xH,xs_⟩ rt2 (by omega) hox.out.1 (Nat.le_trans hox.out.2 (by decide)));rw [hyy.out] at hdo;replace bD:=HD bD;clear gD g5 b5;simp only at y0 y1 y2 y3 y4 y5;go_wp2_with fail;refine wp_region_noPanic ?_;refine wp_region_held_drew (S:=(fun W'=>W'.cell? ⟨wr.heap.size,0,none⟩=some (.int .i64 xK)∧W'.cell? ⟨wr.heap.size,1,none⟩=some (.int .i64 xT)∧W'.cell? ⟨wr.heap.size,2,none⟩=some (.int .i64 xN)∧W'.cell? ⟨wr.heap.size,3,none⟩=some (.int .i64 xM)∧W'.cell? ⟨wr.heap.size,4,none⟩=some (.int .u64 xH)∧W'.cell? ⟨wr.heap.size,5,none⟩=some (.string xs_)∧W'.cell? ⟨ga,offa+j*6,none⟩=some (.int .i64 ye)∧W'.cell? ⟨ga,offa+j*6+1,none⟩=some (.int .u64 yh)∧W'.cell? ⟨ga,offa+j*6+2,none⟩=some (.int .i64 ya)∧W'.cell? ⟨ga,offa+j*6+3,none⟩=some (.int .i64 yn)∧W'.cell? ⟨ga,offa+j*6+4,none⟩=some (.string yd)∧W'.cell? ⟨ga,offa+j*6+5,none⟩=some (.int .i64 yc))) (by kernel_rfl) ?_ (fun hHeld=>?_)
    ·exact⟨x0,x1,x2,x3,x4,x5,y0,y1,y2,y3,y4,y5⟩
    refine tkH 0 (h:=?_);refine tkH 1 (h:=?_);refine tkH 3 (h:=?_);refine tkH 4 (h:=?_);refine tkH 5 (h:=?_);refine tkH 6 (h:=?_);refine onH 2 (h:=fun K hK=>?_);go_simp;refine hdo.out.mono ?_;rintro e w11 ⟨rfl,o11,B11,g11,n11,_⟩;replace bD:=n11 _ _ _ bD.out;clear x0 x1 x2 x3 x4 x5 y0 y1 y2 y3 y4 y5;have x0:=bD.cell' (i:=0) (v:=.int .i64 xK) rfl;have x1:=bD.cell' (i:=1) (v:=.int .i64 xT) rfl;have x2:=bD.cell' (i:=2) (v:=.int .i64 xN) rfl;have x3:=bD.cell' (i:=3) (v:=.int .i64 xM) rfl;have x4:=bD.cell' (i:=4) (v:=.int .u64 xH) rfl;have x5:=bD.cell' (i:=5) (v:=.string xs_) rfl;obtain⟨y0,y1,y2,y3,y4,y5⟩:=hy3.out.fr (fun i v hc=>below_cell g11.below hc);simp only at y0 y1 y2 y3 y4 y5;replace g11:=HD g11;clear bD hdo n11;simp only [ansV];go_wp2_with fail;refine hK.out _ _ ?_ (fun hHeld=>?_)
    ·exact⟨x0,x1,x2,x3,x4,x5,y0,y1,y2,y3,y4,y5⟩
    clear hK;refine nmH (h:=?_);refine tkH 7 (h:=?_);refine wpAnyH_done (by kernel_rfl) ?_ _;refine NoPanic.normal ?_;go_wp2_with fail;go_roundg (ops.length-(j+1))
    case measure=>omega
    case rel=>exact⟨j+1,by omega,rfl,by go_num,HD (hnx.out _ _ _ _ g11.out (by omega))⟩
  ·have d0:decide ((j:Int)<(ops.length:Int))=false:=decide_eq_false (by omega)
   obtain⟨o4,B4,K4,g4,_⟩:=hR.out;have hT4:=HD g4.tabw;have hB4:=HD (hB2.out.trans (g4.below.mono hB2.out.size));clear g4 hR hbb hmx hro hra hsa hle hok hB2;go_wp2_with fail;refine(aw.out _ hT4.out).mono ?_;rintro e w5 ⟨rfl,hb5⟩;have hB5:=HD (hB4.out.trans (hb5.mono hB4.out.size));go_wp2_with fail;go_ret
   exact⟨rfl,hB5.out⟩
end
section
open Go.ChangeShapes Go.WideShapes Go.Deep
section
variable{H:Type}{enc:TypeId×Value→H}{P:Program}{w:World}{base:Nat}{spare:Nat→Bool}{held:Bool}
theorem open_fields{r:Reach}{b0:Nat}{t:TypeId}{fs:Array Field}{v:Value}{d:DataW H}{p:List MemPlace}(hs:P.underlying t=some (.struct fs))(hone:oneCellFields P fs=true)(hC:P.cellsOf t=fs.size)
  (hv:Value.okWide P w r b0 t v) (h:DataW.Trod enc P w base spare held t v d p) :
  ∃cs:Array Value,v=.agg cs∧cs.size=fs.size∧∀(i:Nat) (f:Field),fs[i]? = some f→∃c y n,cs[i]? = some c∧DataW.trod enc P w base spare held n f.type [c]=some y:=by
 obtain⟨cs,rfl,hsz⟩:=okWide_struct hs hv;obtain⟨fuel,hf⟩:=h;obtain⟨xs,n,_,_,_,hlen,hg⟩:=DataW.trod_struct hs hf;refine⟨cs,rfl,by omega,fun i f hi=>?_⟩;have hlt:i<fs.size:=(Array.getElem?_eq_some_iff.1 hi).1;obtain⟨ho,hk⟩:=hone_of hone i f hi;have h1:=hg i f hi;rw [ho,hk] at h1;have hic:i<cs.size:=by omega
 have e:((Value.agg cs).cells.toList.drop i).take 1=[cs[i]]:=by
  show (cs.toList.drop i).take 1=_;rw [List.drop_eq_getElem_cons (by simpa using hic)];simp
 rw [e,List.getElem?_eq_getElem (by omega)] at h1;exact⟨cs[i],_,n,Array.getElem?_eq_getElem hic,h1⟩
end
end
section
open Go.ChangeShapes Go.WideShapes Go.Deep
theorem agg2{cs:Array Value}(h:cs.size=2):∃a b,cs=#[a,b]:=by
 obtain⟨l⟩:=cs;match l,h with
 |[a,b],_=>exact⟨a,b,rfl⟩
theorem oneCfg:∃fs,Tryz.prog.underlying 23=some (.struct fs)∧oneCellFields Tryz.prog fs=true∧Tryz.prog.cellsOf 23=fs.size∧fs.size=2∧(∀i,i<2→∃f,fs[i]? = some f∧f.type=3):=by
 refine⟨_,Tryz.underlying23,by kernel_rfl,by kernel_rfl,by kernel_rfl,?_⟩;intro i hi;rcases(by omega:i=0∨i=1) with rfl|rfl
 ·exact⟨_,rfl,rfl⟩
 ·exact⟨_,rfl,rfl⟩
theorem open_cfg{H:Type}{enc:TypeId×Value→H}{w:World}{base:Nat}{spare:Nat→Bool}{held:Bool}{r:Reach}{b0:Nat}{v:Value}{d:DataW H}{p:List MemPlace}
  (hv:Value.okWide Tryz.prog w r b0 23 v) (h:DataW.Trod enc Tryz.prog w base spare held 23 v d p):∃P C:Int,v=.agg #[.int .i64 P,.int .i64 C]:=by
 obtain⟨fs,hs,hone,hC,h6,hi⟩:=oneCfg;obtain⟨cs,rfl,hsz,hg⟩:=open_fields hs hone hC hv h;obtain⟨a,b,rfl⟩:=agg2 (hsz.trans h6);have one:∀{i:Nat} {x:Value},i<2→#[a,b][i]? = some x→∃n,x=.int .i64 n:=by
  intro i x hi4 hx;obtain⟨f,hf,ht⟩:=hi i hi4;obtain⟨c',y,n,hc,hy⟩:=hg i f hf;rw [hx] at hc;cases hc
  rw [ht] at hy;obtain⟨m,e0,_,_⟩:=DataW.trod_int Tryz.underlying3 hy;simp at e0
  exact⟨m,e0⟩
 obtain⟨K,rfl⟩:=one (i:=0) (by omega) rfl;obtain⟨T,rfl⟩:=one (i:=1) (by omega) rfl;exact⟨K,T,rfl⟩
theorem oneOpT:∃fs,Tryz.prog.underlying 32=some (.struct fs)∧oneCellFields Tryz.prog fs=true∧Tryz.prog.cellsOf 32=fs.size∧fs.size=6 ∧
  (∀i,i<4→∃f,fs[i]? = some f∧f.type=3)∧(∃f,fs[4]? = some f∧f.type=30)∧∃f,fs[5]? = some f∧f.type=9:=by
 refine⟨_,Tryz.underlying32,by kernel_rfl,by kernel_rfl,by kernel_rfl,?_,⟨_,rfl,rfl⟩,⟨_,rfl,rfl⟩⟩;intro i hi;rcases(by omega:i=0∨i=1∨i=2∨i=3) with rfl|rfl|rfl|rfl
 ·exact⟨_,rfl,rfl⟩
 ·exact⟨_,rfl,rfl⟩
 ·exact⟨_,rfl,rfl⟩
 ·exact⟨_,rfl,rfl⟩
theorem open_opT{H:Type}{enc:TypeId×Value→H}{w:World}{base:Nat}{spare:Nat→Bool}{held:Bool}{fuel:Nat}{cs:List Value}{x:DataW H×List MemPlace}
  (h:DataW.trod enc Tryz.prog w base spare held fuel 32 cs=some x):∃z:OpS,cs=[.int .i64 z.K,.int .i64 z.T,.int .i64 z.N,.int .i64 z.M,.int .u64 z.H,.string z.s]∧z.H<18446744073709551616∧z.s.size≤maxLen:=by
 obtain⟨fs,hs,hone,hC,h6,hi,⟨f4,hf4,ht4⟩,⟨f5,hf5,ht5⟩⟩:=oneOpT;obtain⟨xs,n,_,_,hcl,hlen,hg⟩:=DataW.trod_struct hs h;have hc3:cs.length=6:=by rw [hcl,hC,h6]
 have cell:∀(i:Nat) (f:Field),(hi:i<6)→fs[i]? = some f→∃y n,DataW.trod enc Tryz.prog w base spare held n f.type [cs[i]'(by omega)]=some y:=by
  intro i f hi6 hf;have h1:=hg i f hf;obtain⟨ho,hk⟩:=hone_of hone i f hf;rw [ho,hk] at h1;have e:(cs.drop i).take 1=[cs[i]'(by omega)]:=by
   rw [List.drop_eq_getElem_cons (show i<cs.length by omega)];rfl
  rw [e,List.getElem?_eq_getElem (by omega)] at h1;exact⟨_,_,h1⟩
 have one:∀(i:Nat) (hi:i<4),∃m,cs[i]'(by omega)=.int .i64 m:=by
  intro i hi4;obtain⟨f,hf,ht⟩:=hi i hi4;obtain⟨y,n,h1⟩:=cell i f (by omega) hf;rw [ht] at h1;obtain⟨m,e0,_,_⟩:=DataW.trod_int Tryz.underlying3 h1;simp at e0
  exact⟨m,e0⟩
 obtain⟨K,h0⟩:=one 0 (by omega);obtain⟨T,h1⟩:=one 1 (by omega);obtain⟨N,h2⟩:=one 2 (by omega);obtain⟨M,h3⟩:=one 3 (by omega);obtain⟨y4,n4,k4⟩:=cell 4 f4 (by omega) hf4;obtain⟨y5,n5,k5⟩:=cell 5 f5 (by omega) hf5;rw [ht4] at k4;rw [ht5] at k5;obtain⟨H,e4,_,w4⟩:=DataW.trod_int Tryz.underlying30 k4;obtain⟨s,e5,_,hl⟩:=DataW.trod_string Tryz.underlying9 k5;simp at e4 e5
 have hH:0≤H∧H<18446744073709551616:=by
  have h2:(decide ((0:Int)≤H)&&decide (H≤18446744073709551615))=true:=w4;rw [Bool.and_eq_true,decide_eq_true_eq,decide_eq_true_eq] at h2;omega
 obtain⟨a,b,c,d,e,f,rfl⟩:∃a b c d e f,cs=[a,b,c,d,e,f]:=by
  match cs,hc3 with
  |[a,b,c,d,e,f],_=>exact⟨a,b,c,d,e,f,rfl⟩
 ·have q0:a=.int .i64 K:=h0
  have q1:b=.int .i64 T:=h1;have q2:c=.int .i64 N:=h2;have q3:d=.int .i64 M:=h3;have q4:e=.int .u64 H:=e4;have q5:f=.string s:=e5;refine⟨⟨K,T,N,M,H.toNat,s⟩,?_,by simp only;omega,hl⟩;rw [q0,q1,q2,q3,q4,q5];show _=[Value.int .i64 K,.int .i64 T,.int .i64 N,.int .i64 M,.int .u64 (H.toNat:Int),.string s]
  rw [Int.toNat_of_nonneg hH.1]
theorem open_ops{H:Type}{enc:TypeId×Value→H}{W:World}{base:Nat}{r:Reach}{b0:Nat}{held:Bool}{v:Value}{d:DataW H}{p:List MemPlace}
  (hv:Value.okWide Tryz.prog W r b0 36 v) (h:DataW.Trod enc Tryz.prog W base (fun _=>true) held 36 v d p) :
  ∃(A:Option Addr) (n c:Nat) (xs:List OpS),v=.slice A n c∧xs.length=n∧n≤maxLen∧OpsAt W A xs∧∀x∈xs,x.H<18446744073709551616∧x.s.size≤maxLen:=by
 have ht:Tryz.prog.underlying 36=some (.slice 32):=Tryz.underlying36;have hC:Tryz.prog.cellsOf 32=6:=by kernel_rfl
 obtain⟨A,n,c,rfl⟩:=okWide_slice ht hv;obtain⟨fuel,hf⟩:=h;rcases DataW.trod_slice ht hf with ⟨hcs,_⟩|⟨a,len,cap,elems,rest,m,_,hcs,_,hb,hl,hm,hlen,hel,_⟩
 ·simp [Value.cells] at hcs
  obtain⟨rfl,rfl,rfl⟩:=hcs;exact⟨none,0,0,[],rfl,rfl,by unfold maxLen;omega,fun h=>by simp at h,fun x hx=>by cases hx⟩
 ·simp [Value.cells] at hcs
  obtain⟨rfl,rfl,rfl⟩:=hcs;have each:∀i:Fin n,∃z:OpS,(W.cell? ((a.add (i.1*6)).add 0)=some (.int .i64 z.K)∧W.cell? ((a.add (i.1*6)).add 1)=some (.int .i64 z.T)∧W.cell? ((a.add (i.1*6)).add 2)=some (.int .i64 z.N)∧W.cell? ((a.add (i.1*6)).add 3)=some (.int .i64 z.M)∧W.cell? ((a.add (i.1*6)).add 4)=some (.int .u64 z.H)∧W.cell? ((a.add (i.1*6)).add 5)=some (.string z.s))∧z.H<18446744073709551616∧z.s.size≤maxLen:=by
   intro ⟨i,hi⟩;have h1:=hel i hi;rw [hC,List.getElem?_eq_getElem (by omega)] at h1;obtain⟨cs,hcells,htr⟩:=Option.bind_eq_some_iff.1 h1;obtain⟨_,hl3,hcell⟩:=World.cells?_some hcells;obtain⟨z,rfl,hz⟩:=open_opT htr;exact⟨z,⟨hcell 0 (by omega),hcell 1 (by omega),hcell 2 (by omega),hcell 3 (by omega),hcell 4 (by omega),hcell 5 (by omega)⟩,hz⟩
  obtain⟨g,hg⟩:=Classical.axiomOfChoice each;refine⟨some a,n,c,List.ofFn g,rfl,by simp,by omega,fun hp=>?_,fun x hx=>?_⟩
  ·obtain⟨b,off,spot⟩:=a
   have hp':0<n:=by simpa using hp
   have hspot:spot=none:=by simpa [Addr.add] using World.cell?_spot (hg ⟨0,hp'⟩).1.1
   subst hspot;refine⟨b,off,rfl,fun i hi=>?_⟩;have hi':i<n:=by simpa using hi
   obtain⟨⟨g0,g1,g2,g3,g4,g5⟩,_⟩:=hg ⟨i,hi'⟩;simp only [add_plain,Nat.add_zero] at g0 g1 g2 g3 g4 g5;simp only [List.getElem_ofFn];exact⟨g0,g1,g2,g3,g4,g5⟩
  ·obtain⟨i,rfl⟩:=List.mem_ofFn.1 hx
   exact(hg i).2
end
end Go.Proofs.YtfliaggjkianpaaGreatDoor
