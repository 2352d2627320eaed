import Derived.Test.YtfliaggjkianpaaGreatDoorK00
import Derived.Test.YtfliaggjkianpaaGreatDoorK39
import Derived.Test.YtfliaggjkianpaaGreatDoorK40
import Derived.Test.YtfliaggjkianpaaGreatDoorK03
set_option linter.unusedVariables false
set_option linter.unusedSimpArgs false
set_option maxRecDepth 100000
namespace Go.Proofs.YtfliaggjkianpaaGreatDoor
section
open Go.RowKit Flt
theorem says_get:∀(l:List OpS) (s:AdS) (j:Nat) (h:j<l.length),(s.says l)[j]? = some ((s.aft (l.take j)).do_ l[j]).1
 |[],s,j,h=>by simp at h
 |x :: l,s,0,h=>rfl
 |x :: l,s,j+1,h=>by
  have:=says_get l (s.do_ x).2 j (by simpa using h);show ((s.do_ x).1 :: AdS.says (s.do_ x).2 l)[j+1]? = _;rw [List.getElem?_cons_succ,this];rfl
theorem aft_succ(l:List OpS)(s:AdS)(j:Nat)(h:j<l.length):s.aft (l.take (j+1))=((s.aft (l.take j)).do_ l[j]).2:=by
 rw [List.take_succ_eq_append_getElem h,aft_snoc]
theorem aft_PC:∀(l:List OpS) (s:AdS),(s.aft l).P=s.P∧(s.aft l).C=s.C
 |[],s=>⟨rfl,rfl⟩
 |x :: l,s=>by
  obtain⟨a,b⟩:=aft_PC l (s.do_ x).2;obtain⟨c,d⟩:=do_PC s x;exact⟨a.trans c,b.trans d⟩
def BadI(w2:World)(P C b:Nat)(ops:List OpS)(j:Nat)(W:World):Prop:=∃o B K,SyT w2 W o [2] b B K ((AdS.new P C).aft (ops.take j))∧K≤10*j
set_option maxHeartbeats 4000000 in
theorem topBad_walk(P C:Int)(s:ByteArray)(A:Option Addr)(n c:Nat)(xs:List OpS)(w:World)(hs:s.size≤maxLen)(hn:xs.length=n)(hmax:n≤maxLen)(hx:OpsAt w A xs)(hb:∀x∈xs,x.H<18446744073709551616∧x.s.size≤maxLen)(hT:TabW w) :
  Calls Tryz.prog 6 #[.agg #[.int .i64 P,.int .i64 C],.string s,.slice A n c] w fun e w'=>e=.returned (.bool true)∧Below w.heap.size w w':=by
 subst hn;have hB0:Hid (Below w.heap.size w (w.alloc (.cells #[.int .i64 P,.int .i64 C] 23))):=HD (below_alloc (Nat.le_refl _) (Below.refl _ _));have hpl:=HD (toPlayed P C s 120 (w.alloc (.cells #[.int .i64 P,.int .i64 C] 23)) hs (hT.alloc _));have hx0:=HD (hx.fr hB0.out);have hT0:=HD (hT.alloc (.cells #[.int .i64 P,.int .i64 C] 23));have hbb:=HD hb;have hmx:=HD hmax;clear hs hT hb hmax;have z0:(w.alloc (.cells #[.int .i64 P,.int .i64 C] 23)).cell? ⟨w.heap.size,0,none⟩=some (.int .i64 P):=new_cell rfl;have z1:(w.alloc (.cells #[.int .i64 P,.int .i64 C] 23)).cell? ⟨w.heap.size,1,none⟩=some (.int .i64 C):=new_cell rfl;go_enter Tryz.func6,Tryz.ntmps6
 go_wp2_with fail;refine hpl.out.mono ?_;rintro e w1 ⟨xv,AO,cO,AA,cA,ops,said,rfl,hR,hq⟩;have c0:=below_cell hR.below z0;have c1:=below_cell hR.below z1;have hx1:=HD (hx0.out.fr hR.below);have hT1:=HD (hT0.out.below hR.below);have hB1:=HD (hB0.out.trans (hR.below.mono hB0.out.size));obtain⟨_,hro,hra,hsa,hle,hok⟩:=hR;have hro:=HD hro;have hra:=HD hra;clear z0 z1 hx0 hT0 hB0 hpl hq hx;have hsl:said.length=ops.length:=by rw [←hsa,says_len]
 have aw:=HD (fun w hT=>toAwake w hT);by_cases hlen:40<(xs.length:Int)
 ·have d1:decide (40<(xs.length:Int))=true:=decide_eq_true hlen
  clear hlen hbb hmx hro hra hsa hle hok;go_wp2_with fail;refine(aw.out _ hT1.out).mono ?_;rintro e w2 ⟨rfl,hb2⟩;have hB2:=HD (hB1.out.trans (hb2.mono hB1.out.size));go_wp2_with fail;go_ret
  exact⟨rfl,hB2.out⟩
 have d1:decide (40<(xs.length:Int))=false:=decide_eq_false hlen;have hlo:=HD (fun w h=>toLong P C A c xs 50 w (by decide) h hmx.out (fun x hx=>(hbb.out x hx).2));go_wp2_with fail;refine(hlo.out _ hx1.out).mono ?_;rintro e w2 ⟨bb,rfl,hP,hb2⟩;have c0':=below_cell hb2 c0;have c1':=below_cell hb2 c1;have hT2:=HD (hT1.out.below hb2);have hB2:=HD (hB1.out.trans (hb2.mono hB1.out.size));have hx2:=HD (hx1.out.fr hb2);replace hro:=HD (hro.out.fr hb2);replace hra:=HD (hra.out.fr hb2);clear hlo hT1 hB1 hx1 c0 c1 hb2;cases bb with
 |true =>
  clear hP hbb hmx hro hra hsa hle hok;go_wp2_with fail;refine(aw.out _ hT2.out).mono ?_;rintro e w3 ⟨rfl,hb3⟩;have hB3:=HD (hB2.out.trans (hb3.mono hB2.out.size));go_wp2_with fail;go_ret
  exact⟨rfl,hB3.out⟩
 |false =>
 replace hP:=HD (hP rfl);cases hc:cfgB P C with
 |false =>
  have hno:=HD (svNew_no P C w2 hc);clear hP hbb hmx hro hra hsa hle hok hc;go_wp2_with fail;refine hno.out.mono ?_;rintro e w3 ⟨rfl,hb3⟩;have hB3:=HD (hB2.out.trans (hb3.mono hB2.out.size));have hT3:=HD (hT2.out.below hb3);clear hno hb3;go_wp2_with fail;refine(aw.out _ hT3.out).mono ?_;rintro e w4 ⟨rfl,hb4⟩;have hB4:=HD (hB3.out.trans (hb4.mono hB3.out.size));go_wp2_with fail;go_ret
  exact⟨rfl,hB4.out⟩
 |true =>
 have hcc:=cfg_iff.1 hc;obtain⟨P',rfl⟩:∃P':Nat,P=P':=⟨P.toNat,by omega⟩
 obtain⟨C',rfl⟩:∃C':Nat,C=C':=⟨C.toNat,by omega⟩
 rw [Int.toNat_natCast,Int.toNat_natCast] at hsa;have hnw:=HD (SyT.new P' C' w2 hT2.out rt2 hc);clear hP hc hcc hT2;go_wp2_with fail;refine hnw.out.mono ?_;rintro e w3 ⟨b,rfl,o3,g3⟩;have hI:Hid (BadI w2 P' C' b ops 0 w3):=HD ⟨o3,_,0,g3,Nat.le_refl _⟩;clear hnw g3;go_wp2_with fail;go_loopg [42] ops.length (fun gh i wx=>∃j:Nat,j≤ops.length∧gh=ops.length-j∧i=.int .i64 j∧Hid (BadI w2 P' C' b ops j wx))
 case atStart=>exact⟨0,Nat.zero_le _,rfl,rfl,hI⟩
 case round =>
  clear hI;obtain⟨j,hj,rfl,rfl,hR⟩:=hrel;by_cases hlt:j<ops.length
  ·have d0:decide ((j:Int)<(ops.length:Int))=true:=decide_eq_true (by omega)
   obtain⟨o4,B4,K4,g4,hK4⟩:=hR.out;obtain⟨go,offo,rfl,ho1⟩:=hro.out (by omega);obtain⟨ga,offa,rfl,ha1⟩:=hra.out (by omega);have hx3:=(ho1 j hlt).fr (fun i v hc=>below_cell g4.below hc);have hy3:=ha1 j (by omega);have hyy:(((AdS.new P' C').aft (ops.take j)).do_ ops[j]).1=said[j]:=by
    have:=says_get ops (AdS.new P' C') j hlt;rw [hsa,List.getElem?_eq_getElem (by omega)] at this;exact(Option.some.inj this).symm
   have hnx:∀W o B K,SyT w2 W o [2] b B K (((AdS.new P' C').aft (ops.take j)).do_ ops[j]).2→K≤10*(j+1)→BadI w2 P' C' b ops (j+1) W:=fun W o B K g hk=>⟨o,B,K,by rw [aft_succ _ _ _ hlt];exact g,hk⟩
   have hox:=hok _ (List.getElem_mem hlt);obtain⟨hP1,hC1⟩:=aft_PC (ops.take j) (AdS.new P' C');replace hnx:=HD hnx;generalize (AdS.new P' C').aft (ops.take j)=sj at *;generalize ops[j]=x at *;generalize said[j]=y at *;have hox:=HD hox;have hyy:=HD hyy;replace hy3:=HD hy3;clear ho1 ha1 hR;obtain⟨xK,xT,xN,xM,xH,xs_⟩:=x;obtain⟨ye,yh,ya,yn,yd,yc⟩:=y;have qy:∀w,(Op.equalIn 10000 47 (.agg #[.int .i64 ye,.int .u64 yh,.int .i64 ya,.int .i64 yn,.string yd,.int .i64 yc]) (.agg #[.int .i64 ye,.int .u64 yh,.int .i64 ya,.int .i64 yn,.string yd,.int .i64 yc])).run Tryz.prog w=.ok true w:=fun w=>(eq_ans ⟨ye,yh,ya,yn,yd,yc⟩ ⟨ye,yh,ya,yn,yd,yc⟩ w).trans (by rw [ansB_iff.2 rfl])
   obtain⟨x0,x1,x2,x3,x4,x5⟩:=hx3;simp only at x0 x1 x2 x3 x4 x5;have g5:=HD (g4.alloc (.cells #[.int .i64 xK,.int .i64 xT,.int .i64 xN,.int .i64 xM,.int .u64 xH,.string xs_] 32));have b5:=HD (Blk.made wr o4 [7] #[.int .i64 xK,.int .i64 xT,.int .i64 xN,.int .i64 xM,.int .u64 xH,.string xs_] 32);clear g4;by_cases hz:0<(xs.length:Int)
   ·have dz:decide (0<(xs.length:Int))=true:=decide_eq_true hz
    obtain⟨gb,offb,rfl,hb1⟩:=hx2.out (by omega);obtain⟨mm,hmm⟩:∃mm:Nat,mm=j%xs.length:=⟨_,rfl⟩
    have hml:mm<xs.length:=by rw [hmm];exact Nat.mod_lt _ (by omega)
    have hm1:(j:Int)%(xs.length:Int)=(mm:Int):=by rw [hmm];rfl
    have hm2:(j:Int).tmod (xs.length:Int)=(mm:Int):=by rw [Int.tmod_eq_emod_of_nonneg (by omega)];exact hm1
    have hw3:=(hb1 mm hml).fr (fun i v hc=>below_cell g5.out.below hc);have hwx:=hbb.out _ (List.getElem_mem hml);generalize xs[mm]=z at *;obtain⟨zK,zT,zN,zM,zH,zs⟩:=z;obtain⟨z0,z1,z2,z3,z4,z5⟩:=hw3;simp only at z0 z1 z2 z3 z4 z5 hwx;replace hwx:=HD hwx;clear hb1 hmm;have g6:=HD (g5.out.alloc (.cells #[.int .i64 zK,.int .i64 zT,.int .i64 zN,.int .i64 zM,.int .u64 zH,.string zs] 32));have n6:=own7_alloc (W:=(wr.alloc (.cells #[.int .i64 xK,.int .i64 xT,.int .i64 xN,.int .i64 xM,.int .u64 xH,.string xs_] 32))) (o:=setO o4 wr.heap.size [7]) (.cells #[.int .i64 zK,.int .i64 zT,.int .i64 zN,.int .i64 zM,.int .u64 zH,.string zs] 32);have b6:=HD (n6 _ _ _ b5.out);have hrt:=HD (fun w=>refRight_any zK zT zN zM zH zs w hwx.out.2);have bz6:=HD (Blk.made (wr.alloc (.cells #[.int .i64 xK,.int .i64 xT,.int .i64 xN,.int .i64 xM,.int .u64 xH,.string xs_] 32)) (setO o4 wr.heap.size [7]) [7] #[.int .i64 zK,.int .i64 zT,.int .i64 zN,.int .i64 zM,.int .u64 zH,.string zs] 32);have hsz1:(wr.alloc (.cells #[.int .i64 xK,.int .i64 xT,.int .i64 xN,.int .i64 xM,.int .u64 xH,.string xs_] 32)).heap.size=wr.heap.size+1:=World.size_alloc ..;rw [hsz1] at bz6 b6 g6;clear n6 b5 g5;go_wp2_with fail;refine(hrt.out _).mono ?_;rintro e w5 ⟨rfl,hb5⟩;have g7:=HD (g6.out.still hb5);have b7:=HD (own7_below hb5 _ _ _ b6.out);have bz7:=HD (own7_below hb5 _ _ _ bz6.out);clear hb5 g6 b6 bz6 hrt z0 z1 z2 z3 z4 z5 hsz1;generalize setO (setO o4 wr.heap.size [7]) (wr.heap.size+1) [7]=o7 at *;cases hrz:rightO zK zT zs with
    |true =>
     clear bz7 hwx;have gD:=g7.out.drew;have bD:=(b7.out).drew;have x0:=bD.cell' (i:=0) (v:=.int .i64 xK) rfl;have x1:=bD.cell' (i:=1) (v:=.int .i64 xT) rfl;have x2:=bD.cell' (i:=2) (v:=.int .i64 xN) rfl;have x3:=bD.cell' (i:=3) (v:=.int .i64 xM) rfl;have x4:=bD.cell' (i:=4) (v:=.int .u64 xH) rfl;have x5:=bD.cell' (i:=5) (v:=.string xs_) rfl;obtain⟨y0,y1,y2,y3,y4,y5⟩:=hy3.out.fr (fun i v hc=>below_cell gD.below hc);have hdo:=HD (gD.do_ ⟨xK,xT,xN,xM,xH,xs_⟩ rt2 (by omega) hox.out.1 (Nat.le_trans hox.out.2 (by decide)));rw [hyy.out] at hdo;replace bD:=HD bD;clear gD g7 b7;simp only at y0 y1 y2 y3 y4 y5;go_wp2_with fail;refine wp_region_noPanic ?_;refine wp_region_held_drew (S:=(fun W'=>W'.cell? ⟨wr.heap.size,0,none⟩=some (.int .i64 xK)∧W'.cell? ⟨wr.heap.size,1,none⟩=some (.int .i64 xT)∧W'.cell? ⟨wr.heap.size,2,none⟩=some (.int .i64 xN)∧W'.cell? ⟨wr.heap.size,3,none⟩=some (.int .i64 xM)∧W'.cell? ⟨wr.heap.size,4,none⟩=some (.int .u64 xH)∧W'.cell? ⟨wr.heap.size,5,none⟩=some (.string xs_)∧W'.cell? ⟨ga,offa+j*6,none⟩=some (.int .i64 ye)∧W'.cell? ⟨ga,offa+j*6+1,none⟩=some (.int .u64 yh)∧W'.cell? ⟨ga,offa+j*6+2,none⟩=some (.int .i64 ya)∧W'.cell? ⟨ga,offa+j*6+3,none⟩=some (.int .i64 yn)∧W'.cell? ⟨ga,offa+j*6+4,none⟩=some (.string yd)∧W'.cell? ⟨ga,offa+j*6+5,none⟩=some (.int .i64 yc))) (by kernel_rfl) ?_ (fun hHeld=>?_)
     ·(try dsimp only)
      exact⟨x0,x1,x2,x3,x4,x5,y0,y1,y2,y3,y4,y5⟩
     refine tkH 0 (h:=?_);refine tkH 1 (h:=?_);refine tkH 3 (h:=?_);refine tkH 4 (h:=?_);refine tkH 5 (h:=?_);refine tkH 6 (h:=?_);refine onH 2 (h:=fun K hK=>?_);go_simp;refine hdo.out.mono ?_;rintro e w11 ⟨rfl,o11,B11,g11,n11,_⟩;replace bD:=n11 _ _ _ bD.out;clear x0 x1 x2 x3 x4 x5 y0 y1 y2 y3 y4 y5;have x0:=bD.cell' (i:=0) (v:=.int .i64 xK) rfl;have x1:=bD.cell' (i:=1) (v:=.int .i64 xT) rfl;have x2:=bD.cell' (i:=2) (v:=.int .i64 xN) rfl;have x3:=bD.cell' (i:=3) (v:=.int .i64 xM) rfl;have x4:=bD.cell' (i:=4) (v:=.int .u64 xH) rfl;have x5:=bD.cell' (i:=5) (v:=.string xs_) rfl;obtain⟨y0,y1,y2,y3,y4,y5⟩:=hy3.out.fr (fun i v hc=>below_cell g11.below hc);simp only at y0 y1 y2 y3 y4 y5;replace g11:=HD g11;clear bD hdo n11;simp only [ansV];go_wp2_with fail;refine hK.out _ _ ?_ (fun hHeld=>?_)
     ·(try dsimp only)
      exact⟨x0,x1,x2,x3,x4,x5,y0,y1,y2,y3,y4,y5⟩
     clear hK;refine nmH (h:=?_);refine tkH 7 (h:=?_);refine wpAnyH_done (by kernel_rfl) ?_ _;refine NoPanic.normal ?_;go_wp2_with fail;go_roundg (ops.length-(j+1))
     case measure=>omega
     case rel=>exact⟨j+1,by omega,rfl,by go_num,HD (hnx.out _ _ _ _ g11.out (by omega))⟩
    |false =>
     have hal:=HD (g7.out.all rt2 (by omega));rw [hP1,hC1] at hal;have k0:=below_cell g7.out.below c0';have k1:=below_cell g7.out.below c1';go_wp2_with fail;refine hal.out.mono ?_;rintro e w8 ⟨rfl,o8,g8,n8⟩;have b8:=HD (n8 _ _ _ b7.out);have bz8:=n8 _ _ _ bz7.out;have z0:=bz8.cell' (i:=0) (v:=.int .i64 zK) rfl;have z1:=bz8.cell' (i:=1) (v:=.int .i64 zT) rfl;have z2:=bz8.cell' (i:=2) (v:=.int .i64 zN) rfl;have z3:=bz8.cell' (i:=3) (v:=.int .i64 zM) rfl;have z4:=bz8.cell' (i:=4) (v:=.int .u64 zH) rfl;have z5:=bz8.cell' (i:=5) (v:=.string zs) rfl;have hdo:=HD (g8.do_ ⟨zK,zT,zN,zM,zH,zs⟩ rt2 (by omega) hwx.out.1 hwx.out.2);rw [do_bad hrz] at hdo;have qb:∀w,(Op.equalIn 10000 47 (.agg #[.int .i64 1,.int .u64 0,.int .i64 0,.int .i64 0,.string ⟨#[]⟩,.int .i64 0]) (.agg #[.int .i64 1,.int .u64 0,.int .i64 0,.int .i64 0,.string ⟨#[]⟩,.int .i64 0])).run Tryz.prog w=.ok true w:=fun w=>eq_ans ⟨1,0,0,0,⟨#[]⟩,0⟩ ⟨1,0,0,0,⟨#[]⟩,0⟩ w
     clear g7 b7 bz7 bz8 hal n8 k0 k1 hwx;replace g8:=HD g8;go_wp2_with fail;refine hdo.out.mono ?_;rintro e w9 ⟨rfl,o9',B9,g9,n9,hB9⟩;obtain rfl:=hB9 hrz;have b9:=HD (n9 _ _ _ b8.out);have hal:=HD (g9.all rt2 (by omega));rw [hP1,hC1] at hal;have k0:=below_cell g9.below c0';have k1:=below_cell g9.below c1';simp only [ansV];clear hdo b8 n9 g8 g9 hB9 z0 z1 z2 z3 z4 z5;go_wp2_with fail;refine hal.out.mono ?_;rintro e w10 ⟨rfl,o10,g10,n10⟩;replace b9:=HD (n10 _ _ _ b9.out);replace g10:=HD g10;clear hal n10 k0 k1 qb;have gD:=g10.out.drew;have bD:=(b9.out).drew;have x0:=bD.cell' (i:=0) (v:=.int .i64 xK) rfl;have x1:=bD.cell' (i:=1) (v:=.int .i64 xT) rfl;have x2:=bD.cell' (i:=2) (v:=.int .i64 xN) rfl;have x3:=bD.cell' (i:=3) (v:=.int .i64 xM) rfl;have x4:=bD.cell' (i:=4) (v:=.int .u64 xH) rfl;have x5:=bD.cell' (i:=5) (v:=.string xs_) rfl;obtain⟨y0,y1,y2,y3,y4,y5⟩:=hy3.out.fr (fun i v hc=>below_cell gD.below hc);have hdo:=HD (gD.do_ ⟨xK,xT,xN,xM,xH,xs_⟩ rt2 (by omega) hox.out.1 (Nat.le_trans hox.out.2 (by decide)));rw [hyy.out] at hdo;replace bD:=HD bD;clear gD g10 b9;simp only at y0 y1 y2 y3 y4 y5;go_wp2_with fail;refine wp_region_noPanic ?_;refine wp_region_held_drew (S:=(fun W'=>W'.cell? ⟨wr.heap.size,0,none⟩=some (.int .i64 xK)∧W'.cell? ⟨wr.heap.size,1,none⟩=some (.int .i64 xT)∧W'.cell? ⟨wr.heap.size,2,none⟩=some (.int .i64 xN)∧W'.cell? ⟨wr.heap.size,3,none⟩=some (.int .i64 xM)∧W'.cell? ⟨wr.heap.size,4,none⟩=some (.int .u64 xH)∧W'.cell? ⟨wr.heap.size,5,none⟩=some (.string xs_)∧W'.cell? ⟨ga,offa+j*6,none⟩=some (.int .i64 ye)∧W'.cell? ⟨ga,offa+j*6+1,none⟩=some (.int .u64 yh)∧W'.cell? ⟨ga,offa+j*6+2,none⟩=some (.int .i64 ya)∧W'.cell? ⟨ga,offa+j*6+3,none⟩=some (.int .i64 yn)∧W'.cell? ⟨ga,offa+j*6+4,none⟩=some (.string yd)∧W'.cell? ⟨ga,offa+j*6+5,none⟩=some (.int .i64 yc))) (by kernel_rfl) ?_ (fun hHeld=>?_)
     ·(try dsimp only)
      exact⟨x0,x1,x2,x3,x4,x5,y0,y1,y2,y3,y4,y5⟩
     refine tkH 0 (h:=?_);refine tkH 1 (h:=?_);refine tkH 3 (h:=?_);refine tkH 4 (h:=?_);refine tkH 5 (h:=?_);refine tkH 6 (h:=?_);refine onH 2 (h:=fun K hK=>?_);go_simp;refine hdo.out.mono ?_;rintro e w11 ⟨rfl,o11,B11,g11,n11,_⟩;replace bD:=n11 _ _ _ bD.out;clear x0 x1 x2 x3 x4 x5 y0 y1 y2 y3 y4 y5;have x0:=bD.cell' (i:=0) (v:=.int .i64 xK) rfl;have x1:=bD.cell' (i:=1) (v:=.int .i64 xT) rfl;have x2:=bD.cell' (i:=2) (v:=.int .i64 xN) rfl;have x3:=bD.cell' (i:=3) (v:=.int .i64 xM) rfl;have x4:=bD.cell' (i:=4) (v:=.int .u64 xH) rfl;have x5:=bD.cell' (i:=5) (v:=.string xs_) rfl;obtain⟨y0,y1,y2,y3,y4,y5⟩:=hy3.out.fr (fun i v hc=>below_cell g11.below hc);simp only at y0 y1 y2 y3 y4 y5;replace g11:=HD g11;clear bD hdo n11;simp only [ansV];go_wp2_with fail;refine hK.out _ _ ?_ (fun hHeld=>?_)
     ·(try dsimp only)
      exact⟨x0,x1,x2,x3,x4,x5,y0,y1,y2,y3,y4,y5⟩
     clear hK;refine nmH (h:=?_);refine tkH 7 (h:=?_);refine wpAnyH_done (by kernel_rfl) ?_ _;refine NoPanic.normal ?_;go_wp2_with fail;go_roundg (ops.length-(j+1))
     case measure=>omega
     case rel=>exact⟨j+1,by omega,rfl,by go_num,HD (hnx.out _ _ _ _ g11.out (by omega))⟩
   ·have dz:decide (0<(xs.length:Int))=false:=decide_eq_false hz
    clear hx2;have gD:=g5.out.drew;have bD:=(b5.out).drew;have x0:=bD.cell' (i:=0) (v:=.int .i64 xK) rfl;have x1:=bD.cell' (i:=1) (v:=.int .i64 xT) rfl;have x2:=bD.cell' (i:=2) (v:=.int .i64 xN) rfl;have x3:=bD.cell' (i:=3) (v:=.int .i64 xM) rfl;have x4:=bD.cell' (i:=4) (v:=.int .u64 xH) rfl;have x5:=bD.cell' (i:=5) (v:=.string xs_) rfl;obtain⟨y0,y1,y2,y3,y4,y5⟩:=hy3.out.fr (fun i v hc=>below_cell gD.below hc);have hdo:=HD (gD.do_ ⟨xK,xT,xN,xM,xH,xs_⟩ rt2 (by omega) hox.out.1 (Nat.le_trans hox.out.2 (by decide)));rw [hyy.out] at hdo;replace bD:=HD bD;clear gD g5 b5;simp only at y0 y1 y2 y3 y4 y5;go_wp2_with fail;refine wp_region_noPanic ?_;refine wp_region_held_drew (S:=(fun W'=>W'.cell? ⟨wr.heap.size,0,none⟩=some (.int .i64 xK)∧W'.cell? ⟨wr.heap.size,1,none⟩=some (.int .i64 xT)∧W'.cell? ⟨wr.heap.size,2,none⟩=some (.int .i64 xN)∧W'.cell? ⟨wr.heap.size,3,none⟩=some (.int .i64 xM)∧W'.cell? ⟨wr.heap.size,4,none⟩=some (.int .u64 xH)∧W'.cell? ⟨wr.heap.size,5,none⟩=some (.string xs_)∧W'.cell? ⟨ga,offa+j*6,none⟩=some (.int .i64 ye)∧W'.cell? ⟨ga,offa+j*6+1,none⟩=some (.int .u64 yh)∧W'.cell? ⟨ga,offa+j*6+2,none⟩=some (.int .i64 ya)∧W'.cell? ⟨ga,offa+j*6+3,none⟩=some (.int .i64 yn)∧W'.cell? ⟨ga,offa+j*6+4,none⟩=some (.string yd)∧W'.cell? ⟨ga,offa+j*6+5,none⟩=some (.int .i64 yc))) (by kernel_rfl) ?_ (fun hHeld=>?_)
    ·(try dsimp only)
     exact⟨x0,x1,x2,x3,x4,x5,y0,y1,y2,y3,y4,y5⟩
    refine tkH 0 (h:=?_);refine tkH 1 (h:=?_);refine tkH 3 (h:=?_);refine tkH 4 (h:=?_);refine tkH 5 (h:=?_);refine tkH 6 (h:=?_);refine onH 2 (h:=fun K hK=>?_);go_simp;refine hdo.out.mono ?_;rintro e w11 ⟨rfl,o11,B11,g11,n11,_⟩;replace bD:=n11 _ _ _ bD.out;clear x0 x1 x2 x3 x4 x5 y0 y1 y2 y3 y4 y5;have x0:=bD.cell' (i:=0) (v:=.int .i64 xK) rfl;have x1:=bD.cell' (i:=1) (v:=.int .i64 xT) rfl;have x2:=bD.cell' (i:=2) (v:=.int .i64 xN) rfl;have x3:=bD.cell' (i:=3) (v:=.int .i64 xM) rfl;have x4:=bD.cell' (i:=4) (v:=.int .u64 xH) rfl;have x5:=bD.cell' (i:=5) (v:=.string xs_) rfl;obtain⟨y0,y1,y2,y3,y4,y5⟩:=hy3.out.fr (fun i v hc=>below_cell g11.below hc);simp only at y0 y1 y2 y3 y4 y5;replace g11:=HD g11;clear bD hdo n11;simp only [ansV];go_wp2_with fail;refine hK.out _ _ ?_ (fun hHeld=>?_)
    ·(try dsimp only)
     exact⟨x0,x1,x2,x3,x4,x5,y0,y1,y2,y3,y4,y5⟩
    clear hK;refine nmH (h:=?_);refine tkH 7 (h:=?_);refine wpAnyH_done (by kernel_rfl) ?_ _;refine NoPanic.normal ?_;go_wp2_with fail;go_roundg (ops.length-(j+1))
    case measure=>omega
    case rel=>exact⟨j+1,by omega,rfl,by go_num,HD (hnx.out _ _ _ _ g11.out (by omega))⟩
  ·have d0:decide ((j:Int)<(ops.length:Int))=false:=decide_eq_false (by omega)
   obtain⟨o4,B4,K4,g4,_⟩:=hR.out;have hT4:=HD g4.tabw;have hB4:=HD (hB2.out.trans (g4.below.mono hB2.out.size));clear g4 hR hbb hmx hro hra hsa hle hok hB2;go_wp2_with fail;refine(aw.out _ hT4.out).mono ?_;rintro e w5 ⟨rfl,hb5⟩;have hB5:=HD (hB4.out.trans (hb5.mono hB4.out.size));go_wp2_with fail;go_ret
   exact⟨rfl,hB5.out⟩
end
end Go.Proofs.YtfliaggjkianpaaGreatDoor
