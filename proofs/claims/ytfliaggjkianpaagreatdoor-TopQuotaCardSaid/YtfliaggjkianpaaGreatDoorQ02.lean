import Derived.Test.YtfliaggjkianpaaGreatDoorQ01
import Derived.Test.YtfliaggjkianpaaGreatDoorK26
set_option linter.unusedVariables false
set_option linter.unusedSimpArgs false
set_option maxRecDepth 100000
namespace Go.Proofs.YtfliaggjkianpaaGreatDoor
section
open Go.RowKit Flt
theorem aft_succQ(l:List OpS)(s:AdS)(j:Nat)(h:j<l.length):s.aft (l.take (j+1))=((s.aft (l.take j)).do_ l[j]).2:=by
 rw [List.take_succ_eq_append_getElem h,aft_snoc]
theorem fieldA3(a:Int)(b:Nat)(c d:Int)(e:ByteArray)(f:Int)(w:World):(Instr.field 47 (.agg #[.int .i64 a,.int .u64 b,.int .i64 c,.int .i64 d,.string e,.int .i64 f]) 3).run Tryz.prog w=.ok (.int .i64 d) w:=by kernel_rfl
def QuoI(w2:World)(P C b:Nat)(ops:List OpS)(j:Nat)(W:World):Prop:=∃o B K,SyT w2 W o [2] b B K ((AdS.new P C).aft (ops.take j))∧K≤10*j
theorem QuoI.still{w2 W W':World}{P C b j:Nat}{ops:List OpS}(h:QuoI w2 P C b ops j W)(hb:Below W.heap.size W W'):QuoI w2 P C b ops j W':=by
 obtain⟨o,B,K,g,hk⟩:=h;exact⟨o,B,K,g.still hb,hk⟩
theorem chg_bound{B:List UInt8}{cm:CmS}{p:PoS}{tbs:Nat→TbS}{s:AdS}(hok:AdOk B cm p tbs s){i:Nat}(hi:i<8):0≤s.chg i∧s.chg i≤65536:=by
 unfold AdS.chg;cases e:s.ts i with
 |none=>exact⟨Int.le_refl _,by decide⟩
 |some t =>
  obtain⟨ok,_,_⟩:=hok.tn i t hi e;have h1:=ok.quo;have h2:=may_iff.1 ok.may;have h3:=ok.few;simp only;omega
theorem charge_bound(n:Int):0≤chargeT n∧chargeT n≤8192:=by
 unfold chargeT;by_cases h:0≤kindT n∧kindT n≤23
 ·have:=kind_facts h.1 h.2;omega
 ·have:unitT (kindT n)=0:=by unfold unitT;rw [if_pos (by omega)]
  omega
structure QuoT(K n cn old ye yc was quo:Int)(L:Bool):Prop where
 ref:K≠1→K≠2→L=true→(ye=3↔0<n∧(K=7→ye≠5∧old<cn)∧quo<was+cn)
 many:K≠1→K≠2→L=true→ye=10→K=11
 fits:K≠1→K≠2→L=true→yc≤quo
 n11:K=11→n≤0
theorem quoT_of{w0 W:World}{o:Nat→Tag}{r:Tag}{b K0 i:Nat}{B:List UInt8}{s:AdS}(h:SyT w0 W o r b B K0 s){K N M:Int}{H:Nat}{sd:ByteArray}(hr:rightO K i sd=true){old:Int}(ho:K=7→old=(s.do_ ⟨8,i,0,0,H,ByteArray.empty⟩).1.n) :
  QuoT K (askT true (askN K N M)) (chargeT (askT true (askN K N M))) old (s.do_ ⟨K,i,N,M,H,sd⟩).1.err (s.do_ ⟨K,i,N,M,H,sd⟩).1.ch (s.chg i) (s.quo i) (s.ts i).isSome:=by
 obtain⟨cm,p,tbs,hok⟩:=h.adok;have hb:=right_iff.1 hr;refine⟨fun k1 k2 hl=>?_,fun k1 k2 hl=>?_,fun k1 k2 hl=>?_,fun k=>?_⟩
 ·have q:=(quota_do hok (x:=⟨K,i,N,M,H,sd⟩) hr rfl (by simp only;omega) hl).refused
  simp only at q;constructor
  ·intro e
   obtain⟨a1,a2,a3⟩:=q.1 e;exact⟨a1,fun k=>by rw [ho k];exact a2 k,a3⟩
  ·rintro ⟨a1,a2,a3⟩
   exact q.2 ⟨a1,fun k=>by rw [←ho k];exact a2 k,a3⟩
 ·exact(quota_do hok (x:=⟨K,i,N,M,H,sd⟩) hr rfl (by simp only;omega) hl).many
 ·exact(quota_do hok (x:=⟨K,i,N,M,H,sd⟩) hr rfl (by simp only;omega) hl).fits
 ·have:askN K N M=0:=by unfold askN;rw [if_neg (by omega),if_neg (by omega)]
  rw [this,askT_out (.inl (by decide))];exact Int.le_refl _
set_option maxHeartbeats 2000000 in
theorem topQuota_walk(P C:Int)(s:ByteArray)(w:World)(hs:s.size≤maxLen)(hT:TabW w) :
  Calls Tryz.prog 7 #[.agg #[.int .i64 P,.int .i64 C],.string s] w fun e w'=>e=.returned (.bool true)∧Below w.heap.size w w':=by
 have hB0:Hid (Below w.heap.size w (w.alloc (.cells #[.int .i64 P,.int .i64 C] 23))):=HD (below_alloc (Nat.le_refl _) (Below.refl _ _));have hpl:=HD (toPlayed P C s 200 (w.alloc (.cells #[.int .i64 P,.int .i64 C] 23)) hs (hT.alloc _));have hT0:=HD (hT.alloc (.cells #[.int .i64 P,.int .i64 C] 23));clear hs hT;have z0:(w.alloc (.cells #[.int .i64 P,.int .i64 C] 23)).cell? ⟨w.heap.size,0,none⟩=some (.int .i64 P):=new_cell rfl;have z1:(w.alloc (.cells #[.int .i64 P,.int .i64 C] 23)).cell? ⟨w.heap.size,1,none⟩=some (.int .i64 C):=new_cell rfl;go_enter Tryz.func7,Tryz.ntmps7
 go_wp2_with fail;refine hpl.out.mono ?_;rintro e w1 ⟨xv,AO,cO,AA,cA,ops,said,rfl,hR,hq⟩;have c0:=below_cell hR.below z0;have c1:=below_cell hR.below z1;have hT1:=HD (hT0.out.below hR.below);have hB1:=HD (hB0.out.trans (hR.below.mono hB0.out.size));obtain⟨_,hro,_,_,hle,hok⟩:=hR;have hro:=HD hro;clear z0 z1 hT0 hB0 hpl hq;have aw:=HD (fun w hT=>toAwake w hT);cases hc:cfgB P C with
 |false =>
  have hno:=HD (svNew_no P C w1 hc);clear hro hle hok hc;go_wp2_with fail;refine hno.out.mono ?_;rintro e w3 ⟨rfl,hb3⟩;have hB3:=HD (hB1.out.trans (hb3.mono hB1.out.size));have hT3:=HD (hT1.out.below hb3);clear hno hb3;go_wp2_with fail;refine(aw.out _ hT3.out).mono ?_;rintro e w4 ⟨rfl,hb4⟩;have hB4:=HD (hB3.out.trans (hb4.mono hB3.out.size));go_wp2_with fail;go_ret
  exact⟨rfl,hB4.out⟩
 |true =>
 have hcc:=cfg_iff.1 hc;obtain⟨P',rfl⟩:∃P':Nat,P=P':=⟨P.toNat,by omega⟩
 obtain⟨C',rfl⟩:∃C':Nat,C=C':=⟨C.toNat,by omega⟩
 have hnw:=HD (SyT.new P' C' w1 hT1.out rt2 hc);clear hc hcc hT1;go_wp2_with fail;refine hnw.out.mono ?_;rintro e w3 ⟨b,rfl,o3,g3⟩;have hI:Hid (QuoI w1 P' C' b ops 0 w3):=HD ⟨o3,_,0,g3,Nat.le_refl _⟩;clear hnw g3;go_wp2_with fail;go_loopg [36] ops.length (fun gh i wx=>∃j:Nat,j≤ops.length∧gh=ops.length-j∧i=.int .i64 j∧Hid (QuoI w1 P' C' b ops j wx))
 case atStart=>exact⟨0,Nat.zero_le _,rfl,rfl,hI⟩
 case round =>
  clear hI;obtain⟨j,hj,rfl,rfl,hR⟩:=hrel;by_cases hlt:j<ops.length
  ·have d0:decide ((j:Int)<(ops.length:Int))=true:=decide_eq_true (by omega)
   obtain⟨o4,B4,K4,g4,hK4⟩:=hR.out;obtain⟨go,offo,rfl,ho1⟩:=hro.out (by omega);have hx3:=(ho1 j hlt).fr (fun i v hc=>below_cell g4.below hc);have hnx:∀W o B K,SyT w1 W o [2] b B K (((AdS.new P' C').aft (ops.take j)).do_ ops[j]).2→K≤10*(j+1)→QuoI w1 P' C' b ops (j+1) W:=fun W o B K g hk=>⟨o,B,K,by rw [aft_succQ _ _ _ hlt];exact g,hk⟩
   have hox:=hok _ (List.getElem_mem hlt);replace hnx:=HD hnx;generalize (AdS.new P' C').aft (ops.take j)=sj at *;generalize ops[j]=x at *;have hox:=HD hox;clear ho1 hR;obtain⟨xK,xT,xN,xM,xH,xs_⟩:=x;obtain⟨x0,x1,x2,x3,x4,x5⟩:=hx3;simp only at x0 x1 x2 x3 x4 x5;have g5:=HD (g4.alloc (.cells #[.int .i64 xK,.int .i64 xT,.int .i64 xN,.int .i64 xM,.int .u64 xH,.string xs_] 32));have b5:=HD (Blk.made wr o4 [7] #[.int .i64 xK,.int .i64 xT,.int .i64 xN,.int .i64 xM,.int .u64 xH,.string xs_] 32);clear g4;have hxs:xs_.size≤maxLen:=Nat.le_trans hox.out.2 (by decide);have hrt:=HD (fun w=>refRight_any xK xT xN xM xH xs_ w hxs);have hak:=HD (fun w=>refAsks_any xK xT xN xM xH xs_ w hxs);go_wp2_with fail;refine(hrt.out _).mono ?_;rintro e w5 ⟨rfl,hb5⟩;replace g5:=g5.out.still hb5;replace b5:=own7_below hb5 _ _ _ b5.out;generalize setO o4 wr.heap.size [7]=o5 at *;clear hb5 hrt x0 x1 x2 x3 x4 x5;have x0:=b5.cell' (i:=0) (v:=.int .i64 xK) rfl;have x1:=b5.cell' (i:=1) (v:=.int .i64 xT) rfl;have x2:=b5.cell' (i:=2) (v:=.int .i64 xN) rfl;have x3:=b5.cell' (i:=3) (v:=.int .i64 xM) rfl;have x4:=b5.cell' (i:=4) (v:=.int .u64 xH) rfl;have x5:=b5.cell' (i:=5) (v:=.string xs_) rfl;replace b5:=HD b5;cases hrz:rightO xK xT xs_ with
   |false =>
    have hdo:=HD (g5.do_ ⟨xK,xT,xN,xM,xH,xs_⟩ rt2 (by omega) hox.out.1 hxs);clear g5 hak hxs;go_wp2_with fail;refine hdo.out.mono ?_;rintro e w6 ⟨rfl,o6,B6,g6,n6,_⟩;have hz:=HD (hnx.out _ _ _ _ g6 (by omega));clear hdo g6 n6 hnx b5 x0 x1 x2 x3 x4 x5;generalize (sj.do_ ⟨xK,xT,xN,xM,xH,xs_⟩).1=y at *;obtain⟨ye,yh,ya,yn,yd,yc⟩:=y;simp only [ansV];go_wp2_with fail;go_roundg (ops.length-(j+1))
    case measure=>omega
    case rel=>exact⟨j+1,by omega,rfl,by go_num,hz⟩
   |true =>
    have hbr:=right_iff.1 hrz;obtain⟨i,rfl⟩:∃i:Nat,xT=i:=⟨xT.toNat,by omega⟩
    have hi:i<8:=by omega
    have gD:=g5.drew;replace b5:=HD b5.out.drew;obtain⟨cmx,px,tbx,hadx⟩:=gD.adok;have hcb:=chg_bound hadx hi;have hcn:=charge_bound (askT true (askN xK xN xM));have hlv:=HD (gD.live i hi);have hch:=HD (gD.charged i hi);have hqu:=HD (gD.quota i hi);clear g5 hadx px tbx cmx;replace gD:=HD gD;have hak2:∀w,Calls Tryz.prog 19 #[.agg #[.int .i64 xK,.int .i64 i,.int .i64 xN,.int .i64 xM,.int .u64 xH,.string xs_]] w (fun e w'=>e=.returned (.int .i64 (askT true (askN xK xN xM)))∧Below w.heap.size w w'):=fun w=>by
     have:=hak.out w
     rwa [hrz] at this
    replace hak2:=HD hak2;clear hak;have hcg:=HD (fun w=>refCharge_any (askT true (askN xK xN xM)) w);have xd0:w5.drew.cell? ⟨wr.heap.size,0,none⟩=some (.int .i64 xK):=x0;have xd1:w5.drew.cell? ⟨wr.heap.size,1,none⟩=some (.int .i64 i):=x1;have xd4:w5.drew.cell? ⟨wr.heap.size,4,none⟩=some (.int .u64 xH):=x4;clear x0 x1 x2 x3 x4 x5;go_wp2_with fail;refine wp_region_noPanic ?_;refine wp_region_held_drew (S:=(fun W'=>W'.cell? ⟨wr.heap.size,1,none⟩=some (.int .i64 i))) (by kernel_rfl) ?_ (fun hHeld=>?_)
    ·exact xd1
    refine tkH 0 (h:=?_);refine tkH 1 (h:=?_);refine tkH 2 (h:=?_);refine tkH 4 (h:=?_);refine tkH 5 (h:=?_);refine tkH 6 (h:=?_);refine tkH 8 (h:=?_);refine tkH 9 (h:=?_);refine tkH 10 (h:=?_);refine onH 3 (h:=fun K hK=>?_);go_simp;refine SM hlv.out ?_;go_wp2_with fail;refine hK.out _ _ ?_ (fun hHeld=>?_)
    ·exact xd1
    clear hK;refine nmH (h:=?_);refine onH 7 (h:=fun K hK=>?_);go_simp;refine SM hch.out ?_;go_wp2_with fail;refine hK.out _ _ ?_ (fun hHeld=>?_)
    ·exact xd1
    clear hK;refine nmH (h:=?_);refine onH 11 (h:=fun K hK=>?_);go_simp;refine SM hqu.out ?_;go_wp2_with fail;refine hK.out _ _ ?_ (fun hHeld=>?_)
    ·exact xd1
    clear hK;refine nmH (h:=?_);refine tkH 12 (h:=?_);refine tkH 13 (h:=?_);refine tkH 14 (h:=?_);refine wpAnyH_done (by kernel_rfl) ?_ _;refine NoPanic.normal ?_;clear hlv hch hqu;by_cases h7:xK=7
    ·subst h7
     have hus:(sj.do_ ⟨8,i,0,0,xH,bae⟩).2=sj:=by rw [show sj.do_ ⟨8,i,0,0,xH,bae⟩=_ from do_usable (K:=7) (sd:=xs_) hrz]
     have hdu:=HD (gD.out.do_ ⟨8,i,0,0,xH,bae⟩ rt2 (by omega) hox.out.1 (show (0:Nat)≤maxLen from Nat.zero_le _));have hQ0:=quoT_of gD.out (K:=7) (N:=xN) (M:=xM) (H:=xH) (sd:=xs_) hrz (old:=(sj.do_ ⟨8,i,0,0,xH,bae⟩).1.n) (fun _=>rfl);have hb5:=HD (gD.out.below);go_wp2_with fail;refine hdu.out.mono ?_;rintro e w6 ⟨rfl,o6,B6,g6,n6,_⟩;rw [hus] at g6;have b6:=n6 _ _ _ b5.out;generalize (sj.do_ ⟨8,i,0,0,xH,bae⟩).1=u at *;obtain⟨ue,uh,ua,un,ud,uc⟩:=u;simp only at hQ0;have fA3:=fieldA3 ue uh ua un ud uc;clear hdu hus n6 gD b5 hb5 xd0 xd1 xd4;have xd:w6.cell? ⟨wr.heap.size,0,none⟩=some (.int .i64 7):=b6.cell' (i:=0) rfl;have xe1:w6.cell? ⟨wr.heap.size,1,none⟩=some (.int .i64 i):=b6.cell' (i:=1) rfl;have xe2:w6.cell? ⟨wr.heap.size,2,none⟩=some (.int .i64 xN):=b6.cell' (i:=2) rfl;have xe3:w6.cell? ⟨wr.heap.size,3,none⟩=some (.int .i64 xM):=b6.cell' (i:=3) rfl;have xe4:w6.cell? ⟨wr.heap.size,4,none⟩=some (.int .u64 xH):=b6.cell' (i:=4) rfl;have xe5:w6.cell? ⟨wr.heap.size,5,none⟩=some (.string xs_):=b6.cell' (i:=5) rfl;simp only [ansV];generalize askT true (askN 7 xN xM)=nn at *;generalize chargeT nn=cn at *;generalize sj.chg i=was at *;generalize sj.quo i=quo at *;generalize (sj.ts i).isSome=L at *;generalize un=old at *;replace hQ0:=HD hQ0;go_wp2_with fail;refine(hak2.out _).mono ?_;rintro e w8 ⟨rfl,hb8⟩;have gE:=HD (g6.still hb8);have bE:=HD (own7_below hb8 _ _ _ b6);replace hQ0:=hQ0.out;clear hb8 g6 b6 hak2 xd xe1 xe2 xe3 xe4 xe5 fA3;replace gE:=gE.out;have bE0:=bE.out;have x0:=bE0.cell' (i:=0) (v:=.int .i64 7) rfl;have x1:=bE0.cell' (i:=1) (v:=.int .i64 i) rfl;have x2:=bE0.cell' (i:=2) (v:=.int .i64 xN) rfl;have x3:=bE0.cell' (i:=3) (v:=.int .i64 xM) rfl;have x4:=bE0.cell' (i:=4) (v:=.int .u64 xH) rfl;have x5:=bE0.cell' (i:=5) (v:=.string xs_) rfl;have hdo:=HD (gE.do_ ⟨7,i,xN,xM,xH,xs_⟩ rt2 (by omega) hox.out.1 hxs);replace gE:=HD gE;clear bE0;go_wp2_with fail;refine hdo.out.mono ?_;rintro e w7 ⟨rfl,o7,B7,g7,n7,_⟩;have b7:=n7 _ _ _ bE.out;clear hdo x0 x1 x2 x3 x4 x5 n7;generalize hyy:(sj.do_ ⟨7,i,xN,xM,xH,xs_⟩).1=y at *;clear hyy;obtain⟨ye,yh,ya,yn,yd,yc⟩:=y;simp only at hQ0;have g8:=g7.alloc (.cells #[.int .i64 ye,.int .u64 yh,.int .i64 ya,.int .i64 yn,.string yd,.int .i64 yc] 47);have b8:=own7_alloc (W:=w7) (o:=o7) (.cells #[.int .i64 ye,.int .u64 yh,.int .i64 ya,.int .i64 yn,.string yd,.int .i64 yc] 47) _ _ _ b7;have q8:=Blk.made w7 o7 [7] #[.int .i64 ye,.int .u64 yh,.int .i64 ya,.int .i64 yn,.string yd,.int .i64 yc] 47;have hz8:=HD (hnx.out _ _ _ _ g8 (by omega));have kx8:=b8.cell' (i:=0) (v:=.int .i64 7) rfl;have ky8:=q8.cell' (i:=0) (v:=.int .i64 ye) rfl;have kc8:=q8.cell' (i:=5) (v:=.int .i64 yc) rfl;clear g7 b7 g8 b8 q8 gE bE hnx;obtain⟨hq1,hq2,hq3,hq4⟩:=hQ0;simp only [ansV];have k1:(7:Int)≠1:=by decide
     have k2:(7:Int)≠2:=by decide
     cases L with
     |false =>
      clear hq1 hq2 hq3 hq4 k1 k2 kc8 ky8;go_wp2_with fail;go_roundg (ops.length-(j+1))
      case measure=>omega
      case rel=>exact⟨j+1,by omega,rfl,by go_num,hz8⟩
     |true =>
     replace hq1:=hq1 k1 k2 rfl;replace hq2:=hq2 k1 k2 rfl;replace hq3:=hq3 k1 k2 rfl;clear k1 k2;have hf:decide (quo<yc)=false:=decide_eq_false (by omega);by_cases hn:0<nn
     ·have pn:decide (0<nn)=true:=decide_eq_true hn
      by_cases h5:ye=5
      ·have ne5:(ye != 5)=false:=by rw [h5];rfl
       have e10:(ye==10)=false:=beq_eq_false_iff_ne.2 (by omega);have e3:(ye==3)=false:=beq_eq_false_iff_ne.2 (by omega);clear hq1 hq2 hq3 hq4 hn h5;have kx:=kx8;have ky:=ky8;have kc:=kc8;have hz:=hz8;clear kx8 ky8 kc8 hz8;go_wp2_with fail;have kxd:(w7.alloc (.cells #[.int .i64 ye,.int .u64 yh,.int .i64 ya,.int .i64 yn,.string yd,.int .i64 yc] 47)).drew.cell? ⟨wr.heap.size,0,none⟩=some (.int .i64 7):=kx;have kyd:(w7.alloc (.cells #[.int .i64 ye,.int .u64 yh,.int .i64 ya,.int .i64 yn,.string yd,.int .i64 yc] 47)).drew.cell? ⟨w7.heap.size,0,none⟩=some (.int .i64 ye):=ky;have kcd:(w7.alloc (.cells #[.int .i64 ye,.int .u64 yh,.int .i64 ya,.int .i64 yn,.string yd,.int .i64 yc] 47)).drew.cell? ⟨w7.heap.size,5,none⟩=some (.int .i64 yc):=kc;have hzd:=HD (hz.out.still (Below.refl _ _).drew);clear kx ky kc hz;refine wp_region_noPanic ?_;refine wp_region_held_drew (S:=(fun W'=>W'.cell? ⟨wr.heap.size,0,none⟩=some (.int .i64 7)∧W'.cell? ⟨w7.heap.size,0,none⟩=some (.int .i64 ye)∧W'.cell? ⟨w7.heap.size,5,none⟩=some (.int .i64 yc))) (by kernel_rfl) ?_ (fun hHeld=>?_)
       ·exact⟨kxd,kyd,kcd⟩
       refine tkH 0 (h:=?_);refine tkH 1 (h:=?_);refine tkH 2 (h:=?_);refine tkH 3 (h:=?_);refine tkH 4 (h:=?_);refine tkHs 5 (h:=?_);refine tkHs 6 (h:=?_);refine tkHs 7 (h:=?_);refine tkHs 8 (h:=?_);refine tkHs 9 (h:=?_);refine tkHs 10 (h:=?_);refine tkH 11 (h:=?_);refine tkH 12 (h:=?_);refine tkH 13 (h:=?_);refine tkH 14 (h:=?_);refine tkH 15 (h:=?_);refine tkH 16 (h:=?_);refine tkH 17 (h:=?_);refine tkHs 18 (h:=?_);refine tkHs 19 (h:=?_);refine tkHs 20 (h:=?_);refine tkH 21 (h:=?_);refine tkH 22 (h:=?_);refine tkH 23 (h:=?_);refine tkH 24 (h:=?_);refine tkH 25 (h:=?_);refine tkH 26 (h:=?_);refine tkH 27 (h:=?_);refine tkH 28 (h:=?_);refine wpAnyH_done (by kernel_rfl) ?_ _;refine NoPanic.normal ?_;go_wp2_with fail;go_roundg (ops.length-(j+1))
       case measure=>omega
       case rel=>exact⟨j+1,by omega,rfl,by go_num,hzd⟩
      by_cases hol:old<cn
      ·have ne5:(ye != 5)=true:=bne_iff_ne.2 h5
       have pa:decide (old<cn)=true:=decide_eq_true hol;have e10:(ye==10)=false:=beq_eq_false_iff_ne.2 (by omega);obtain⟨pv,hpv⟩:∃pv,decide (quo<was+cn)=pv:=⟨_,rfl⟩
       have hp1:(pv != pv)=false:=by cases pv<;>rfl
       have hp2:(pv==pv)=true:=by cases pv<;>rfl
       have hwr:IntKind.i64.wrap (was+cn)=was+cn:=IntWalk.i64_in _ (by omega);have e3:(ye==3)=pv:=by
        rw [←hpv,Bool.eq_iff_iff,beq_iff_eq,decide_eq_true_eq,hq1];exact⟨fun q=>q.2.2,fun q=>⟨hn,fun k=>⟨h5,hol⟩,q⟩⟩
       clear hq1 hq2 hq3 hq4 hn h5 hol;go_wp2_with fail;refine(hcg.out _).mono ?_;rintro e w9 ⟨rfl,hb9⟩;have kx:=below_cell hb9 kx8;have ky:=below_cell hb9 ky8;have kc:=below_cell hb9 kc8;have hz:=HD (hz8.out.still hb9);clear hb9 kx8 ky8 kc8 hz8;go_wp2_with fail;have kxd:w9.drew.cell? ⟨wr.heap.size,0,none⟩=some (.int .i64 7):=kx;have kyd:w9.drew.cell? ⟨w7.heap.size,0,none⟩=some (.int .i64 ye):=ky;have kcd:w9.drew.cell? ⟨w7.heap.size,5,none⟩=some (.int .i64 yc):=kc;have hzd:=HD (hz.out.still (Below.refl _ _).drew);clear kx ky kc hz;refine wp_region_noPanic ?_;refine wp_region_held_drew (S:=(fun W'=>W'.cell? ⟨wr.heap.size,0,none⟩=some (.int .i64 7)∧W'.cell? ⟨w7.heap.size,0,none⟩=some (.int .i64 ye)∧W'.cell? ⟨w7.heap.size,5,none⟩=some (.int .i64 yc))) (by kernel_rfl) ?_ (fun hHeld=>?_)
       ·exact⟨kxd,kyd,kcd⟩
       refine tkH 0 (h:=?_);refine tkH 1 (h:=?_);refine tkH 2 (h:=?_);refine tkH 3 (h:=?_);refine tkH 4 (h:=?_);refine tkH 5 (h:=?_);refine tkH 6 (h:=?_);refine tkH 9 (h:=?_);refine onH 7 (h:=fun K hK=>?_);go_simp;refine(hcg.out _).mono ?_;rintro e w11 ⟨rfl,hb11⟩;replace kxd:=below_cell hb11 kxd;replace kyd:=below_cell hb11 kyd;replace kcd:=below_cell hb11 kcd;replace hzd:=HD (hzd.out.still hb11);clear hb11;go_wp2_with fail;refine hK.out _ _ ?_ (fun hHeld=>?_)
       ·exact⟨kxd,kyd,kcd⟩
       clear hK;refine nmH (h:=?_);refine tkH 8 (h:=?_);refine tkH 10 (h:=?_);refine tkH 11 (h:=?_);refine tkH 12 (h:=?_);refine tkH 13 (h:=?_);refine tkH 14 (h:=?_);refine tkH 15 (h:=?_);refine tkH 16 (h:=?_);refine tkH 17 (h:=?_);refine tkHs 18 (h:=?_);refine tkHs 19 (h:=?_);refine tkHs 20 (h:=?_);refine tkH 21 (h:=?_);refine tkH 22 (h:=?_);refine tkH 23 (h:=?_);refine tkH 24 (h:=?_);refine tkH 25 (h:=?_);refine tkH 26 (h:=?_);refine tkH 27 (h:=?_);refine tkH 28 (h:=?_);refine wpAnyH_done (by kernel_rfl) ?_ _;refine NoPanic.normal ?_;go_wp2_with fail;go_roundg (ops.length-(j+1))
       case measure=>omega
       case rel=>exact⟨j+1,by omega,rfl,by go_num,hzd⟩
      ·have ne5:(ye != 5)=true:=bne_iff_ne.2 h5
       have pa:decide (old<cn)=false:=decide_eq_false hol;have e10:(ye==10)=false:=beq_eq_false_iff_ne.2 (by omega);have e3:(ye==3)=false:=beq_eq_false_iff_ne.2 (fun q=>hol ((hq1.1 q).2.1 rfl).2);clear hq1 hq2 hq3 hq4 hn h5 hol;go_wp2_with fail;refine(hcg.out _).mono ?_;rintro e w9 ⟨rfl,hb9⟩;have kx:=below_cell hb9 kx8;have ky:=below_cell hb9 ky8;have kc:=below_cell hb9 kc8;have hz:=HD (hz8.out.still hb9);clear hb9 kx8 ky8 kc8 hz8;go_wp2_with fail;have kxd:w9.drew.cell? ⟨wr.heap.size,0,none⟩=some (.int .i64 7):=kx;have kyd:w9.drew.cell? ⟨w7.heap.size,0,none⟩=some (.int .i64 ye):=ky;have kcd:w9.drew.cell? ⟨w7.heap.size,5,none⟩=some (.int .i64 yc):=kc;have hzd:=HD (hz.out.still (Below.refl _ _).drew);clear kx ky kc hz;refine wp_region_noPanic ?_;refine wp_region_held_drew (S:=(fun W'=>W'.cell? ⟨wr.heap.size,0,none⟩=some (.int .i64 7)∧W'.cell? ⟨w7.heap.size,0,none⟩=some (.int .i64 ye)∧W'.cell? ⟨w7.heap.size,5,none⟩=some (.int .i64 yc))) (by kernel_rfl) ?_ (fun hHeld=>?_)
       ·exact⟨kxd,kyd,kcd⟩
       refine tkH 0 (h:=?_);refine tkH 1 (h:=?_);refine tkH 2 (h:=?_);refine tkH 3 (h:=?_);refine tkH 4 (h:=?_);refine tkHs 5 (h:=?_);refine tkHs 6 (h:=?_);refine tkHs 7 (h:=?_);refine tkHs 8 (h:=?_);refine tkHs 9 (h:=?_);refine tkHs 10 (h:=?_);refine tkH 11 (h:=?_);refine tkH 12 (h:=?_);refine tkH 13 (h:=?_);refine tkH 14 (h:=?_);refine tkH 15 (h:=?_);refine tkH 16 (h:=?_);refine tkH 17 (h:=?_);refine tkHs 18 (h:=?_);refine tkHs 19 (h:=?_);refine tkHs 20 (h:=?_);refine tkH 21 (h:=?_);refine tkH 22 (h:=?_);refine tkH 23 (h:=?_);refine tkH 24 (h:=?_);refine tkH 25 (h:=?_);refine tkH 26 (h:=?_);refine tkH 27 (h:=?_);refine tkH 28 (h:=?_);refine wpAnyH_done (by kernel_rfl) ?_ _;refine NoPanic.normal ?_;go_wp2_with fail;go_roundg (ops.length-(j+1))
       case measure=>omega
       case rel=>exact⟨j+1,by omega,rfl,by go_num,hzd⟩
     have pn:decide (0<nn)=false:=decide_eq_false hn;have e3:(ye==3)=false:=beq_eq_false_iff_ne.2 (fun q=>hn (hq1.1 q).1);have e10:(ye==10)=false:=beq_eq_false_iff_ne.2 (by omega);clear hq1 hq2 hq3 hq4 hn;have kx:=kx8;have ky:=ky8;have kc:=kc8;have hz:=hz8;clear kx8 ky8 kc8 hz8;go_wp2_with fail;have kxd:(w7.alloc (.cells #[.int .i64 ye,.int .u64 yh,.int .i64 ya,.int .i64 yn,.string yd,.int .i64 yc] 47)).drew.cell? ⟨wr.heap.size,0,none⟩=some (.int .i64 7):=kx;have kyd:(w7.alloc (.cells #[.int .i64 ye,.int .u64 yh,.int .i64 ya,.int .i64 yn,.string yd,.int .i64 yc] 47)).drew.cell? ⟨w7.heap.size,0,none⟩=some (.int .i64 ye):=ky;have kcd:(w7.alloc (.cells #[.int .i64 ye,.int .u64 yh,.int .i64 ya,.int .i64 yn,.string yd,.int .i64 yc] 47)).drew.cell? ⟨w7.heap.size,5,none⟩=some (.int .i64 yc):=kc;have hzd:=HD (hz.out.still (Below.refl _ _).drew);clear kx ky kc hz;refine wp_region_noPanic ?_;refine wp_region_held_drew (S:=(fun W'=>W'.cell? ⟨wr.heap.size,0,none⟩=some (.int .i64 7)∧W'.cell? ⟨w7.heap.size,0,none⟩=some (.int .i64 ye)∧W'.cell? ⟨w7.heap.size,5,none⟩=some (.int .i64 yc))) (by kernel_rfl) ?_ (fun hHeld=>?_)
     ·exact⟨kxd,kyd,kcd⟩
     refine tkH 0 (h:=?_);refine tkH 1 (h:=?_);refine tkH 2 (h:=?_);refine tkH 3 (h:=?_);refine tkH 4 (h:=?_);refine tkHs 5 (h:=?_);refine tkHs 6 (h:=?_);refine tkHs 7 (h:=?_);refine tkHs 8 (h:=?_);refine tkHs 9 (h:=?_);refine tkHs 10 (h:=?_);refine tkH 11 (h:=?_);refine tkH 12 (h:=?_);refine tkH 13 (h:=?_);refine tkH 14 (h:=?_);refine tkH 15 (h:=?_);refine tkH 16 (h:=?_);refine tkH 17 (h:=?_);refine tkHs 18 (h:=?_);refine tkHs 19 (h:=?_);refine tkHs 20 (h:=?_);refine tkH 21 (h:=?_);refine tkH 22 (h:=?_);refine tkH 23 (h:=?_);refine tkH 24 (h:=?_);refine tkH 25 (h:=?_);refine tkH 26 (h:=?_);refine tkH 27 (h:=?_);refine tkH 28 (h:=?_);refine wpAnyH_done (by kernel_rfl) ?_ _;refine NoPanic.normal ?_;go_wp2_with fail;go_roundg (ops.length-(j+1))
     case measure=>omega
     case rel=>exact⟨j+1,by omega,rfl,by go_num,hzd⟩
    ·have k7:(xK==7)=false:=beq_eq_false_iff_ne.2 h7
     have hQ0:=quoT_of gD.out (K:=xK) (N:=xN) (M:=xM) (H:=xH) (sd:=xs_) hrz (old:=0) (fun q=>absurd q h7);have xe1:=xd1;have xe2:w5.drew.cell? ⟨wr.heap.size,2,none⟩=some (.int .i64 xN):=b5.out.cell' (i:=2) rfl;have xe3:w5.drew.cell? ⟨wr.heap.size,3,none⟩=some (.int .i64 xM):=b5.out.cell' (i:=3) rfl;have xe5:w5.drew.cell? ⟨wr.heap.size,5,none⟩=some (.string xs_):=b5.out.cell' (i:=5) rfl;generalize askT true (askN xK xN xM)=nn at *;generalize chargeT nn=cn at *;generalize sj.chg i=was at *;generalize sj.quo i=quo at *;generalize (sj.ts i).isSome=L at *;replace hQ0:=HD hQ0;go_wp2_with fail;refine(hak2.out _).mono ?_;rintro e w6 ⟨rfl,hb6⟩;have gE:=HD (gD.out.still hb6);have bE:=HD (own7_below hb6 _ _ _ b5.out);replace hQ0:=hQ0.out;clear hb6 gD b5 hak2 xd0 xd1 xd4 xe1 xe2 xe3 xe5;replace gE:=gE.out;have bE0:=bE.out;have x0:=bE0.cell' (i:=0) (v:=.int .i64 xK) rfl;have x1:=bE0.cell' (i:=1) (v:=.int .i64 i) rfl;have x2:=bE0.cell' (i:=2) (v:=.int .i64 xN) rfl;have x3:=bE0.cell' (i:=3) (v:=.int .i64 xM) rfl;have x4:=bE0.cell' (i:=4) (v:=.int .u64 xH) rfl;have x5:=bE0.cell' (i:=5) (v:=.string xs_) rfl;have hdo:=HD (gE.do_ ⟨xK,i,xN,xM,xH,xs_⟩ rt2 (by omega) hox.out.1 hxs);replace gE:=HD gE;clear bE0;go_wp2_with fail;refine hdo.out.mono ?_;rintro e w7 ⟨rfl,o7,B7,g7,n7,_⟩;have b7:=n7 _ _ _ bE.out;clear hdo x0 x1 x2 x3 x4 x5 n7;generalize hyy:(sj.do_ ⟨xK,i,xN,xM,xH,xs_⟩).1=y at *;clear hyy;obtain⟨ye,yh,ya,yn,yd,yc⟩:=y;simp only at hQ0;have g8:=g7.alloc (.cells #[.int .i64 ye,.int .u64 yh,.int .i64 ya,.int .i64 yn,.string yd,.int .i64 yc] 47);have b8:=own7_alloc (W:=w7) (o:=o7) (.cells #[.int .i64 ye,.int .u64 yh,.int .i64 ya,.int .i64 yn,.string yd,.int .i64 yc] 47) _ _ _ b7;have q8:=Blk.made w7 o7 [7] #[.int .i64 ye,.int .u64 yh,.int .i64 ya,.int .i64 yn,.string yd,.int .i64 yc] 47;have hz8:=HD (hnx.out _ _ _ _ g8 (by omega));have kx8:=b8.cell' (i:=0) (v:=.int .i64 xK) rfl;have ky8:=q8.cell' (i:=0) (v:=.int .i64 ye) rfl;have kc8:=q8.cell' (i:=5) (v:=.int .i64 yc) rfl;clear g7 b7 g8 b8 q8 gE bE hnx;obtain⟨hq1,hq2,hq3,hq4⟩:=hQ0;simp only [ansV];by_cases k1:xK=1
     ·have k1':(xK==1)=true:=beq_iff_eq.2 k1
      clear hq1 hq2 hq3 hq4 k1 kc8 ky8;go_wp2_with fail;go_roundg (ops.length-(j+1))
      case measure=>omega
      case rel=>exact⟨j+1,by omega,rfl,by go_num,hz8⟩
     have k1':(xK==1)=false:=beq_eq_false_iff_ne.2 k1;by_cases k2:xK=2
     ·have k2':(xK==2)=true:=beq_iff_eq.2 k2
      clear hq1 hq2 hq3 hq4 k2 k1 kc8 ky8;go_wp2_with fail;go_roundg (ops.length-(j+1))
      case measure=>omega
      case rel=>exact⟨j+1,by omega,rfl,by go_num,hz8⟩
     have k2':(xK==2)=false:=beq_eq_false_iff_ne.2 k2;cases L with
     |false =>
      clear hq1 hq2 hq3 hq4 k1 k2 kc8 ky8;go_wp2_with fail;go_roundg (ops.length-(j+1))
      case measure=>omega
      case rel=>exact⟨j+1,by omega,rfl,by go_num,hz8⟩
     |true =>
     replace hq1:=hq1 k1 k2 rfl;replace hq2:=hq2 k1 k2 rfl;replace hq3:=hq3 k1 k2 rfl;clear k1 k2;have hf:decide (quo<yc)=false:=decide_eq_false (by omega);by_cases hn:0<nn
     ·have pn:decide (0<nn)=true:=decide_eq_true hn
      have kn7:(xK != 7)=true:=bne_iff_ne.2 h7;have e10:(ye==10)=false:=beq_eq_false_iff_ne.2 (by omega);obtain⟨pv,hpv⟩:∃pv,decide (quo<was+cn)=pv:=⟨_,rfl⟩
      have hp1:(pv != pv)=false:=by cases pv<;>rfl
      have hp2:(pv==pv)=true:=by cases pv<;>rfl
      have hwr:IntKind.i64.wrap (was+cn)=was+cn:=IntWalk.i64_in _ (by omega);have e3:(ye==3)=pv:=by
       rw [←hpv,Bool.eq_iff_iff,beq_iff_eq,decide_eq_true_eq,hq1];exact⟨fun q=>q.2.2,fun q=>⟨hn,fun k=>absurd k h7,q⟩⟩
      clear hq1 hq2 hq3 hq4 hn;have kx:=kx8;have ky:=ky8;have kc:=kc8;have hz:=hz8;clear kx8 ky8 kc8 hz8;go_wp2_with fail;have kxd:(w7.alloc (.cells #[.int .i64 ye,.int .u64 yh,.int .i64 ya,.int .i64 yn,.string yd,.int .i64 yc] 47)).drew.cell? ⟨wr.heap.size,0,none⟩=some (.int .i64 xK):=kx;have kyd:(w7.alloc (.cells #[.int .i64 ye,.int .u64 yh,.int .i64 ya,.int .i64 yn,.string yd,.int .i64 yc] 47)).drew.cell? ⟨w7.heap.size,0,none⟩=some (.int .i64 ye):=ky;have kcd:(w7.alloc (.cells #[.int .i64 ye,.int .u64 yh,.int .i64 ya,.int .i64 yn,.string yd,.int .i64 yc] 47)).drew.cell? ⟨w7.heap.size,5,none⟩=some (.int .i64 yc):=kc;have hzd:=HD (hz.out.still (Below.refl _ _).drew);clear kx ky kc hz;refine wp_region_noPanic ?_;refine wp_region_held_drew (S:=(fun W'=>W'.cell? ⟨wr.heap.size,0,none⟩=some (.int .i64 xK)∧W'.cell? ⟨w7.heap.size,0,none⟩=some (.int .i64 ye)∧W'.cell? ⟨w7.heap.size,5,none⟩=some (.int .i64 yc))) (by kernel_rfl) ?_ (fun hHeld=>?_)
      ·exact⟨kxd,kyd,kcd⟩
      refine tkH 0 (h:=?_);refine tkH 1 (h:=?_);refine tkH 2 (h:=?_);refine tkH 3 (h:=?_);refine tkH 4 (h:=?_);refine tkH 5 (h:=?_);refine tkH 6 (h:=?_);refine tkH 9 (h:=?_);refine onH 7 (h:=fun K hK=>?_);go_simp;refine(hcg.out _).mono ?_;rintro e w11 ⟨rfl,hb11⟩;replace kxd:=below_cell hb11 kxd;replace kyd:=below_cell hb11 kyd;replace kcd:=below_cell hb11 kcd;replace hzd:=HD (hzd.out.still hb11);clear hb11;go_wp2_with fail;refine hK.out _ _ ?_ (fun hHeld=>?_)
      ·exact⟨kxd,kyd,kcd⟩
      clear hK;refine nmH (h:=?_);refine tkH 8 (h:=?_);refine tkH 10 (h:=?_);refine tkH 11 (h:=?_);refine tkH 12 (h:=?_);refine tkH 13 (h:=?_);refine tkH 14 (h:=?_);refine tkH 15 (h:=?_);refine tkH 16 (h:=?_);refine tkH 17 (h:=?_);refine tkHs 18 (h:=?_);refine tkHs 19 (h:=?_);refine tkHs 20 (h:=?_);refine tkH 21 (h:=?_);refine tkH 22 (h:=?_);refine tkH 23 (h:=?_);refine tkH 24 (h:=?_);refine tkH 25 (h:=?_);refine tkH 26 (h:=?_);refine tkH 27 (h:=?_);refine tkH 28 (h:=?_);refine wpAnyH_done (by kernel_rfl) ?_ _;refine NoPanic.normal ?_;go_wp2_with fail;go_roundg (ops.length-(j+1))
      case measure=>omega
      case rel=>exact⟨j+1,by omega,rfl,by go_num,hzd⟩
     have pn:decide (0<nn)=false:=decide_eq_false hn;have e3:(ye==3)=false:=beq_eq_false_iff_ne.2 (fun q=>hn (hq1.1 q).1);by_cases h10:ye=10
     ·have e10:(ye==10)=true:=beq_iff_eq.2 h10
      have k11:(xK != 11)=false:=by rw [hq2 h10];rfl
      clear hq1 hq2 hq3 hq4 hn h10;have kx:=kx8;have ky:=ky8;have kc:=kc8;have hz:=hz8;clear kx8 ky8 kc8 hz8;go_wp2_with fail;have kxd:(w7.alloc (.cells #[.int .i64 ye,.int .u64 yh,.int .i64 ya,.int .i64 yn,.string yd,.int .i64 yc] 47)).drew.cell? ⟨wr.heap.size,0,none⟩=some (.int .i64 xK):=kx;have kyd:(w7.alloc (.cells #[.int .i64 ye,.int .u64 yh,.int .i64 ya,.int .i64 yn,.string yd,.int .i64 yc] 47)).drew.cell? ⟨w7.heap.size,0,none⟩=some (.int .i64 ye):=ky;have kcd:(w7.alloc (.cells #[.int .i64 ye,.int .u64 yh,.int .i64 ya,.int .i64 yn,.string yd,.int .i64 yc] 47)).drew.cell? ⟨w7.heap.size,5,none⟩=some (.int .i64 yc):=kc;have hzd:=HD (hz.out.still (Below.refl _ _).drew);clear kx ky kc hz;refine wp_region_noPanic ?_;refine wp_region_held_drew (S:=(fun W'=>W'.cell? ⟨wr.heap.size,0,none⟩=some (.int .i64 xK)∧W'.cell? ⟨w7.heap.size,0,none⟩=some (.int .i64 ye)∧W'.cell? ⟨w7.heap.size,5,none⟩=some (.int .i64 yc))) (by kernel_rfl) ?_ (fun hHeld=>?_)
      ·exact⟨kxd,kyd,kcd⟩
      refine tkH 0 (h:=?_);refine tkH 1 (h:=?_);refine tkH 2 (h:=?_);refine tkH 3 (h:=?_);refine tkH 4 (h:=?_);refine tkHs 5 (h:=?_);refine tkHs 6 (h:=?_);refine tkHs 7 (h:=?_);refine tkHs 8 (h:=?_);refine tkHs 9 (h:=?_);refine tkHs 10 (h:=?_);refine tkH 11 (h:=?_);refine tkH 12 (h:=?_);refine tkH 13 (h:=?_);refine tkH 14 (h:=?_);refine tkH 15 (h:=?_);refine tkH 16 (h:=?_);refine tkH 17 (h:=?_);refine tkH 18 (h:=?_);refine tkH 19 (h:=?_);refine tkH 20 (h:=?_);refine tkH 21 (h:=?_);refine tkH 22 (h:=?_);refine tkH 23 (h:=?_);refine tkH 24 (h:=?_);refine tkH 25 (h:=?_);refine tkH 26 (h:=?_);refine tkH 27 (h:=?_);refine tkH 28 (h:=?_);refine wpAnyH_done (by kernel_rfl) ?_ _;refine NoPanic.normal ?_;go_wp2_with fail;go_roundg (ops.length-(j+1))
      case measure=>omega
      case rel=>exact⟨j+1,by omega,rfl,by go_num,hzd⟩
     have e10:(ye==10)=false:=beq_eq_false_iff_ne.2 h10;clear hq1 hq2 hq3 hq4 hn h10;have kx:=kx8;have ky:=ky8;have kc:=kc8;have hz:=hz8;clear kx8 ky8 kc8 hz8;go_wp2_with fail;have kxd:(w7.alloc (.cells #[.int .i64 ye,.int .u64 yh,.int .i64 ya,.int .i64 yn,.string yd,.int .i64 yc] 47)).drew.cell? ⟨wr.heap.size,0,none⟩=some (.int .i64 xK):=kx;have kyd:(w7.alloc (.cells #[.int .i64 ye,.int .u64 yh,.int .i64 ya,.int .i64 yn,.string yd,.int .i64 yc] 47)).drew.cell? ⟨w7.heap.size,0,none⟩=some (.int .i64 ye):=ky;have kcd:(w7.alloc (.cells #[.int .i64 ye,.int .u64 yh,.int .i64 ya,.int .i64 yn,.string yd,.int .i64 yc] 47)).drew.cell? ⟨w7.heap.size,5,none⟩=some (.int .i64 yc):=kc;have hzd:=HD (hz.out.still (Below.refl _ _).drew);clear kx ky kc hz;refine wp_region_noPanic ?_;refine wp_region_held_drew (S:=(fun W'=>W'.cell? ⟨wr.heap.size,0,none⟩=some (.int .i64 xK)∧W'.cell? ⟨w7.heap.size,0,none⟩=some (.int .i64 ye)∧W'.cell? ⟨w7.heap.size,5,none⟩=some (.int .i64 yc))) (by kernel_rfl) ?_ (fun hHeld=>?_)
     ·exact⟨kxd,kyd,kcd⟩
     refine tkH 0 (h:=?_);refine tkH 1 (h:=?_);refine tkH 2 (h:=?_);refine tkH 3 (h:=?_);refine tkH 4 (h:=?_);refine tkHs 5 (h:=?_);refine tkHs 6 (h:=?_);refine tkHs 7 (h:=?_);refine tkHs 8 (h:=?_);refine tkHs 9 (h:=?_);refine tkHs 10 (h:=?_);refine tkH 11 (h:=?_);refine tkH 12 (h:=?_);refine tkH 13 (h:=?_);refine tkH 14 (h:=?_);refine tkH 15 (h:=?_);refine tkH 16 (h:=?_);refine tkH 17 (h:=?_);refine tkHs 18 (h:=?_);refine tkHs 19 (h:=?_);refine tkHs 20 (h:=?_);refine tkH 21 (h:=?_);refine tkH 22 (h:=?_);refine tkH 23 (h:=?_);refine tkH 24 (h:=?_);refine tkH 25 (h:=?_);refine tkH 26 (h:=?_);refine tkH 27 (h:=?_);refine tkH 28 (h:=?_);refine wpAnyH_done (by kernel_rfl) ?_ _;refine NoPanic.normal ?_;go_wp2_with fail;go_roundg (ops.length-(j+1))
     case measure=>omega
     case rel=>exact⟨j+1,by omega,rfl,by go_num,hzd⟩
  ·have d0:decide ((j:Int)<(ops.length:Int))=false:=decide_eq_false (by omega)
   obtain⟨o4,B4,K4,g4,_⟩:=hR.out;have hT4:=HD g4.tabw;have hB4:=HD (hB1.out.trans (g4.below.mono hB1.out.size));clear g4 hR hro hle hok hB1;go_wp2_with fail;refine(aw.out _ hT4.out).mono ?_;rintro e w5 ⟨rfl,hb5⟩;have hB5:=HD (hB4.out.trans (hb5.mono hB4.out.size));go_wp2_with fail;go_ret
   exact⟨rfl,hB5.out⟩
end
end Go.Proofs.YtfliaggjkianpaaGreatDoor
