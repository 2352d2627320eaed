import Derived.Test.YtfliaggjkianpaaGreatDoorK00
import Derived.Test.YtfliaggjkianpaaGreatDoorK03
import Derived.Test.YtfliaggjkianpaaGreatDoorK37
set_option linter.unusedVariables false
set_option linter.unusedSimpArgs false
set_option maxRecDepth 100000
namespace Go.Proofs.YtfliaggjkianpaaGreatDoor
section
open Go.RowKit Flt
structure RnI(w0:World)(o0:Nat→Tag)(r:Tag)(q:Nat)(t:Tag)(P C b mb:Nat)(v:Value)(l:List StS)(vO vA:Value)(j:Nat)(w:World):Prop where
 g:∃o B M,RnG w0 o0 w o r q b mb vO vA B j M ((l.take j).foldl RnS.step (RnS.new P C))∧RowT w o t 0 34 7 v l.length (l.flatMap stL)
theorem results_tmp4{fn:Func}{t u v z:Tmp}(h:fn.results=#[.tmp t,.tmp u,.tmp v,.tmp z])(tmps:Array Value)(P:Program)(w:World) :
  (results fn tmps).run P w=.ok (.tuple #[tmps.getD t undef,tmps.getD u undef,tmps.getD v undef,tmps.getD z undef]) w:=by
 simp only [results,h];simp [Sem.run_bind,Result.andThen]
theorem stepCells{w:World}{o:Nat→Tag}{t:Tag}{va:Option Addr}{vc:Nat}{l:List StS}(h:RowT w o t 0 34 7 (.slice va l.length vc) l.length (l.flatMap stL)){j:Nat}(hj:j<l.length) :
  ∃g,va=some ⟨g,0,none⟩∧(∀i,i<7→w.cell? ⟨g,j*7+i,none⟩=(stL l[j])[i]?):=by
 rcases h.own.2 with ⟨h1,h2⟩|⟨g,cap,cur,e,_⟩
 ·omega
 ·injection e with e1 e2 e3
  subst e1;refine⟨g,rfl,fun i hi=>?_⟩;have:=h.own.cellAt (7*j+i) (by omega);rw [Nat.mul_comm j 7,this];exact flat_get (f:=stL) (m:=7) (fun _=>rfl) l j i hj hi
theorem run_succ{l:List StS}{j:Nat}(h:j<l.length)(R0:RnS):(l.take (j+1)).foldl RnS.step R0=RnS.step ((l.take j).foldl RnS.step R0) l[j]:=by
 rw [List.take_succ_eq_append_getElem h,List.foldl_append];rfl
section
variable{w0 W:World}{o0 O:Nat→Tag}{r t:Tag}{q P C b mb px py j:Nat}{x:OpS}{y:Ans}{z:StS}{vO vA v:Value}{B:List UInt8}{M:List (Int×(Value×List Nat))}{l:List StS}{R:RnS}
theorem fin0(hq:Own r q)(hlt:j<l.length)(hlj:l[j]=z)(hop:opOf ((l.take j).foldl RnS.step (RnS.new P C)).G z=x)(hy:(((l.take j).foldl RnS.step (RnS.new P C)).s.do_ x).1=y)(hh:y.h=0)
  (h:RnG w0 o0 W O r q b mb vO vA B (j+1) M {((l.take j).foldl RnS.step (RnS.new P C)) with s:=(((l.take j).foldl RnS.step (RnS.new P C)).s.do_ x).2}) (hv:RowT W O t 0 34 7 v l.length (l.flatMap stL)) (ht:¬UndS r t∧∀u,t≠q :: u) (hlk:((l.take j).foldl RnS.step (RnS.new P C)).ops.length≤j) :
  ∀W' O' vO' vA',Mid W O q px py x y W' O' vO' vA' (((l.take j).foldl RnS.step (RnS.new P C)).ops.length+1) (((l.take j).foldl RnS.step (RnS.new P C)).said.length+1) (((l.take j).foldl RnS.step (RnS.new P C)).ops.flatMap opL++opL x) (((l.take j).foldl RnS.step (RnS.new P C)).said.flatMap ansL++ansL y)→RnI w0 o0 r q t P C b mb v l vO' vA' (j+1) W':=by
 intro W' O' vO' vA' m;have g:=h.noted hq m (Nat.lt_succ_of_le hlk);refine⟨O',B,M,?_,hv.fr m.fr (fun e=>by rcases e with e|e<;>exact ht.2 _ e)⟩;rw [run_succ hlt,hlj];generalize (l.take j).foldl RnS.step (RnS.new P C)=R at *;unfold RnS.step;rw [hop,hy];unfold giv;rw [if_pos hh];exact g
theorem fin1(hq:Own r q)(hlt:j<l.length)(hlj:l[j]=z)(hop:opOf ((l.take j).foldl RnS.step (RnS.new P C)).G z=x)(hy:(((l.take j).foldl RnS.step (RnS.new P C)).s.do_ x).1=y)
  (h:RnG w0 o0 W O r q b mb vO vA B (j+1) M {({((l.take j).foldl RnS.step (RnS.new P C)) with s:=(((l.take j).foldl RnS.step (RnS.new P C)).s.do_ x).2}:RnS) with G:=giv ((l.take j).foldl RnS.step (RnS.new P C)).G z.o.T y.h}) (hv:RowT W O t 0 34 7 v l.length (l.flatMap stL)) (ht:¬UndS r t∧∀u,t≠q :: u) (hlk:((l.take j).foldl RnS.step (RnS.new P C)).ops.length≤j) :
  ∀W' O' vO' vA',Mid W O q px py x y W' O' vO' vA' (((l.take j).foldl RnS.step (RnS.new P C)).ops.length+1) (((l.take j).foldl RnS.step (RnS.new P C)).said.length+1) (((l.take j).foldl RnS.step (RnS.new P C)).ops.flatMap opL++opL x) (((l.take j).foldl RnS.step (RnS.new P C)).said.flatMap ansL++ansL y)→RnI w0 o0 r q t P C b mb v l vO' vA' (j+1) W':=by
 intro W' O' vO' vA' m;have g:=h.noted hq m (Nat.lt_succ_of_le hlk);refine⟨O',B,M,?_,hv.fr m.fr (fun e=>by rcases e with e|e<;>exact ht.2 _ e)⟩;rw [run_succ hlt,hlj];generalize (l.take j).foldl RnS.step (RnS.new P C)=R at *;unfold RnS.step;rw [hop,hy];exact g
end
set_option maxHeartbeats 8000000 in
theorem scRun(P C:Nat)(v:Value)(l:List StS)(w:World)(o:Nat→Tag)(r t:Tag)(q:Nat)(hq:Own r q)(hT:Tab w o)(hc:cfgB P C=true)(hl:l.length≤4000)(hok:∀x∈l,StOk x)
  (hv:RowT w o t 0 34 7 v l.length (l.flatMap stL)) (ht:¬UndS r t∧∀u,t≠q :: u) (hold:∀k,k<w.heap.size→¬UndS r (o k)∧∀u,o k≠q :: u) :
  Calls Tryz.prog 10 #[.agg #[.int .i64 P,.int .i64 C],v] w fun e w'=>∃b vO vA,e=.returned (.tuple #[eP b,vO,vA,.int .i64 0])∧∃o' B mb M,RnG w o w' o' r q b mb vO vA B l.length M (runAll P C l):=by
 obtain⟨va,vc,rfl⟩:=hv.slice;have hnew:=HD (svNew P C (w.alloc (.cells #[.int .i64 P,.int .i64 C] 23)) o r hq.rt (hT.fr (S:=fun _=>False) (Fr.alloc' _) (fun e=>e)) hc);have hini:=HD (show ∀b w1 o1,SvAt w1 o1 r b (List.replicate (P*512) 0) 0 (AdS.new P C)→Fr (fun _=>False) (w.alloc (.cells #[.int .i64 P,.int .i64 C] 23)) o w1 o1→RnI w o r q t P C b w1.heap.size (.slice va l.length vc) l (.slice none 0 0) (.slice none 0 0) 0 (w1.alloc (.map #[] 0)) from fun b w1 o1 h1 f1=>by
  have fa:Fr (fun _=>False) w o (w.alloc (.cells #[.int .i64 P,.int .i64 C] 23)) o:=Fr.alloc' _;have fb:Fr (fun _=>False) w1 o1 (w1.alloc (.map #[] 0)) (setO o1 w1.heap.size [q,0]):=Fr.alloc _ _;refine⟨_,_,[],⟨h1.fr fb ⟨fun _ _ e=>e,fun e=>e⟩ ⟨fun _ _ e=>e,fun e=>e⟩,MpAt.made _ _ _ _ _,fun p hp=>(by cases hp),fun p hp=>(by cases hp),fun p hp=>(by cases hp),fun p hp=>(by cases hp),Nat.le_refl _,rfl,RowT.nil _ _ _ _ _ _,RowT.nil _ _ _ _ _ _,rfl,(fa.trans f1).trans fb,hold⟩,hv.fr ((fa.trans f1).trans fb) (fun e=>e)⟩)
 have hmk:∀w,(Instr.makeMap 70 none).run Tryz.prog w=.ok (.map (some w.heap.size)) (w.alloc (.map #[] 0)):=fun w=>run_makeMap _ w
 clear hT hc hv;go_enter Tryz.func10,Tryz.ntmps10
 go_wp2_with fail;refine hnew.out.mono ?_;rintro e w1 ⟨b,o1,rfl,h1,f1⟩;have hI:=HD (hini.out b w1 o1 h1 f1);clear hnew hini h1 f1;go_wp2_with fail;generalize hW1:w1.alloc (.map #[] 0)=W1 at *;generalize w1.heap.size=mb at *;clear hW1 hmk;go_loopg [11,12,29] l.length (fun gh vO vA i wx=>∃j:Nat,j≤l.length∧gh=l.length-j∧i=.int .i64 j∧Hid (RnI w o r q t P C b mb (.slice va l.length vc) l vO vA j wx))
 case atStart=>exact⟨0,Nat.zero_le _,rfl,rfl,hI⟩
 case round =>
  clear hI;obtain⟨j,hj,rfl,rfl,hR⟩:=hrel;by_cases hlt:j<l.length
  ·have d0:decide ((j:Int)<(l.length:Int))=true:=decide_eq_true (by omega)
   obtain⟨⟨o2,B,M,hG,hv⟩⟩:=hR.out;obtain⟨sg,rfl,hce⟩:=stepCells hv hlt;have hx:=hok l[j] (List.getElem_mem hlt);have e0:=hce 0 (by decide);have e1:=hce 1 (by decide);have e2:=hce 2 (by decide);have e3:=hce 3 (by decide);have e4:=hce 4 (by decide);have e5:=hce 5 (by decide);have e6:=hce 6 (by decide);generalize hlj:l[j]=x at *;obtain⟨⟨sK,sT,sN,sM,sH,sD⟩,bk⟩:=x;have hG':=HD hG;have hv':=HD hv;clear hR hce;simp only [stL,List.getElem?_cons_zero,List.getElem?_cons_succ,Nat.add_zero] at e0 e1 e2 e3 e4 e5 e6;obtain⟨gv0,gr0,gl01,gl02,gl03⟩:=hG.given sT;obtain⟨ga,gc,rfl⟩:=gr0.slice;have mk:∀h:Nat,RnG w o ((wr.alloc (.cells #[.int .i64 sK,.int .i64 sT,.int .i64 sN,.int .i64 sM,.int .u64 sH,.string sD,.int .i64 bk] 34)).alloc (.cells #[.int .i64 sK,.int .i64 sT,.int .i64 sN,.int .i64 sM,.int .u64 (h:Int),.string sD] 32)) (setO o2 (wr.heap.size+1) [7]) r q b mb u11 u12 B j M ((l.take j).foldl RnS.step (RnS.new P C))∧PendO ((wr.alloc (.cells #[.int .i64 sK,.int .i64 sT,.int .i64 sN,.int .i64 sM,.int .u64 sH,.string sD,.int .i64 bk] 34)).alloc (.cells #[.int .i64 sK,.int .i64 sT,.int .i64 sN,.int .i64 sM,.int .u64 (h:Int),.string sD] 32)) (setO o2 (wr.heap.size+1) [7]) (wr.heap.size+1) ⟨sK,sT,sN,sM,h,sD⟩∧RowT ((wr.alloc (.cells #[.int .i64 sK,.int .i64 sT,.int .i64 sN,.int .i64 sM,.int .u64 sH,.string sD,.int .i64 bk] 34)).alloc (.cells #[.int .i64 sK,.int .i64 sT,.int .i64 sN,.int .i64 sM,.int .u64 (h:Int),.string sD] 32)) (setO o2 (wr.heap.size+1) [7]) t 0 34 7 (.slice (some ⟨sg,0,none⟩) l.length vc) l.length (l.flatMap stL)∧RowT ((wr.alloc (.cells #[.int .i64 sK,.int .i64 sT,.int .i64 sN,.int .i64 sM,.int .u64 sH,.string sD,.int .i64 bk] 34)).alloc (.cells #[.int .i64 sK,.int .i64 sT,.int .i64 sN,.int .i64 sM,.int .u64 (h:Int),.string sD] 32)) (setO o2 (wr.heap.size+1) [7]) [q,3,sT.toNat] 0 30 1 (.slice ga (gvn ((l.take j).foldl RnS.step (RnS.new P C)).G sT).length gc) (gvn ((l.take j).foldl RnS.step (RnS.new P C)).G sT).length (u64L (gvn ((l.take j).foldl RnS.step (RnS.new P C)).G sT)):=by
    intro h;have fa:Fr (fun _=>False) wr o2 (wr.alloc (.cells #[.int .i64 sK,.int .i64 sT,.int .i64 sN,.int .i64 sM,.int .u64 sH,.string sD,.int .i64 bk] 34)) o2:=Fr.alloc' _;have fb:Fr (fun _=>False) (wr.alloc (.cells #[.int .i64 sK,.int .i64 sT,.int .i64 sN,.int .i64 sM,.int .u64 sH,.string sD,.int .i64 bk] 34)) o2 ((wr.alloc (.cells #[.int .i64 sK,.int .i64 sT,.int .i64 sN,.int .i64 sM,.int .u64 sH,.string sD,.int .i64 bk] 34)).alloc (.cells #[.int .i64 sK,.int .i64 sT,.int .i64 sN,.int .i64 sM,.int .u64 (h:Int),.string sD] 32)) (setO o2 (wr.heap.size+1) [7]):=by
     have:=Fr.alloc (S:=fun _=>False) (w:=wr.alloc (.cells #[.int .i64 sK,.int .i64 sT,.int .i64 sN,.int .i64 sM,.int .u64 sH,.string sD,.int .i64 bk] 34)) (o:=o2) (.cells #[.int .i64 sK,.int .i64 sT,.int .i64 sN,.int .i64 sM,.int .u64 (h:Int),.string sD] 32) [7];rw [World.size_alloc] at this;exact this
    have G2:=hG.calm (fa.trans fb);have v2:=hv.fr (fa.trans fb) (fun e=>e);have P2:PendO ((wr.alloc (.cells #[.int .i64 sK,.int .i64 sT,.int .i64 sN,.int .i64 sM,.int .u64 sH,.string sD,.int .i64 bk] 34)).alloc (.cells #[.int .i64 sK,.int .i64 sT,.int .i64 sN,.int .i64 sM,.int .u64 (h:Int),.string sD] 32)) (setO o2 (wr.heap.size+1) [7]) (wr.heap.size+1) ⟨sK,sT,sN,sM,h,sD⟩:=by
     have:=PendO.new (wr.alloc (.cells #[.int .i64 sK,.int .i64 sT,.int .i64 sN,.int .i64 sM,.int .u64 sH,.string sD,.int .i64 bk] 34)) o2 ⟨sK,sT,sN,sM,h,sD⟩;rw [World.size_alloc] at this;exact this
    exact⟨G2,P2,v2,gr0.fr (fa.trans fb) (fun e=>e)⟩
   obtain⟨G2,P2,v2,_⟩:=mk sH;clear hG hv;by_cases c:0<bk
   ·have dc:decide (0<bk)=true:=decide_eq_true c
    have hlk:=gl03 _ _ G2.mp;by_cases c2:bk≤((gvn ((l.take j).foldl RnS.step (RnS.new P C)).G sT).length:Int)
    ·have d2:=decide_eq_true c2
     have hbk:=hx.bk;have hgs:=(mk 0).2.2.2;generalize hgg:gvn ((l.take j).foldl RnS.step (RnS.new P C)).G sT=gl at *;obtain⟨gg,rfl,hgc⟩:∃gg,ga=some ⟨gg,0,none⟩∧∀i,i<gl.length→((wr.alloc (.cells #[.int .i64 sK,.int .i64 sT,.int .i64 sN,.int .i64 sM,.int .u64 sH,.string sD,.int .i64 bk] 34)).alloc (.cells #[.int .i64 sK,.int .i64 sT,.int .i64 sN,.int .i64 sM,.int .u64 0,.string sD] 32)).cell? ⟨gg,i,none⟩=some (.int .u64 (gl.getD i 0:Nat)):=by
      rcases hgs.own.2 with ⟨h1,h2⟩|⟨gg,cap,cur,e,_⟩
      ·simp only at c2 hbk;omega
      ·injection e with e1 e2 e3
       subst e1;refine⟨gg,rfl,fun i hi=>?_⟩;have:=hgs.own.cellAt i (by omega);refine Eq.trans this ?_;simp [hi,List.getD_eq_getElem?_getD]
     obtain⟨kb,rfl⟩:∃kb:Nat,bk=kb:=⟨bk.toNat,by omega⟩
     have hkb:0<kb∧kb≤gl.length:=by omega
     have ht1:((gl.length:Int)-kb).toNat=gl.length-kb:=by omega
     have hin:gl.length-kb<gl.length:=by omega
     have hw1:=IntWalk.i64_in ((gl.length:Int)-kb) (by omega);have ce:=hgc _ hin;obtain⟨z1,hz1⟩:∃z1:Nat,Hid (gl.getD (gl.length-kb) 0=z1):=⟨_,HD rfl⟩
     rw [hz1.out] at ce;have hHx:z1<18446744073709551616:=by
      rw [←hz1.out,List.getD_eq_getElem?_getD,List.getElem?_eq_getElem hin];exact gl02 _ (List.getElem_mem hin)
     have hop:opOf ((l.take j).foldl RnS.step (RnS.new P C)).G ⟨⟨sK,sT,sN,sM,sH,sD⟩,(kb:Int)⟩=⟨sK,sT,sN,sM,z1,sD⟩:=by
      unfold opOf hnd;simp only [hgg];rw [if_pos c,if_pos c2,Int.toNat_natCast,hz1.out]
     have hlk0:=G2.lk;have hgl0:=G2.gvl sT;obtain⟨G2',P2',v2',_⟩:=mk z1;have G3h:=HD G2'.sv;have hdo:=HD (G2'.dos hq P2' (by omega) hHx hx.s v2' ht.1);have hlg:((kb:Int)≤(gl.length:Int))=True:=eq_true (by omega);clear G2' P2' v2' G2 P2 v2 gr0 gl03 gl02 mk hgs hgc;go_wp2_with fail;refine hdo.out.mono ?_;rintro e w3 ⟨rfl,o3,B3,G3,P3,v3⟩;clear hdo hlk d2;have hrh:=do_h ⟨sK,sT,sN,sM,z1,sD⟩ G3h.out (by omega) hHx;rw [show (((l.take j).foldl RnS.step (RnS.new P C)).s.do_ ⟨sK,sT,sN,sM,z1,sD⟩).1=(((l.take j).foldl RnS.step (RnS.new P C)).s.do_ ⟨sK,sT,sN,sM,z1,sD⟩).1 from rfl] at hrh;clear G3h;generalize hyy:(((l.take j).foldl RnS.step (RnS.new P C)).s.do_ ⟨sK,sT,sN,sM,z1,sD⟩).1=y at *;obtain⟨re,rh,ra,rn,rd,rc⟩:=y;simp only at hrh;have fy:Fr (fun _=>False) w3 o3 (w3.alloc (.cells #[.int .i64 re,.int .u64 rh,.int .i64 ra,.int .i64 rn,.string rd,.int .i64 rc] 47)) (setO o3 w3.heap.size [7]):=Fr.alloc _ _;have G4:=G3.calm fy;have P4:=P3.fr fy (fun e=>e);have A4:=PendA.new w3 o3 ⟨re,rh,ra,rn,rd,rc⟩;have v4:=v3.fr fy (fun e=>e);clear G3 P3 v3 fy;have hs4:(w3.alloc (.cells #[.int .i64 re,.int .u64 rh,.int .i64 ra,.int .i64 rn,.string rd,.int .i64 rc] 47)).heap.size=w3.heap.size+1:=by simp
     simp only [ansV];by_cases ch:rh=0
     ·have dh:((rh:Int) != 0)=false:=by rw [ch];rfl
      replace ch:=HD ch;replace G4:=HD G4;replace P4:=HD P4;replace A4:=HD A4;replace v4:=HD v4;go_wp2_with fail;generalize w3.alloc (.cells #[.int .i64 re,.int .u64 rh,.int .i64 ra,.int .i64 rn,.string rd,.int .i64 rc] 47)=W4 at *;generalize w3.heap.size=py at *;have m0:=(G4.out.mid P4.out A4.out).drew;have hfin:=HD (fin0 (px:=wr.heap.size+1) (py:=py) hq hlt hlj hop hyy ch.out G4.out v4.out ht hlk0);have hlo:=G4.out.lk;have hla:=G4.out.ln;clear G4 P4 A4 v4;refine wp_region_noPanic ?_;refine wp_region_held_drew (S:=(fun W'=>W'.cell? ⟨wr.heap.size+1,0,none⟩=some (.int .i64 sK)∧W'.cell? ⟨wr.heap.size+1,1,none⟩=some (.int .i64 sT)∧W'.cell? ⟨wr.heap.size+1,2,none⟩=some (.int .i64 sN)∧W'.cell? ⟨wr.heap.size+1,3,none⟩=some (.int .i64 sM)∧W'.cell? ⟨wr.heap.size+1,4,none⟩=some (.int .u64 z1)∧W'.cell? ⟨wr.heap.size+1,5,none⟩=some (.string sD)∧W'.cell? ⟨py,0,none⟩=some (.int .i64 re)∧W'.cell? ⟨py,1,none⟩=some (.int .u64 rh)∧W'.cell? ⟨py,2,none⟩=some (.int .i64 ra)∧W'.cell? ⟨py,3,none⟩=some (.int .i64 rn)∧W'.cell? ⟨py,4,none⟩=some (.string rd)∧W'.cell? ⟨py,5,none⟩=some (.int .i64 rc))) (by kernel_rfl) ?_ (fun hHeld=>?_)
      ·(try dsimp only)
       exact m0.cl
      refine tkH 0 (h:=?_);refine tkH 1 (h:=?_);refine tkH 4 (h:=?_);refine tkH 5 (h:=?_);refine wpAnyH_ready (rs:=[2,6]) (by kernel_rfl) (by simp) ?_;refine conH (h:=fun K hK=>?_) (hs:=?_)
      ·obtain⟨m11,po11⟩:=m0.alO ⟨sK,sT,sN,sM,z1,sD⟩ (k:=W4.heap.size) (by simp)
       go_simp;refine hK.out _ _ ?_ (fun hHeld=>?_)
       ·(try dsimp only)
        exact m11.cl
       clear hK;refine nmH (h:=?_);refine wpAnyH_ready (rs:=[3,6]) (by kernel_rfl) (by simp) ?_;refine conH (h:=fun K hK=>?_) (hs:=?_)
       ·have hW12:(W4.drew).alloc (.cells #[.int .i64 sK,.int .i64 sT,.int .i64 sN,.int .i64 sM,.int .u64 z1,.string sD] 32)=((W4).alloc (.cells #[.int .i64 sK,.int .i64 sT,.int .i64 sN,.int .i64 sM,.int .u64 z1,.string sD] 32)).drew:=rfl
        rw [hW12] at m11 po11;clear hW12;generalize ((W4).alloc (.cells #[.int .i64 sK,.int .i64 sT,.int .i64 sN,.int .i64 sM,.int .u64 z1,.string sD] 32)).drew=V12 at *;obtain⟨A12,k12,c12,w12,o12,ap12,m12,pf12⟩:=m11.appO po11 (by omega);refine step_append_is _ rfl _ _ 36 rfl ?_ ?_ ap12 ?_
        ·first|(go_simp;done)|rfl
        ·first|(go_simp;done)|rfl
        refine hK.out _ _ ?_ (fun hHeld=>?_)
        ·(try dsimp only)
         exact m12.cl
        clear hK;refine nmH (h:=?_);refine wpAnyH_ready (rs:=[6]) (by kernel_rfl) (by simp) ?_;refine conH (h:=fun K hK=>?_) (hs:=AllReadyH.nil)
        ·obtain⟨m13,pa13⟩:=m12.alA ⟨re,rh,ra,rn,rd,rc⟩ (k:=w12.heap.size) (by simp)
         go_simp;refine hK.out _ _ ?_ (fun hHeld=>?_)
         ·(try dsimp only)
          exact m13.cl
         clear hK;refine nmH (h:=?_);refine wpAnyH_ready (rs:=[7]) (by kernel_rfl) (by simp) ?_;refine conH (h:=fun K hK=>?_) (hs:=AllReadyH.nil)
         ·generalize (w12).alloc (.cells #[.int .i64 re,.int .u64 rh,.int .i64 ra,.int .i64 rn,.string rd,.int .i64 rc] 47)=V14 at *
          obtain⟨A14,k14,c14,w14,o14,ap14,m14⟩:=m13.appA pa13 (by omega);refine step_append_is _ rfl _ _ 37 rfl ?_ ?_ ap14 ?_
          ·first|(go_simp;done)|rfl
          ·first|(go_simp;done)|rfl
          refine hK.out _ _ ?_ (fun hHeld=>?_)
          ·(try dsimp only)
           exact m14.cl
          clear hK;refine nmH (h:=?_);refine tkH 8 (h:=?_);refine tkH 9 (h:=?_);refine wpAnyH_done (by kernel_rfl) ?_ _;refine NoPanic.normal ?_;have hz:=HD (hfin.out _ _ _ _ m14);clear hfin m0;go_wp2_with fail;go_roundg (l.length-(j+1))
          case measure=>omega
          case rel=>exact⟨j+1,by omega,rfl,by go_num,hz⟩
       refine conH (h:=fun K hK=>?_) (hs:=AllReadyH.nil)
       ·obtain⟨m12,pa12⟩:=m11.alA ⟨re,rh,ra,rn,rd,rc⟩ (k:=W4.heap.size+1) (by simp)
        have po12:=po11.al (.cells #[.int .i64 re,.int .u64 rh,.int .i64 ra,.int .i64 rn,.string rd,.int .i64 rc] 47) (k:=W4.heap.size+1) (by simp);go_simp;refine hK.out _ _ ?_ (fun hHeld=>?_)
        ·(try dsimp only)
         exact m12.cl
        clear hK;refine nmH (h:=?_);refine wpAnyH_ready (rs:=[3]) (by kernel_rfl) (by simp) ?_;refine conH (h:=fun K hK=>?_) (hs:=AllReadyH.nil)
        ·have hW13:((W4.drew).alloc (.cells #[.int .i64 sK,.int .i64 sT,.int .i64 sN,.int .i64 sM,.int .u64 z1,.string sD] 32)).alloc (.cells #[.int .i64 re,.int .u64 rh,.int .i64 ra,.int .i64 rn,.string rd,.int .i64 rc] 47)=(((W4).alloc (.cells #[.int .i64 sK,.int .i64 sT,.int .i64 sN,.int .i64 sM,.int .u64 z1,.string sD] 32)).alloc (.cells #[.int .i64 re,.int .u64 rh,.int .i64 ra,.int .i64 rn,.string rd,.int .i64 rc] 47)).drew:=rfl
         rw [hW13] at m12 po12 pa12;clear hW13;generalize (((W4).alloc (.cells #[.int .i64 sK,.int .i64 sT,.int .i64 sN,.int .i64 sM,.int .u64 z1,.string sD] 32)).alloc (.cells #[.int .i64 re,.int .u64 rh,.int .i64 ra,.int .i64 rn,.string rd,.int .i64 rc] 47)).drew=V13 at *;obtain⟨A13,k13,c13,w13,o13,ap13,m13,pf13⟩:=m12.appO po12 (by omega);have pa13:=pf13 _ _ pa12;refine step_append_is _ rfl _ _ 36 rfl ?_ ?_ ap13 ?_
         ·first|(go_simp;done)|rfl
         ·first|(go_simp;done)|rfl
         refine hK.out _ _ ?_ (fun hHeld=>?_)
         ·(try dsimp only)
          exact m13.cl
         clear hK;refine nmH (h:=?_);refine wpAnyH_ready (rs:=[7]) (by kernel_rfl) (by simp) ?_;refine conH (h:=fun K hK=>?_) (hs:=AllReadyH.nil)
         ·obtain⟨A14,k14,c14,w14,o14,ap14,m14⟩:=m13.appA pa13 (by omega)
          refine step_append_is _ rfl _ _ 37 rfl ?_ ?_ ap14 ?_
          ·first|(go_simp;done)|rfl
          ·first|(go_simp;done)|rfl
          refine hK.out _ _ ?_ (fun hHeld=>?_)
          ·(try dsimp only)
           exact m14.cl
          clear hK;refine nmH (h:=?_);refine tkH 8 (h:=?_);refine tkH 9 (h:=?_);refine wpAnyH_done (by kernel_rfl) ?_ _;refine NoPanic.normal ?_;have hz:=HD (hfin.out _ _ _ _ m14);clear hfin m0;go_wp2_with fail;go_roundg (l.length-(j+1))
          case measure=>omega
          case rel=>exact⟨j+1,by omega,rfl,by go_num,hz⟩
      refine conH (h:=fun K hK=>?_) (hs:=AllReadyH.nil)
      ·obtain⟨m11,pa11⟩:=m0.alA ⟨re,rh,ra,rn,rd,rc⟩ (k:=W4.heap.size) (by simp)
       go_simp;refine hK.out _ _ ?_ (fun hHeld=>?_)
       ·(try dsimp only)
        exact m11.cl
       clear hK;refine nmH (h:=?_);refine wpAnyH_ready (rs:=[2]) (by kernel_rfl) (by simp) ?_;refine conH (h:=fun K hK=>?_) (hs:=AllReadyH.nil)
       ·obtain⟨m12,po12⟩:=m11.alO ⟨sK,sT,sN,sM,z1,sD⟩ (k:=W4.heap.size+1) (by simp)
        have pa12:=pa11.al (.cells #[.int .i64 sK,.int .i64 sT,.int .i64 sN,.int .i64 sM,.int .u64 z1,.string sD] 32) (k:=W4.heap.size+1) (by simp);go_simp;refine hK.out _ _ ?_ (fun hHeld=>?_)
        ·(try dsimp only)
         exact m12.cl
        clear hK;refine nmH (h:=?_);refine wpAnyH_ready (rs:=[3]) (by kernel_rfl) (by simp) ?_;refine conH (h:=fun K hK=>?_) (hs:=AllReadyH.nil)
        ·have hW13:((W4.drew).alloc (.cells #[.int .i64 re,.int .u64 rh,.int .i64 ra,.int .i64 rn,.string rd,.int .i64 rc] 47)).alloc (.cells #[.int .i64 sK,.int .i64 sT,.int .i64 sN,.int .i64 sM,.int .u64 z1,.string sD] 32)=(((W4).alloc (.cells #[.int .i64 re,.int .u64 rh,.int .i64 ra,.int .i64 rn,.string rd,.int .i64 rc] 47)).alloc (.cells #[.int .i64 sK,.int .i64 sT,.int .i64 sN,.int .i64 sM,.int .u64 z1,.string sD] 32)).drew:=rfl
         rw [hW13] at m12 po12 pa12;clear hW13;generalize (((W4).alloc (.cells #[.int .i64 re,.int .u64 rh,.int .i64 ra,.int .i64 rn,.string rd,.int .i64 rc] 47)).alloc (.cells #[.int .i64 sK,.int .i64 sT,.int .i64 sN,.int .i64 sM,.int .u64 z1,.string sD] 32)).drew=V13 at *;obtain⟨A13,k13,c13,w13,o13,ap13,m13,pf13⟩:=m12.appO po12 (by omega);have pa13:=pf13 _ _ pa12;refine step_append_is _ rfl _ _ 36 rfl ?_ ?_ ap13 ?_
         ·first|(go_simp;done)|rfl
         ·first|(go_simp;done)|rfl
         refine hK.out _ _ ?_ (fun hHeld=>?_)
         ·(try dsimp only)
          exact m13.cl
         clear hK;refine nmH (h:=?_);refine wpAnyH_ready (rs:=[7]) (by kernel_rfl) (by simp) ?_;refine conH (h:=fun K hK=>?_) (hs:=AllReadyH.nil)
         ·obtain⟨A14,k14,c14,w14,o14,ap14,m14⟩:=m13.appA pa13 (by omega)
          refine step_append_is _ rfl _ _ 37 rfl ?_ ?_ ap14 ?_
          ·first|(go_simp;done)|rfl
          ·first|(go_simp;done)|rfl
          refine hK.out _ _ ?_ (fun hHeld=>?_)
          ·(try dsimp only)
           exact m14.cl
          clear hK;refine nmH (h:=?_);refine tkH 8 (h:=?_);refine tkH 9 (h:=?_);refine wpAnyH_done (by kernel_rfl) ?_ _;refine NoPanic.normal ?_;have hz:=HD (hfin.out _ _ _ _ m14);clear hfin m0;go_wp2_with fail;go_roundg (l.length-(j+1))
          case measure=>omega
          case rel=>exact⟨j+1,by omega,rfl,by go_num,hz⟩
     ·have dh:((rh:Int) != 0)=true:=by rw [bne_iff_ne];omega
      obtain⟨gv,gr,gl1,gl2,gl3⟩:=G4.given sT;have gr':=gr.fr (S:=fun _=>False) Fr.drew (fun e=>e);have G4d:=G4.calm Fr.drew;have Ks:=P4.1.cells.k1;have Ky:=A4.1.cells.k1;replace G4:=HD G4;replace P4:=HD P4;replace A4:=HD A4;replace v4:=HD v4;go_wp2_with fail;generalize w3.alloc (.cells #[.int .i64 re,.int .u64 rh,.int .i64 ra,.int .i64 rn,.string rd,.int .i64 rc] 47)=W4 at *;generalize w3.heap.size=py at *;obtain⟨Ag,kg,cg,w5,w6,o6,hap,f5,mp5,hup,G6,f6⟩:=G4d.give hq hx.T ch hrh gr' (Nat.succ_le_succ hgl0) gl2 (by omega) (by have:=G4d.mlen;omega);have P4d:=P4.out.fr (S:=fun _=>False) Fr.drew (fun e=>e);have A4d:=A4.out.fr (S:=fun _=>False) Fr.drew (fun e=>e);have P5:=P4d.fr f5 (fun e=>by simp at e);have A5:=A4d.fr f5 (fun e=>by simp at e);have P6:=P4d.fr f6 (fun e=>by simp at e);have A6:=A4d.fr f6 (fun e=>by simp at e);have v6:=(v4.out.fr (S:=fun _=>False) Fr.drew (fun e=>e)).fr f6 (fun e=>by rcases e with e|e<;>exact ht.2 _ e);have s1:W4.drew.cell? ⟨wr.heap.size+1,1,none⟩=some (.int .i64 sT)∧W4.drew.cell? ⟨py,1,none⟩=some (.int .u64 rh)∧(Instr.lookup 70 (.map (some mb)) (.int .i64 sT) false).run Tryz.prog W4.drew=.ok gv W4.drew:=⟨P4d.1.cells.k1,A4d.1.cells.k1,gl3 _ _ G4d.mp⟩
      replace hap:(Builtin.append_ #[62,62] 62 #[gv,.slice (some ⟨W4.heap.size,0,none⟩) 1 1]).run Tryz.prog (W4.alloc (.cells #[.int .u64 (rh:Int)] 30)).drew=.ok (.slice Ag kg cg) w5:=hap;have fal:Fr (fun _=>False) W4.drew (setO o3 py [7]) (W4.drew.alloc (.cells #[.int .u64 (rh:Int)] 30)) (setO o3 py [7]):=Fr.alloc' _;have s2:(W4.drew.alloc (.cells #[.int .u64 (rh:Int)] 30)).cell? ⟨wr.heap.size+1,1,none⟩=some (.int .i64 sT)∧(W4.drew.alloc (.cells #[.int .u64 (rh:Int)] 30)).cell? ⟨py,1,none⟩=some (.int .u64 rh)∧(Instr.lookup 70 (.map (some mb)) (.int .i64 sT) false).run Tryz.prog (W4.drew.alloc (.cells #[.int .u64 (rh:Int)] 30))=.ok gv (W4.drew.alloc (.cells #[.int .u64 (rh:Int)] 30)):=⟨(P4d.fr fal (fun e=>e)).1.cells.k1,(A4d.fr fal (fun e=>e)).1.cells.k1,gl3 _ _ (G4d.mp.fr fal (fun e=>e))⟩
      have s3:w5.cell? ⟨wr.heap.size+1,1,none⟩=some (.int .i64 sT)∧w5.cell? ⟨py,1,none⟩=some (.int .u64 rh)∧(Instr.lookup 70 (.map (some mb)) (.int .i64 sT) false).run Tryz.prog w5=.ok gv w5:=⟨P5.1.cells.k1,A5.1.cells.k1,gl3 _ _ mp5⟩
      have m0:=(G6.mid P6 A6).drew;have hfin:=HD (fin1 (px:=wr.heap.size+1) (py:=py) hq hlt hlj hop hyy G6 v6 ht hlk0);have hlo:=G6.lk;have hla:=G6.ln;clear fal G4d P4d A4d P5 A5 P6 A6 v6 f5 f6 mp5 gr gr' gl3 G4 P4 A4 v4 Ks Ky G6;refine wp_region_noPanic ?_;refine wp_region_T (S:=(fun W'=>W'.cell? ⟨wr.heap.size+1,1,none⟩=some (.int .i64 sT)∧W'.cell? ⟨py,1,none⟩=some (.int .u64 rh)∧(Instr.lookup 70 (.map (some mb)) (.int .i64 sT) false).run Tryz.prog W'=.ok gv W')) 11 (by kernel_rfl) ?_ (fun hHeld=>?_)
      ·(try dsimp only)
       (first|exact s1|exact s2|exact s3)
      refine tkY 0 (h:=?_);refine tkY 1 (h:=?_);refine tkT 2 (h:=?_);refine tkY 3 (h:=?_);refine tkY 4 (h:=?_);refine tkT 5 (h:=?_);refine tkT 6 (h:=?_);refine tkY 7 (h:=?_);refine tkT 8 (h:=?_);refine onT 9 (h:=fun K hK=>?_);go_simp;refine hK.out _ _ ?_ (fun hHeld=>?_)
      ·(try dsimp only)
       (first|exact s1|exact s2|exact s3)
      clear hK;refine nmT (h:=?_);refine onT 10 (h:=fun K hK=>?_);refine step_append_is _ rfl _ _ 62 rfl ?_ ?_ hap ?_
      ·first|(go_simp;done)|rfl
      ·first|(go_simp;done)|rfl
      refine hK.out _ _ ?_ (fun hHeld=>?_)
      ·(try dsimp only)
       (first|exact s1|exact s2|exact s3)
      clear hK;refine nmT (h:=?_);refine laT (h:=fun K hK=>?_);go_simp;refine hK.out _ _ ?_;clear hK;refine NoPanic.normal ?_;clear s1 s2 s3 hap hup;go_wp2_with fail;refine wp_region_noPanic ?_;refine wp_region_held_drew (S:=(fun W'=>W'.cell? ⟨wr.heap.size+1,0,none⟩=some (.int .i64 sK)∧W'.cell? ⟨wr.heap.size+1,1,none⟩=some (.int .i64 sT)∧W'.cell? ⟨wr.heap.size+1,2,none⟩=some (.int .i64 sN)∧W'.cell? ⟨wr.heap.size+1,3,none⟩=some (.int .i64 sM)∧W'.cell? ⟨wr.heap.size+1,4,none⟩=some (.int .u64 z1)∧W'.cell? ⟨wr.heap.size+1,5,none⟩=some (.string sD)∧W'.cell? ⟨py,0,none⟩=some (.int .i64 re)∧W'.cell? ⟨py,1,none⟩=some (.int .u64 rh)∧W'.cell? ⟨py,2,none⟩=some (.int .i64 ra)∧W'.cell? ⟨py,3,none⟩=some (.int .i64 rn)∧W'.cell? ⟨py,4,none⟩=some (.string rd)∧W'.cell? ⟨py,5,none⟩=some (.int .i64 rc))) (by kernel_rfl) ?_ (fun hHeld=>?_)
      ·(try dsimp only)
       exact m0.cl
      refine tkH 0 (h:=?_);refine tkH 1 (h:=?_);refine tkH 4 (h:=?_);refine tkH 5 (h:=?_);refine wpAnyH_ready (rs:=[2,6]) (by kernel_rfl) (by simp) ?_;refine conH (h:=fun K hK=>?_) (hs:=?_)
      ·obtain⟨m11,po11⟩:=m0.alO ⟨sK,sT,sN,sM,z1,sD⟩ (k:=w6.heap.size) (by simp)
       go_simp;refine hK.out _ _ ?_ (fun hHeld=>?_)
       ·(try dsimp only)
        exact m11.cl
       clear hK;refine nmH (h:=?_);refine wpAnyH_ready (rs:=[3,6]) (by kernel_rfl) (by simp) ?_;refine conH (h:=fun K hK=>?_) (hs:=?_)
       ·have hW12:(w6.drew).alloc (.cells #[.int .i64 sK,.int .i64 sT,.int .i64 sN,.int .i64 sM,.int .u64 z1,.string sD] 32)=((w6).alloc (.cells #[.int .i64 sK,.int .i64 sT,.int .i64 sN,.int .i64 sM,.int .u64 z1,.string sD] 32)).drew:=rfl
        rw [hW12] at m11 po11;clear hW12;generalize ((w6).alloc (.cells #[.int .i64 sK,.int .i64 sT,.int .i64 sN,.int .i64 sM,.int .u64 z1,.string sD] 32)).drew=V12 at *;obtain⟨A12,k12,c12,w12,o12,ap12,m12,pf12⟩:=m11.appO po11 (by omega);refine step_append_is _ rfl _ _ 36 rfl ?_ ?_ ap12 ?_
        ·first|(go_simp;done)|rfl
        ·first|(go_simp;done)|rfl
        refine hK.out _ _ ?_ (fun hHeld=>?_)
        ·(try dsimp only)
         exact m12.cl
        clear hK;refine nmH (h:=?_);refine wpAnyH_ready (rs:=[6]) (by kernel_rfl) (by simp) ?_;refine conH (h:=fun K hK=>?_) (hs:=AllReadyH.nil)
        ·obtain⟨m13,pa13⟩:=m12.alA ⟨re,rh,ra,rn,rd,rc⟩ (k:=w12.heap.size) (by simp)
         go_simp;refine hK.out _ _ ?_ (fun hHeld=>?_)
         ·(try dsimp only)
          exact m13.cl
         clear hK;refine nmH (h:=?_);refine wpAnyH_ready (rs:=[7]) (by kernel_rfl) (by simp) ?_;refine conH (h:=fun K hK=>?_) (hs:=AllReadyH.nil)
         ·generalize (w12).alloc (.cells #[.int .i64 re,.int .u64 rh,.int .i64 ra,.int .i64 rn,.string rd,.int .i64 rc] 47)=V14 at *
          obtain⟨A14,k14,c14,w14,o14,ap14,m14⟩:=m13.appA pa13 (by omega);refine step_append_is _ rfl _ _ 37 rfl ?_ ?_ ap14 ?_
          ·first|(go_simp;done)|rfl
          ·first|(go_simp;done)|rfl
          refine hK.out _ _ ?_ (fun hHeld=>?_)
          ·(try dsimp only)
           exact m14.cl
          clear hK;refine nmH (h:=?_);refine tkH 8 (h:=?_);refine tkH 9 (h:=?_);refine wpAnyH_done (by kernel_rfl) ?_ _;refine NoPanic.normal ?_;have hz:=HD (hfin.out _ _ _ _ m14);clear hfin m0;go_wp2_with fail;go_roundg (l.length-(j+1))
          case measure=>omega
          case rel=>exact⟨j+1,by omega,rfl,by go_num,hz⟩
       refine conH (h:=fun K hK=>?_) (hs:=AllReadyH.nil)
       ·obtain⟨m12,pa12⟩:=m11.alA ⟨re,rh,ra,rn,rd,rc⟩ (k:=w6.heap.size+1) (by simp)
        have po12:=po11.al (.cells #[.int .i64 re,.int .u64 rh,.int .i64 ra,.int .i64 rn,.string rd,.int .i64 rc] 47) (k:=w6.heap.size+1) (by simp);go_simp;refine hK.out _ _ ?_ (fun hHeld=>?_)
        ·(try dsimp only)
         exact m12.cl
        clear hK;refine nmH (h:=?_);refine wpAnyH_ready (rs:=[3]) (by kernel_rfl) (by simp) ?_;refine conH (h:=fun K hK=>?_) (hs:=AllReadyH.nil)
        ·have hW13:((w6.drew).alloc (.cells #[.int .i64 sK,.int .i64 sT,.int .i64 sN,.int .i64 sM,.int .u64 z1,.string sD] 32)).alloc (.cells #[.int .i64 re,.int .u64 rh,.int .i64 ra,.int .i64 rn,.string rd,.int .i64 rc] 47)=(((w6).alloc (.cells #[.int .i64 sK,.int .i64 sT,.int .i64 sN,.int .i64 sM,.int .u64 z1,.string sD] 32)).alloc (.cells #[.int .i64 re,.int .u64 rh,.int .i64 ra,.int .i64 rn,.string rd,.int .i64 rc] 47)).drew:=rfl
         rw [hW13] at m12 po12 pa12;clear hW13;generalize (((w6).alloc (.cells #[.int .i64 sK,.int .i64 sT,.int .i64 sN,.int .i64 sM,.int .u64 z1,.string sD] 32)).alloc (.cells #[.int .i64 re,.int .u64 rh,.int .i64 ra,.int .i64 rn,.string rd,.int .i64 rc] 47)).drew=V13 at *;obtain⟨A13,k13,c13,w13,o13,ap13,m13,pf13⟩:=m12.appO po12 (by omega);have pa13:=pf13 _ _ pa12;refine step_append_is _ rfl _ _ 36 rfl ?_ ?_ ap13 ?_
         ·first|(go_simp;done)|rfl
         ·first|(go_simp;done)|rfl
         refine hK.out _ _ ?_ (fun hHeld=>?_)
         ·(try dsimp only)
          exact m13.cl
         clear hK;refine nmH (h:=?_);refine wpAnyH_ready (rs:=[7]) (by kernel_rfl) (by simp) ?_;refine conH (h:=fun K hK=>?_) (hs:=AllReadyH.nil)
         ·obtain⟨A14,k14,c14,w14,o14,ap14,m14⟩:=m13.appA pa13 (by omega)
          refine step_append_is _ rfl _ _ 37 rfl ?_ ?_ ap14 ?_
          ·first|(go_simp;done)|rfl
          ·first|(go_simp;done)|rfl
          refine hK.out _ _ ?_ (fun hHeld=>?_)
          ·(try dsimp only)
           exact m14.cl
          clear hK;refine nmH (h:=?_);refine tkH 8 (h:=?_);refine tkH 9 (h:=?_);refine wpAnyH_done (by kernel_rfl) ?_ _;refine NoPanic.normal ?_;have hz:=HD (hfin.out _ _ _ _ m14);clear hfin m0;go_wp2_with fail;go_roundg (l.length-(j+1))
          case measure=>omega
          case rel=>exact⟨j+1,by omega,rfl,by go_num,hz⟩
      refine conH (h:=fun K hK=>?_) (hs:=AllReadyH.nil)
      ·obtain⟨m11,pa11⟩:=m0.alA ⟨re,rh,ra,rn,rd,rc⟩ (k:=w6.heap.size) (by simp)
       go_simp;refine hK.out _ _ ?_ (fun hHeld=>?_)
       ·(try dsimp only)
        exact m11.cl
       clear hK;refine nmH (h:=?_);refine wpAnyH_ready (rs:=[2]) (by kernel_rfl) (by simp) ?_;refine conH (h:=fun K hK=>?_) (hs:=AllReadyH.nil)
       ·obtain⟨m12,po12⟩:=m11.alO ⟨sK,sT,sN,sM,z1,sD⟩ (k:=w6.heap.size+1) (by simp)
        have pa12:=pa11.al (.cells #[.int .i64 sK,.int .i64 sT,.int .i64 sN,.int .i64 sM,.int .u64 z1,.string sD] 32) (k:=w6.heap.size+1) (by simp);go_simp;refine hK.out _ _ ?_ (fun hHeld=>?_)
        ·(try dsimp only)
         exact m12.cl
        clear hK;refine nmH (h:=?_);refine wpAnyH_ready (rs:=[3]) (by kernel_rfl) (by simp) ?_;refine conH (h:=fun K hK=>?_) (hs:=AllReadyH.nil)
        ·have hW13:((w6.drew).alloc (.cells #[.int .i64 re,.int .u64 rh,.int .i64 ra,.int .i64 rn,.string rd,.int .i64 rc] 47)).alloc (.cells #[.int .i64 sK,.int .i64 sT,.int .i64 sN,.int .i64 sM,.int .u64 z1,.string sD] 32)=(((w6).alloc (.cells #[.int .i64 re,.int .u64 rh,.int .i64 ra,.int .i64 rn,.string rd,.int .i64 rc] 47)).alloc (.cells #[.int .i64 sK,.int .i64 sT,.int .i64 sN,.int .i64 sM,.int .u64 z1,.string sD] 32)).drew:=rfl
         rw [hW13] at m12 po12 pa12;clear hW13;generalize (((w6).alloc (.cells #[.int .i64 re,.int .u64 rh,.int .i64 ra,.int .i64 rn,.string rd,.int .i64 rc] 47)).alloc (.cells #[.int .i64 sK,.int .i64 sT,.int .i64 sN,.int .i64 sM,.int .u64 z1,.string sD] 32)).drew=V13 at *;obtain⟨A13,k13,c13,w13,o13,ap13,m13,pf13⟩:=m12.appO po12 (by omega);have pa13:=pf13 _ _ pa12;refine step_append_is _ rfl _ _ 36 rfl ?_ ?_ ap13 ?_
         ·first|(go_simp;done)|rfl
         ·first|(go_simp;done)|rfl
         refine hK.out _ _ ?_ (fun hHeld=>?_)
         ·(try dsimp only)
          exact m13.cl
         clear hK;refine nmH (h:=?_);refine wpAnyH_ready (rs:=[7]) (by kernel_rfl) (by simp) ?_;refine conH (h:=fun K hK=>?_) (hs:=AllReadyH.nil)
         ·obtain⟨A14,k14,c14,w14,o14,ap14,m14⟩:=m13.appA pa13 (by omega)
          refine step_append_is _ rfl _ _ 37 rfl ?_ ?_ ap14 ?_
          ·first|(go_simp;done)|rfl
          ·first|(go_simp;done)|rfl
          refine hK.out _ _ ?_ (fun hHeld=>?_)
          ·(try dsimp only)
           exact m14.cl
          clear hK;refine nmH (h:=?_);refine tkH 8 (h:=?_);refine tkH 9 (h:=?_);refine wpAnyH_done (by kernel_rfl) ?_ _;refine NoPanic.normal ?_;have hz:=HD (hfin.out _ _ _ _ m14);clear hfin m0;go_wp2_with fail;go_roundg (l.length-(j+1))
          case measure=>omega
          case rel=>exact⟨j+1,by omega,rfl,by go_num,hz⟩
    ·have d2:=decide_eq_false c2
     obtain⟨z0,hz0⟩:∃z:Nat,Hid (z=0):=⟨0,HD rfl⟩
     have hop:opOf ((l.take j).foldl RnS.step (RnS.new P C)).G ⟨⟨sK,sT,sN,sM,sH,sD⟩,bk⟩=⟨sK,sT,sN,sM,z0,sD⟩:=by unfold opOf hnd;rw [if_pos c,if_neg c2,hz0.out]
     have hHx:z0<18446744073709551616:=by rw [hz0.out];decide
     have ez:Value.int .u64 0=Value.int .u64 (z0:Int):=by rw [hz0.out];rfl
     have hlk0:=G2.lk;have hgl0:=G2.gvl sT;obtain⟨G2',P2',v2',_⟩:=mk z0;have G3h:=HD G2'.sv;have hdo:=HD (G2'.dos hq P2' (by omega) hHx hx.s v2' ht.1);clear G2' P2' v2' G2 P2 v2 gr0 gl03 gl02 mk;replace ez:=HD ez;go_wp2_with fail;rw [ez.out];refine hdo.out.mono ?_;rintro e w3 ⟨rfl,o3,B3,G3,P3,v3⟩;clear hdo hlk d2;have hrh:=do_h ⟨sK,sT,sN,sM,z0,sD⟩ G3h.out (by omega) hHx;rw [show (((l.take j).foldl RnS.step (RnS.new P C)).s.do_ ⟨sK,sT,sN,sM,z0,sD⟩).1=(((l.take j).foldl RnS.step (RnS.new P C)).s.do_ ⟨sK,sT,sN,sM,z0,sD⟩).1 from rfl] at hrh;clear G3h;generalize hyy:(((l.take j).foldl RnS.step (RnS.new P C)).s.do_ ⟨sK,sT,sN,sM,z0,sD⟩).1=y at *;obtain⟨re,rh,ra,rn,rd,rc⟩:=y;simp only at hrh;have fy:Fr (fun _=>False) w3 o3 (w3.alloc (.cells #[.int .i64 re,.int .u64 rh,.int .i64 ra,.int .i64 rn,.string rd,.int .i64 rc] 47)) (setO o3 w3.heap.size [7]):=Fr.alloc _ _;have G4:=G3.calm fy;have P4:=P3.fr fy (fun e=>e);have A4:=PendA.new w3 o3 ⟨re,rh,ra,rn,rd,rc⟩;have v4:=v3.fr fy (fun e=>e);clear G3 P3 v3 fy;have hs4:(w3.alloc (.cells #[.int .i64 re,.int .u64 rh,.int .i64 ra,.int .i64 rn,.string rd,.int .i64 rc] 47)).heap.size=w3.heap.size+1:=by simp
     simp only [ansV];by_cases ch:rh=0
     ·have dh:((rh:Int) != 0)=false:=by rw [ch];rfl
      replace ch:=HD ch;replace G4:=HD G4;replace P4:=HD P4;replace A4:=HD A4;replace v4:=HD v4;go_wp2_with fail;generalize w3.alloc (.cells #[.int .i64 re,.int .u64 rh,.int .i64 ra,.int .i64 rn,.string rd,.int .i64 rc] 47)=W4 at *;generalize w3.heap.size=py at *;have m0:=(G4.out.mid P4.out A4.out).drew;have hfin:=HD (fin0 (px:=wr.heap.size+1) (py:=py) hq hlt hlj hop hyy ch.out G4.out v4.out ht hlk0);have hlo:=G4.out.lk;have hla:=G4.out.ln;clear G4 P4 A4 v4;refine wp_region_noPanic ?_;refine wp_region_held_drew (S:=(fun W'=>W'.cell? ⟨wr.heap.size+1,0,none⟩=some (.int .i64 sK)∧W'.cell? ⟨wr.heap.size+1,1,none⟩=some (.int .i64 sT)∧W'.cell? ⟨wr.heap.size+1,2,none⟩=some (.int .i64 sN)∧W'.cell? ⟨wr.heap.size+1,3,none⟩=some (.int .i64 sM)∧W'.cell? ⟨wr.heap.size+1,4,none⟩=some (.int .u64 z0)∧W'.cell? ⟨wr.heap.size+1,5,none⟩=some (.string sD)∧W'.cell? ⟨py,0,none⟩=some (.int .i64 re)∧W'.cell? ⟨py,1,none⟩=some (.int .u64 rh)∧W'.cell? ⟨py,2,none⟩=some (.int .i64 ra)∧W'.cell? ⟨py,3,none⟩=some (.int .i64 rn)∧W'.cell? ⟨py,4,none⟩=some (.string rd)∧W'.cell? ⟨py,5,none⟩=some (.int .i64 rc))) (by kernel_rfl) ?_ (fun hHeld=>?_)
      ·(try dsimp only)
       exact m0.cl
      refine tkH 0 (h:=?_);refine tkH 1 (h:=?_);refine tkH 4 (h:=?_);refine tkH 5 (h:=?_);refine wpAnyH_ready (rs:=[2,6]) (by kernel_rfl) (by simp) ?_;refine conH (h:=fun K hK=>?_) (hs:=?_)
      ·obtain⟨m11,po11⟩:=m0.alO ⟨sK,sT,sN,sM,z0,sD⟩ (k:=W4.heap.size) (by simp)
       go_simp;refine hK.out _ _ ?_ (fun hHeld=>?_)
       ·(try dsimp only)
        exact m11.cl
       clear hK;refine nmH (h:=?_);refine wpAnyH_ready (rs:=[3,6]) (by kernel_rfl) (by simp) ?_;refine conH (h:=fun K hK=>?_) (hs:=?_)
       ·have hW12:(W4.drew).alloc (.cells #[.int .i64 sK,.int .i64 sT,.int .i64 sN,.int .i64 sM,.int .u64 z0,.string sD] 32)=((W4).alloc (.cells #[.int .i64 sK,.int .i64 sT,.int .i64 sN,.int .i64 sM,.int .u64 z0,.string sD] 32)).drew:=rfl
        rw [hW12] at m11 po11;clear hW12;generalize ((W4).alloc (.cells #[.int .i64 sK,.int .i64 sT,.int .i64 sN,.int .i64 sM,.int .u64 z0,.string sD] 32)).drew=V12 at *;obtain⟨A12,k12,c12,w12,o12,ap12,m12,pf12⟩:=m11.appO po11 (by omega);refine step_append_is _ rfl _ _ 36 rfl ?_ ?_ ap12 ?_
        ·first|(go_simp;done)|rfl
        ·first|(go_simp;done)|rfl
        refine hK.out _ _ ?_ (fun hHeld=>?_)
        ·(try dsimp only)
         exact m12.cl
        clear hK;refine nmH (h:=?_);refine wpAnyH_ready (rs:=[6]) (by kernel_rfl) (by simp) ?_;refine conH (h:=fun K hK=>?_) (hs:=AllReadyH.nil)
        ·obtain⟨m13,pa13⟩:=m12.alA ⟨re,rh,ra,rn,rd,rc⟩ (k:=w12.heap.size) (by simp)
         go_simp;refine hK.out _ _ ?_ (fun hHeld=>?_)
         ·(try dsimp only)
          exact m13.cl
         clear hK;refine nmH (h:=?_);refine wpAnyH_ready (rs:=[7]) (by kernel_rfl) (by simp) ?_;refine conH (h:=fun K hK=>?_) (hs:=AllReadyH.nil)
         ·generalize (w12).alloc (.cells #[.int .i64 re,.int .u64 rh,.int .i64 ra,.int .i64 rn,.string rd,.int .i64 rc] 47)=V14 at *
          obtain⟨A14,k14,c14,w14,o14,ap14,m14⟩:=m13.appA pa13 (by omega);refine step_append_is _ rfl _ _ 37 rfl ?_ ?_ ap14 ?_
          ·first|(go_simp;done)|rfl
          ·first|(go_simp;done)|rfl
          refine hK.out _ _ ?_ (fun hHeld=>?_)
          ·(try dsimp only)
           exact m14.cl
          clear hK;refine nmH (h:=?_);refine tkH 8 (h:=?_);refine tkH 9 (h:=?_);refine wpAnyH_done (by kernel_rfl) ?_ _;refine NoPanic.normal ?_;have hz:=HD (hfin.out _ _ _ _ m14);clear hfin m0;go_wp2_with fail;go_roundg (l.length-(j+1))
          case measure=>omega
          case rel=>exact⟨j+1,by omega,rfl,by go_num,hz⟩
       refine conH (h:=fun K hK=>?_) (hs:=AllReadyH.nil)
       ·obtain⟨m12,pa12⟩:=m11.alA ⟨re,rh,ra,rn,rd,rc⟩ (k:=W4.heap.size+1) (by simp)
        have po12:=po11.al (.cells #[.int .i64 re,.int .u64 rh,.int .i64 ra,.int .i64 rn,.string rd,.int .i64 rc] 47) (k:=W4.heap.size+1) (by simp);go_simp;refine hK.out _ _ ?_ (fun hHeld=>?_)
        ·(try dsimp only)
         exact m12.cl
        clear hK;refine nmH (h:=?_);refine wpAnyH_ready (rs:=[3]) (by kernel_rfl) (by simp) ?_;refine conH (h:=fun K hK=>?_) (hs:=AllReadyH.nil)
        ·have hW13:((W4.drew).alloc (.cells #[.int .i64 sK,.int .i64 sT,.int .i64 sN,.int .i64 sM,.int .u64 z0,.string sD] 32)).alloc (.cells #[.int .i64 re,.int .u64 rh,.int .i64 ra,.int .i64 rn,.string rd,.int .i64 rc] 47)=(((W4).alloc (.cells #[.int .i64 sK,.int .i64 sT,.int .i64 sN,.int .i64 sM,.int .u64 z0,.string sD] 32)).alloc (.cells #[.int .i64 re,.int .u64 rh,.int .i64 ra,.int .i64 rn,.string rd,.int .i64 rc] 47)).drew:=rfl
         rw [hW13] at m12 po12 pa12;clear hW13;generalize (((W4).alloc (.cells #[.int .i64 sK,.int .i64 sT,.int .i64 sN,.int .i64 sM,.int .u64 z0,.string sD] 32)).alloc (.cells #[.int .i64 re,.int .u64 rh,.int .i64 ra,.int .i64 rn,.string rd,.int .i64 rc] 47)).drew=V13 at *;obtain⟨A13,k13,c13,w13,o13,ap13,m13,pf13⟩:=m12.appO po12 (by omega);have pa13:=pf13 _ _ pa12;refine step_append_is _ rfl _ _ 36 rfl ?_ ?_ ap13 ?_
         ·first|(go_simp;done)|rfl
         ·first|(go_simp;done)|rfl
         refine hK.out _ _ ?_ (fun hHeld=>?_)
         ·(try dsimp only)
          exact m13.cl
         clear hK;refine nmH (h:=?_);refine wpAnyH_ready (rs:=[7]) (by kernel_rfl) (by simp) ?_;refine conH (h:=fun K hK=>?_) (hs:=AllReadyH.nil)
         ·obtain⟨A14,k14,c14,w14,o14,ap14,m14⟩:=m13.appA pa13 (by omega)
          refine step_append_is _ rfl _ _ 37 rfl ?_ ?_ ap14 ?_
          ·first|(go_simp;done)|rfl
          ·first|(go_simp;done)|rfl
          refine hK.out _ _ ?_ (fun hHeld=>?_)
          ·(try dsimp only)
           exact m14.cl
          clear hK;refine nmH (h:=?_);refine tkH 8 (h:=?_);refine tkH 9 (h:=?_);refine wpAnyH_done (by kernel_rfl) ?_ _;refine NoPanic.normal ?_;have hz:=HD (hfin.out _ _ _ _ m14);clear hfin m0;go_wp2_with fail;go_roundg (l.length-(j+1))
          case measure=>omega
          case rel=>exact⟨j+1,by omega,rfl,by go_num,hz⟩
      refine conH (h:=fun K hK=>?_) (hs:=AllReadyH.nil)
      ·obtain⟨m11,pa11⟩:=m0.alA ⟨re,rh,ra,rn,rd,rc⟩ (k:=W4.heap.size) (by simp)
       go_simp;refine hK.out _ _ ?_ (fun hHeld=>?_)
       ·(try dsimp only)
        exact m11.cl
       clear hK;refine nmH (h:=?_);refine wpAnyH_ready (rs:=[2]) (by kernel_rfl) (by simp) ?_;refine conH (h:=fun K hK=>?_) (hs:=AllReadyH.nil)
       ·obtain⟨m12,po12⟩:=m11.alO ⟨sK,sT,sN,sM,z0,sD⟩ (k:=W4.heap.size+1) (by simp)
        have pa12:=pa11.al (.cells #[.int .i64 sK,.int .i64 sT,.int .i64 sN,.int .i64 sM,.int .u64 z0,.string sD] 32) (k:=W4.heap.size+1) (by simp);go_simp;refine hK.out _ _ ?_ (fun hHeld=>?_)
        ·(try dsimp only)
         exact m12.cl
        clear hK;refine nmH (h:=?_);refine wpAnyH_ready (rs:=[3]) (by kernel_rfl) (by simp) ?_;refine conH (h:=fun K hK=>?_) (hs:=AllReadyH.nil)
        ·have hW13:((W4.drew).alloc (.cells #[.int .i64 re,.int .u64 rh,.int .i64 ra,.int .i64 rn,.string rd,.int .i64 rc] 47)).alloc (.cells #[.int .i64 sK,.int .i64 sT,.int .i64 sN,.int .i64 sM,.int .u64 z0,.string sD] 32)=(((W4).alloc (.cells #[.int .i64 re,.int .u64 rh,.int .i64 ra,.int .i64 rn,.string rd,.int .i64 rc] 47)).alloc (.cells #[.int .i64 sK,.int .i64 sT,.int .i64 sN,.int .i64 sM,.int .u64 z0,.string sD] 32)).drew:=rfl
         rw [hW13] at m12 po12 pa12;clear hW13;generalize (((W4).alloc (.cells #[.int .i64 re,.int .u64 rh,.int .i64 ra,.int .i64 rn,.string rd,.int .i64 rc] 47)).alloc (.cells #[.int .i64 sK,.int .i64 sT,.int .i64 sN,.int .i64 sM,.int .u64 z0,.string sD] 32)).drew=V13 at *;obtain⟨A13,k13,c13,w13,o13,ap13,m13,pf13⟩:=m12.appO po12 (by omega);have pa13:=pf13 _ _ pa12;refine step_append_is _ rfl _ _ 36 rfl ?_ ?_ ap13 ?_
         ·first|(go_simp;done)|rfl
         ·first|(go_simp;done)|rfl
         refine hK.out _ _ ?_ (fun hHeld=>?_)
         ·(try dsimp only)
          exact m13.cl
         clear hK;refine nmH (h:=?_);refine wpAnyH_ready (rs:=[7]) (by kernel_rfl) (by simp) ?_;refine conH (h:=fun K hK=>?_) (hs:=AllReadyH.nil)
         ·obtain⟨A14,k14,c14,w14,o14,ap14,m14⟩:=m13.appA pa13 (by omega)
          refine step_append_is _ rfl _ _ 37 rfl ?_ ?_ ap14 ?_
          ·first|(go_simp;done)|rfl
          ·first|(go_simp;done)|rfl
          refine hK.out _ _ ?_ (fun hHeld=>?_)
          ·(try dsimp only)
           exact m14.cl
          clear hK;refine nmH (h:=?_);refine tkH 8 (h:=?_);refine tkH 9 (h:=?_);refine wpAnyH_done (by kernel_rfl) ?_ _;refine NoPanic.normal ?_;have hz:=HD (hfin.out _ _ _ _ m14);clear hfin m0;go_wp2_with fail;go_roundg (l.length-(j+1))
          case measure=>omega
          case rel=>exact⟨j+1,by omega,rfl,by go_num,hz⟩
     ·have dh:((rh:Int) != 0)=true:=by rw [bne_iff_ne];omega
      obtain⟨gv,gr,gl1,gl2,gl3⟩:=G4.given sT;have gr':=gr.fr (S:=fun _=>False) Fr.drew (fun e=>e);have G4d:=G4.calm Fr.drew;have Ks:=P4.1.cells.k1;have Ky:=A4.1.cells.k1;replace G4:=HD G4;replace P4:=HD P4;replace A4:=HD A4;replace v4:=HD v4;go_wp2_with fail;generalize w3.alloc (.cells #[.int .i64 re,.int .u64 rh,.int .i64 ra,.int .i64 rn,.string rd,.int .i64 rc] 47)=W4 at *;generalize w3.heap.size=py at *;obtain⟨Ag,kg,cg,w5,w6,o6,hap,f5,mp5,hup,G6,f6⟩:=G4d.give hq hx.T ch hrh gr' (Nat.succ_le_succ hgl0) gl2 (by omega) (by have:=G4d.mlen;omega);have P4d:=P4.out.fr (S:=fun _=>False) Fr.drew (fun e=>e);have A4d:=A4.out.fr (S:=fun _=>False) Fr.drew (fun e=>e);have P5:=P4d.fr f5 (fun e=>by simp at e);have A5:=A4d.fr f5 (fun e=>by simp at e);have P6:=P4d.fr f6 (fun e=>by simp at e);have A6:=A4d.fr f6 (fun e=>by simp at e);have v6:=(v4.out.fr (S:=fun _=>False) Fr.drew (fun e=>e)).fr f6 (fun e=>by rcases e with e|e<;>exact ht.2 _ e);have s1:W4.drew.cell? ⟨wr.heap.size+1,1,none⟩=some (.int .i64 sT)∧W4.drew.cell? ⟨py,1,none⟩=some (.int .u64 rh)∧(Instr.lookup 70 (.map (some mb)) (.int .i64 sT) false).run Tryz.prog W4.drew=.ok gv W4.drew:=⟨P4d.1.cells.k1,A4d.1.cells.k1,gl3 _ _ G4d.mp⟩
      replace hap:(Builtin.append_ #[62,62] 62 #[gv,.slice (some ⟨W4.heap.size,0,none⟩) 1 1]).run Tryz.prog (W4.alloc (.cells #[.int .u64 (rh:Int)] 30)).drew=.ok (.slice Ag kg cg) w5:=hap;have fal:Fr (fun _=>False) W4.drew (setO o3 py [7]) (W4.drew.alloc (.cells #[.int .u64 (rh:Int)] 30)) (setO o3 py [7]):=Fr.alloc' _;have s2:(W4.drew.alloc (.cells #[.int .u64 (rh:Int)] 30)).cell? ⟨wr.heap.size+1,1,none⟩=some (.int .i64 sT)∧(W4.drew.alloc (.cells #[.int .u64 (rh:Int)] 30)).cell? ⟨py,1,none⟩=some (.int .u64 rh)∧(Instr.lookup 70 (.map (some mb)) (.int .i64 sT) false).run Tryz.prog (W4.drew.alloc (.cells #[.int .u64 (rh:Int)] 30))=.ok gv (W4.drew.alloc (.cells #[.int .u64 (rh:Int)] 30)):=⟨(P4d.fr fal (fun e=>e)).1.cells.k1,(A4d.fr fal (fun e=>e)).1.cells.k1,gl3 _ _ (G4d.mp.fr fal (fun e=>e))⟩
      have s3:w5.cell? ⟨wr.heap.size+1,1,none⟩=some (.int .i64 sT)∧w5.cell? ⟨py,1,none⟩=some (.int .u64 rh)∧(Instr.lookup 70 (.map (some mb)) (.int .i64 sT) false).run Tryz.prog w5=.ok gv w5:=⟨P5.1.cells.k1,A5.1.cells.k1,gl3 _ _ mp5⟩
      have m0:=(G6.mid P6 A6).drew;have hfin:=HD (fin1 (px:=wr.heap.size+1) (py:=py) hq hlt hlj hop hyy G6 v6 ht hlk0);have hlo:=G6.lk;have hla:=G6.ln;clear fal G4d P4d A4d P5 A5 P6 A6 v6 f5 f6 mp5 gr gr' gl3 G4 P4 A4 v4 Ks Ky G6;refine wp_region_noPanic ?_;refine wp_region_T (S:=(fun W'=>W'.cell? ⟨wr.heap.size+1,1,none⟩=some (.int .i64 sT)∧W'.cell? ⟨py,1,none⟩=some (.int .u64 rh)∧(Instr.lookup 70 (.map (some mb)) (.int .i64 sT) false).run Tryz.prog W'=.ok gv W')) 11 (by kernel_rfl) ?_ (fun hHeld=>?_)
      ·(try dsimp only)
       (first|exact s1|exact s2|exact s3)
      refine tkY 0 (h:=?_);refine tkY 1 (h:=?_);refine tkT 2 (h:=?_);refine tkY 3 (h:=?_);refine tkY 4 (h:=?_);refine tkT 5 (h:=?_);refine tkT 6 (h:=?_);refine tkY 7 (h:=?_);refine tkT 8 (h:=?_);refine onT 9 (h:=fun K hK=>?_);go_simp;refine hK.out _ _ ?_ (fun hHeld=>?_)
      ·(try dsimp only)
       (first|exact s1|exact s2|exact s3)
      clear hK;refine nmT (h:=?_);refine onT 10 (h:=fun K hK=>?_);refine step_append_is _ rfl _ _ 62 rfl ?_ ?_ hap ?_
      ·first|(go_simp;done)|rfl
      ·first|(go_simp;done)|rfl
      refine hK.out _ _ ?_ (fun hHeld=>?_)
      ·(try dsimp only)
       (first|exact s1|exact s2|exact s3)
      clear hK;refine nmT (h:=?_);refine laT (h:=fun K hK=>?_);go_simp;refine hK.out _ _ ?_;clear hK;refine NoPanic.normal ?_;clear s1 s2 s3 hap hup;go_wp2_with fail;refine wp_region_noPanic ?_;refine wp_region_held_drew (S:=(fun W'=>W'.cell? ⟨wr.heap.size+1,0,none⟩=some (.int .i64 sK)∧W'.cell? ⟨wr.heap.size+1,1,none⟩=some (.int .i64 sT)∧W'.cell? ⟨wr.heap.size+1,2,none⟩=some (.int .i64 sN)∧W'.cell? ⟨wr.heap.size+1,3,none⟩=some (.int .i64 sM)∧W'.cell? ⟨wr.heap.size+1,4,none⟩=some (.int .u64 z0)∧W'.cell? ⟨wr.heap.size+1,5,none⟩=some (.string sD)∧W'.cell? ⟨py,0,none⟩=some (.int .i64 re)∧W'.cell? ⟨py,1,none⟩=some (.int .u64 rh)∧W'.cell? ⟨py,2,none⟩=some (.int .i64 ra)∧W'.cell? ⟨py,3,none⟩=some (.int .i64 rn)∧W'.cell? ⟨py,4,none⟩=some (.string rd)∧W'.cell? ⟨py,5,none⟩=some (.int .i64 rc))) (by kernel_rfl) ?_ (fun hHeld=>?_)
      ·(try dsimp only)
       exact m0.cl
      refine tkH 0 (h:=?_);refine tkH 1 (h:=?_);refine tkH 4 (h:=?_);refine tkH 5 (h:=?_);refine wpAnyH_ready (rs:=[2,6]) (by kernel_rfl) (by simp) ?_;refine conH (h:=fun K hK=>?_) (hs:=?_)
      ·obtain⟨m11,po11⟩:=m0.alO ⟨sK,sT,sN,sM,z0,sD⟩ (k:=w6.heap.size) (by simp)
       go_simp;refine hK.out _ _ ?_ (fun hHeld=>?_)
       ·(try dsimp only)
        exact m11.cl
       clear hK;refine nmH (h:=?_);refine wpAnyH_ready (rs:=[3,6]) (by kernel_rfl) (by simp) ?_;refine conH (h:=fun K hK=>?_) (hs:=?_)
       ·have hW12:(w6.drew).alloc (.cells #[.int .i64 sK,.int .i64 sT,.int .i64 sN,.int .i64 sM,.int .u64 z0,.string sD] 32)=((w6).alloc (.cells #[.int .i64 sK,.int .i64 sT,.int .i64 sN,.int .i64 sM,.int .u64 z0,.string sD] 32)).drew:=rfl
        rw [hW12] at m11 po11;clear hW12;generalize ((w6).alloc (.cells #[.int .i64 sK,.int .i64 sT,.int .i64 sN,.int .i64 sM,.int .u64 z0,.string sD] 32)).drew=V12 at *;obtain⟨A12,k12,c12,w12,o12,ap12,m12,pf12⟩:=m11.appO po11 (by omega);refine step_append_is _ rfl _ _ 36 rfl ?_ ?_ ap12 ?_
        ·first|(go_simp;done)|rfl
        ·first|(go_simp;done)|rfl
        refine hK.out _ _ ?_ (fun hHeld=>?_)
        ·(try dsimp only)
         exact m12.cl
        clear hK;refine nmH (h:=?_);refine wpAnyH_ready (rs:=[6]) (by kernel_rfl) (by simp) ?_;refine conH (h:=fun K hK=>?_) (hs:=AllReadyH.nil)
        ·obtain⟨m13,pa13⟩:=m12.alA ⟨re,rh,ra,rn,rd,rc⟩ (k:=w12.heap.size) (by simp)
         go_simp;refine hK.out _ _ ?_ (fun hHeld=>?_)
         ·(try dsimp only)
          exact m13.cl
         clear hK;refine nmH (h:=?_);refine wpAnyH_ready (rs:=[7]) (by kernel_rfl) (by simp) ?_;refine conH (h:=fun K hK=>?_) (hs:=AllReadyH.nil)
         ·generalize (w12).alloc (.cells #[.int .i64 re,.int .u64 rh,.int .i64 ra,.int .i64 rn,.string rd,.int .i64 rc] 47)=V14 at *
          obtain⟨A14,k14,c14,w14,o14,ap14,m14⟩:=m13.appA pa13 (by omega);refine step_append_is _ rfl _ _ 37 rfl ?_ ?_ ap14 ?_
          ·first|(go_simp;done)|rfl
          ·first|(go_simp;done)|rfl
          refine hK.out _ _ ?_ (fun hHeld=>?_)
          ·(try dsimp only)
           exact m14.cl
          clear hK;refine nmH (h:=?_);refine tkH 8 (h:=?_);refine tkH 9 (h:=?_);refine wpAnyH_done (by kernel_rfl) ?_ _;refine NoPanic.normal ?_;have hz:=HD (hfin.out _ _ _ _ m14);clear hfin m0;go_wp2_with fail;go_roundg (l.length-(j+1))
          case measure=>omega
          case rel=>exact⟨j+1,by omega,rfl,by go_num,hz⟩
       refine conH (h:=fun K hK=>?_) (hs:=AllReadyH.nil)
       ·obtain⟨m12,pa12⟩:=m11.alA ⟨re,rh,ra,rn,rd,rc⟩ (k:=w6.heap.size+1) (by simp)
        have po12:=po11.al (.cells #[.int .i64 re,.int .u64 rh,.int .i64 ra,.int .i64 rn,.string rd,.int .i64 rc] 47) (k:=w6.heap.size+1) (by simp);go_simp;refine hK.out _ _ ?_ (fun hHeld=>?_)
        ·(try dsimp only)
         exact m12.cl
        clear hK;refine nmH (h:=?_);refine wpAnyH_ready (rs:=[3]) (by kernel_rfl) (by simp) ?_;refine conH (h:=fun K hK=>?_) (hs:=AllReadyH.nil)
        ·have hW13:((w6.drew).alloc (.cells #[.int .i64 sK,.int .i64 sT,.int .i64 sN,.int .i64 sM,.int .u64 z0,.string sD] 32)).alloc (.cells #[.int .i64 re,.int .u64 rh,.int .i64 ra,.int .i64 rn,.string rd,.int .i64 rc] 47)=(((w6).alloc (.cells #[.int .i64 sK,.int .i64 sT,.int .i64 sN,.int .i64 sM,.int .u64 z0,.string sD] 32)).alloc (.cells #[.int .i64 re,.int .u64 rh,.int .i64 ra,.int .i64 rn,.string rd,.int .i64 rc] 47)).drew:=rfl
         rw [hW13] at m12 po12 pa12;clear hW13;generalize (((w6).alloc (.cells #[.int .i64 sK,.int .i64 sT,.int .i64 sN,.int .i64 sM,.int .u64 z0,.string sD] 32)).alloc (.cells #[.int .i64 re,.int .u64 rh,.int .i64 ra,.int .i64 rn,.string rd,.int .i64 rc] 47)).drew=V13 at *;obtain⟨A13,k13,c13,w13,o13,ap13,m13,pf13⟩:=m12.appO po12 (by omega);have pa13:=pf13 _ _ pa12;refine step_append_is _ rfl _ _ 36 rfl ?_ ?_ ap13 ?_
         ·first|(go_simp;done)|rfl
         ·first|(go_simp;done)|rfl
         refine hK.out _ _ ?_ (fun hHeld=>?_)
         ·(try dsimp only)
          exact m13.cl
         clear hK;refine nmH (h:=?_);refine wpAnyH_ready (rs:=[7]) (by kernel_rfl) (by simp) ?_;refine conH (h:=fun K hK=>?_) (hs:=AllReadyH.nil)
         ·obtain⟨A14,k14,c14,w14,o14,ap14,m14⟩:=m13.appA pa13 (by omega)
          refine step_append_is _ rfl _ _ 37 rfl ?_ ?_ ap14 ?_
          ·first|(go_simp;done)|rfl
          ·first|(go_simp;done)|rfl
          refine hK.out _ _ ?_ (fun hHeld=>?_)
          ·(try dsimp only)
           exact m14.cl
          clear hK;refine nmH (h:=?_);refine tkH 8 (h:=?_);refine tkH 9 (h:=?_);refine wpAnyH_done (by kernel_rfl) ?_ _;refine NoPanic.normal ?_;have hz:=HD (hfin.out _ _ _ _ m14);clear hfin m0;go_wp2_with fail;go_roundg (l.length-(j+1))
          case measure=>omega
          case rel=>exact⟨j+1,by omega,rfl,by go_num,hz⟩
      refine conH (h:=fun K hK=>?_) (hs:=AllReadyH.nil)
      ·obtain⟨m11,pa11⟩:=m0.alA ⟨re,rh,ra,rn,rd,rc⟩ (k:=w6.heap.size) (by simp)
       go_simp;refine hK.out _ _ ?_ (fun hHeld=>?_)
       ·(try dsimp only)
        exact m11.cl
       clear hK;refine nmH (h:=?_);refine wpAnyH_ready (rs:=[2]) (by kernel_rfl) (by simp) ?_;refine conH (h:=fun K hK=>?_) (hs:=AllReadyH.nil)
       ·obtain⟨m12,po12⟩:=m11.alO ⟨sK,sT,sN,sM,z0,sD⟩ (k:=w6.heap.size+1) (by simp)
        have pa12:=pa11.al (.cells #[.int .i64 sK,.int .i64 sT,.int .i64 sN,.int .i64 sM,.int .u64 z0,.string sD] 32) (k:=w6.heap.size+1) (by simp);go_simp;refine hK.out _ _ ?_ (fun hHeld=>?_)
        ·(try dsimp only)
         exact m12.cl
        clear hK;refine nmH (h:=?_);refine wpAnyH_ready (rs:=[3]) (by kernel_rfl) (by simp) ?_;refine conH (h:=fun K hK=>?_) (hs:=AllReadyH.nil)
        ·have hW13:((w6.drew).alloc (.cells #[.int .i64 re,.int .u64 rh,.int .i64 ra,.int .i64 rn,.string rd,.int .i64 rc] 47)).alloc (.cells #[.int .i64 sK,.int .i64 sT,.int .i64 sN,.int .i64 sM,.int .u64 z0,.string sD] 32)=(((w6).alloc (.cells #[.int .i64 re,.int .u64 rh,.int .i64 ra,.int .i64 rn,.string rd,.int .i64 rc] 47)).alloc (.cells #[.int .i64 sK,.int .i64 sT,.int .i64 sN,.int .i64 sM,.int .u64 z0,.string sD] 32)).drew:=rfl
         rw [hW13] at m12 po12 pa12;clear hW13;generalize (((w6).alloc (.cells #[.int .i64 re,.int .u64 rh,.int .i64 ra,.int .i64 rn,.string rd,.int .i64 rc] 47)).alloc (.cells #[.int .i64 sK,.int .i64 sT,.int .i64 sN,.int .i64 sM,.int .u64 z0,.string sD] 32)).drew=V13 at *;obtain⟨A13,k13,c13,w13,o13,ap13,m13,pf13⟩:=m12.appO po12 (by omega);have pa13:=pf13 _ _ pa12;refine step_append_is _ rfl _ _ 36 rfl ?_ ?_ ap13 ?_
         ·first|(go_simp;done)|rfl
         ·first|(go_simp;done)|rfl
         refine hK.out _ _ ?_ (fun hHeld=>?_)
         ·(try dsimp only)
          exact m13.cl
         clear hK;refine nmH (h:=?_);refine wpAnyH_ready (rs:=[7]) (by kernel_rfl) (by simp) ?_;refine conH (h:=fun K hK=>?_) (hs:=AllReadyH.nil)
         ·obtain⟨A14,k14,c14,w14,o14,ap14,m14⟩:=m13.appA pa13 (by omega)
          refine step_append_is _ rfl _ _ 37 rfl ?_ ?_ ap14 ?_
          ·first|(go_simp;done)|rfl
          ·first|(go_simp;done)|rfl
          refine hK.out _ _ ?_ (fun hHeld=>?_)
          ·(try dsimp only)
           exact m14.cl
          clear hK;refine nmH (h:=?_);refine tkH 8 (h:=?_);refine tkH 9 (h:=?_);refine wpAnyH_done (by kernel_rfl) ?_ _;refine NoPanic.normal ?_;have hz:=HD (hfin.out _ _ _ _ m14);clear hfin m0;go_wp2_with fail;go_roundg (l.length-(j+1))
          case measure=>omega
          case rel=>exact⟨j+1,by omega,rfl,by go_num,hz⟩
   ·have dc:decide (0<bk)=false:=decide_eq_false c
    have hop:opOf ((l.take j).foldl RnS.step (RnS.new P C)).G ⟨⟨sK,sT,sN,sM,sH,sD⟩,bk⟩=⟨sK,sT,sN,sM,sH,sD⟩:=by unfold opOf hnd;rw [if_neg c]
    have G3h:=HD G2.sv;have hlk0:=G2.lk;have hgl0:=G2.gvl sT;have hdo:=HD (G2.dos hq P2 (by omega) hx.H hx.s v2 ht.1);clear G2 P2 v2;go_wp2_with fail;refine hdo.out.mono ?_;rintro e w3 ⟨rfl,o3,B3,G3,P3,v3⟩;clear hdo;have hHx:=hx.H;simp only at hHx;have hrh:=do_h ⟨sK,sT,sN,sM,sH,sD⟩ G3h.out (by omega) hHx;rw [show (((l.take j).foldl RnS.step (RnS.new P C)).s.do_ ⟨sK,sT,sN,sM,sH,sD⟩).1=(((l.take j).foldl RnS.step (RnS.new P C)).s.do_ ⟨sK,sT,sN,sM,sH,sD⟩).1 from rfl] at hrh;clear G3h;generalize hyy:(((l.take j).foldl RnS.step (RnS.new P C)).s.do_ ⟨sK,sT,sN,sM,sH,sD⟩).1=y at *;obtain⟨re,rh,ra,rn,rd,rc⟩:=y;simp only at hrh;have fy:Fr (fun _=>False) w3 o3 (w3.alloc (.cells #[.int .i64 re,.int .u64 rh,.int .i64 ra,.int .i64 rn,.string rd,.int .i64 rc] 47)) (setO o3 w3.heap.size [7]):=Fr.alloc _ _;have G4:=G3.calm fy;have P4:=P3.fr fy (fun e=>e);have A4:=PendA.new w3 o3 ⟨re,rh,ra,rn,rd,rc⟩;have v4:=v3.fr fy (fun e=>e);clear G3 P3 v3 fy;have hs4:(w3.alloc (.cells #[.int .i64 re,.int .u64 rh,.int .i64 ra,.int .i64 rn,.string rd,.int .i64 rc] 47)).heap.size=w3.heap.size+1:=by simp
    simp only [ansV];by_cases ch:rh=0
    ·have dh:((rh:Int) != 0)=false:=by rw [ch];rfl
     replace ch:=HD ch;replace G4:=HD G4;replace P4:=HD P4;replace A4:=HD A4;replace v4:=HD v4;go_wp2_with fail;generalize w3.alloc (.cells #[.int .i64 re,.int .u64 rh,.int .i64 ra,.int .i64 rn,.string rd,.int .i64 rc] 47)=W4 at *;generalize w3.heap.size=py at *;have m0:=(G4.out.mid P4.out A4.out).drew;have hfin:=HD (fin0 (px:=wr.heap.size+1) (py:=py) hq hlt hlj hop hyy ch.out G4.out v4.out ht hlk0);have hlo:=G4.out.lk;have hla:=G4.out.ln;clear G4 P4 A4 v4;refine wp_region_noPanic ?_;refine wp_region_held_drew (S:=(fun W'=>W'.cell? ⟨wr.heap.size+1,0,none⟩=some (.int .i64 sK)∧W'.cell? ⟨wr.heap.size+1,1,none⟩=some (.int .i64 sT)∧W'.cell? ⟨wr.heap.size+1,2,none⟩=some (.int .i64 sN)∧W'.cell? ⟨wr.heap.size+1,3,none⟩=some (.int .i64 sM)∧W'.cell? ⟨wr.heap.size+1,4,none⟩=some (.int .u64 sH)∧W'.cell? ⟨wr.heap.size+1,5,none⟩=some (.string sD)∧W'.cell? ⟨py,0,none⟩=some (.int .i64 re)∧W'.cell? ⟨py,1,none⟩=some (.int .u64 rh)∧W'.cell? ⟨py,2,none⟩=some (.int .i64 ra)∧W'.cell? ⟨py,3,none⟩=some (.int .i64 rn)∧W'.cell? ⟨py,4,none⟩=some (.string rd)∧W'.cell? ⟨py,5,none⟩=some (.int .i64 rc))) (by kernel_rfl) ?_ (fun hHeld=>?_)
     ·(try dsimp only)
      exact m0.cl
     refine tkH 0 (h:=?_);refine tkH 1 (h:=?_);refine tkH 4 (h:=?_);refine tkH 5 (h:=?_);refine wpAnyH_ready (rs:=[2,6]) (by kernel_rfl) (by simp) ?_;refine conH (h:=fun K hK=>?_) (hs:=?_)
     ·obtain⟨m11,po11⟩:=m0.alO ⟨sK,sT,sN,sM,sH,sD⟩ (k:=W4.heap.size) (by simp)
      go_simp;refine hK.out _ _ ?_ (fun hHeld=>?_)
      ·(try dsimp only)
       exact m11.cl
      clear hK;refine nmH (h:=?_);refine wpAnyH_ready (rs:=[3,6]) (by kernel_rfl) (by simp) ?_;refine conH (h:=fun K hK=>?_) (hs:=?_)
      ·have hW12:(W4.drew).alloc (.cells #[.int .i64 sK,.int .i64 sT,.int .i64 sN,.int .i64 sM,.int .u64 sH,.string sD] 32)=((W4).alloc (.cells #[.int .i64 sK,.int .i64 sT,.int .i64 sN,.int .i64 sM,.int .u64 sH,.string sD] 32)).drew:=rfl
       rw [hW12] at m11 po11;clear hW12;generalize ((W4).alloc (.cells #[.int .i64 sK,.int .i64 sT,.int .i64 sN,.int .i64 sM,.int .u64 sH,.string sD] 32)).drew=V12 at *;obtain⟨A12,k12,c12,w12,o12,ap12,m12,pf12⟩:=m11.appO po11 (by omega);refine step_append_is _ rfl _ _ 36 rfl ?_ ?_ ap12 ?_
       ·first|(go_simp;done)|rfl
       ·first|(go_simp;done)|rfl
       refine hK.out _ _ ?_ (fun hHeld=>?_)
       ·(try dsimp only)
        exact m12.cl
       clear hK;refine nmH (h:=?_);refine wpAnyH_ready (rs:=[6]) (by kernel_rfl) (by simp) ?_;refine conH (h:=fun K hK=>?_) (hs:=AllReadyH.nil)
       ·obtain⟨m13,pa13⟩:=m12.alA ⟨re,rh,ra,rn,rd,rc⟩ (k:=w12.heap.size) (by simp)
        go_simp;refine hK.out _ _ ?_ (fun hHeld=>?_)
        ·(try dsimp only)
         exact m13.cl
        clear hK;refine nmH (h:=?_);refine wpAnyH_ready (rs:=[7]) (by kernel_rfl) (by simp) ?_;refine conH (h:=fun K hK=>?_) (hs:=AllReadyH.nil)
        ·generalize (w12).alloc (.cells #[.int .i64 re,.int .u64 rh,.int .i64 ra,.int .i64 rn,.string rd,.int .i64 rc] 47)=V14 at *
         obtain⟨A14,k14,c14,w14,o14,ap14,m14⟩:=m13.appA pa13 (by omega);refine step_append_is _ rfl _ _ 37 rfl ?_ ?_ ap14 ?_
         ·first|(go_simp;done)|rfl
         ·first|(go_simp;done)|rfl
         refine hK.out _ _ ?_ (fun hHeld=>?_)
         ·(try dsimp only)
          exact m14.cl
         clear hK;refine nmH (h:=?_);refine tkH 8 (h:=?_);refine tkH 9 (h:=?_);refine wpAnyH_done (by kernel_rfl) ?_ _;refine NoPanic.normal ?_;have hz:=HD (hfin.out _ _ _ _ m14);clear hfin m0;go_wp2_with fail;go_roundg (l.length-(j+1))
         case measure=>omega
         case rel=>exact⟨j+1,by omega,rfl,by go_num,hz⟩
      refine conH (h:=fun K hK=>?_) (hs:=AllReadyH.nil)
      ·obtain⟨m12,pa12⟩:=m11.alA ⟨re,rh,ra,rn,rd,rc⟩ (k:=W4.heap.size+1) (by simp)
       have po12:=po11.al (.cells #[.int .i64 re,.int .u64 rh,.int .i64 ra,.int .i64 rn,.string rd,.int .i64 rc] 47) (k:=W4.heap.size+1) (by simp);go_simp;refine hK.out _ _ ?_ (fun hHeld=>?_)
       ·(try dsimp only)
        exact m12.cl
       clear hK;refine nmH (h:=?_);refine wpAnyH_ready (rs:=[3]) (by kernel_rfl) (by simp) ?_;refine conH (h:=fun K hK=>?_) (hs:=AllReadyH.nil)
       ·have hW13:((W4.drew).alloc (.cells #[.int .i64 sK,.int .i64 sT,.int .i64 sN,.int .i64 sM,.int .u64 sH,.string sD] 32)).alloc (.cells #[.int .i64 re,.int .u64 rh,.int .i64 ra,.int .i64 rn,.string rd,.int .i64 rc] 47)=(((W4).alloc (.cells #[.int .i64 sK,.int .i64 sT,.int .i64 sN,.int .i64 sM,.int .u64 sH,.string sD] 32)).alloc (.cells #[.int .i64 re,.int .u64 rh,.int .i64 ra,.int .i64 rn,.string rd,.int .i64 rc] 47)).drew:=rfl
        rw [hW13] at m12 po12 pa12;clear hW13;generalize (((W4).alloc (.cells #[.int .i64 sK,.int .i64 sT,.int .i64 sN,.int .i64 sM,.int .u64 sH,.string sD] 32)).alloc (.cells #[.int .i64 re,.int .u64 rh,.int .i64 ra,.int .i64 rn,.string rd,.int .i64 rc] 47)).drew=V13 at *;obtain⟨A13,k13,c13,w13,o13,ap13,m13,pf13⟩:=m12.appO po12 (by omega);have pa13:=pf13 _ _ pa12;refine step_append_is _ rfl _ _ 36 rfl ?_ ?_ ap13 ?_
        ·first|(go_simp;done)|rfl
        ·first|(go_simp;done)|rfl
        refine hK.out _ _ ?_ (fun hHeld=>?_)
        ·(try dsimp only)
         exact m13.cl
        clear hK;refine nmH (h:=?_);refine wpAnyH_ready (rs:=[7]) (by kernel_rfl) (by simp) ?_;refine conH (h:=fun K hK=>?_) (hs:=AllReadyH.nil)
        ·obtain⟨A14,k14,c14,w14,o14,ap14,m14⟩:=m13.appA pa13 (by omega)
         refine step_append_is _ rfl _ _ 37 rfl ?_ ?_ ap14 ?_
         ·first|(go_simp;done)|rfl
         ·first|(go_simp;done)|rfl
         refine hK.out _ _ ?_ (fun hHeld=>?_)
         ·(try dsimp only)
          exact m14.cl
         clear hK;refine nmH (h:=?_);refine tkH 8 (h:=?_);refine tkH 9 (h:=?_);refine wpAnyH_done (by kernel_rfl) ?_ _;refine NoPanic.normal ?_;have hz:=HD (hfin.out _ _ _ _ m14);clear hfin m0;go_wp2_with fail;go_roundg (l.length-(j+1))
         case measure=>omega
         case rel=>exact⟨j+1,by omega,rfl,by go_num,hz⟩
     refine conH (h:=fun K hK=>?_) (hs:=AllReadyH.nil)
     ·obtain⟨m11,pa11⟩:=m0.alA ⟨re,rh,ra,rn,rd,rc⟩ (k:=W4.heap.size) (by simp)
      go_simp;refine hK.out _ _ ?_ (fun hHeld=>?_)
      ·(try dsimp only)
       exact m11.cl
      clear hK;refine nmH (h:=?_);refine wpAnyH_ready (rs:=[2]) (by kernel_rfl) (by simp) ?_;refine conH (h:=fun K hK=>?_) (hs:=AllReadyH.nil)
      ·obtain⟨m12,po12⟩:=m11.alO ⟨sK,sT,sN,sM,sH,sD⟩ (k:=W4.heap.size+1) (by simp)
       have pa12:=pa11.al (.cells #[.int .i64 sK,.int .i64 sT,.int .i64 sN,.int .i64 sM,.int .u64 sH,.string sD] 32) (k:=W4.heap.size+1) (by simp);go_simp;refine hK.out _ _ ?_ (fun hHeld=>?_)
       ·(try dsimp only)
        exact m12.cl
       clear hK;refine nmH (h:=?_);refine wpAnyH_ready (rs:=[3]) (by kernel_rfl) (by simp) ?_;refine conH (h:=fun K hK=>?_) (hs:=AllReadyH.nil)
       ·have hW13:((W4.drew).alloc (.cells #[.int .i64 re,.int .u64 rh,.int .i64 ra,.int .i64 rn,.string rd,.int .i64 rc] 47)).alloc (.cells #[.int .i64 sK,.int .i64 sT,.int .i64 sN,.int .i64 sM,.int .u64 sH,.string sD] 32)=(((W4).alloc (.cells #[.int .i64 re,.int .u64 rh,.int .i64 ra,.int .i64 rn,.string rd,.int .i64 rc] 47)).alloc (.cells #[.int .i64 sK,.int .i64 sT,.int .i64 sN,.int .i64 sM,.int .u64 sH,.string sD] 32)).drew:=rfl
        rw [hW13] at m12 po12 pa12;clear hW13;generalize (((W4).alloc (.cells #[.int .i64 re,.int .u64 rh,.int .i64 ra,.int .i64 rn,.string rd,.int .i64 rc] 47)).alloc (.cells #[.int .i64 sK,.int .i64 sT,.int .i64 sN,.int .i64 sM,.int .u64 sH,.string sD] 32)).drew=V13 at *;obtain⟨A13,k13,c13,w13,o13,ap13,m13,pf13⟩:=m12.appO po12 (by omega);have pa13:=pf13 _ _ pa12;refine step_append_is _ rfl _ _ 36 rfl ?_ ?_ ap13 ?_
        ·first|(go_simp;done)|rfl
        ·first|(go_simp;done)|rfl
        refine hK.out _ _ ?_ (fun hHeld=>?_)
        ·(try dsimp only)
         exact m13.cl
        clear hK;refine nmH (h:=?_);refine wpAnyH_ready (rs:=[7]) (by kernel_rfl) (by simp) ?_;refine conH (h:=fun K hK=>?_) (hs:=AllReadyH.nil)
        ·obtain⟨A14,k14,c14,w14,o14,ap14,m14⟩:=m13.appA pa13 (by omega)
         refine step_append_is _ rfl _ _ 37 rfl ?_ ?_ ap14 ?_
         ·first|(go_simp;done)|rfl
         ·first|(go_simp;done)|rfl
         refine hK.out _ _ ?_ (fun hHeld=>?_)
         ·(try dsimp only)
          exact m14.cl
         clear hK;refine nmH (h:=?_);refine tkH 8 (h:=?_);refine tkH 9 (h:=?_);refine wpAnyH_done (by kernel_rfl) ?_ _;refine NoPanic.normal ?_;have hz:=HD (hfin.out _ _ _ _ m14);clear hfin m0;go_wp2_with fail;go_roundg (l.length-(j+1))
         case measure=>omega
         case rel=>exact⟨j+1,by omega,rfl,by go_num,hz⟩
    ·have dh:((rh:Int) != 0)=true:=by rw [bne_iff_ne];omega
     obtain⟨gv,gr,gl1,gl2,gl3⟩:=G4.given sT;have gr':=gr.fr (S:=fun _=>False) Fr.drew (fun e=>e);have G4d:=G4.calm Fr.drew;have Ks:=P4.1.cells.k1;have Ky:=A4.1.cells.k1;replace G4:=HD G4;replace P4:=HD P4;replace A4:=HD A4;replace v4:=HD v4;go_wp2_with fail;generalize w3.alloc (.cells #[.int .i64 re,.int .u64 rh,.int .i64 ra,.int .i64 rn,.string rd,.int .i64 rc] 47)=W4 at *;generalize w3.heap.size=py at *;obtain⟨Ag,kg,cg,w5,w6,o6,hap,f5,mp5,hup,G6,f6⟩:=G4d.give hq hx.T ch hrh gr' (Nat.succ_le_succ hgl0) gl2 (by omega) (by have:=G4d.mlen;omega);have P4d:=P4.out.fr (S:=fun _=>False) Fr.drew (fun e=>e);have A4d:=A4.out.fr (S:=fun _=>False) Fr.drew (fun e=>e);have P5:=P4d.fr f5 (fun e=>by simp at e);have A5:=A4d.fr f5 (fun e=>by simp at e);have P6:=P4d.fr f6 (fun e=>by simp at e);have A6:=A4d.fr f6 (fun e=>by simp at e);have v6:=(v4.out.fr (S:=fun _=>False) Fr.drew (fun e=>e)).fr f6 (fun e=>by rcases e with e|e<;>exact ht.2 _ e);have s1:W4.drew.cell? ⟨wr.heap.size+1,1,none⟩=some (.int .i64 sT)∧W4.drew.cell? ⟨py,1,none⟩=some (.int .u64 rh)∧(Instr.lookup 70 (.map (some mb)) (.int .i64 sT) false).run Tryz.prog W4.drew=.ok gv W4.drew:=⟨P4d.1.cells.k1,A4d.1.cells.k1,gl3 _ _ G4d.mp⟩
     replace hap:(Builtin.append_ #[62,62] 62 #[gv,.slice (some ⟨W4.heap.size,0,none⟩) 1 1]).run Tryz.prog (W4.alloc (.cells #[.int .u64 (rh:Int)] 30)).drew=.ok (.slice Ag kg cg) w5:=hap;have fal:Fr (fun _=>False) W4.drew (setO o3 py [7]) (W4.drew.alloc (.cells #[.int .u64 (rh:Int)] 30)) (setO o3 py [7]):=Fr.alloc' _;have s2:(W4.drew.alloc (.cells #[.int .u64 (rh:Int)] 30)).cell? ⟨wr.heap.size+1,1,none⟩=some (.int .i64 sT)∧(W4.drew.alloc (.cells #[.int .u64 (rh:Int)] 30)).cell? ⟨py,1,none⟩=some (.int .u64 rh)∧(Instr.lookup 70 (.map (some mb)) (.int .i64 sT) false).run Tryz.prog (W4.drew.alloc (.cells #[.int .u64 (rh:Int)] 30))=.ok gv (W4.drew.alloc (.cells #[.int .u64 (rh:Int)] 30)):=⟨(P4d.fr fal (fun e=>e)).1.cells.k1,(A4d.fr fal (fun e=>e)).1.cells.k1,gl3 _ _ (G4d.mp.fr fal (fun e=>e))⟩
     have s3:w5.cell? ⟨wr.heap.size+1,1,none⟩=some (.int .i64 sT)∧w5.cell? ⟨py,1,none⟩=some (.int .u64 rh)∧(Instr.lookup 70 (.map (some mb)) (.int .i64 sT) false).run Tryz.prog w5=.ok gv w5:=⟨P5.1.cells.k1,A5.1.cells.k1,gl3 _ _ mp5⟩
     have m0:=(G6.mid P6 A6).drew;have hfin:=HD (fin1 (px:=wr.heap.size+1) (py:=py) hq hlt hlj hop hyy G6 v6 ht hlk0);have hlo:=G6.lk;have hla:=G6.ln;clear fal G4d P4d A4d P5 A5 P6 A6 v6 f5 f6 mp5 gr gr' gl3 G4 P4 A4 v4 Ks Ky G6;refine wp_region_noPanic ?_;refine wp_region_T (S:=(fun W'=>W'.cell? ⟨wr.heap.size+1,1,none⟩=some (.int .i64 sT)∧W'.cell? ⟨py,1,none⟩=some (.int .u64 rh)∧(Instr.lookup 70 (.map (some mb)) (.int .i64 sT) false).run Tryz.prog W'=.ok gv W')) 11 (by kernel_rfl) ?_ (fun hHeld=>?_)
     ·(try dsimp only)
      (first|exact s1|exact s2|exact s3)
     refine tkY 0 (h:=?_);refine tkY 1 (h:=?_);refine tkT 2 (h:=?_);refine tkY 3 (h:=?_);refine tkY 4 (h:=?_);refine tkT 5 (h:=?_);refine tkT 6 (h:=?_);refine tkY 7 (h:=?_);refine tkT 8 (h:=?_);refine onT 9 (h:=fun K hK=>?_);go_simp;refine hK.out _ _ ?_ (fun hHeld=>?_)
     ·(try dsimp only)
      (first|exact s1|exact s2|exact s3)
     clear hK;refine nmT (h:=?_);refine onT 10 (h:=fun K hK=>?_);refine step_append_is _ rfl _ _ 62 rfl ?_ ?_ hap ?_
     ·first|(go_simp;done)|rfl
     ·first|(go_simp;done)|rfl
     refine hK.out _ _ ?_ (fun hHeld=>?_)
     ·(try dsimp only)
      (first|exact s1|exact s2|exact s3)
     clear hK;refine nmT (h:=?_);refine laT (h:=fun K hK=>?_);go_simp;refine hK.out _ _ ?_;clear hK;refine NoPanic.normal ?_;clear s1 s2 s3 hap hup;go_wp2_with fail;refine wp_region_noPanic ?_;refine wp_region_held_drew (S:=(fun W'=>W'.cell? ⟨wr.heap.size+1,0,none⟩=some (.int .i64 sK)∧W'.cell? ⟨wr.heap.size+1,1,none⟩=some (.int .i64 sT)∧W'.cell? ⟨wr.heap.size+1,2,none⟩=some (.int .i64 sN)∧W'.cell? ⟨wr.heap.size+1,3,none⟩=some (.int .i64 sM)∧W'.cell? ⟨wr.heap.size+1,4,none⟩=some (.int .u64 sH)∧W'.cell? ⟨wr.heap.size+1,5,none⟩=some (.string sD)∧W'.cell? ⟨py,0,none⟩=some (.int .i64 re)∧W'.cell? ⟨py,1,none⟩=some (.int .u64 rh)∧W'.cell? ⟨py,2,none⟩=some (.int .i64 ra)∧W'.cell? ⟨py,3,none⟩=some (.int .i64 rn)∧W'.cell? ⟨py,4,none⟩=some (.string rd)∧W'.cell? ⟨py,5,none⟩=some (.int .i64 rc))) (by kernel_rfl) ?_ (fun hHeld=>?_)
     ·(try dsimp only)
      exact m0.cl
     refine tkH 0 (h:=?_);refine tkH 1 (h:=?_);refine tkH 4 (h:=?_);refine tkH 5 (h:=?_);refine wpAnyH_ready (rs:=[2,6]) (by kernel_rfl) (by simp) ?_;refine conH (h:=fun K hK=>?_) (hs:=?_)
     ·obtain⟨m11,po11⟩:=m0.alO ⟨sK,sT,sN,sM,sH,sD⟩ (k:=w6.heap.size) (by simp)
      go_simp;refine hK.out _ _ ?_ (fun hHeld=>?_)
      ·(try dsimp only)
       exact m11.cl
      clear hK;refine nmH (h:=?_);refine wpAnyH_ready (rs:=[3,6]) (by kernel_rfl) (by simp) ?_;refine conH (h:=fun K hK=>?_) (hs:=?_)
      ·have hW12:(w6.drew).alloc (.cells #[.int .i64 sK,.int .i64 sT,.int .i64 sN,.int .i64 sM,.int .u64 sH,.string sD] 32)=((w6).alloc (.cells #[.int .i64 sK,.int .i64 sT,.int .i64 sN,.int .i64 sM,.int .u64 sH,.string sD] 32)).drew:=rfl
       rw [hW12] at m11 po11;clear hW12;generalize ((w6).alloc (.cells #[.int .i64 sK,.int .i64 sT,.int .i64 sN,.int .i64 sM,.int .u64 sH,.string sD] 32)).drew=V12 at *;obtain⟨A12,k12,c12,w12,o12,ap12,m12,pf12⟩:=m11.appO po11 (by omega);refine step_append_is _ rfl _ _ 36 rfl ?_ ?_ ap12 ?_
       ·first|(go_simp;done)|rfl
       ·first|(go_simp;done)|rfl
       refine hK.out _ _ ?_ (fun hHeld=>?_)
       ·(try dsimp only)
        exact m12.cl
       clear hK;refine nmH (h:=?_);refine wpAnyH_ready (rs:=[6]) (by kernel_rfl) (by simp) ?_;refine conH (h:=fun K hK=>?_) (hs:=AllReadyH.nil)
       ·obtain⟨m13,pa13⟩:=m12.alA ⟨re,rh,ra,rn,rd,rc⟩ (k:=w12.heap.size) (by simp)
        go_simp;refine hK.out _ _ ?_ (fun hHeld=>?_)
        ·(try dsimp only)
         exact m13.cl
        clear hK;refine nmH (h:=?_);refine wpAnyH_ready (rs:=[7]) (by kernel_rfl) (by simp) ?_;refine conH (h:=fun K hK=>?_) (hs:=AllReadyH.nil)
        ·generalize (w12).alloc (.cells #[.int .i64 re,.int .u64 rh,.int .i64 ra,.int .i64 rn,.string rd,.int .i64 rc] 47)=V14 at *
         obtain⟨A14,k14,c14,w14,o14,ap14,m14⟩:=m13.appA pa13 (by omega);refine step_append_is _ rfl _ _ 37 rfl ?_ ?_ ap14 ?_
         ·first|(go_simp;done)|rfl
         ·first|(go_simp;done)|rfl
         refine hK.out _ _ ?_ (fun hHeld=>?_)
         ·(try dsimp only)
          exact m14.cl
         clear hK;refine nmH (h:=?_);refine tkH 8 (h:=?_);refine tkH 9 (h:=?_);refine wpAnyH_done (by kernel_rfl) ?_ _;refine NoPanic.normal ?_;have hz:=HD (hfin.out _ _ _ _ m14);clear hfin m0;go_wp2_with fail;go_roundg (l.length-(j+1))
         case measure=>omega
         case rel=>exact⟨j+1,by omega,rfl,by go_num,hz⟩
      refine conH (h:=fun K hK=>?_) (hs:=AllReadyH.nil)
      ·obtain⟨m12,pa12⟩:=m11.alA ⟨re,rh,ra,rn,rd,rc⟩ (k:=w6.heap.size+1) (by simp)
       have po12:=po11.al (.cells #[.int .i64 re,.int .u64 rh,.int .i64 ra,.int .i64 rn,.string rd,.int .i64 rc] 47) (k:=w6.heap.size+1) (by simp);go_simp;refine hK.out _ _ ?_ (fun hHeld=>?_)
       ·(try dsimp only)
        exact m12.cl
       clear hK;refine nmH (h:=?_);refine wpAnyH_ready (rs:=[3]) (by kernel_rfl) (by simp) ?_;refine conH (h:=fun K hK=>?_) (hs:=AllReadyH.nil)
       ·have hW13:((w6.drew).alloc (.cells #[.int .i64 sK,.int .i64 sT,.int .i64 sN,.int .i64 sM,.int .u64 sH,.string sD] 32)).alloc (.cells #[.int .i64 re,.int .u64 rh,.int .i64 ra,.int .i64 rn,.string rd,.int .i64 rc] 47)=(((w6).alloc (.cells #[.int .i64 sK,.int .i64 sT,.int .i64 sN,.int .i64 sM,.int .u64 sH,.string sD] 32)).alloc (.cells #[.int .i64 re,.int .u64 rh,.int .i64 ra,.int .i64 rn,.string rd,.int .i64 rc] 47)).drew:=rfl
        rw [hW13] at m12 po12 pa12;clear hW13;generalize (((w6).alloc (.cells #[.int .i64 sK,.int .i64 sT,.int .i64 sN,.int .i64 sM,.int .u64 sH,.string sD] 32)).alloc (.cells #[.int .i64 re,.int .u64 rh,.int .i64 ra,.int .i64 rn,.string rd,.int .i64 rc] 47)).drew=V13 at *;obtain⟨A13,k13,c13,w13,o13,ap13,m13,pf13⟩:=m12.appO po12 (by omega);have pa13:=pf13 _ _ pa12;refine step_append_is _ rfl _ _ 36 rfl ?_ ?_ ap13 ?_
        ·first|(go_simp;done)|rfl
        ·first|(go_simp;done)|rfl
        refine hK.out _ _ ?_ (fun hHeld=>?_)
        ·(try dsimp only)
         exact m13.cl
        clear hK;refine nmH (h:=?_);refine wpAnyH_ready (rs:=[7]) (by kernel_rfl) (by simp) ?_;refine conH (h:=fun K hK=>?_) (hs:=AllReadyH.nil)
        ·obtain⟨A14,k14,c14,w14,o14,ap14,m14⟩:=m13.appA pa13 (by omega)
         refine step_append_is _ rfl _ _ 37 rfl ?_ ?_ ap14 ?_
         ·first|(go_simp;done)|rfl
         ·first|(go_simp;done)|rfl
         refine hK.out _ _ ?_ (fun hHeld=>?_)
         ·(try dsimp only)
          exact m14.cl
         clear hK;refine nmH (h:=?_);refine tkH 8 (h:=?_);refine tkH 9 (h:=?_);refine wpAnyH_done (by kernel_rfl) ?_ _;refine NoPanic.normal ?_;have hz:=HD (hfin.out _ _ _ _ m14);clear hfin m0;go_wp2_with fail;go_roundg (l.length-(j+1))
         case measure=>omega
         case rel=>exact⟨j+1,by omega,rfl,by go_num,hz⟩
     refine conH (h:=fun K hK=>?_) (hs:=AllReadyH.nil)
     ·obtain⟨m11,pa11⟩:=m0.alA ⟨re,rh,ra,rn,rd,rc⟩ (k:=w6.heap.size) (by simp)
      go_simp;refine hK.out _ _ ?_ (fun hHeld=>?_)
      ·(try dsimp only)
       exact m11.cl
      clear hK;refine nmH (h:=?_);refine wpAnyH_ready (rs:=[2]) (by kernel_rfl) (by simp) ?_;refine conH (h:=fun K hK=>?_) (hs:=AllReadyH.nil)
      ·obtain⟨m12,po12⟩:=m11.alO ⟨sK,sT,sN,sM,sH,sD⟩ (k:=w6.heap.size+1) (by simp)
       have pa12:=pa11.al (.cells #[.int .i64 sK,.int .i64 sT,.int .i64 sN,.int .i64 sM,.int .u64 sH,.string sD] 32) (k:=w6.heap.size+1) (by simp);go_simp;refine hK.out _ _ ?_ (fun hHeld=>?_)
       ·(try dsimp only)
        exact m12.cl
       clear hK;refine nmH (h:=?_);refine wpAnyH_ready (rs:=[3]) (by kernel_rfl) (by simp) ?_;refine conH (h:=fun K hK=>?_) (hs:=AllReadyH.nil)
       ·have hW13:((w6.drew).alloc (.cells #[.int .i64 re,.int .u64 rh,.int .i64 ra,.int .i64 rn,.string rd,.int .i64 rc] 47)).alloc (.cells #[.int .i64 sK,.int .i64 sT,.int .i64 sN,.int .i64 sM,.int .u64 sH,.string sD] 32)=(((w6).alloc (.cells #[.int .i64 re,.int .u64 rh,.int .i64 ra,.int .i64 rn,.string rd,.int .i64 rc] 47)).alloc (.cells #[.int .i64 sK,.int .i64 sT,.int .i64 sN,.int .i64 sM,.int .u64 sH,.string sD] 32)).drew:=rfl
        rw [hW13] at m12 po12 pa12;clear hW13;generalize (((w6).alloc (.cells #[.int .i64 re,.int .u64 rh,.int .i64 ra,.int .i64 rn,.string rd,.int .i64 rc] 47)).alloc (.cells #[.int .i64 sK,.int .i64 sT,.int .i64 sN,.int .i64 sM,.int .u64 sH,.string sD] 32)).drew=V13 at *;obtain⟨A13,k13,c13,w13,o13,ap13,m13,pf13⟩:=m12.appO po12 (by omega);have pa13:=pf13 _ _ pa12;refine step_append_is _ rfl _ _ 36 rfl ?_ ?_ ap13 ?_
        ·first|(go_simp;done)|rfl
        ·first|(go_simp;done)|rfl
        refine hK.out _ _ ?_ (fun hHeld=>?_)
        ·(try dsimp only)
         exact m13.cl
        clear hK;refine nmH (h:=?_);refine wpAnyH_ready (rs:=[7]) (by kernel_rfl) (by simp) ?_;refine conH (h:=fun K hK=>?_) (hs:=AllReadyH.nil)
        ·obtain⟨A14,k14,c14,w14,o14,ap14,m14⟩:=m13.appA pa13 (by omega)
         refine step_append_is _ rfl _ _ 37 rfl ?_ ?_ ap14 ?_
         ·first|(go_simp;done)|rfl
         ·first|(go_simp;done)|rfl
         refine hK.out _ _ ?_ (fun hHeld=>?_)
         ·(try dsimp only)
          exact m14.cl
         clear hK;refine nmH (h:=?_);refine tkH 8 (h:=?_);refine tkH 9 (h:=?_);refine wpAnyH_done (by kernel_rfl) ?_ _;refine NoPanic.normal ?_;have hz:=HD (hfin.out _ _ _ _ m14);clear hfin m0;go_wp2_with fail;go_roundg (l.length-(j+1))
         case measure=>omega
         case rel=>exact⟨j+1,by omega,rfl,by go_num,hz⟩
  ·have d0:decide ((j:Int)<(l.length:Int))=false:=decide_eq_false (by omega)
   obtain rfl:j=l.length:=by omega
   go_wp2_with fail;obtain⟨⟨o2,B,M,hG,hv⟩⟩:=hR.out;rw [List.take_length] at hG;refine bodyPost_ret (v:=.tuple #[eP b,u11,u12,.int .i64 0]) ?_ rfl ⟨b,_,_,rfl,o2,B,mb,M,hG⟩;rw [results_tmp4 (t:=4) (u:=5) (v:=6) (z:=7) (by kernel_rfl)];rfl
end
end Go.Proofs.YtfliaggjkianpaaGreatDoor
