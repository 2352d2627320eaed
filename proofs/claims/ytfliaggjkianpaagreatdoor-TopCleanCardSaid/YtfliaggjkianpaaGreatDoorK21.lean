import Derived.Test.YtfliaggjkianpaaGreatDoorK20
set_option linter.unusedVariables false
set_option linter.unusedSimpArgs false
set_option maxRecDepth 100000
namespace Go.Proofs.YtfliaggjkianpaaGreatDoor
section
open Go.RowKit Flt
attribute [local irreducible] CpS.rv
def AdS.destroy(s:AdS)(i:Nat):Int×AdS:=match s.ts i with
 |none=>(6,s)
 |some t=>(0,{s with ts:=up1 s.ts i none,ser:=up1 s.ser i t.cp.next})
section
variable{S:Tag→Prop}{w w' w1:World}{o o' o1:Nat→Tag}{r:Tag}{b:Nat}{x:AdX}{B:List UInt8}{m:Nat}{cm:CmS}{p:PoS}{tbs:Nat→TbS}{s:AdS}
def AdEnd'(w:World)(o:Nat→Tag)(r:Tag)(b:Nat)(m:Nat)(s':AdS)(w':World):Prop:=∃o' B',AdAt w' o' r b B' m s'∧Fr (Und r) w o w' o'
theorem r_off{r:Tag}(hr:Root r)(n:Nat)(l:Tag):Off (fun v=>v=r) (r++n :: l):=eq_off hr.r9 n l
theorem r_tab{r:Tag}(hr:Root r):¬((fun v=>v=r) [9]):=fun e=>hr.r9 (by show r <+: [9];rw [e];exact List.prefix_refl _)
set_option maxHeartbeats 1000000 in
theorem adDestroy(i:Nat)(h:AdG w o r b x B m cm p tbs s)(hr:Root r)(hi:i<8)(hm:m≤700000) :
  Calls Tryz.prog 33 #[eP b,.int .i64 i] w fun e w'=>e=.returned (.int .i64 (s.destroy i).1)∧AdEnd' w o r b (m+7000) (s.destroy i).2 w':=by
 have hre:=HD (adReady b i w hi);have c1:w.cell? ⟨b,5+i,none⟩=some (tvF s x i):=h.blk.cell' (ad_cell hi);have hidx:0≤(i:Int)∧(i:Int)<8:=by omega
 have hkk:((i:Int)).toNat=i:=by omega
 obtain⟨tq,etv,etn,ets⟩:=tv_form s x i;rw [etv] at c1;unfold AdS.destroy;cases hsi:s.ts i with
 |none =>
  simp only;obtain rfl:=etn.2 hsi;have hend0:Hid (AdEnd' w o r b (m+7000) s w):=HD ⟨o,B,AdAt.mono ⟨x,cm,p,tbs,h⟩ (by omega),Fr.refl _ _ _⟩;clear h hr hi etv etn ets hsi;go_enter Tryz.func33,Tryz.ntmps33
  go_wp2_with fail;refine SM hre.out ?_;go_wp2_with fail;go_ret
  exact⟨rfl,hend0.out⟩
 |some t =>
  simp only;obtain rfl:=ets t hsi;have hall:=HD (show w.drew.cell? ⟨b,5+i,none⟩=some (eP (x.bt i))∧Calls Tryz.prog 57 #[eP (x.bt i)] w.drew (fun e w1=>e=.returned (.int .i64 t.cp.next)∧w1=w.drew)∧(w.drew.cell? ⟨b,13+i,none⟩=some (.int .i64 (s.ser i))∧w.drew.frozen? ⟨b,13+i,none⟩=false) ∧
    Calls Tryz.prog 58 #[eP (x.bt i)] (w.drew.setCell ⟨b,13+i,none⟩ (.int .i64 t.cp.next)) (fun e w2=>e=.returned (.tuple #[])∧w2.cell? ⟨b,4,none⟩=some (eP x.bp) ∧
     Calls Tryz.prog 59 #[eP x.bp,.int .i64 i] w2 (fun e w3=>∃v,e=.returned (.tuple #[v,.int .i64 0])∧w3.cell? ⟨b,5+i,none⟩=some (eP (x.bt i))∧w3.frozen? ⟨b,5+i,none⟩=false ∧
      AdEnd' w o r b (m+7000) {s with ts:=up1 s.ts i none,ser:=up1 s.ser i t.cp.next} (w3.setCell ⟨b,5+i,none⟩ (.pointer none)))) from by
   obtain⟨k1,k2,k3⟩:=h.ok.tn i t hi hsi;have hD:=h.fr (Fr.drew (S:=fun _=>False) (w:=w) (o:=o)) off_no;have fS:Fr (fun v=>v=r) w.drew o (w.drew.setCell ⟨b,13+i,none⟩ (.int .i64 t.cp.next)) o:=Fr.setCell (fun _=>hD.blk.1) _;have bS:=hD.blk.set (13+i) (.int .i64 t.cp.next);rw [ad_setS hi] at bS;have c5:=hD.blk.cell' (ad_cell hi);rw [etv] at c5;have tS:=(hD.tn i t hi hsi).other fS (r_off hr 4 [i]) (hD.cma.fr fS (r_off hr 2 [])) (hD.ar.fr fS (r_off hr 1 [])) rfl rfl;refine⟨c5,tnSerialA (hD.tn i t hi hsi),⟨hD.blk.cell' (ad_cellS hi),hD.blk.free _⟩,(tnDrop tS k1 (ad_ap3 hr i) (hD.tab.fr fS (r_tab hr)) hm).mono ?_⟩;rintro e w2 ⟨rfl,o2,B2,cm2,g1,g2,g3,g4,f2⟩;have b2:=bS.fr f2 s3_notr;have hp2:=(hD.po.fr fS (r_off hr 3 [])).fr f2 (s3_offn hr (by decide) (by decide) (by decide));have hlen:1≤(p.W i).length:=by rw [k1.wl];exact k3
   refine⟨rfl,b2.cell' (i:=4) rfl,(poDrop x.bp i w2 hp2 (not_pre hr.r9) hi hlen (by have:=h.ok.wlen hi;omega)).mono ?_⟩;rintro e w3 ⟨v,o3,rfl,p3,f3⟩;have b3:=b2.fr f3 (not_und r 3 []);have c5':=b3.cell' (ad_cell hi);rw [etv] at c5';have fS3:Fr (fun v=>v=r) w3 o3 (w3.setCell ⟨b,5+i,none⟩ (.pointer none)) o3:=Fr.setCell (fun _=>b3.1) _;refine⟨v,rfl,c5',b3.free _,o3,B2,⟨x,cm2,p.shrink i 0,tbs,?_,(g1.fr f3 (ad_off (p:=[]) (q:=[]) hr (by decide))).fr fS3 (r_off hr 2 []),(g2.fr f3 (ad_off (p:=[]) (q:=[]) hr (by decide))).fr fS3 (r_off hr 1 []),p3.fr fS3 (r_off hr 3 []),fun j u hj hju=>?_,?_,?_⟩,?_⟩
   ·have b4:=b3.set (5+i) (.pointer none)
    rw [ad_set hi] at b4;have e1:up1 (tvF s x) i (.pointer none)=tvF {s with ts:=up1 s.ts i none,ser:=up1 s.ser i t.cp.next} x:=by
     funext j
     unfold tvF;simp only;by_cases c:j=i
     ·subst c;rw [up1_same,up1_same]
     ·rw [up1_other c,up1_other c]
    have e2:up1 (fun j=>Value.int .i64 (s.ser j)) i (.int .i64 t.cp.next)=fun j=>Value.int .i64 (up1 s.ser i t.cp.next j):=by
     funext j
     by_cases c:j=i
     ·subst c;rw [up1_same,up1_same]
     ·rw [up1_other c,up1_other c]
    rw [e1,e2] at b4;exact b4
   ·have c:j≠i:=fun c=>by
     subst c;rw [show ({s with ts:=up1 s.ts j none,ser:=up1 s.ser j t.cp.next}:AdS).ts j=none from up1_same] at hju;cases hju
    rw [show ({s with ts:=up1 s.ts i none,ser:=up1 s.ser i t.cp.next}:AdS).ts j=s.ts j from up1_other c] at hju;rw [show (p.shrink i 0).W j=p.W j from up1_other c];have t1:=(hD.tn j u hj hju).other fS (r_off hr 4 [j]) (hD.cma.fr fS (r_off hr 2 [])) (hD.ar.fr fS (r_off hr 1 [])) rfl rfl;have t2:=t1.other f2 (s3_off hr (Ne.symm c)) g1 g2 g4.P g4.C;have g1':=g1.fr f3 (ad_off (p:=[]) (q:=[]) hr (by decide));have g2':=g2.fr f3 (ad_off (p:=[]) (q:=[]) hr (by decide));have t3:=t2.other f3 (ad_off (p:=[]) (q:=[j]) hr (by decide)) g1' g2' rfl rfl;exact t3.other fS3 (r_off hr 4 [j]) (g1'.fr fS3 (r_off hr 2 [])) (g2'.fr fS3 (r_off hr 1 [])) rfl rfl
   ·exact(((hD.tab.fr fS (r_tab hr)).fr f2 (s3_nine (ad_ap3 hr i))).fr f3 (not_pre hr.r9)).fr fS3 (r_tab hr)
   ·refine⟨g4.P.trans h.ok.P,g4.C.trans h.ok.C,g3.cmo,g3.len,g3.z,h.ok.po.shrink hi (Nat.zero_le _),fun j hj hju=>?_,fun j u hj hju=>?_,fun d hd hno=>?_⟩
    ·by_cases c:j=i
     ·subst c
      show up1 p.W j _ j=[]
      rw [up1_same,List.take_zero]
     ·rw [show ({s with ts:=up1 s.ts i none,ser:=up1 s.ser i t.cp.next}:AdS).ts j=s.ts j from up1_other c] at hju
      rw [show (p.shrink i 0).W j=p.W j from up1_other c];exact h.ok.non j hj hju
    ·have c:j≠i:=fun c=>by
      subst c;rw [show ({s with ts:=up1 s.ts j none,ser:=up1 s.ser j t.cp.next}:AdS).ts j=none from up1_same] at hju;cases hju
     rw [show ({s with ts:=up1 s.ts i none,ser:=up1 s.ser i t.cp.next}:AdS).ts j=s.ts j from up1_other c] at hju;rw [show (p.shrink i 0).W j=p.W j from up1_other c];obtain⟨a1,a2,a3⟩:=h.ok.tn j u hj hju;exact⟨a1.other g4 (h.ok.po.dj j i hj hi c) g3.cmo g3.z,a2,a3⟩
    ·by_cases c:(d:Int)∈p.W i
     ·have:=g3.ton.cov d c
      simpa using this
     ·rw [g4.sh d c,g4.P,g4.C]
      refine h.ok.un d hd fun j hj hin=>?_
      by_cases e:j=i
      ·subst e;exact c hin
      ·have:=hno j hj
       rw [show (p.shrink i 0).W j=p.W j from up1_other e] at this;exact this hin
   ·exact((((Fr.drew (S:=Und r) (w:=w) (o:=o)).trans (fS.mono fun v q=>by rw [q];exact Und.self r)).trans (f2.mono fun v q=>s3_und q)).trans (f3.mono fun v q=>q.up)).trans (fS3.mono fun v q=>by rw [q];exact Und.self r))
  obtain⟨hcc,hse,⟨z1,z2⟩,hdr⟩:=hall.out;replace hse:=HD hse;replace hdr:=HD hdr;clear h hr hi etv etn ets hsi hall hm;generalize ({s with ts:=up1 s.ts i none,ser:=up1 s.ser i t.cp.next}:AdS)=s' at *;generalize t.cp.next=nx at *;generalize x.bt i=bt at *;go_enter Tryz.func33,Tryz.ntmps33
  go_wp2_with fail;refine SM hre.out ?_;clear hre;go_wp2_with fail;refine wp_region_noPanic ?_;refine wp_region_T (S:=(fun W'=>W'.cell? ⟨b,5+i,none⟩=some (eP bt))) 7 (by kernel_rfl) ?_ (fun hHeld=>?_)
  ·exact hcc
  refine tkY 0 (h:=?_);refine tkY 1 (h:=?_);refine tkY 2 (h:=?_);refine tkY 4 (h:=?_);refine tkY 5 (h:=?_);refine onT 3 (h:=fun K hK=>?_);go_simp;refine SM hse.out ?_;go_wp2_with fail;refine hK.out _ _ ?_ (fun hHeld=>?_)
  ·exact hcc
  clear hK;refine nmT (h:=?_);refine tkY 6 (h:=?_);refine laT (h:=fun K hK=>?_);go_simp;refine hK.out _ _ ?_;clear hK;refine NoPanic.normal ?_;clear hse z1 z2;go_wp2_with fail;refine hdr.out.mono ?_;rintro e w2 ⟨rfl,c4,hpo⟩;replace hpo:=HD hpo;clear hdr hcc c1;go_wp2_with fail;refine hpo.out.mono ?_;rintro e w3 ⟨v,rfl,z1,z2,hfin⟩;replace hfin:=HD hfin;clear hpo c4;go_wp2_with fail;go_ret
  exact⟨rfl,hfin.out⟩
end
end
section
open Go.RowKit Flt
attribute [local irreducible] CpS.rv
def AdS.resize(s:AdS)(i:Nat)(col q:Int):Int×AdS:=match s.ts i with
 |none=>(6,s)
 |some t =>
  if s.sizeE col q≠0 then (2,s)
  else if t.fitsE q (col*(s.P/s.C:Nat))≠0 then (t.fitsE q (col*(s.P/s.C:Nat)),s)
  else if (s.free:Int)<max 0 (col-t.wl) then (9,s)
  else (0,s.set i (t.resized q col.toNat))
theorem IntsW.ints_o{w:World}{v:Value}{xs:List Int}(h:IntsW w v xs)(o:Nat→Tag):∃tw,Ints w o tw v xs:=by
 obtain⟨A,c,rfl,h⟩:=h;rcases Nat.eq_zero_or_pos xs.length with h0|h0
 ·exact⟨[],A,c,rfl,fun q=>by omega⟩
 ·obtain⟨g,off,rfl,h3⟩:=h h0
  exact⟨o g,some ⟨g,off,none⟩,c,rfl,fun _=>⟨g,off,rfl,block_lt (h3 0 h0),rfl,h3⟩⟩
theorem TbOk.more{cm:CmS}{W U:List Int}{tb:TbS}(h:TbOk cm W tb)(hn:U.Nodup)(hr:∀x∈U,0≤x∧x<cm.C)(hW:∀x∈W,x∈U)(hf:∀c:Nat,(c:Int)∈U→(c:Int)∉W→(cm.sh c).cnt=cm.P/cm.C):TbOk cm U tb:=by
 refine⟨h.rise,h.inv,fun v p hp=>?_,⟨hn,hr⟩,fun c hc=>?_⟩
 ·obtain⟨r1,r2,r3,r4⟩:=h.rng v p hp
  exact⟨r1,r2,hW _ r3,r4⟩
 ·by_cases e:(c:Int)∈W
  ·exact h.cov c e
  ·rw [hf c hc e]
   have:tb.pg.countP (fun x=>decide (x.2.toNat%cm.C=c))=0:=by
    rw [List.countP_eq_zero];intro y hy q;have:=(h.rng y.1 y.2 (mGet_of h.rise.1 hy)).2.2.1;rw [decide_eq_true_eq] at q;rw [q] at this;exact e this
   omega
section
variable{S:Tag→Prop}{w w' w1 w2 w3:World}{o o' o1 o2 o3:Nat→Tag}{r:Tag}{b:Nat}{x:AdX}{B:List UInt8}{m:Nat}{cm:CmS}{p:PoS}{tbs:Nat→TbS}{s:AdS}
theorem AdOk.wider(h:AdOk B cm p tbs s){i k:Nat}(hi:i<8){t:TnS}(ht:s.ts i=some t)(hk:k≤p.sh.cnt):TbOk cm ((p.grant i k).W i) (tbs i)∧((p.grant i k).W i).length=t.wl+k∧((p.grant i k).W i).Nodup∧∀y∈p.W i,y∈(p.grant i k).W i:=by
 obtain⟨g1,g2,g3,g4,g5⟩:=h.po.grant hi hk;obtain⟨k1,k2,k3⟩:=h.tn i t hi ht;have hsub:∀y∈p.W i,y∈(p.grant i k).W i:=fun y hy=>by
  show y∈up1 p.W i _ i;rw [up1_same,sorted_mem];exact List.mem_append_left _ hy
 refine⟨k1.hp.ton.more (g1.nd i hi) (by rw [h.C];exact g1.rg i hi) hsub fun c hc hn=>?_,by rw [g2,k1.wl],g1.nd i hi,hsub⟩;have hc2:(c:Int)∈up1 p.W i (sorted (p.W i++(p.sh.takes k).1)) i:=hc;rw [up1_same,sorted_mem] at hc2;rcases List.mem_append.1 hc2 with q|q
 ·exact absurd q hn
 ·have:=g5 _ q
  exact h.un c (by omega) (fun j hj=>g3 _ q j hj)
theorem AdG.rsz'(h:AdG w o r b x B m cm p tbs s)(hr:Root r){i kk k:Nat}(hi:i<8){t:TnS}(ht:s.ts i=some t)(hk:kk≤p.sh.cnt)(hk1:1≤k)(hkl:k≤((p.grant i kk).W i).length){q:Int}{m':Nat}{B2:List UInt8}{cm2:CmS}{tb2:TbS}{D:Int→Prop}
  (f1:Fr (Und (r++[3])) w o w1 o1) (a1:TnAt w2 o2 (r++[4,i]) (r++[2]) (r++[1]) (x.bt i) x.a x.c B2 m' cm2 (((p.grant i kk).W i).take k) tb2 (t.resized q k)) (a2:TnOk B2 cm2 (((p.grant i kk).W i).take k) tb2 (t.resized q k))
  (a3:MvRel B cm ((p.grant i kk).W i) (((p.grant i kk).W i).take k) (tbs i) B2 cm2 tb2 D) (f2:Fr (S3 (r++[4,i]) (r++[2]) (r++[1])) w1 o1 w2 o2) (p3:PoAt w3 o3 (r++[3]) x.bp ((p.grant i kk).shrink i k)) (f3:Fr (Und (r++[3])) w2 o2 w3 o3) :
  AdEnd' w o r b m' (s.set i (t.resized q k)) w3:=by
 obtain⟨g1,g2,g3,g4,g5⟩:=h.ok.po.grant hi hk;obtain⟨e1,e2,e3,e4⟩:=h.ok.wider hi ht hk;obtain⟨k1,k2,k3⟩:=h.ok.tn i t hi ht;obtain⟨gc,ga⟩:=a1.parts;have hP:=a3.keep.P;have hC:=a3.keep.C;have hWj:∀j,j≠i→(((p.grant i kk).shrink i k).W j)=p.W j:=fun j hj=>(up1_other hj).trans (up1_other hj)
 have hWi:(((p.grant i kk).shrink i k).W i)=((p.grant i kk).W i).take k:=up1_same;have hgj:∀j,j≠i→(p.grant i kk).W j=p.W j:=fun j hj=>up1_other hj
 refine⟨o3,B2,⟨x,cm2,(p.grant i kk).shrink i k,up1 tbs i tb2,?_,gc.fr f3 (ad_off (p:=[]) (q:=[]) hr (by decide)),ga.fr f3 (ad_off (p:=[]) (q:=[]) hr (by decide)),p3,fun j u hj hju=>?_,?_,⟨hP.trans h.ok.P,hC.trans h.ok.C,a3.ok,a2.hp.len,a3.z,g1.shrink hi hkl,fun j hj hju=>?_,fun j u hj hju=>?_,fun d hd hno=>?_⟩⟩,((f1.mono fun v q=>q.up).trans (f2.mono fun v q=>s3_und q)).trans (f3.mono fun v q=>q.up)⟩
 ·have:=((h.blk.fr f1 (not_und r 3 [])).fr f2 s3_notr).fr f3 (not_und r 3 [])
  rw [tvF_set ht];exact this
 ·by_cases c:j=i
  ·subst c
   rw [show (s.set j (t.resized q k)).ts j=some (t.resized q k) from up1_same] at hju;obtain rfl:=Option.some.inj hju;rw [up1_same,hWi];exact a1.other f3 (ad_off (p:=[]) (q:=[j]) hr (by decide)) (gc.fr f3 (ad_off (p:=[]) (q:=[]) hr (by decide))) (ga.fr f3 (ad_off (p:=[]) (q:=[]) hr (by decide))) rfl rfl
  ·rw [show (s.set i (t.resized q k)).ts j=s.ts j from up1_other c] at hju
   rw [up1_other c,hWj j c];have t1:=(h.tn j u hj hju).other f1 (ad_off (p:=[]) (q:=[j]) hr (by decide)) (h.cma.fr f1 (ad_off (p:=[]) (q:=[]) hr (by decide))) (h.ar.fr f1 (ad_off (p:=[]) (q:=[]) hr (by decide))) rfl rfl;have t2:=t1.other f2 (s3_off hr (Ne.symm c)) gc ga hP hC;exact t2.other f3 (ad_off (p:=[]) (q:=[j]) hr (by decide)) (gc.fr f3 (ad_off (p:=[]) (q:=[]) hr (by decide))) (ga.fr f3 (ad_off (p:=[]) (q:=[]) hr (by decide))) rfl rfl
 ·exact((h.tab.fr f1 (not_pre hr.r9)).fr f2 (s3_nine (ad_ap3 hr i))).fr f3 (not_pre hr.r9)
 ·by_cases c:j=i
  ·subst c
   rw [show (s.set j (t.resized q k)).ts j=some (t.resized q k) from up1_same] at hju;cases hju
  ·rw [show (s.set i (t.resized q k)).ts j=s.ts j from up1_other c] at hju
   rw [hWj j c];exact h.ok.non j hj hju
 ·by_cases c:j=i
  ·subst c
   rw [show (s.set j (t.resized q k)).ts j=some (t.resized q k) from up1_same] at hju;obtain rfl:=Option.some.inj hju;rw [up1_same,hWi];exact⟨a2,k2,hk1⟩
  ·rw [show (s.set i (t.resized q k)).ts j=s.ts j from up1_other c] at hju
   rw [up1_other c,hWj j c];obtain⟨b1,b2,b3⟩:=h.ok.tn j u hj hju;refine⟨b1.other a3.keep (fun y hy=>?_) a3.ok a3.z,b2,b3⟩;have:=g1.dj j i hj hi c y (by rw [hgj j c];exact hy);exact this
 ·by_cases c:(d:Int)∈(p.grant i kk).W i
  ·have hnt:(d:Int)∉((p.grant i kk).W i).take k:=by
    have:=hno i hi
    rwa [hWi] at this
   have h1:=a3.ton.cov d c;have:tb2.pg.countP (fun y=>decide (y.2.toNat%cm2.C=d))=0:=by
    rw [List.countP_eq_zero];intro y hy q;have:=(a2.hp.ton.rng y.1 y.2 (mGet_of a2.hp.ton.rise.1 hy)).2.2.1;rw [decide_eq_true_eq] at q;rw [q] at this;exact hnt this
   omega
  ·rw [a3.keep.sh d c,hP,hC]
   refine h.ok.un d hd fun j hj hin=>?_
   by_cases e:j=i
   ·subst e;exact c (e4 _ hin)
   ·have:=hno j hj
    rw [hWj j e] at this;exact this hin
set_option maxHeartbeats 2000000 in
theorem adResize(i:Nat)(col q:Int)(h:AdG w o r b x B m cm p tbs s)(hr:Root r)(hi:i<8)(hm:m≤600000) :
  Calls Tryz.prog 32 #[eP b,.int .i64 i,.int .i64 col,.int .i64 q] w fun e w'=>e=.returned (.int .i64 (s.resize i col q).1)∧AdEnd' w o r b (m+20000) (s.resize i col q).2 w':=by
 have hre:=HD (adReady b i w hi);have c1:w.cell? ⟨b,5+i,none⟩=some (tvF s x i):=h.blk.cell' (ad_cell hi);have hidx:0≤(i:Int)∧(i:Int)<8:=by omega
 have hkk:((i:Int)).toNat=i:=by omega
 obtain⟨tq,etv,etn,ets⟩:=tv_form s x i;rw [etv] at c1;have hend0:∀{w1:World} {o1:Nat→Tag},Fr (fun _=>False) w o w1 o1→AdEnd' w o r b (m+20000) s w1:=fun f=>⟨_,B,AdAt.mono ⟨x,cm,p,tbs,h.fr f off_no⟩ (by omega),f.mono fun v q=>q.elim⟩
 unfold AdS.resize;cases hsi:s.ts i with
 |none =>
  simp only;obtain rfl:=etn.2 hsi;replace hend0:=HD (hend0 (Fr.refl _ w o));clear h hr hi etv etn ets hsi;go_enter Tryz.func32,Tryz.ntmps32
  go_wp2_with fail;go_step3
  go_wp2_with fail;refine SM hre.out ?_;go_wp2_with fail;rw [Exit.noGoto_ret];go_ret
  exact⟨rfl,hend0.out⟩
 |some t =>
  simp only;obtain rfl:=ets t hsi;have hsz:=HD (adSize b col q w h);by_cases hz:s.sizeE col q=0
  ·rw [if_neg (fun k=>k hz)]
   rw [hz] at hsz;have hz2:mayB q=true∧1≤col∧col≤s.C:=by
    unfold AdS.sizeE at hz;by_cases c:mayB q=true∧1≤col∧col≤s.C
    ·exact c
    ·rw [if_neg c] at hz;cases hz
   obtain⟨hq,hc1,hc2⟩:=hz2;obtain⟨k1,k2,k3,k4,k5⟩:=h.ok.c32;obtain⟨t1,t2,t3⟩:=h.ok.tn i t hi hsi;obtain⟨k,rfl⟩:∃k:Nat,col=k:=⟨col.toNat,by omega⟩
   have hmul:k*(s.P/s.C)≤131072:=Nat.le_trans (Nat.mul_le_mul (show k≤32 by omega) k5) (by decide);have u1:=IntWalk.i64_in ((k:Int)*(s.P/s.C:Nat)) (by rw [←Int.natCast_mul];omega);have fD:Fr (fun _=>False) w o w.drew o:=Fr.drew;have fDD:Fr (fun _=>False) w o w.drew.drew o:=fD.trans Fr.drew;have hD:=h.fr fD off_no;have hDD:=h.fr fDD off_no;have hc8:Hid (w.drew.cell? ⟨b,5+i,none⟩=some (eP (x.bt i))∧w.drew.cell? ⟨b,3,none⟩=some (eP x.c)):=HD ⟨c1,h.blk.cell' (i:=3) rfl⟩;have hc8':Hid (w.drew.drew.cell? ⟨b,5+i,none⟩=some (eP (x.bt i))∧w.drew.drew.cell? ⟨b,3,none⟩=some (eP x.c)):=HD ⟨c1,h.blk.cell' (i:=3) rfl⟩;have hea:=HD (cmEach x.c w.drew hD.cma);rw [h.ok.P,h.ok.C] at hea;have hfi:=HD (tnFits q ((k:Int)*(s.P/s.C:Nat)) (hDD.tn i t hi hsi) t1);by_cases hd:t.fitsE q ((k:Int)*(s.P/s.C:Nat))=0
   ·rw [if_neg (fun q=>q hd)]
    rw [hd] at hfi;have c4:w.drew.drew.cell? ⟨b,4,none⟩=some (eP x.bp):=h.blk.cell' (i:=4) rfl;have hfree:=h.ok.free;have hwl:=h.ok.wlen hi;have hwl2:=t1.wl;have hwin:=HD (show Calls Tryz.prog 54 #[eP x.bp,.int .i64 i] w.drew.drew (fun e w1=>∃A c,e=.returned (.slice A t.wl c)∧Below w.drew.drew.heap.size w.drew.drew w1) from by
     refine(poWindow x.bp i w.drew.drew hDD.po hi (by omega) [1]).mono ?_;rintro e w1 ⟨v,rfl,r1,hb⟩;obtain⟨A,c,rfl,_⟩:=r1.ints;exact⟨A,c,by rw [hwl2],hb⟩)
    have u2:=IntWalk.i64_in ((k:Int)-t.wl) (by omega);obtain⟨kk,ekk⟩:∃kk:Nat,max 0 ((k:Int)-t.wl)=kk:=⟨(max 0 ((k:Int)-t.wl)).toNat,by omega⟩
    rw [ekk];by_cases hf:(s.free:Int)<kk
    ·rw [if_pos hf]
     simp only;have hgr:=HD (show ∀w1,Below w.drew.drew.heap.size w.drew.drew w1→w1.cell? ⟨b,4,none⟩=some (eP x.bp)∧Calls Tryz.prog 51 #[eP x.bp,.int .i64 i,.int .i64 kk] w1 (fun e w2=>e=.returned (.tuple #[.slice none 0 0,.int .i64 9])∧w2=w1)∧AdEnd' w o r b (m+20000) s w1 from fun w1 hb=>by
      have h1:=hDD.fr (Fr.below (S:=fun _=>False) hb) off_no;exact⟨h1.blk.cell' (i:=4) rfl,poGrant_no x.bp i kk w1 h1.po hi (by omega),hend0 (fDD.trans (Fr.below hb))⟩)
     clear h hr hi etv etn ets hsi hd hmul hq hc1 hc2 k1 k2 k3 k4 k5 hz hend0 hf hfree hD hDD t1 t2 t3 hwl hwl2 fD fDD;generalize ((s.P/s.C:Nat):Int)=E at *;generalize x.bt i=bt at *;go_enter Tryz.func32,Tryz.ntmps32
     go_wp2_with fail;refine wp_scope_jumps 0 (fun a' w'=>AdEnd' w o r b (m+20000) s w'∧∃fv:Nat→Value,a'={tmps:=#[fv 0,fv 1,fv 2,fv 3,fv 4,fv 5,fv 6,fv 7,fv 8,fv 9,.int .i64 9,fv 11,fv 12,fv 13,fv 14,fv 15,fv 16,fv 17,fv 18,fv 19,fv 20,fv 21,fv 22,fv 23,fv 24,fv 25,fv 26,fv 27,fv 28,fv 29,fv 30,fv 31,fv 32,fv 33,fv 34,fv 35,fv 36,fv 37,fv 38,fv 39,fv 40,fv 41,fv 42,fv 43,fv 44,fv 45,fv 46,fv 47,fv 48,fv 49,fv 50,fv 51,fv 52,fv 53,fv 54,fv 55,fv 56,fv 57,fv 58,fv 59,fv 60,fv 61,fv 62,fv 63,fv 64,fv 65,fv 66,fv 67,fv 68,fv 69,fv 70,fv 71,fv 72,fv 73,fv 74,fv 75,fv 76,fv 77,fv 78,fv 79,fv 80,fv 81,fv 82,fv 83,fv 84,fv 85,fv 86,fv 87,fv 88,fv 89,fv 90,fv 91],defers:=[]}) (fun _ _=>0) rfl ?_ ?_
     ·go_wp2_with fail
      refine SM hre.out ?_;go_wp2_with fail;refine SM hsz.out ?_;go_wp2_with fail;refine wp_region_noPanic ?_;refine wp_region_held_drew (S:=(fun W'=>W'.cell? ⟨b,5+i,none⟩=some (eP bt)∧W'.cell? ⟨b,3,none⟩=some (eP x.c))) (by kernel_rfl) ?_ (fun hHeld=>?_)
      ·(first|exact hc8.out|exact hc8'.out)
      refine tkH 0 (h:=?_);refine tkH 1 (h:=?_);refine tkH 2 (h:=?_);refine tkH 3 (h:=?_);refine tkH 4 (h:=?_);refine tkH 5 (h:=?_);refine tkH 6 (h:=?_);refine tkH 7 (h:=?_);refine tkH 8 (h:=?_);refine tkH 9 (h:=?_);refine tkH 10 (h:=?_);refine tkH 11 (h:=?_);refine onH 12 (h:=fun K hK=>?_);go_simp;refine SM hea.out ?_;go_wp2_with fail;refine hK.out _ _ ?_ (fun hHeld=>?_)
      ·(first|exact hc8.out|exact hc8'.out)
      clear hK;refine nmH (h:=?_);refine tkH 13 (h:=?_);refine onH 14 (h:=fun K hK=>?_);go_simp;refine SM hfi.out ?_;go_wp2_with fail;refine hK.out _ _ ?_ (fun hHeld=>?_)
      ·(first|exact hc8.out|exact hc8'.out)
      clear hK;refine nmH (h:=?_);refine tkH 15 (h:=?_);refine wpAnyH_done (by kernel_rfl) ?_ _;refine NoPanic.normal ?_;clear hc8 hc8' hea hfi c1;go_wp2_with fail;refine hwin.out.mono ?_;rintro e w1 ⟨A,c,rfl,hb⟩;obtain⟨c4',hg2,hE⟩:=hgr.out w1 hb;replace hg2:=HD hg2;replace hE:=HD hE;clear hwin hgr c4 hb;go_wp2_with fail;refine SM hg2.out ?_;go_wp2_with fail;go_step3
      exact⟨rfl,hE.out,fun k=>List.getD [_,_,_,_,_,_,_,_,_,_,undef,_,_,_,_,_,_,_,_,_,_,_,_,_,_,_,_,_,_,_,_,_,_,_,_,_,_,_,_,_,_,_,_,_,_,_,_,_,_,_,_,_,_,_,_,_,_,_,_,_,_,_,_,_,_,_,_,_,_,_,_,_,_,_,_,_,_,_,_,_,_,_,_,_,_,_,_,_,_,_,_,_] k undef,rfl⟩
     ·rintro a' w2 ⟨hE,fv,rfl⟩
      replace hE:=HD hE;go_wp2_with fail;simp only [Exit.jump];go_ret
      exact⟨rfl,hE.out⟩
    ·rw [if_neg hf]
     simp only;rw [Int.toNat_natCast];have hkc:kk≤p.sh.cnt:=by omega
     obtain⟨e1,e2,e3,e4⟩:=h.ok.wider hi hsi hkc;have hU1:k≤((p.grant i kk).W i).length:=by rw [e2];omega
     have hU2:((p.grant i kk).W i).length≤1000:=by rw [e2];omega
     have hall:=HD (show ∀w1,Below w.drew.drew.heap.size w.drew.drew w1→w1.cell? ⟨b,4,none⟩=some (eP x.bp)∧Calls Tryz.prog 51 #[eP x.bp,.int .i64 i,.int .i64 kk] w1 (fun e w2=>∃A n c,e=.returned (.tuple #[.slice A n c,.int .i64 0]) ∧
       (w2.drew.cell? ⟨b,5+i,none⟩=some (eP (x.bt i))∧w2.drew.cell? ⟨b,4,none⟩=some (eP x.bp)) ∧
       Calls Tryz.prog 54 #[eP x.bp,.int .i64 i] w2.drew (fun e w3=>∃g n cap,e=.returned (.slice (some ⟨g,0,none⟩) n cap)∧(k:Int)≤cap∧(w3.cell? ⟨b,5+i,none⟩=some (eP (x.bt i))∧w3.cell? ⟨b,4,none⟩=some (eP x.bp)) ∧
        Calls Tryz.prog 55 #[eP (x.bt i),.int .i64 q,.slice (some ⟨g,0,none⟩) k cap] w3 (fun e w4=>e=.returned (.int .i64 0)∧(w4.cell? ⟨b,5+i,none⟩=some (eP (x.bt i))∧w4.cell? ⟨b,4,none⟩=some (eP x.bp)) ∧
         Calls Tryz.prog 56 #[eP x.bp,.int .i64 i,.int .i64 k] w4 (fun e w5=>∃v,e=.returned (.tuple #[v,.int .i64 0])∧AdEnd' w o r b (m+20000) (s.set i (t.resized q k)) w5)))) from fun w1 hb=>by
      have f1:=fDD.trans (Fr.below (S:=fun _=>False) (o:=o) hb);have h1:=h.fr f1 off_no;refine⟨h1.blk.cell' (i:=4) rfl,(poGrant x.bp i kk w1 h1.po (not_pre hr.r9) hi hkc (by omega) (by omega)).mono ?_⟩;rintro e w2 ⟨v,o2,rfl,r2,p2,f2⟩;obtain⟨A,c,rfl,_⟩:=r2.ints;have fA:Fr (Und (r++[3])) w o w2.drew o2:=((f1.mono fun v q=>q.elim).trans f2).trans Fr.drew;have b2:=h.blk.fr fA (not_und r 3 []);have c5:=b2.cell' (ad_cell hi);rw [etv] at c5;have p2d:=p2.fr (Fr.drew (S:=fun _=>False)) off_no;refine⟨A,_,c,rfl,⟨c5,b2.cell' (i:=4) rfl⟩,(poWindow x.bp i w2.drew p2d hi hU2 [1]).mono ?_⟩;rintro e w3 ⟨v3,rfl,r3,hb3⟩;have r3':=r3;rcases r3.cases with ⟨_,e⟩|⟨g,cap,cur,rfl,_,hcap,_⟩
      ·rw [e] at hU1;simp at hU1;omega
      have f3:Fr (fun _=>False) w2.drew o2 w3 o2:=Fr.below hb3;have fB:Fr (Und (r++[3])) w o w3 o2:=fA.trans (f3.mono fun v q=>q.elim);have b3:=h.blk.fr fB (not_und r 3 []);have c5':=b3.cell' (ad_cell hi);rw [etv] at c5';refine⟨g,_,cap,rfl,by omega,⟨c5',b3.cell' (i:=4) rfl⟩,?_⟩;have hcm:=h.cma.fr fB (ad_off (p:=[]) (q:=[]) hr (by decide));have har:=h.ar.fr fB (ad_off (p:=[]) (q:=[]) hr (by decide));have htn:=(h.tn i t hi hsi).other fB (ad_off (p:=[]) (q:=[i]) hr (by decide)) hcm har rfl rfl;have htl:(((p.grant i kk).W i).take k).length=k:=by rw [List.length_take,Nat.min_eq_left hU1]
      have hints:=(r3'.takeI hU1)
      obtain⟨tw,hints'⟩:=hints.w.ints_o o2;have hpr:=tnResize (U:=(p.grant i kk).W i) (W:=((p.grant i kk).W i).take k) q (.slice (some ⟨g,0,none⟩) k cap) htn t1 (ad_ap3 hr i) (by omega) hints' (by rw [htl,h.ok.P,h.ok.C,Int.natCast_mul];exact hd) e1 (fun y hy=>List.mem_of_mem_take hy) (e3.sublist (List.take_sublist _ _));refine hpr.mono ?_;rintro e w4 ⟨rfl,g4⟩;rw [htl] at g4;have g4':=g4;obtain⟨o4,B4,cm4,tb4,D4,a1,a2,a3,f4⟩:=g4;have b4:=b3.fr f4 s3_notr;have c5'':=b4.cell' (ad_cell hi);rw [etv] at c5'';have p4:=(p2d.fr f3 off_no).fr f4 (s3_offn hr (by decide) (by decide) (by decide));refine⟨rfl,⟨c5'',b4.cell' (i:=4) rfl⟩,(poShrink x.bp i k w4 p4 (not_pre hr.r9) hi hU1 (by omega) hU2).mono ?_⟩;rintro e w5 ⟨v5,o5,rfl,p5,f5⟩;refine⟨v5,rfl,?_⟩;exact AdG.rsz' h hr hi hsi hkc (by omega) hU1 fB a1 a2 a3 f4 p5 f5)
     clear h hr hi etv etn ets hsi hd hmul hq hc1 hc2 k1 k2 k3 k4 k5 hz hend0 hf hfree hD hDD t1 t2 t3 hwl hwl2 fD fDD hkc e1 e2 e3 e4 hU1 hU2;generalize s.set i (t.resized q k)=s' at *;generalize ((s.P/s.C:Nat):Int)=E at *;generalize x.bt i=bt at *;have hkt:((k:Int)).toNat=k:=by omega
     go_enter Tryz.func32,Tryz.ntmps32
     go_wp2_with fail;go_step3
     go_wp2_with fail;refine SM hre.out ?_;go_wp2_with fail;refine SM hsz.out ?_;go_wp2_with fail;refine wp_region_noPanic ?_;refine wp_region_held_drew (S:=(fun W'=>W'.cell? ⟨b,5+i,none⟩=some (eP bt)∧W'.cell? ⟨b,3,none⟩=some (eP x.c))) (by kernel_rfl) ?_ (fun hHeld=>?_)
     ·(first|exact hc8.out|exact hc8'.out)
     refine tkH 0 (h:=?_);refine tkH 1 (h:=?_);refine tkH 2 (h:=?_);refine tkH 3 (h:=?_);refine tkH 4 (h:=?_);refine tkH 5 (h:=?_);refine tkH 6 (h:=?_);refine tkH 7 (h:=?_);refine tkH 8 (h:=?_);refine tkH 9 (h:=?_);refine tkH 10 (h:=?_);refine tkH 11 (h:=?_);refine onH 12 (h:=fun K hK=>?_);go_simp;refine SM hea.out ?_;go_wp2_with fail;refine hK.out _ _ ?_ (fun hHeld=>?_)
     ·(first|exact hc8.out|exact hc8'.out)
     clear hK;refine nmH (h:=?_);refine tkH 13 (h:=?_);refine onH 14 (h:=fun K hK=>?_);go_simp;refine SM hfi.out ?_;go_wp2_with fail;refine hK.out _ _ ?_ (fun hHeld=>?_)
     ·(first|exact hc8.out|exact hc8'.out)
     clear hK;refine nmH (h:=?_);refine tkH 15 (h:=?_);refine wpAnyH_done (by kernel_rfl) ?_ _;refine NoPanic.normal ?_;clear hc8 hc8' hea hfi c1 hsz hre;go_wp2_with fail;refine hwin.out.mono ?_;rintro e w1 ⟨A,c,rfl,hb⟩;obtain⟨c4',hg2⟩:=hall.out w1 hb;replace hg2:=HD hg2;clear hwin hall c4 hb;go_wp2_with fail;refine hg2.out.mono ?_;rintro e w2 ⟨A2,n2,c2,rfl,hcc,hwi⟩;replace hwi:=HD hwi;clear hg2 c4';go_wp2_with fail;refine wp_region_noPanic ?_;refine wp_region_held_drew (S:=(fun W'=>W'.cell? ⟨b,5+i,none⟩=some (eP bt)∧W'.cell? ⟨b,4,none⟩=some (eP x.bp))) (by kernel_rfl) ?_ (fun hHeld=>?_)
     ·(first|exact hcc|exact hcs|exact hct)
     refine tkH 0 (h:=?_);refine tkH 1 (h:=?_);refine tkH 2 (h:=?_);refine tkH 3 (h:=?_);refine tkH 4 (h:=?_);refine tkH 5 (h:=?_);refine tkH 6 (h:=?_);refine tkH 7 (h:=?_);refine tkH 8 (h:=?_);refine tkH 9 (h:=?_);refine tkH 10 (h:=?_);refine tkH 11 (h:=?_);refine tkH 13 (h:=?_);refine onH 12 (h:=fun K hK=>?_);go_simp;refine hwi.out.mono ?_;rintro e w3 ⟨g,n,cap,rfl,hkcap,hcs,hrs⟩;replace hrs:=HD hrs;go_wp2_with fail;refine hK.out _ _ ?_ (fun hHeld=>?_)
     ·(first|exact hcc|exact hcs|exact hct)
     clear hK;refine nmH (h:=?_);refine tkH 14 (h:=?_);refine onH 15 (h:=fun K hK=>?_);go_simp;refine hrs.out.mono ?_;rintro e w4 ⟨rfl,hct,hsh⟩;replace hsh:=HD hsh;go_wp2_with fail;refine hK.out _ _ ?_ (fun hHeld=>?_)
     ·(first|exact hcc|exact hcs|exact hct)
     clear hK;refine nmH (h:=?_);refine tkH 16 (h:=?_);refine wpAnyH_done (by kernel_rfl) ?_ _;refine NoPanic.normal ?_;clear hcc hwi hcs hrs hkcap;go_wp2_with fail;refine hsh.out.mono ?_;rintro e w5 ⟨v,rfl,hfin⟩;replace hfin:=HD hfin;clear hsh hct;go_wp2_with fail;go_step3
     go_wp2_with fail;rw [Exit.noGoto_ret];go_ret
     exact⟨rfl,hfin.out⟩
   ·rw [if_pos hd]
    simp only;have hE:=HD (hend0 fDD);have hc:(t.fitsE q ((k:Int)*(s.P/s.C:Nat)) != 0)=true:=by simpa using hd
    clear h hr hi etv etn ets hsi hd hmul hq hc1 hc2 k1 k2 k3 k4 k5 hz hend0 hD hDD t1 t2 t3 fD fDD;generalize t.fitsE q ((k:Int)*(s.P/s.C:Nat))=fe at *;generalize ((s.P/s.C:Nat):Int)=E at *;generalize x.bt i=bt at *;go_enter Tryz.func32,Tryz.ntmps32
    go_wp2_with fail;refine wp_scope_jumps 0 (fun a' w'=>w'=w.drew.drew∧∃fv:Nat→Value,a'={tmps:=#[fv 0,fv 1,fv 2,fv 3,fv 4,fv 5,fv 6,fv 7,fv 8,fv 9,.int .i64 fe,fv 11,fv 12,fv 13,fv 14,fv 15,fv 16,fv 17,fv 18,fv 19,fv 20,fv 21,fv 22,fv 23,fv 24,fv 25,fv 26,fv 27,fv 28,fv 29,fv 30,fv 31,fv 32,fv 33,fv 34,fv 35,fv 36,fv 37,fv 38,fv 39,fv 40,fv 41,fv 42,fv 43,fv 44,fv 45,fv 46,fv 47,fv 48,fv 49,fv 50,fv 51,fv 52,fv 53,fv 54,fv 55,fv 56,fv 57,fv 58,fv 59,fv 60,fv 61,fv 62,fv 63,fv 64,fv 65,fv 66,fv 67,fv 68,fv 69,fv 70,fv 71,fv 72,fv 73,fv 74,fv 75,fv 76,fv 77,fv 78,fv 79,fv 80,fv 81,fv 82,fv 83,fv 84,fv 85,fv 86,fv 87,fv 88,fv 89,fv 90,fv 91],defers:=[]}) (fun _ _=>0) rfl ?_ ?_
    ·go_wp2_with fail
     refine SM hre.out ?_;go_wp2_with fail;refine SM hsz.out ?_;go_wp2_with fail;refine wp_region_noPanic ?_;refine wp_region_held_drew (S:=(fun W'=>W'.cell? ⟨b,5+i,none⟩=some (eP bt)∧W'.cell? ⟨b,3,none⟩=some (eP x.c))) (by kernel_rfl) ?_ (fun hHeld=>?_)
     ·(first|exact hc8.out|exact hc8'.out)
     refine tkH 0 (h:=?_);refine tkH 1 (h:=?_);refine tkH 2 (h:=?_);refine tkH 3 (h:=?_);refine tkH 4 (h:=?_);refine tkH 5 (h:=?_);refine tkH 6 (h:=?_);refine tkH 7 (h:=?_);refine tkH 8 (h:=?_);refine tkH 9 (h:=?_);refine tkH 10 (h:=?_);refine tkH 11 (h:=?_);refine onH 12 (h:=fun K hK=>?_);go_simp;refine SM hea.out ?_;go_wp2_with fail;refine hK.out _ _ ?_ (fun hHeld=>?_)
     ·(first|exact hc8.out|exact hc8'.out)
     clear hK;refine nmH (h:=?_);refine tkH 13 (h:=?_);refine onH 14 (h:=fun K hK=>?_);go_simp;refine SM hfi.out ?_;go_wp2_with fail;refine hK.out _ _ ?_ (fun hHeld=>?_)
     ·(first|exact hc8.out|exact hc8'.out)
     clear hK;refine nmH (h:=?_);refine tkH 15 (h:=?_);refine wpAnyH_done (by kernel_rfl) ?_ _;refine NoPanic.normal ?_;clear hc8 hc8' hea hfi c1;go_wp2_with fail;go_step3
     exact⟨rfl,rfl,fun k=>List.getD [_,_,_,_,_,_,_,_,_,_,undef,_,_,_,_,_,_,_,_,_,_,_,_,_,_,_,_,_,_,_,_,_,_,_,_,_,_,_,_,_,_,_,_,_,_,_,_,_,_,_,_,_,_,_,_,_,_,_,_,_,_,_,_,_,_,_,_,_,_,_,_,_,_,_,_,_,_,_,_,_,_,_,_,_,_,_,_,_,_,_,_,_] k undef,rfl⟩
    ·rintro a' w2 ⟨rfl,fv,rfl⟩
     go_wp2_with fail;simp only [Exit.jump];go_ret
     exact⟨rfl,hE.out⟩
  ·rw [if_pos hz]
   simp only;have hz3:s.sizeE col q=2:=by
    unfold AdS.sizeE at hz ⊢;by_cases c:mayB q=true∧1≤col∧col≤s.C
    ·rw [if_pos c] at hz;exact absurd rfl hz
    ·rw [if_neg c]
   rw [hz3] at hsz;replace hend0:=HD (hend0 (Fr.refl _ w o));clear h hr hi etv etn ets hsi hz hz3;go_enter Tryz.func32,Tryz.ntmps32
   go_wp2_with fail;refine wp_scope_jumps 0 (fun a' w'=>w'=w∧∃fv:Nat→Value,a'={tmps:=#[fv 0,fv 1,fv 2,fv 3,fv 4,fv 5,fv 6,fv 7,fv 8,fv 9,.int .i64 2,fv 11,fv 12,fv 13,fv 14,fv 15,fv 16,fv 17,fv 18,fv 19,fv 20,fv 21,fv 22,fv 23,fv 24,fv 25,fv 26,fv 27,fv 28,fv 29,fv 30,fv 31,fv 32,fv 33,fv 34,fv 35,fv 36,fv 37,fv 38,fv 39,fv 40,fv 41,fv 42,fv 43,fv 44,fv 45,fv 46,fv 47,fv 48,fv 49,fv 50,fv 51,fv 52,fv 53,fv 54,fv 55,fv 56,fv 57,fv 58,fv 59,fv 60,fv 61,fv 62,fv 63,fv 64,fv 65,fv 66,fv 67,fv 68,fv 69,fv 70,fv 71,fv 72,fv 73,fv 74,fv 75,fv 76,fv 77,fv 78,fv 79,fv 80,fv 81,fv 82,fv 83,fv 84,fv 85,fv 86,fv 87,fv 88,fv 89,fv 90,fv 91],defers:=[]}) (fun _ _=>0) rfl ?_ ?_
   ·go_wp2_with fail
    refine SM hre.out ?_;go_wp2_with fail;refine SM hsz.out ?_;go_wp2_with fail;go_step3
    exact⟨rfl,rfl,fun k=>List.getD [_,_,_,_,_,_,_,_,_,_,undef,_,_,_,_,_,_,_,_,_,_,_,_,_,_,_,_,_,_,_,_,_,_,_,_,_,_,_,_,_,_,_,_,_,_,_,_,_,_,_,_,_,_,_,_,_,_,_,_,_,_,_,_,_,_,_,_,_,_,_,_,_,_,_,_,_,_,_,_,_,_,_,_,_,_,_,_,_,_,_,_,_] k undef,rfl⟩
   ·rintro a' w2 ⟨rfl,fv,rfl⟩
    go_wp2_with fail;simp only [Exit.jump];go_ret
    exact⟨rfl,hend0.out⟩
end
end
end Go.Proofs.YtfliaggjkianpaaGreatDoor
