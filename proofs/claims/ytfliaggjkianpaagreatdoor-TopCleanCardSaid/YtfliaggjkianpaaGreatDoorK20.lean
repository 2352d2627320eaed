import Derived.Test.YtfliaggjkianpaaGreatDoorK19
set_option linter.unusedVariables false
set_option linter.unusedSimpArgs false
set_option maxRecDepth 100000
namespace Go.Proofs.YtfliaggjkianpaaGreatDoor
section
open Go.RowKit Flt
attribute [local irreducible] CpS.rv
section
variable{w w':World}{o o':Nat→Tag}{t u z tw:Tag}{b a c:Nat}{B:List UInt8}{m:Nat}{cm:CmS}{win:List Int}{tb:TbS}{s:TnS}
set_option maxHeartbeats 1000000 in
theorem tnNew(id serial q:Int)(v:Value)(hc:CmAt w o u c cm)(ha:ArAt w o z a B m)(hv:Ints w o tw v win)(hn:win.Nodup)(hrg:∀x∈win,0≤x∧x<cm.C)(hid:0≤id∧id≤7)(hs:1≤serial∧serial≤17592186044416)(hT:Tab w o)(ap:Ap3 t u z)(htw:¬Und t tw)
  (hq:mayB q=true) (hr:demT q≤(win.length*(cm.P/cm.C):Nat)) (hp:HpOk B cm win ⟨[],[]⟩ AlS.new) :
  Calls Tryz.prog 52 #[eP a,eP c,.int .i64 id,.int .i64 serial,.int .i64 q,v] w fun e w'=>∃b o',e=.returned (.tuple #[eP b,.int .i64 0])∧TnAt w' o' t u z b a c B m cm win ⟨[],[]⟩ (TnS.new id serial q win.length)∧Fr (Und t) w o w' o':=by
 have hmk:∀w,(Instr.makeMap 131 none).run Tryz.prog w=.ok (.map (some w.heap.size)) (w.alloc (.map #[] 0)):=fun w=>run_makeMap _ w
 have hmay:=may_iff.1 hq;have hl:=nodup_len cm.C win hn hrg;obtain⟨hC1,hC2,hP1,hP2,hPC,_⟩:=hp.cmo;have hdiv:cm.P/cm.C≤4096:=Nat.le_trans (Nat.div_le_self _ _) hP2;have hEl:win.length*(cm.P/cm.C)≤131072:=Nat.le_trans (Nat.mul_le_mul (show win.length≤32 by omega) hdiv) (by decide);have hall:=HD (show Calls Tryz.prog 85 #[.int .i64 id,.int .i64 serial] w (fun e w1=>∃bc,e=.returned (.tuple #[eP bc,.int .i64 0]) ∧
   Calls Tryz.prog 86 #[eP c,v] w1 (fun e w2=>e=.returned (.int .i64 (win.length*(cm.P/cm.C):Nat)) ∧
    Calls Tryz.prog 87 #[eP a,eP c,v] w2 (fun e w3=>∃bh,e=.returned (.tuple #[eP bh,.int .i64 0]) ∧
     Calls Tryz.prog 88 #[.complex .f64 (F q) (F (win.length*(cm.P/cm.C):Nat))] w3 (fun e w4=>e=.returned (.tuple #[eP w3.heap.size,.int .i64 0]) ∧
      ∃o',TnAt ((w4.alloc (.map #[] 0)).alloc (.cells #[eP a,eP c,eP bh,eP bc,eP w3.heap.size,.int .i64 id,.int .i64 q,.map (some w4.heap.size)] 133)) o' t u z (w4.heap.size+1) a c B m cm win ⟨[],[]⟩ (TnS.new id serial q win.length) ∧
       Fr (Und t) w o ((w4.alloc (.map #[] 0)).alloc (.cells #[eP a,eP c,eP bh,eP bc,eP w3.heap.size,.int .i64 id,.int .i64 q,.map (some w4.heap.size)] 133)) o')))) from by
  refine(cpNew id serial w (t:=t++[1]) hT hid hs).mono ?_;rintro e w1 ⟨bc,o1,rfl,g1,f1⟩;refine⟨bc,rfl,(tnRoom c v win w1 (hc.fr f1 off_no) (hv.fr f1 (fun q=>q)).w hn hrg).mono ?_⟩;rintro e w2 ⟨rfl,hb2⟩;have f2:Fr (fun _=>False) w o w2 o1:=f1.trans (Fr.below hb2);refine⟨rfl,(hpNew a c v win w2 o1 (t++[0]) tw (hv.fr f2 (fun q=>q)) (by omega) (hT.fr f2 (fun q=>q)) (ap.sub [0]).tu.t9).mono ?_⟩;rintro e w3 ⟨bh,x,o3,rfl,g3,f3⟩;refine⟨bh,rfl,(new_yes q (win.length*(cm.P/cm.C):Nat) w3 (okS_iff.2 (by omega))).mono ?_⟩;rintro e w4 ⟨rfl,rfl⟩;rw [World.size_alloc];have fA:Fr (fun _=>False) w3 o3 (w3.alloc (.cells #[.complex .f64 (F q) (F (win.length*(cm.P/cm.C):Nat)),.complex .f64 0 0,.complex .f64 0 0] 182)) (setO o3 w3.heap.size (t++[2])):=Fr.alloc _ _;have hqA:Qat (w3.alloc (.cells #[.complex .f64 (F q) (F (win.length*(cm.P/cm.C):Nat)),.complex .f64 0 0,.complex .f64 0 0] 182)) w3.heap.size ⟨q,((win.length*(cm.P/cm.C):Nat):Int),0,0,0,0⟩:=by
   have:=heap_alloc_new w3 (.cells #[.complex .f64 (F q) (F (win.length*(cm.P/cm.C):Nat)),.complex .f64 0 0,.complex .f64 0 0] 182);unfold Qat quoCells;simp only [F_zero];exact this
  have hoA:(setO o3 w3.heap.size (t++[2])) w3.heap.size=t++[2]:=setO_same;have hsA:(w3.alloc (.cells #[.complex .f64 (F q) (F (win.length*(cm.P/cm.C):Nat)),.complex .f64 0 0,.complex .f64 0 0] 182)).heap.size=w3.heap.size+1:=by simp
  generalize (w3.alloc (.cells #[.complex .f64 (F q) (F (win.length*(cm.P/cm.C):Nat)),.complex .f64 0 0,.complex .f64 0 0] 182))=w4 at *;generalize (setO o3 w3.heap.size (t++[2]))=o4 at *;have fM:Fr (fun _=>False) w4 o4 (w4.alloc (.map #[] 0)) (setO o4 w4.heap.size (t++[3])):=Fr.alloc _ _;have mM:=MpAt.made w4 o4 (t++[3]) .i64 eI;have hsM:(w4.alloc (.map #[] 0)).heap.size=w4.heap.size+1:=by simp
  rw [hsA] at hsM mM fM;generalize (w4.alloc (.map #[] 0))=w5 at *;generalize (setO o4 (w3.heap.size+1) (t++[3]))=o5 at *;have fT:=Fr.alloc (S:=fun _=>False) (w:=w5) (o:=o5) (.cells #[eP a,eP c,eP bh,eP bc,eP w3.heap.size,.int .i64 id,.int .i64 q,.map (some (w3.heap.size+1))] 133) t;have bT:=Blk.made w5 o5 t #[eP a,eP c,eP bh,eP bc,eP w3.heap.size,.int .i64 id,.int .i64 q,.map (some (w3.heap.size+1))] 133;rw [hsM] at fT bT;have fAll:Fr (fun _=>False) w3 o3 _ _:=fA.trans (fM.trans fT);have fQ:=fM.trans fT;have e1:(TnS.new id serial q win.length).cp.tenant=id:=rfl;refine⟨rfl,_,⟨⟨x,bh,bc,w3.heap.size,w3.heap.size+1⟩,⟨bT,g3.fr fAll off_no,?_,?_,?_,mM.fr fT (fun q=>q)⟩,?_,?_,?_⟩,?_⟩
  ·have h1:=(g1.fr (Fr.below (S:=fun _=>False) hb2) off_no).fr f3 (off_one (r:=[]) (r':=[]) (by decide) ap.tu.t9)
   exact h1.fr fAll off_no
  ·exact(Qat.fr hqA hoA fQ (fun q=>q)).1
  ·exact(Qat.fr hqA hoA fQ (fun q=>q)).2
  ·exact fun v p h=>by cases h
  ·exact((hc.fr f2 off_no).fr f3 (ap.tu.sub [0]).off).fr fAll off_no
  ·exact((ha.fr f2 off_no).fr f3 (ap.tz.sub [0]).off).fr fAll off_no
  ·exact((f2.mono fun v q=>q.elim).trans (f3.mono fun v q=>q.up)).trans (fAll.mono fun v q=>q.elim))
 have hof:=HD (fun w=>demOf_yes q w hq);have hfi:=HD (fun w=>demFits_any q (win.length*(cm.P/cm.C):Nat) w);rw [hq,decide_eq_true hr] at hfi;have hli:=HD (fun w=>tnLimit q (win.length*(cm.P/cm.C):Nat) w);clear hc ha hv hn hrg hid hs hT ap htw hq hr hp hmay hl hC1 hC2 hP1 hP2 hPC hdiv hEl;generalize TnS.new id serial q win.length=s at *;generalize ((win.length*(cm.P/cm.C):Nat):Int)=n at *;generalize F (demT q)=fd at *;generalize F q=fq at *;generalize F n=fn at *;go_enter Tryz.func52,Tryz.ntmps52
 go_wp2_with fail;refine hall.out.mono ?_;rintro e w1 ⟨bc,rfl,hro⟩;replace hro:=HD hro;clear hall;go_wp2_with fail;refine SM (hof.out _) ?_;go_wp2_with fail;refine hro.out.mono ?_;rintro e w2 ⟨rfl,hhe⟩;replace hhe:=HD hhe;clear hro;go_wp2_with fail;refine SM (hfi.out _) ?_;go_wp2_with fail;refine hhe.out.mono ?_;rintro e w3 ⟨bh,rfl,hqu⟩;replace hqu:=HD hqu;clear hhe;go_wp2_with fail;refine SM (hli.out _) ?_;go_wp2_with fail;refine hqu.out.mono ?_;rintro e w4 ⟨rfl,o4,hfin⟩;replace hfin:=HD hfin;clear hqu;go_wp2_with fail;go_ret2
 exact⟨_,_,rfl,hfin.out⟩
end
end
section
open Go.RowKit Flt
attribute [local irreducible] CpS.rv
section
variable{w w':World}{o o':Nat→Tag}{t u z tw:Tag}{b a c:Nat}{B:List UInt8}{m:Nat}{cm:CmS}{win U W:List Int}{tb:TbS}{s:TnS}
def RsPost(w:World)(o:Nat→Tag)(t u z:Tag)(b a c:Nat)(B:List UInt8)(m:Nat)(cm:CmS)(U W:List Int)(tb:TbS)(s':TnS)(w':World):Prop :=
 ∃o' B' cm' tb' D,TnAt w' o' t u z b a c B' m cm' W tb' s'∧TnOk B' cm' W tb' s'∧MvRel B cm U W tb B' cm' tb' D∧Fr (S3 t u z) w o w' o'
set_option maxHeartbeats 1000000 in
theorem tnResize(q:Int)(v:Value)(h:TnAt w o t u z b a c B m cm win tb s)(ok:TnOk B cm win tb s)(ap:Ap3 t u z)(hm:m≤600000)(hv:Ints w o tw v W)(hf:s.fitsE q (W.length*(cm.P/cm.C):Nat)=0)(hU:TbOk cm U tb)(hW:∀x∈W,x∈U)(hn:W.Nodup) :
  Calls Tryz.prog 55 #[eP b,.int .i64 q,v] w fun e w'=>e=.returned (.int .i64 0)∧RsPost w o t u z b a c B (m+20000) cm U W tb (s.resized q W.length) w':=by
 obtain⟨f1,f2,f3,f4⟩:=fits_ok hf;have hmay:=may_iff.1 f1;have hpre:=ok.mvPre hf hU hW hn;have hrg:∀x∈W,0≤x∧x<cm.C:=fun x hx=>hU.wok.2 x (hW x hx)
 have hl:=nodup_len cm.C W hn hrg;obtain⟨hC1,hC2,hP1,hP2,hPC,_⟩:=ok.hp.cmo;have hdiv:cm.P/cm.C≤4096:=Nat.le_trans (Nat.div_le_self _ _) hP2;have hEl:W.length*(cm.P/cm.C)≤131072:=Nat.le_trans (Nat.mul_le_mul (show W.length≤32 by omega) hdiv) (by decide);have hall:=HD (show ∃bh bq,w.cell? ⟨b,1,none⟩=some (eP c)∧Calls Tryz.prog 86 #[eP c,v] w (fun e w1=>e=.returned (.int .i64 (W.length*(cm.P/cm.C):Nat)) ∧
   Calls Tryz.prog 53 #[eP b,.int .i64 q,.int .i64 (W.length*(cm.P/cm.C):Nat)] w1 (fun e w2=>e=.returned (.int .i64 0)∧w2=w1)∧w1.cell? ⟨b,2,none⟩=some (eP bh) ∧
   Calls Tryz.prog 91 #[eP bh,v] w1 (fun e w2=>e=.returned (.int .i64 0) ∧
    Calls Tryz.prog 90 #[eP b,.int .i64 q] w2 (fun e w3=>e=.returned (.int .i64 (s.nextP q))∧w3=w2)∧(w2.cell? ⟨b,6,none⟩=some (.int .i64 s.pk)∧w2.frozen? ⟨b,6,none⟩=false) ∧
    ((w2.setCell ⟨b,6,none⟩ (.int .i64 (s.nextP q))).drew.cell? ⟨b,4,none⟩=some (eP bq)) ∧
    Calls Tryz.prog 92 #[eP bq,.complex .f64 (F q) (F (W.length*(cm.P/cm.C):Nat))] (w2.setCell ⟨b,6,none⟩ (.int .i64 (s.nextP q))).drew (fun e w3=>e=.returned (.int .i64 0)∧w3.cell? ⟨b,4,none⟩=some (eP bq) ∧
     RsPost w o t u z b a c B (m+20000) cm U W tb (s.resized q W.length) w3))) from by
  obtain⟨y,h⟩:=h;refine⟨y.bh,y.bq,h.tn.c1,(tnRoom c v W w h.cma hv.w hn hrg).mono ?_⟩;rintro e w1 ⟨rfl,hb1⟩;have h1:=h.still (Fr.below hb1);have hF:=tnFits (w:=w1) q (W.length*(cm.P/cm.C):Nat) ⟨y,h1⟩ ok;rw [hf] at hF;refine⟨rfl,hF,h1.tn.c2,(hpMove y.bh a c v w1 h1.hw h1.is_ (ap.sub [0]) (by omega) hpre (hv.fr (S:=fun _=>False) (Fr.below hb1) (fun q=>q))).mono ?_⟩;rintro e w2 ⟨rfl,x2,o2,B2,cm2,tb2,g2,gi2,R2,fr2⟩;have h2:=h1.inHp ap fr2 g2 gi2;have hD:∀v p,mGet tb.pg v=some p→¬(v∈mvL cm tb W)→((p.toNat%cm.C:Nat):Int)∈W:=fun v p hg hnd=>by
   refine Decidable.byContradiction fun q=>hnd ((mvL_mem hpre v).2 ⟨p,hg,q⟩)
  obtain⟨hp2,hl2⟩:=R2.done ok.hp hW hn hD;have ok2:=ok.resized (q:=q) R2.keep.P R2.keep.C hf hp2 hl2;have hlen:tb2.pg.length=tb.pg.length:=R2.len;have hroom:=hpre.room;have fS:Fr (fun v=>v=t) w2 o2 ((w2.setCell ⟨b,6,none⟩ (.int .i64 (s.nextP q))).drew) o2:=(Fr.setCell (w:=w2) (o:=o2) (p:=⟨b,6,none⟩) (fun _=>h2.tn.blk.1) _).trans Fr.drew;have hoffs:∀n:Nat,Off (fun v=>v=t) (t++[n]):=fun n=>eq_off ap.tu.t9 n []
  have hu:Off (fun v=>v=t) u:=⟨fun x hx e=>ap.tu.off.1 x hx (by rw [e];exact Und.self t),fun e=>ap.tu.off.2 (by rw [e];exact Und.self t)⟩
  have hz:Off (fun v=>v=t) z:=⟨fun x hx e=>ap.tz.off.1 x hx (by rw [e];exact Und.self t),fun e=>ap.tz.off.2 (by rw [e];exact Und.self t)⟩
  have h3:TnW ((w2.setCell ⟨b,6,none⟩ (.int .i64 (s.nextP q))).drew) o2 t u z b a c ⟨x2,y.bh,y.bc,y.bq,y.go⟩ B2 (m+20000) cm2 W tb2 s.cp.tenant (s.nextP q) s.al s.cp ⟨s.qb,((win.length*(cm.P/cm.C):Nat):Int),s.cb,(tb.pg.length:Int),0,0⟩ (obM s.ob) :=
   ⟨⟨(h2.tn.blk.set 6 _).drew,h2.tn.hp.fr fS (hoffs 0),h2.tn.cp.fr fS (hoffs 1),(Qat.fr h2.tn.qa h2.tn.qo fS (hoffs 2).self).1,(Qat.fr h2.tn.qa h2.tn.qo fS (hoffs 2).self).2,h2.tn.ob.fr fS (hoffs 3).self⟩,gi2,h2.cma.fr fS hu,h2.ar.fr fS hz⟩
  refine⟨rfl,tnNextR q h2.tn,⟨h2.tn.c6,h2.tn.blk.free 6⟩,h3.tn.c4,?_⟩;have s5:=resize_yes y.bq _ q (W.length*(cm.P/cm.C):Nat) _ ok.wf (okS_iff.2 (by omega)) h3.tn.qa;rw [show QS.sizE ⟨s.qb,((win.length*(cm.P/cm.C):Nat):Int),s.cb,(tb.pg.length:Int),0,0⟩ q (W.length*(cm.P/cm.C):Nat)=0 from if_pos ⟨by simp only;omega,by simp only;omega⟩,
   show QS.siz ⟨s.qb,((win.length*(cm.P/cm.C):Nat):Int),s.cb,(tb.pg.length:Int),0,0⟩ q (W.length*(cm.P/cm.C):Nat)=⟨q,((W.length*(cm.P/cm.C):Nat):Int),s.cb,(tb.pg.length:Int),0,0⟩ from if_pos ⟨by simp only;omega,by simp only;omega⟩] at s5
  refine s5.mono ?_;rintro e w3 ⟨rfl,q5,f5⟩;obtain⟨h5,fr5⟩:=h3.inQ ap f5 q5;refine⟨rfl,h5.tn.c4,o2,B2,cm2,tb2,_,⟨⟨x2,y.bh,y.bc,y.bq,y.go⟩,?_⟩,ok2,R2,?_⟩
  ·rw [R2.keep.P,R2.keep.C,hlen]
   exact h5
  ·exact(((Fr.below hb1).trans (fr_hp fr2)).trans (fS.mono fun v q=>by rw [q];exact .inl (Und.self t))).trans fr5)
 have hli:=HD (fun w=>tnLimit q (W.length*(cm.P/cm.C):Nat) w);obtain⟨bh,bq,c1,hro⟩:=hall.out;replace hro:=HD hro;clear h ok hv hf hU hW hn f1 f2 f3 f4 hmay hpre hrg hl hC1 hC2 hP1 hP2 hPC hdiv hEl hall;generalize s.resized q W.length=s' at *;generalize s.nextP q=np at *;generalize ((W.length*(cm.P/cm.C):Nat):Int)=n at *;generalize F q=fq at *;generalize F n=fn at *;go_enter Tryz.func55,Tryz.ntmps55
 go_wp2_with fail;refine hro.out.mono ?_;rintro e w1 ⟨rfl,hfi,c2,hmo⟩;replace hfi:=HD hfi;replace hmo:=HD hmo;clear hro;go_wp2_with fail;refine SM hfi.out ?_;go_wp2_with fail;refine hmo.out.mono ?_;rintro e w2 ⟨rfl,hne,⟨z1,z2⟩,hcc,hre⟩;replace hne:=HD hne;replace hre:=HD hre;clear hmo hfi;go_wp2_with fail;refine SM hne.out ?_;go_wp2_with fail;refine wp_region_noPanic ?_;refine wp_region_held_drew (S:=(fun W'=>W'.cell? ⟨b,4,none⟩=some (eP bq))) (by kernel_rfl) ?_ (fun hHeld=>?_)
 ·(first|exact hcc|exact hcs)
 refine tkH 0 (h:=?_);refine tkH 1 (h:=?_);refine tkH 2 (h:=?_);refine tkH 3 (h:=?_);refine tkH 4 (h:=?_);refine tkH 5 (h:=?_);refine onH 6 (h:=fun K hK=>?_);go_simp;refine SM (hli.out _) ?_;go_wp2_with fail;refine hK.out _ _ ?_ (fun hHeld=>?_)
 ·(first|exact hcc|exact hcs)
 clear hK;refine nmH (h:=?_);refine onH 7 (h:=fun K hK=>?_);go_simp;refine hre.out.mono ?_;rintro e w3 ⟨rfl,hcs,hfin⟩;replace hfin:=HD hfin;go_wp2_with fail;refine hK.out _ _ ?_ (fun hHeld=>?_)
 ·(first|exact hcc|exact hcs)
 clear hK;refine nmH (h:=?_);refine tkH 8 (h:=?_);refine wpAnyH_done (by kernel_rfl) ?_ _;refine NoPanic.normal ?_;go_wp2_with fail;go_ret
 exact⟨rfl,hfin.out⟩
end
end
section
open Go.RowKit Flt
attribute [local irreducible] CpS.rv
structure AdS where
 P:Nat
 C:Nat
 ts:Nat→Option TnS
 ser:Nat→Int
structure AdX where
 a:Nat
 c:Nat
 bp:Nat
 bt:Nat→Nat
def tvF(s:AdS)(x:AdX)(i:Nat):Value:=match s.ts i with
 |none=>.pointer none
 |some _=>eP (x.bt i)
def adL(P C a c bp:Nat)(tv sv:Nat→Value):List Value:=[.int .i64 P,.int .i64 C,eP a,eP c,eP bp]++((List.range 8).map tv++(List.range 8).map sv)
structure AdOk(B:List UInt8)(cm:CmS)(p:PoS)(tbs:Nat→TbS)(s:AdS):Prop where
 P:cm.P=s.P
 C:cm.C=s.C
 cmo:cm.ok
 len:B.length=cm.P*512
 z:FreeZ B cm
 po:PoOk p s.C
 non:∀i,i<8→s.ts i=none→p.W i=[]
 tn:∀i t,i<8→s.ts i=some t→TnOk B cm (p.W i) (tbs i) t∧t.cp.tenant=i∧1≤t.wl
 un:∀c:Nat,c<s.C→(∀i,i<8→(c:Int)∉p.W i)→(cm.sh c).cnt=cm.P/cm.C
structure Root(r:Tag):Prop where
 r7:¬r <+: [7]
 r8:¬r <+: [8]
 r9:¬r <+: [9]
 sep:∀v,Und r v→¬Und (50 :: r) v
structure AdG(w:World)(o:Nat→Tag)(r:Tag)(b:Nat)(x:AdX)(B:List UInt8)(m:Nat)(cm:CmS)(p:PoS)(tbs:Nat→TbS)(s:AdS):Prop where
 blk:Blk w o r b (adL s.P s.C x.a x.c x.bp (tvF s x) (fun i=>.int .i64 (s.ser i))).toArray 103
 cma:CmAt w o (r++[2]) x.c cm
 ar:ArAt w o (r++[1]) x.a B m
 po:PoAt w o (r++[3]) x.bp p
 tn:∀i t,i<8→s.ts i=some t→TnAt w o (r++[4,i]) (r++[2]) (r++[1]) (x.bt i) x.a x.c B m cm (p.W i) (tbs i) t
 tab:Tab w o
 ok:AdOk B cm p tbs s
def AdAt(w:World)(o:Nat→Tag)(r:Tag)(b:Nat)(B:List UInt8)(m:Nat)(s:AdS):Prop:=∃x cm p tbs,AdG w o r b x B m cm p tbs s
theorem not_pre{r:Tag}{l q:Tag}(h:¬r <+: q):¬(r++l) <+: q:=fun k=>h (List.IsPrefix.trans (List.prefix_append r l) k)
theorem ad_off{r:Tag}(h:Root r){i j:Nat}{p q:Tag}(hne:i≠j):Off (Und (r++i :: p)) (r++j :: q):=off_one hne h.r9
theorem ad_off4{r:Tag}(h:Root r){i j:Nat}{p q:Tag}(hne:i≠j):Off (Und (r++4 :: i :: p)) (r++4 :: j :: q):=by
 have e:∀(k:Nat) (l:Tag),r++4 :: k :: l=(r++[4])++k :: l:=fun k l=>by simp
 rw [e,e];exact off_one hne (not_pre h.r9)
theorem ad_ap3{r:Tag}(h:Root r)(i:Nat):Ap3 (r++[4,i]) (r++[2]) (r++[1]):=by
 exact⟨⟨fun v a b=>(ad_off (i:=4) (j:=2) (p:=[i]) (q:=[]) h (by decide)).1 v b a,not_pre h.r9,not_pre h.r9⟩,⟨fun v a b=>(ad_off (i:=4) (j:=1) (p:=[i]) (q:=[]) h (by decide)).1 v b a,not_pre h.r9,not_pre h.r9⟩,⟨fun v a b=>(ad_off (i:=2) (j:=1) (p:=[]) (q:=[]) h (by decide)).1 v b a,not_pre h.r9,not_pre h.r9⟩⟩
theorem ad_t7{r:Tag}(h:Root r)(i:Nat):T7 (r++[4,i]) (r++[2]) (r++[1]):=⟨not_pre h.r7,not_pre h.r7,not_pre h.r7⟩
section
variable{S:Tag→Prop}{w w':World}{o o':Nat→Tag}{r t u z:Tag}{b a c:Nat}{x:AdX}{B B':List UInt8}{m m':Nat}{cm cm':CmS}{p:PoS}{tbs:Nat→TbS}{s:AdS}{win:List Int}{tb:TbS}{ts:TnS}
theorem ad_cell{P C a c bp:Nat}{tv sv:Nat→Value}{i:Nat}(h:i<8):(adL P C a c bp tv sv).toArray[5+i]? = some (tv i):=by
 unfold adL;rw [List.getElem?_toArray,List.getElem?_append_right (by simp)];simp only [List.length_cons,List.length_nil];rw [show 5+i-(0+1+1+1+1+1)=i by omega,List.getElem?_append_left (by simpa using h),List.getElem?_map,List.getElem?_range h];rfl
theorem ad_cellS{P C a c bp:Nat}{tv sv:Nat→Value}{i:Nat}(h:i<8):(adL P C a c bp tv sv).toArray[13+i]? = some (sv i):=by
 unfold adL;rw [List.getElem?_toArray,List.getElem?_append_right (by simp;omega)];simp only [List.length_cons,List.length_nil];rw [show 13+i-(0+1+1+1+1+1)=8+i by omega,List.getElem?_append_right (by simp),List.length_map,List.length_range,show 8+i-8=i by omega,List.getElem?_map,List.getElem?_range h];rfl
theorem ad_set{P C a c bp:Nat}{tv sv:Nat→Value}{i:Nat}{v:Value}(h:i<8):(adL P C a c bp tv sv).toArray.setIfInBounds (5+i) v=(adL P C a c bp (up1 tv i v) sv).toArray:=by
 unfold adL;rw [List.setIfInBounds_toArray,List.set_append_right _ _ (by simp)];simp only [List.length_cons,List.length_nil];rw [show 5+i-(0+1+1+1+1+1)=i by omega,List.set_append_left _ _ (by simpa using h),map_range_set]
theorem ad_setS{P C a c bp:Nat}{tv sv:Nat→Value}{i:Nat}{v:Value}(h:i<8):(adL P C a c bp tv sv).toArray.setIfInBounds (13+i) v=(adL P C a c bp tv (up1 sv i v)).toArray:=by
 unfold adL;rw [List.setIfInBounds_toArray,List.set_append_right _ _ (by simp;omega)];simp only [List.length_cons,List.length_nil];rw [show 13+i-(0+1+1+1+1+1)=8+i by omega,List.set_append_right _ _ (by simp),List.length_map,List.length_range,show 8+i-8=i by omega,map_range_set]
theorem TnAt.parts(h:TnAt w o t u z b a c B m cm win tb ts):CmAt w o u c cm∧ArAt w o z a B m:=by
 obtain⟨y,h⟩:=h;exact⟨h.cma,h.ar⟩
theorem TnAt.other(h:TnAt w o t u z b a c B m cm win tb ts)(f:Fr S w o w' o')(hS:Off S t)(hc:CmAt w' o' u c cm')(ha:ArAt w' o' z a B' m')(hP:cm'.P=cm.P)(hC:cm'.C=cm.C):TnAt w' o' t u z b a c B' m' cm' win tb ts:=by
 obtain⟨y,h⟩:=h;refine⟨y,?_⟩;rw [hP,hC];exact⟨h.tn.fr f hS,h.is_,hc,ha⟩
theorem AdG.fr(h:AdG w o r b x B m cm p tbs s)(f:Fr S w o w' o')(hS:Off S r):AdG w' o' r b x B m cm p tbs s :=
 ⟨h.blk.fr f hS.self,h.cma.fr f (hS.sub _),h.ar.fr f (hS.sub _),h.po.fr f (hS.sub _),fun i t hi ht=>(h.tn i t hi ht).other f (hS.sub _) (h.cma.fr f (hS.sub _)) (h.ar.fr f (hS.sub _)) rfl rfl,h.tab.fr f hS.tab,h.ok⟩
theorem AdAt.fr(h:AdAt w o r b B m s)(f:Fr S w o w' o')(hS:Off S r):AdAt w' o' r b B m s:=by
 obtain⟨x,cm,p,tbs,h⟩:=h;exact⟨x,cm,p,tbs,h.fr f hS⟩
theorem AdAt.mono(h:AdAt w o r b B m s)(hm:m≤m'):AdAt w o r b B m' s:=by
 obtain⟨x,cm,p,tbs,h⟩:=h;exact⟨x,cm,p,tbs,h.blk,h.cma,h.ar.mono hm,h.po,fun i t hi ht=>(h.tn i t hi ht).mono hm,h.tab,h.ok⟩
theorem s3_off{r:Tag}(h:Root r){i j:Nat}(hne:i≠j):Off (S3 (r++[4,i]) (r++[2]) (r++[1])) (r++[4,j]):=off_s3 (ad_off4 h hne) (ad_off h (by decide)) (ad_off h (by decide))
theorem s3_offn{r:Tag}(h:Root r){i n:Nat}(h4:4≠n)(h2:2≠n)(h1:1≠n):Off (S3 (r++[4,i]) (r++[2]) (r++[1])) (r++[n]):=off_s3 (ad_off h h4) (ad_off h h2) (ad_off h h1)
theorem s3_und{r:Tag}{i:Nat}{v:Tag}(h:S3 (r++[4,i]) (r++[2]) (r++[1]) v):Und r v:=h.elim (fun q=>q.up) (fun q=>q.elim (fun q=>q.up) (fun q=>q.up))
theorem s3_notr{r:Tag}{i:Nat}:¬S3 (r++[4,i]) (r++[2]) (r++[1]) r:=fun h=>h.elim (fun q=>not_und r 4 [i] q) (fun q=>q.elim (fun q=>not_und r 2 [] q) (fun q=>not_und r 1 [] q))
def AdS.set(s:AdS)(i:Nat)(t:TnS):AdS:={s with ts:=up1 s.ts i (some t)}
theorem tvF_set{t0 t:TnS}{i:Nat}(h:s.ts i=some t0):tvF (s.set i t) x=tvF s x:=by
 funext j
 unfold tvF AdS.set;simp only;by_cases e:j=i
 ·subst e;rw [up1_same,h]
 ·rw [up1_other e]
theorem up1_fun{α:Type}{f:Nat→α}{i:Nat}{v:α}(h:f i=v):up1 f i v=f:=by
 funext j
 by_cases e:j=i
 ·subst e;rw [up1_same,h]
 ·rw [up1_other e]
theorem AdG.go(h:AdG w o r b x B m cm p tbs s)(hr:Root r){i:Nat}(hi:i<8){t0 t:TnS}(ht:s.ts i=some t0)(g:TnGo w o (r++[4,i]) (r++[2]) (r++[1]) (x.bt i) x.a x.c B m' cm (p.W i) t w')(htn:t.cp.tenant=t0.cp.tenant)(hwl:t.wl=t0.wl) :
  ∃o' B',AdAt w' o' r b B' m' (s.set i t)∧Fr (Und r) w o w' o':=by
 obtain⟨o',B',cm',tb',g1,g2,g3,g4⟩:=g;obtain⟨gc,ga⟩:=g1.parts;obtain⟨k1,k2,k3⟩:=h.ok.tn i t0 hi ht;have hP:=g3.P;have hC:=g3.C;refine⟨o',B',⟨x,cm',p,up1 tbs i tb',?_,gc,ga,h.po.fr g4 (s3_offn hr (by decide) (by decide) (by decide)),fun j u hj hu=>?_,h.tab.fr g4 (s3_nine (ad_ap3 hr i)),⟨?_,?_,g2.hp.cmo,g2.hp.len,g2.hp.z,h.ok.po,fun j hj hu=>?_,fun j u hj hu=>?_,fun d hd hno=>?_⟩⟩,g4.mono fun v q=>s3_und q⟩
 ·have:=h.blk.fr g4 s3_notr
  rw [tvF_set ht];exact this
 ·by_cases e:j=i
  ·subst e
   rw [show (s.set j t).ts j=some t from up1_same] at hu;obtain rfl:=Option.some.inj hu;rw [up1_same];exact g1
  ·rw [show (s.set i t).ts j=s.ts j from up1_other e] at hu
   rw [up1_other e];exact(h.tn j u hj hu).other g4 (s3_off hr (Ne.symm e)) gc ga hP hC
 ·exact hP.trans h.ok.P
 ·exact hC.trans h.ok.C
 ·by_cases e:j=i
  ·subst e
   rw [show (s.set j t).ts j=some t from up1_same] at hu;cases hu
  ·rw [show (s.set i t).ts j=s.ts j from up1_other e] at hu
   exact h.ok.non j hj hu
 ·by_cases e:j=i
  ·subst e
   rw [show (s.set j t).ts j=some t from up1_same] at hu;obtain rfl:=Option.some.inj hu;rw [up1_same];exact⟨g2,htn.trans k2,by omega⟩
  ·rw [show (s.set i t).ts j=s.ts j from up1_other e] at hu
   rw [up1_other e];obtain⟨a1,a2,a3⟩:=h.ok.tn j u hj hu;exact⟨a1.other g3 (h.ok.po.dj j i hj hi e) g2.hp.cmo g2.hp.z,a2,a3⟩
 ·rw [g3.sh d (hno i hi),hP,hC]
  exact h.ok.un d hd hno
end
end
section
open Go.RowKit Flt
attribute [local irreducible] CpS.rv
section
variable{S:Tag→Prop}{w w':World}{o o':Nat→Tag}{r:Tag}{b:Nat}{x:AdX}{B:List UInt8}{m:Nat}{cm:CmS}{p:PoS}{tbs:Nat→TbS}{s:AdS}
theorem adReady(b i:Nat)(w:World)(hi:i<8):Calls Tryz.prog 47 #[eP b,.int .i64 i] w fun e w'=>e=.returned (.int .i64 0)∧w'=w:=by
 have d1:decide ((i:Int)<0)=false:=decide_eq_false (by omega);have d2:decide (8≤(i:Int))=false:=decide_eq_false (by omega);clear hi;go_enter Tryz.func47,Tryz.ntmps47
 go_wp2_with fail;go_ret
 exact⟨rfl,rfl⟩
def AdS.sizeE(s:AdS)(col q:Int):Int:=if mayB q=true∧1≤col∧col≤s.C then 0 else 2
theorem adSize(b:Nat)(col q:Int)(w:World)(h:AdG w o r b x B m cm p tbs s):Calls Tryz.prog 48 #[eP b,.int .i64 col,.int .i64 q] w fun e w'=>e=.returned (.int .i64 (s.sizeE col q))∧w'=w:=by
 have c1:w.cell? ⟨b,1,none⟩=some (.int .i64 s.C):=h.blk.cell' (i:=1) rfl;unfold AdS.sizeE;clear h;cases hm:mayB q with
 |false =>
  rw [if_neg (by simp)];have hd:=HD (demOf_no q w hm);clear hm;go_enter Tryz.func48,Tryz.ntmps48
  go_wp2_with fail;refine SM hd.out ?_;go_wp2_with fail;go_ret
  exact⟨rfl,rfl⟩
 |true =>
  have hd:=HD (demOf_yes q w hm);clear hm;generalize F (demT q)=fd at *;generalize F q=fq at *;by_cases h1:1≤col
  ·have d1:decide (col<1)=false:=decide_eq_false (by omega)
   by_cases h2:col≤s.C
   ·have d2:decide ((s.C:Int)<col)=false:=decide_eq_false (by omega)
    rw [if_pos ⟨rfl,h1,h2⟩];clear h1 h2;go_enter Tryz.func48,Tryz.ntmps48
    go_wp2_with fail;refine SM hd.out ?_;go_wp2_with fail;go_ret
    exact⟨rfl,rfl⟩
   ·have d2:decide ((s.C:Int)<col)=true:=decide_eq_true (by omega)
    rw [if_neg (fun q=>h2 q.2.2)];clear h1 h2;go_enter Tryz.func48,Tryz.ntmps48
    go_wp2_with fail;refine SM hd.out ?_;go_wp2_with fail;go_ret
    exact⟨rfl,rfl⟩
  ·have d1:decide (col<1)=true:=decide_eq_true (by omega)
   rw [if_neg (fun q=>h1 q.2.1)];clear h1;go_enter Tryz.func48,Tryz.ntmps48
   go_wp2_with fail;refine SM hd.out ?_;go_wp2_with fail;go_ret
   exact⟨rfl,rfl⟩
theorem tv_form(s:AdS)(x:AdX)(i:Nat):∃q,tvF s x i=.pointer q∧(q=none↔s.ts i=none)∧(∀t,s.ts i=some t→q=some ⟨x.bt i,0,none⟩):=by
 unfold tvF;cases e:s.ts i with
 |none=>exact⟨none,rfl,by simp,fun t h=>by cases h⟩
 |some t=>exact⟨_,rfl,by simp,fun t _=>rfl⟩
theorem adTenant(b i:Nat)(w:World)(hi:i<8)(h:AdG w o r b x B m cm p tbs s):Calls Tryz.prog 34 #[eP b,.int .i64 i] w fun e w'=>e=.returned (tvF s x i)∧w'=w:=by
 have hr:=HD (adReady b i w hi);have c1:w.cell? ⟨b,5+i,none⟩=some (tvF s x i):=h.blk.cell' (ad_cell hi);obtain⟨q,e,_⟩:=tv_form s x i;rw [e] at c1 ⊢;have hidx:0≤(i:Int)∧(i:Int)<8:=by omega
 have hkk:((i:Int)).toNat=i:=by omega
 clear h hi e;go_enter Tryz.func34,Tryz.ntmps34
 go_wp2_with fail;refine SM hr.out ?_;go_wp2_with fail;go_ret
 exact⟨rfl,rfl⟩
theorem adArena(b:Nat)(w:World)(h:AdG w o r b x B m cm p tbs s):Calls Tryz.prog 28 #[eP b] w fun e w'=>e=.returned (eP x.a)∧w'=w:=by
 have c1:w.cell? ⟨b,2,none⟩=some (eP x.a):=h.blk.cell' (i:=2) rfl;clear h;go_enter Tryz.func28,Tryz.ntmps28
 go_wp2_with fail;go_ret
 exact⟨rfl,rfl⟩
end
end
section
open Go.RowKit Flt
attribute [local irreducible] CpS.rv
def AdS.new(P C:Nat):AdS:=⟨P,C,fun _=>none,fun _=>1⟩
abbrev adZ(P C:Nat)(c:Nat):Array Value:=#[.int .i64 P,.int .i64 C,.pointer none,eP c,.pointer none,.pointer none,.pointer none,.pointer none,.pointer none,.pointer none,.pointer none,.pointer none,.pointer none,.int .i64 0,.int .i64 0,.int .i64 0,.int .i64 0,.int .i64 0,.int .i64 0,.int .i64 0,.int .i64 0]
structure NwRel(w:World)(o:Nat→Tag)(r:Tag)(P C:Nat)(b a c bp:Nat)(wx:World)(o1:Nat→Tag)(j:Nat):Prop where
 blk:Blk wx o1 r b (adL P C a c bp (fun _=>.pointer none) (fun i=>.int .i64 (if i<j then 1 else 0))).toArray 103
 cma:CmAt wx o1 (r++[2]) c (CmS.new P C)
 ar:ArAt wx o1 (r++[1]) a (List.replicate (P*512) 0) 0
 po:PoAt wx o1 (r++[3]) bp ⟨ShS.new C,fun _=>[]⟩
 tab:Tab wx o1
 fr:Fr (fun _=>False) w o wx o1
 new:w.heap.size≤b
theorem CmS.ok_new{P C:Nat}(h:cfgB P C=true):(CmS.new P C).ok:=by
 obtain⟨h1,h2,h3,h4,h5⟩:=cfg_iff.1 h;refine⟨by show 1≤C;omega,by show C≤32;omega,by show 1≤P;omega,by show P≤4096;omega,?_,fun c hc=>rfl⟩;show P%C=0;omega
theorem AdOk.new{P C:Nat}(h:cfgB P C=true):AdOk (List.replicate (P*512) 0) (CmS.new P C) ⟨ShS.new C,fun _=>[]⟩ (fun _=>⟨[],[]⟩) (AdS.new P C) where
 P:=rfl
 C:=rfl
 cmo:=CmS.ok_new h
 len:=by rw [List.length_replicate];rfl
 z:=fun p hp hf i hi=>by
  unfold byt;rw [List.getD_eq_getElem?_getD,List.getElem?_replicate]
  split<;>rfl
 po:=PoOk.new
 non i _ _:=rfl
 tn i t _ ht:=by cases ht
 un c hc _:=by
  show (ShS.new (P/C)).cnt=P/C;rw [cnt_new]
section
variable{S:Tag→Prop}{w w':World}{o o':Nat→Tag}{r:Tag}
theorem NwRel.done{P C b a c bp:Nat}{wx:World}{o1:Nat→Tag}(h:NwRel w o r P C b a c bp wx o1 8)(hc:cfgB P C=true):AdAt wx o1 r b (List.replicate (P*512) 0) 0 (AdS.new P C):=by
 refine⟨⟨a,c,bp,fun _=>0⟩,CmS.new P C,⟨ShS.new C,fun _=>[]⟩,fun _=>⟨[],[]⟩,?_,h.cma,h.ar,h.po,fun i t _ ht=>(by cases ht),h.tab,AdOk.new hc⟩;have:=h.blk;have e:adL P C a c bp (fun _=>.pointer none) (fun i=>.int .i64 (if i<8 then 1 else 0))=adL P C a c bp (tvF (AdS.new P C) ⟨a,c,bp,fun _=>0⟩) (fun i=>.int .i64 ((AdS.new P C).ser i)):=by
  unfold adL
  congr 2
 rw [e] at this;exact this
theorem NwRel.step{P C b a c bp:Nat}{wx:World}{o1:Nat→Tag}{j:Nat}(h:NwRel w o r P C b a c bp wx o1 j)(hr:Root r)(hj:j<8):NwRel w o r P C b a c bp (wx.setCell ⟨b,13+j,none⟩ (.int .i64 1)) o1 (j+1):=by
 have f:Fr (fun v=>v=r) wx o1 (wx.setCell ⟨b,13+j,none⟩ (.int .i64 1)) o1:=Fr.setCell (fun _=>h.blk.1) _;have hoff:∀n:Nat,Off (fun v=>v=r) (r++[n]):=fun n=>eq_off hr.r9 n []
 have hn:=h.new;refine⟨?_,h.cma.fr f (hoff 2),h.ar.fr f (hoff 1),h.po.fr f (hoff 3),h.tab.fr f (fun e=>hr.r9 (by rw [e];exact List.prefix_refl _)),h.fr.set' (p:=⟨b,13+j,none⟩) (fun q=>absurd q (by simp only;omega)) _,h.new⟩;have:=h.blk.set (13+j) (.int .i64 1);rw [ad_setS hj] at this;have e:up1 (fun i=>Value.int .i64 (if i<j then 1 else 0)) j (.int .i64 1)=fun i=>.int .i64 (if i<j+1 then 1 else 0):=by
  funext i
  unfold up1;by_cases q:i=j
  ·rw [if_pos q,if_pos (by omega)]
  ·rw [if_neg q]
   show Value.int .i64 (if i<j then 1 else 0)=_;by_cases q2:i<j
   ·rw [if_pos q2,if_pos (by omega)]
   ·rw [if_neg q2,if_neg (by omega)]
 rw [e] at this;exact this
theorem adNew_no(P C:Int)(w:World)(h:cfgB P C=false) :
  Calls Tryz.prog 27 #[.agg #[.int .i64 P,.int .i64 C]] w fun e w'=>e=.returned (.tuple #[.pointer none,.int .i64 12])∧Below w.heap.size w w':=by
 have hc:=HD (cmNew_no P C (w.alloc (.cells #[.int .i64 P,.int .i64 C] 23)) h);have hB:Hid (Below w.heap.size w (w.alloc (.cells #[.int .i64 P,.int .i64 C] 23))):=HD (below_alloc (Nat.le_refl _) (Below.refl _ _));clear h;go_enter Tryz.func27,Tryz.ntmps27
 go_wp2_with fail;refine hc.out.mono ?_;rintro e w1 ⟨rfl,hb⟩;replace hb:=HD hb;go_wp2_with fail;go_ret2
 exact⟨rfl,hB.out.trans (hb.out.mono (by simp))⟩
set_option maxHeartbeats 1000000 in
theorem adNew(P C:Nat)(w:World)(o:Nat→Tag)(r:Tag)(hr:Root r)(hT:Tab w o)(h:cfgB P C=true) :
  Calls Tryz.prog 27 #[.agg #[.int .i64 P,.int .i64 C]] w fun e w'=>∃b o',e=.returned (.tuple #[eP b,.int .i64 0])∧AdAt w' o' r b (List.replicate (P*512) 0) 0 (AdS.new P C)∧Fr (fun _=>False) w o w' o':=by
 obtain⟨h1,h2,h3,h4,h5⟩:=cfg_iff.1 h;have hall:=HD (show Calls Tryz.prog 44 #[.agg #[.int .i64 P,.int .i64 C]] (w.alloc (.cells #[.int .i64 P,.int .i64 C] 23)) (fun e w1=>∃c,e=.returned (.tuple #[eP c,.int .i64 0])∧(w1.cell? ⟨w.heap.size,0,none⟩=some (.int .i64 P)∧w1.cell? ⟨w.heap.size,1,none⟩=some (.int .i64 C)) ∧
   (w1.alloc (.cells (adZ P C c) 103)).cell? ⟨w.heap.size,0,none⟩=some (.int .i64 P) ∧
   Calls Tryz.prog 45 #[.int .i64 ((P:Int)*512)] (w1.alloc (.cells (adZ P C c) 103)) (fun e w3=>∃a,e=.returned (.tuple #[eP a,.int .i64 0])∧w3.cell? ⟨w1.heap.size,2,none⟩=some (.pointer none)∧w3.frozen? ⟨w1.heap.size,2,none⟩=false ∧
    (w3.setCell ⟨w1.heap.size,2,none⟩ (eP a)).cell? ⟨w.heap.size,1,none⟩=some (.int .i64 C) ∧
    Calls Tryz.prog 46 #[.int .i64 C] (w3.setCell ⟨w1.heap.size,2,none⟩ (eP a)) (fun e w5=>∃bp,e=.returned (.tuple #[eP bp,.int .i64 0])∧w5.cell? ⟨w1.heap.size,4,none⟩=some (.pointer none)∧w5.frozen? ⟨w1.heap.size,4,none⟩=false ∧
     ∃o',NwRel w o r P C w1.heap.size a c bp (w5.setCell ⟨w1.heap.size,4,none⟩ (eP bp)) o' 0))) from by
  have fc:Fr (fun _=>False) w o (w.alloc (.cells #[.int .i64 P,.int .i64 C] 23)) (setO o w.heap.size (r++[6])):=Fr.alloc _ _;have bc:=Blk.made w o (r++[6]) #[.int .i64 P,.int .i64 C] 23;refine(cmNew_yes P C _ _ (r++[2]) (hT.fr fc (fun q=>q)) (not_pre hr.r9) h).mono ?_;rintro e w1 ⟨c,o1,rfl,g1,f1⟩;have b1:=bc.fr f1 (fun q=>q);have fZ:Fr (fun _=>False) w1 o1 (w1.alloc (.cells (adZ P C c) 103)) (setO o1 w1.heap.size r):=Fr.alloc _ _;have bZ:=Blk.made w1 o1 r (adZ P C c) 103;have b2:=b1.fr fZ (fun q=>q);have hA:=arNew (P*512) (w1.alloc (.cells (adZ P C c) 103)) (setO o1 w1.heap.size r) (r++[1]) (by omega);rw [Int.natCast_mul] at hA;have hlt:w.heap.size≤w1.heap.size:=Nat.le_trans fc.size f1.size;refine⟨c,rfl,⟨b1.cell' (i:=0) rfl,b1.cell' (i:=1) rfl⟩,b2.cell' (i:=0) rfl,hA.mono ?_⟩;rintro e w3 ⟨a,rfl,g3,hb3⟩;generalize hO:newO (setO o1 w1.heap.size r) (w1.alloc (.cells (adZ P C c) 103)) (r++[1])=o3 at *;have f3:Fr (fun _=>False) (w1.alloc (.cells (adZ P C c) 103)) (setO o1 w1.heap.size r) w3 o3:=by rw [←hO];exact Fr.below' hb3 _
  have bZ3:=bZ.fr f3 (fun q=>q);have b3:=b2.fr f3 (fun q=>q);have fS:Fr (fun v=>v=r) w3 o3 (w3.setCell ⟨w1.heap.size,2,none⟩ (eP a)) o3:=Fr.setCell (fun _=>bZ3.1) _;have bS:=bZ3.set 2 (eP a);have hne6:r++[6]≠r:=fun e=>by have:=congrArg List.length e;simp at this
  have b4:=b3.fr fS hne6;have hoff:∀n:Nat,Off (fun v=>v=r) (r++[n]):=fun n=>eq_off hr.r9 n []
  have hoff9:¬((fun v=>v=r) [9]):=fun e=>hr.r9 (by show r <+: [9];rw [e];exact List.prefix_refl _)
  have hTS:=((((hT.fr fc (fun q=>q)).fr f1 (fun q=>q)).fr fZ (fun q=>q)).fr f3 (fun q=>q)).fr fS hoff9;refine⟨a,rfl,bZ3.cell' (i:=2) rfl,bZ3.free 2,b4.cell' (i:=1) rfl,(poNew C _ o3 (r++[3]) hTS (by omega)).mono ?_⟩;rintro e w5 ⟨bp,o5,rfl,g5,f5⟩;have bS5:=bS.fr f5 (fun q=>q);have fS2:Fr (fun v=>v=r) w5 o5 (w5.setCell ⟨w1.heap.size,4,none⟩ (eP bp)) o5:=Fr.setCell (fun _=>bS5.1) _;refine⟨bp,rfl,bS5.cell' (i:=4) rfl,bS5.free 4,o5,bS5.set 4 (eP bp),?_,?_,g5.fr fS2 (hoff 3),((hTS.fr f5 (fun q=>q)).fr fS2 hoff9),?_,hlt⟩
  ·exact((((g1.fr fZ off_no).fr f3 off_no).fr fS (hoff 2)).fr f5 off_no).fr fS2 (hoff 2)
  ·exact((g3.fr fS (hoff 1)).fr f5 off_no).fr fS2 (hoff 1)
  ·have k1:Fr (fun _=>False) w o w3 o3:=((fc.trans f1).trans fZ).trans f3
   exact((k1.set' (p:=⟨w1.heap.size,2,none⟩) (fun q=>absurd q (by simp only;omega)) (eP a)).trans f5).set' (p:=⟨w1.heap.size,4,none⟩) (fun q=>absurd q (by simp only;omega)) (eP bp))
 have hst:=HD (fun b a c bp wx o1 j (q:NwRel w o r P C b a c bp wx o1 j) (hj:j<8)=>q.step hr hj);have hcl:=HD (fun b a c bp wx o1 j (q:NwRel w o r P C b a c bp wx o1 j) (hj:j<8)=>(show wx.cell? ⟨b,13+j,none⟩=some (.int .i64 (if j<j then 1 else 0))∧wx.frozen? ⟨b,13+j,none⟩=false from⟨q.blk.cell' (ad_cellS hj),q.blk.free _⟩));have hdn:=HD (fun b a c bp wx o1 (q:NwRel w o r P C b a c bp wx o1 8)=>(show AdAt wx o1 r b (List.replicate (P*512) 0) 0 (AdS.new P C)∧Fr (fun _=>False) w o wx o1 from⟨q.done h,q.fr⟩));have u1:=IntWalk.i64_in ((P:Int)*512) (by omega);clear hT h h1 h2 h3 h4 h5 hr;go_enter Tryz.func27,Tryz.ntmps27
 go_wp2_with fail;refine hall.out.mono ?_;rintro e w1 ⟨c,rfl,⟨c0,c1⟩,c2,har⟩;replace har:=HD har;clear hall;go_wp2_with fail;refine har.out.mono ?_;rintro e w3 ⟨a,rfl,z1,z2,c3,hpo⟩;replace hpo:=HD hpo;clear har c0 c1 c2;go_wp2_with fail;refine hpo.out.mono ?_;rintro e w5 ⟨bp,rfl,z3,z4,o5,hR0⟩;replace hR0:=HD hR0;clear hpo z1 z2 c3;go_wp2_with fail;clear z3 z4;go_loopg [39] 8 (fun gh i wx=>∃(j:Nat) (o1:Nat→Tag),j≤8∧gh=8-j∧i=.int .i64 j∧Hid (NwRel w o r P C w1.heap.size a c bp wx o1 j))
 case atStart=>exact⟨0,o5,Nat.zero_le _,rfl,rfl,hR0⟩
 case round =>
  clear hR0;obtain⟨j,o1,hj,rfl,rfl,hRR⟩:=hrel;by_cases hlt:j<8
  ·have d0:decide ((j:Int)<8)=true:=decide_eq_true (by omega)
   obtain⟨z1,z2⟩:=hcl.out _ _ _ _ _ _ _ hRR.out hlt;have hR2:=HD (hst.out _ _ _ _ _ _ _ hRR.out hlt);have hidx:0≤(j:Int)∧(j:Int)<8:=by omega
   have hkk:((j:Int)).toNat=j:=by omega
   clear hRR;go_wp2_with fail;go_roundg (8-(j+1))
   case measure=>omega
   case rel=>exact⟨j+1,o1,by omega,rfl,by go_num,hR2⟩
  ·have d0:decide ((j:Int)<8)=false:=decide_eq_false (by omega)
   obtain rfl:j=8:=by omega
   obtain⟨r1,r2⟩:=hdn.out _ _ _ _ _ _ hRR.out;replace r1:=HD r1;replace r2:=HD r2;clear hRR;go_wp2_with fail;go_ret2
   exact⟨_,_,rfl,r1.out,r2.out⟩
end
end
section
open Go.RowKit Flt
attribute [local irreducible] CpS.rv
theorem low_least{s:ShS}{k:Nat}(h:s.low=some k)(c:Nat)(hc:c<k):s.f c=false:=by
 unfold ShS.low at h;obtain⟨h1,i,hi,e,h2⟩:=List.find?_eq_some_iff_getElem.1 h;simp only [List.getElem_range] at e h2;subst e;have:=h2 c hc;simpa using this
theorem takes_rise(s:ShS):∀k,k≤s.cnt→(s.takes k).1.Pairwise (· < ·)∧∀x∈(s.takes k).1,∀c:Nat,(c:Int)≤x→(s.takes k).2.f c=false
 |0,_=>⟨List.Pairwise.nil,fun x h=>(by cases h)⟩
 |k+1,h=>by
  have T:=takes_ok s k (by omega);obtain⟨r1,r2⟩:=takes_rise s k (by omega);have hc:=T.cnt;rcases low_cases (s.takes k).2 with ⟨e,_⟩|⟨j,e,el,h1,h2⟩
  ·have:=low_neg e;omega
  have e1:(s.takes k).2.tkV=j:=by unfold ShS.tkV;rw [if_neg (by omega),e]
  have e2:(s.takes k).2.tk=(s.takes k).2.flip j:=by unfold ShS.tk;rw [if_neg (by omega),e,Int.toNat_natCast]
  have hgt:∀x∈(s.takes k).1,x<j:=fun x hx=>by
   refine Int.not_le.1 fun q=>?_
   have:=r2 x hx j q;rw [h2] at this;cases this
  show ((s.takes k).1++[(s.takes k).2.tkV]).Pairwise _∧∀x∈(s.takes k).1++[(s.takes k).2.tkV],∀c:Nat,(c:Int)≤x→((s.takes k).2.tk).f c=false;rw [e1,e2];refine⟨List.pairwise_append.2 ⟨r1,List.pairwise_singleton _ _,fun a ha b hb=>by rw [List.mem_singleton] at hb;rw [hb];exact hgt a ha⟩,fun x hx c hcx=>?_⟩;rw [flip_f];by_cases q:c=j
  ·rw [if_pos q,q,h2];rfl
  ·rw [if_neg q]
   rcases List.mem_append.1 hx with hx|hx
   ·exact r2 x hx c hcx
   ·rw [List.mem_singleton] at hx
    exact low_least el c (by omega)
theorem sortedR{l:List Int}(h:l.Pairwise (· < ·)):sorted l=l:=by
 refine List.mergeSort_of_pairwise (List.Pairwise.imp (fun {a b} hab=>?_) h);simp;omega
def AdS.wlOf(s:AdS)(i:Nat):Nat:=match s.ts i with
 |none=>0
 |some t=>t.wl
def AdS.free(s:AdS):Nat:=s.C-((List.range 8).map s.wlOf).sum
def AdS.create(s:AdS)(i:Nat)(col q:Int):Int×AdS :=
 if (s.ts i).isSome=true then (7,s)
 else if s.sizeE col q≠0 then (2,s)
 else if col*(s.P/s.C:Nat)<demT q then (8,s)
 else if (s.free:Int)<col then (9,s)
 else (0,s.set i (TnS.new i (s.ser i) q col.toNat))
section
variable{S:Tag→Prop}{w w' w1:World}{o o' o1:Nat→Tag}{r:Tag}{b:Nat}{x:AdX}{B:List UInt8}{m:Nat}{cm:CmS}{p:PoS}{tbs:Nat→TbS}{s:AdS}
theorem AdOk.wl(h:AdOk B cm p tbs s){i:Nat}(hi:i<8):(p.W i).length=s.wlOf i:=by
 unfold AdS.wlOf;cases e:s.ts i with
 |none=>rw [h.non i hi e];rfl
 |some t=>exact(h.tn i t hi e).1.wl
theorem AdOk.free(h:AdOk B cm p tbs s):p.sh.cnt=s.free:=by
 have h1:=h.po.ct;have e:wsum p.W=((List.range 8).map s.wlOf).sum:=by
  unfold wsum
  congr 1
  exact List.map_congr_left fun i hi=>h.wl (List.mem_range.1 hi)
 unfold AdS.free;omega
theorem AdOk.c32(h:AdOk B cm p tbs s):1≤s.C∧s.C≤32∧1≤s.P∧s.P≤4096∧s.P/s.C≤4096:=by
 obtain⟨h1,h2,h3,h4,h5,h6⟩:=h.cmo;rw [h.C] at h1 h2;rw [h.P] at h3 h4;exact⟨h1,h2,h3,h4,Nat.le_trans (Nat.div_le_self _ _) h4⟩
theorem AdOk.wlen(h:AdOk B cm p tbs s){i:Nat}(hi:i<8):(p.W i).length≤32:=by
 have:=nodup_len s.C (p.W i) (h.po.nd i hi) (h.po.rg i hi);have:=h.c32;omega
theorem AdOk.fresh(h:AdOk B cm p tbs s){i k:Nat}(hi:i<8)(hn:s.ts i=none)(hk:k≤p.sh.cnt) :
  (p.grant i k).W i=(p.sh.takes k).1∧HpOk B cm (p.sh.takes k).1 ⟨[],[]⟩ AlS.new∧(p.sh.takes k).1.Nodup∧(∀y∈(p.sh.takes k).1,0≤y∧y<cm.C)∧(p.sh.takes k).1.length=k:=by
 obtain⟨g1,g2,g3,g4,g5⟩:=h.po.grant hi hk;have hl:=takes_len p.sh k;have hw:=h.non i hi hn;refine⟨?_,HpOk.new h.cmo h.len ⟨⟨List.Pairwise.nil,List.Pairwise.nil⟩,fun v q=>⟨fun a=>(by cases a),fun a=>(by cases a)⟩,fun v q a=>(by cases a),⟨g4,by rw [h.C];exact g5⟩,fun c hc=>?_⟩ h.z,g4,by rw [h.C];exact g5,hl⟩
 ·show up1 p.W i _ i=_
  rw [up1_same,hw,List.nil_append,sortedR (takes_rise p.sh k hk).1]
 ·have hr:=g5 _ hc
  have:=h.un c (by omega) (fun j hj=>g3 _ hc j hj);rw [this];simp
theorem AdG.made(h:AdG w o r b x B m cm p tbs s)(hr:Root r){i k:Nat}(hi:i<8)(hn:s.ts i=none)(hk:k≤p.sh.cnt)(hk1:1≤k){q:Int}{bt:Nat}(hser:1≤s.ser i∧s.ser i≤17592186044416)(hq:mayB q=true)(hd:demT q≤(k*(s.P/s.C):Nat))
  (hp:PoAt w1 o1 (r++[3]) x.bp (p.grant i k)) (f:Fr (fun v=>Und (r++[3]) v∨Und (r++[4,i]) v) w o w1 o1) (ht:TnAt w1 o1 (r++[4,i]) (r++[2]) (r++[1]) bt x.a x.c B m cm (p.sh.takes k).1 ⟨[],[]⟩ (TnS.new i (s.ser i) q k)) :
  AdAt (w1.setCell ⟨b,5+i,none⟩ (eP bt)) o1 r b B m (s.set i (TnS.new i (s.ser i) q k))∧Fr (Und r) w o (w1.setCell ⟨b,5+i,none⟩ (eP bt)) o1:=by
 obtain⟨e1,e2,e3,e4,e5⟩:=h.ok.fresh hi hn hk;obtain⟨g1,g2,g3,g4,g5⟩:=h.ok.po.grant hi hk;have hnr:¬(Und (r++[3]) r∨Und (r++[4,i]) r):=fun q=>q.elim (not_und r 3 []) (not_und r 4 [i])
 have b1:=h.blk.fr f hnr;have fS:Fr (fun v=>v=r) w1 o1 (w1.setCell ⟨b,5+i,none⟩ (eP bt)) o1:=Fr.setCell (fun _=>b1.1) _;have hoff:∀(n:Nat) (l:Tag),Off (fun v=>v=r) (r++n :: l):=fun n l=>eq_off hr.r9 n l
 have hu:∀n:Nat,n≠3→n≠4→∀l,Off (fun v=>Und (r++[3]) v∨Und (r++[4,i]) v) (r++n :: l):=fun n h3 h4 l =>
  ⟨fun y hy q=>q.elim ((ad_off (p:=[]) (q:=l) hr (Ne.symm h3)).1 y hy) ((ad_off (p:=[i]) (q:=l) hr (Ne.symm h4)).1 y hy),fun q=>q.elim ((ad_off (p:=[]) (q:=l) hr (Ne.symm h3)).2) ((ad_off (p:=[i]) (q:=l) hr (Ne.symm h4)).2)⟩
 obtain⟨gc,ga⟩:=ht.parts;refine⟨⟨⟨x.a,x.c,x.bp,up1 x.bt i bt⟩,cm,p.grant i k,up1 tbs i ⟨[],[]⟩,?_,gc.fr fS (hoff 2 []),ga.fr fS (hoff 1 []),hp.fr fS (hoff 3 []),fun j u hj hju=>?_,?_,⟨h.ok.P,h.ok.C,h.ok.cmo,h.ok.len,h.ok.z,g1,fun j hj hju=>?_,fun j u hj hju=>?_,fun d hd2 hno=>?_⟩⟩,(f.mono fun v q=>q.elim (fun q=>q.up) (fun q=>q.up)).trans (fS.mono fun v q=>by rw [q];exact Und.self r)⟩
 ·have:=b1.set (5+i) (eP bt)
  rw [ad_set hi] at this;have e:up1 (tvF s x) i (eP bt)=tvF (s.set i (TnS.new i (s.ser i) q k)) ⟨x.a,x.c,x.bp,up1 x.bt i bt⟩:=by
   funext j
   unfold tvF AdS.set;simp only;by_cases c:j=i
   ·subst c;rw [up1_same,up1_same,up1_same]
   ·rw [up1_other c,up1_other c,up1_other c]
  rw [e] at this;exact this
 ·by_cases c:j=i
  ·subst c
   rw [show (s.set j (TnS.new j (s.ser j) q k)).ts j=some (TnS.new j (s.ser j) q k) from up1_same] at hju;obtain rfl:=Option.some.inj hju;simp only [up1_same];rw [e1];exact ht.other fS (hoff 4 [j]) (gc.fr fS (hoff 2 [])) (ga.fr fS (hoff 1 [])) rfl rfl
  ·rw [show (s.set i (TnS.new i (s.ser i) q k)).ts j=s.ts j from up1_other c] at hju
   simp only [up1_other c];rw [show (p.grant i k).W j=p.W j from up1_other c];have hoj:Off (fun v=>Und (r++[3]) v∨Und (r++[4,i]) v) (r++[4,j]) :=
    ⟨fun y hy q=>q.elim ((ad_off (i:=3) (j:=4) (p:=[]) (q:=[j]) hr (by decide)).1 y hy) ((ad_off4 (p:=[]) (q:=[]) hr (Ne.symm c)).1 y hy),fun q=>q.elim ((ad_off (i:=3) (j:=4) (p:=[]) (q:=[j]) hr (by decide)).2) ((ad_off4 (p:=[]) (q:=[]) hr (Ne.symm c)).2)⟩
   exact((h.tn j u hj hju).other f hoj gc ga rfl rfl).other fS (hoff 4 [j]) (gc.fr fS (hoff 2 [])) (ga.fr fS (hoff 1 [])) rfl rfl
 ·exact(h.tab.fr f (fun q=>q.elim (not_pre hr.r9) (not_pre hr.r9))).fr fS (fun e=>hr.r9 (by show r <+: [9];rw [e];exact List.prefix_refl _))
 ·by_cases c:j=i
  ·subst c
   rw [show (s.set j (TnS.new j (s.ser j) q k)).ts j=some (TnS.new j (s.ser j) q k) from up1_same] at hju;cases hju
  ·rw [show (s.set i (TnS.new i (s.ser i) q k)).ts j=s.ts j from up1_other c] at hju
   rw [show (p.grant i k).W j=p.W j from up1_other c];exact h.ok.non j hj hju
 ·by_cases c:j=i
  ·subst c
   rw [show (s.set j (TnS.new j (s.ser j) q k)).ts j=some (TnS.new j (s.ser j) q k) from up1_same] at hju;obtain rfl:=Option.some.inj hju;rw [up1_same,e1];refine⟨?_,rfl,hk1⟩;have:=TnOk.new (B:=B) (cm:=cm) (win:=(p.sh.takes k).1) (id:=(j:Int)) (serial:=s.ser j) (q:=q) (by omega) hser hq (by rw [e5,h.ok.P,h.ok.C];exact hd) e2;rw [e5] at this;exact this
  ·rw [show (s.set i (TnS.new i (s.ser i) q k)).ts j=s.ts j from up1_other c] at hju
   rw [up1_other c,show (p.grant i k).W j=p.W j from up1_other c];exact h.ok.tn j u hj hju
 ·refine h.ok.un d hd2 fun j hj hin=>hno j hj ?_
  by_cases c:j=i
  ·subst c
   rw [h.ok.non j hi hn] at hin;cases hin
  ·rw [show (p.grant i k).W j=p.W j from up1_other c];exact hin
end
end
section
open Go.RowKit Flt
attribute [local irreducible] CpS.rv
section
variable{S:Tag→Prop}{w w' w1:World}{o o' o1:Nat→Tag}{r:Tag}{b:Nat}{x:AdX}{B:List UInt8}{m:Nat}{cm:CmS}{p:PoS}{tbs:Nat→TbS}{s:AdS}
def AdEnd(w:World)(o:Nat→Tag)(r:Tag)(b:Nat)(B:List UInt8)(m:Nat)(s':AdS)(w':World):Prop:=∃o',AdAt w' o' r b B m s'∧Fr (Und r) w o w' o'
theorem AdG.end_(h:AdG w o r b x B m cm p tbs s)(f:Fr (fun _=>False) w o w' o'):AdEnd w o r b B m s w':=⟨o',⟨x,cm,p,tbs,h.fr f off_no⟩,f.mono fun v q=>q.elim⟩
set_option maxHeartbeats 2000000 in
theorem adCreate(i:Nat)(col q:Int)(h:AdG w o r b x B m cm p tbs s)(hr:Root r)(hi:i<8)(hser:1≤s.ser i∧s.ser i≤17592186044416) :
  Calls Tryz.prog 31 #[eP b,.int .i64 i,.int .i64 col,.int .i64 q] w fun e w'=>e=.returned (.int .i64 (s.create i col q).1)∧AdEnd w o r b B m (s.create i col q).2 w':=by
 have hre:=HD (adReady b i w hi);have c1:w.cell? ⟨b,5+i,none⟩=some (tvF s x i):=h.blk.cell' (ad_cell hi);have hidx:0≤(i:Int)∧(i:Int)<8:=by omega
 have hkk:((i:Int)).toNat=i:=by omega
 obtain⟨tq,etv,etn,ets⟩:=tv_form s x i;rw [etv] at c1;have hend0:=HD (h.end_ (Fr.refl (fun _=>False) w o));unfold AdS.create;cases hsi:s.ts i with
 |some t =>
  rw [if_pos (show (some t).isSome=true from rfl)];simp only;obtain rfl:=ets t hsi;clear h hr hi hser etv etn ets hsi;go_enter Tryz.func31,Tryz.ntmps31
  go_wp2_with fail;go_step3
  go_wp2_with fail;refine SM hre.out ?_;go_wp2_with fail;rw [Exit.noGoto_ret];go_ret
  exact⟨rfl,hend0.out⟩
 |none =>
  rw [if_neg (by simp)];obtain rfl:=etn.2 hsi;have hsz:=HD (adSize b col q w h);by_cases hz:s.sizeE col q=0
  ·rw [if_neg (fun k=>k hz)]
   rw [hz] at hsz;have hz2:mayB q=true∧1≤col∧col≤s.C:=by
    unfold AdS.sizeE at hz;by_cases c:mayB q=true∧1≤col∧col≤s.C
    ·exact c
    ·rw [if_neg c] at hz;cases hz
   obtain⟨hq,hc1,hc2⟩:=hz2;obtain⟨k1,k2,k3,k4,k5⟩:=h.ok.c32;obtain⟨k,rfl⟩:∃k:Nat,col=k:=⟨col.toNat,by omega⟩
   have hea:=HD (cmEach x.c w h.cma);rw [h.ok.P,h.ok.C] at hea;have c3:w.cell? ⟨b,3,none⟩=some (eP x.c):=h.blk.cell' (i:=3) rfl;have hmul:k*(s.P/s.C)≤131072:=Nat.le_trans (Nat.mul_le_mul (show k≤32 by omega) k5) (by decide);have u1:=IntWalk.i64_in ((k:Int)*(s.P/s.C:Nat)) (by rw [←Int.natCast_mul];omega);have hfi:=HD (demFits_any q ((k:Int)*(s.P/s.C:Nat)) w.drew);rw [hq,Bool.true_and] at hfi;by_cases hd:(k:Int)*(s.P/s.C:Nat)<demT q
   ·rw [if_pos hd]
    simp only;rw [decide_eq_false (show ¬demT q≤(k:Int)*(s.P/s.C:Nat) by omega)] at hfi;have hendD:=HD (h.end_ (Fr.drew (S:=fun _=>False) (w:=w) (o:=o)));clear h hr hi hser etv etn ets hsi hd hmul hq hc1 hc2 k1 k2 k3 k4 k5 hz hend0;generalize ((s.P/s.C:Nat):Int)=E at *;go_enter Tryz.func31,Tryz.ntmps31
    go_wp2_with fail;go_step3
    go_wp2_with fail;refine SM hre.out ?_;go_wp2_with fail;refine SM hsz.out ?_;go_wp2_with fail;refine SM hea.out ?_;go_wp2_with fail;refine SM hfi.out ?_;go_wp2_with fail;rw [Exit.noGoto_ret];go_ret
    exact⟨rfl,hendD.out⟩
   ·rw [if_neg hd]
    rw [decide_eq_true (show demT q≤(k:Int)*(s.P/s.C:Nat) by omega)] at hfi;have c4:w.drew.cell? ⟨b,4,none⟩=some (eP x.bp):=h.blk.cell' (i:=4) rfl;have hfree:=h.ok.free;have hD:=h.fr (Fr.drew (S:=fun _=>False) (w:=w) (o:=o)) off_no;by_cases hf:(s.free:Int)<k
    ·rw [if_pos hf]
     simp only;have hgr:=HD (poGrant_no x.bp i k w.drew hD.po hi (by omega));have hendD:=HD (h.end_ (Fr.drew (S:=fun _=>False) (w:=w) (o:=o)));clear h hr hi hser etv etn ets hsi hd hmul hq hc1 hc2 k1 k2 k3 k4 k5 hz hend0 hf hfree hD;generalize ((s.P/s.C:Nat):Int)=E at *;go_enter Tryz.func31,Tryz.ntmps31
     go_wp2_with fail;refine wp_scope_jumps 0 (fun a' w'=>w'=w.drew∧∃fv:Nat→Value,a'={tmps:=#[fv 0,fv 1,fv 2,fv 3,fv 4,fv 5,fv 6,fv 7,fv 8,fv 9,.int .i64 9,fv 11,fv 12,fv 13,fv 14,fv 15,fv 16,fv 17,fv 18,fv 19,fv 20,fv 21,fv 22,fv 23,fv 24,fv 25,fv 26,fv 27,fv 28,fv 29,fv 30,fv 31,fv 32,fv 33,fv 34,fv 35,fv 36,fv 37,fv 38,fv 39,fv 40,fv 41,fv 42,fv 43,fv 44,fv 45,fv 46,fv 47,fv 48,fv 49,fv 50,fv 51,fv 52,fv 53,fv 54,fv 55,fv 56,fv 57,fv 58,fv 59,fv 60,fv 61,fv 62,fv 63,fv 64,fv 65,fv 66,fv 67,fv 68,fv 69,fv 70,fv 71,fv 72,fv 73,fv 74,fv 75,fv 76,fv 77],defers:=[]}) (fun _ _=>0) rfl ?_ ?_
     ·go_wp2_with fail
      refine SM hre.out ?_;go_wp2_with fail;refine SM hsz.out ?_;go_wp2_with fail;refine SM hea.out ?_;go_wp2_with fail;refine SM hfi.out ?_;go_wp2_with fail;refine SM hgr.out ?_;go_wp2_with fail;go_step3
      exact⟨rfl,rfl,fun k=>List.getD [_,_,_,_,_,_,_,_,_,_,undef,_,_,_,_,_,_,_,_,_,_,_,_,_,_,_,_,_,_,_,_,_,_,_,_,_,_,_,_,_,_,_,_,_,_,_,_,_,_,_,_,_,_,_,_,_,_,_,_,_,_,_,_,_,_,_,_,_,_,_,_,_,_,_,_,_,_,_] k undef,rfl⟩
     ·rintro a' w2 ⟨rfl,fv,rfl⟩
      go_wp2_with fail;simp only [Exit.jump];go_ret
      exact⟨rfl,hendD.out⟩
    ·rw [if_neg hf]
     simp only;rw [Int.toNat_natCast];have hkc:k≤p.sh.cnt:=by omega
     have hall:=HD (show Calls Tryz.prog 51 #[eP x.bp,.int .i64 i,.int .i64 k] w.drew (fun e w2=>∃A n c,e=.returned (.tuple #[.slice A n c,.int .i64 0])∧(w2.drew.cell? ⟨b,2,none⟩=some (eP x.a)∧w2.drew.cell? ⟨b,3,none⟩=some (eP x.c)∧w2.drew.cell? ⟨b,13+i,none⟩=some (.int .i64 (s.ser i))) ∧
       Calls Tryz.prog 52 #[eP x.a,eP x.c,.int .i64 i,.int .i64 (s.ser i),.int .i64 q,.slice A n c] w2.drew (fun e w3=>∃bt,e=.returned (.tuple #[eP bt,.int .i64 0])∧(w3.cell? ⟨b,2,none⟩=some (eP x.a)∧w3.cell? ⟨b,3,none⟩=some (eP x.c)∧w3.cell? ⟨b,13+i,none⟩=some (.int .i64 (s.ser i))) ∧
        w3.cell? ⟨b,5+i,none⟩=some (.pointer none)∧w3.frozen? ⟨b,5+i,none⟩=false∧AdEnd w o r b B m (s.set i (TnS.new i (s.ser i) q k)) (w3.setCell ⟨b,5+i,none⟩ (eP bt)))) from by
      obtain⟨e1,e2,e3,e4,e5⟩:=h.ok.fresh hi hsi hkc;refine(poGrant x.bp i k w.drew hD.po (not_pre hr.r9) hi hkc (by omega) (by have:=h.ok.wlen hi;omega)).mono ?_;rintro e w2 ⟨v,o2,rfl,r2,p2,f2⟩;obtain⟨A,c,rfl,_⟩:=r2.ints;have fD:Fr (Und (r++[3])) w o w2.drew o2:=((Fr.drew (S:=Und (r++[3])) (w:=w) (o:=o)).trans f2).trans Fr.drew;have b2:=h.blk.fr fD (not_und r 3 []);refine⟨A,_,c,rfl,⟨b2.cell' (i:=2) rfl,b2.cell' (i:=3) rfl,b2.cell' (ad_cellS hi)⟩,?_⟩;have hcm:=h.cma.fr fD (ad_off (p:=[]) (q:=[]) hr (by decide));have har:=h.ar.fr fD (ad_off (p:=[]) (q:=[]) hr (by decide));have htb:=h.tab.fr fD (not_pre hr.r9);refine(tnNew (w:=w2.drew) (o:=o2) (t:=r++[4,i]) (u:=r++[2]) (z:=r++[1]) (win:=(p.sh.takes k).1) (tw:=r++[3]++[2]) i (s.ser i) q (.slice A (p.sh.takes k).1.length c) hcm har (r2.fr (Fr.drew (S:=fun _=>False)) (fun q=>q)).ints e3 e4 (by omega) hser htb (ad_ap3 hr i) (by
       show ¬(r++[4,i]) <+: (r++[3]++[2])
       rw [List.append_assoc];intro q;have:=(List.prefix_append_right_inj r).1 q;simp at this) hq (by rw [e5,h.ok.P,h.ok.C];omega) e2).mono ?_
      rintro e w3 ⟨bt,o3,rfl,t3,f3⟩;rw [e5] at t3;have b3:=b2.fr f3 (not_und r 4 [i]);have c5:=b3.cell' (ad_cell hi);rw [etv] at c5;refine⟨bt,rfl,⟨b3.cell' (i:=2) rfl,b3.cell' (i:=3) rfl,b3.cell' (ad_cellS hi)⟩,c5,b3.free _,o3,?_⟩;have fA:Fr (fun v=>Und (r++[3]) v∨Und (r++[4,i]) v) w o w3 o3:=(fD.mono fun v q=>.inl q).trans (f3.mono fun v q=>.inr q);have p3:=((p2.fr (Fr.drew (S:=fun _=>False)) off_no).fr f3 (ad_off (p:=[i]) (q:=[]) hr (by decide)))
      exact h.made hr hi hsi hkc (by omega) hser hq (by rw [Int.natCast_mul];omega) p3 fA t3)
     clear h hr hi hser etv etn ets hsi hd hmul hq hc1 hc2 k1 k2 k3 k4 k5 hz hend0 hf hfree hD hkc;generalize s.set i (TnS.new i (s.ser i) q k)=s' at *;generalize ((s.P/s.C:Nat):Int)=E at *;go_enter Tryz.func31,Tryz.ntmps31
     go_wp2_with fail;go_step3
     go_wp2_with fail;refine SM hre.out ?_;go_wp2_with fail;refine SM hsz.out ?_;go_wp2_with fail;refine SM hea.out ?_;go_wp2_with fail;refine SM hfi.out ?_;go_wp2_with fail;refine hall.out.mono ?_;rintro e w2 ⟨A,n,c,rfl,hcc,hnw⟩;replace hnw:=HD hnw;clear hall hre hsz hea hfi;go_wp2_with fail;refine wp_region_noPanic ?_;refine wp_region_T (S:=(fun W'=>W'.cell? ⟨b,2,none⟩=some (eP x.a)∧W'.cell? ⟨b,3,none⟩=some (eP x.c)∧W'.cell? ⟨b,13+i,none⟩=some (.int .i64 (s.ser i)))) 26 (by kernel_rfl) ?_ (fun hHeld=>?_)
     ·(first|exact hcc|exact hc3)
     refine tkY 0 (h:=?_);refine tkY 1 (h:=?_);refine tkY 2 (h:=?_);refine tkY 3 (h:=?_);refine tkY 4 (h:=?_);refine tkT 5 (h:=?_);refine tkY 6 (h:=?_);refine tkY 7 (h:=?_);refine tkY 8 (h:=?_);refine tkT 9 (h:=?_);refine tkY 10 (h:=?_);refine tkY 11 (h:=?_);refine tkY 12 (h:=?_);refine tkY 13 (h:=?_);refine tkY 14 (h:=?_);refine tkY 15 (h:=?_);refine tkT 16 (h:=?_);refine tkY 17 (h:=?_);refine tkY 18 (h:=?_);refine tkY 23 (h:=?_);refine tkY 24 (h:=?_);refine onT 19 (h:=fun K hK=>?_);go_simp;refine hnw.out.mono ?_;rintro e w3 ⟨bt,rfl,hc3,z1,z2,hfin⟩;replace hfin:=HD hfin;go_wp2_with fail;refine hK.out _ _ ?_ (fun hHeld=>?_)
     ·(first|exact hcc|exact hc3)
     clear hK;refine nmT (h:=?_);refine tkY 20 (h:=?_);refine tkY 21 (h:=?_);refine tkY 22 (h:=?_);refine tkY 25 (h:=?_);refine atT (h:=fun K hK=>?_);go_simp;refine hK.out _ _ ?_;clear hK;refine tkL 27 (h:=?_);refine wpAnyT_done (by kernel_rfl) ?_ _;refine NoPanic.normal ?_;clear hcc hnw;go_wp2_with fail;go_step3
     go_wp2_with fail;rw [Exit.noGoto_ret];go_ret
     exact⟨rfl,hfin.out⟩
  ·rw [if_pos hz]
   simp only;have hz3:s.sizeE col q=2:=by
    unfold AdS.sizeE at hz ⊢;by_cases c:mayB q=true∧1≤col∧col≤s.C
    ·rw [if_pos c] at hz;exact absurd rfl hz
    ·rw [if_neg c]
   rw [hz3] at hsz;clear h hr hi hser etv etn ets hsi hz hz3;go_enter Tryz.func31,Tryz.ntmps31
   go_wp2_with fail;refine wp_scope_jumps 0 (fun a' w'=>w'=w∧∃fv:Nat→Value,a'={tmps:=#[fv 0,fv 1,fv 2,fv 3,fv 4,fv 5,fv 6,fv 7,fv 8,fv 9,.int .i64 2,fv 11,fv 12,fv 13,fv 14,fv 15,fv 16,fv 17,fv 18,fv 19,fv 20,fv 21,fv 22,fv 23,fv 24,fv 25,fv 26,fv 27,fv 28,fv 29,fv 30,fv 31,fv 32,fv 33,fv 34,fv 35,fv 36,fv 37,fv 38,fv 39,fv 40,fv 41,fv 42,fv 43,fv 44,fv 45,fv 46,fv 47,fv 48,fv 49,fv 50,fv 51,fv 52,fv 53,fv 54,fv 55,fv 56,fv 57,fv 58,fv 59,fv 60,fv 61,fv 62,fv 63,fv 64,fv 65,fv 66,fv 67,fv 68,fv 69,fv 70,fv 71,fv 72,fv 73,fv 74,fv 75,fv 76,fv 77],defers:=[]}) (fun _ _=>0) rfl ?_ ?_
   ·go_wp2_with fail
    refine SM hre.out ?_;go_wp2_with fail;refine SM hsz.out ?_;go_wp2_with fail;go_step3
    exact⟨rfl,rfl,fun k=>List.getD [_,_,_,_,_,_,_,_,_,_,undef,_,_,_,_,_,_,_,_,_,_,_,_,_,_,_,_,_,_,_,_,_,_,_,_,_,_,_,_,_,_,_,_,_,_,_,_,_,_,_,_,_,_,_,_,_,_,_,_,_,_,_,_,_,_,_,_,_,_,_,_,_,_,_,_,_,_,_] k undef,rfl⟩
   ·rintro a' w2 ⟨rfl,fv,rfl⟩
    go_wp2_with fail;simp only [Exit.jump];go_ret
    exact⟨rfl,hend0.out⟩
end
end
end Go.Proofs.YtfliaggjkianpaaGreatDoor
