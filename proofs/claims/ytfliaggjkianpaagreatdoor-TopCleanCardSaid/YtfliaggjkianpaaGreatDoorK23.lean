import Derived.Test.YtfliaggjkianpaaGreatDoorK22
set_option linter.unusedVariables false
set_option linter.unusedSimpArgs false
set_option maxRecDepth 100000
namespace Go.Proofs.YtfliaggjkianpaaGreatDoor
section
open Go.RowKit Flt
attribute [local irreducible] CpS.rv
def AdS.do_(s:AdS)(x:OpS):Ans×AdS :=
 if rightO x.K x.T x.s=true then
  if x.K=1 then (⟨(s.create x.T.toNat x.M x.N).1,0,0,0,ByteArray.empty,(s.create x.T.toNat x.M x.N).2.chg x.T.toNat⟩,(s.create x.T.toNat x.M x.N).2)
  else if x.K=2 then (⟨(s.resize x.T.toNat x.M x.N).1,0,0,0,ByteArray.empty,(s.resize x.T.toNat x.M x.N).2.chg x.T.toNat⟩,(s.resize x.T.toNat x.M x.N).2)
  else if x.K=3 then (⟨(s.destroy x.T.toNat).1,0,0,0,ByteArray.empty,(s.destroy x.T.toNat).2.chg x.T.toNat⟩,(s.destroy x.T.toNat).2)
  else match s.ts x.T.toNat with
   |none=>(⟨6,0,0,0,ByteArray.empty,0⟩,s)
   |some t=>({(t.ask x).1 with ch:=(t.ask x).2.cb},s.set x.T.toNat (t.ask x).2)
 else (⟨1,0,0,0,ByteArray.empty,0⟩,s)
section
variable{B:List UInt8}{cm:CmS}{win:List Int}{tb:TbS}{t:TnS}{p:PoS}{tbs:Nat→TbS}{s:AdS}{K:Nat}
structure Kept(t t':TnS):Prop where
 wl:t'.wl=t.wl
 tn:t'.cp.tenant=t.cp.tenant
 up:t'.cp.next≤t.cp.next+1
 lo:t.cp.next≤t'.cp.next
 qb:t'.qb=t.qb
 pk:t'.pk=t.pk
theorem Kept.refl(t:TnS):Kept t t:=⟨rfl,rfl,by omega,by omega,rfl,rfl⟩
theorem kept_put(t:TnS)(a:Int):Kept t (t.put a):=by
 obtain⟨h1,h2⟩:=rv_next t.cp a 4160;exact⟨rfl,h2,by show (t.cp.rv a 4160).1.next≤_;omega,by show _≤(t.cp.rv a 4160).1.next;omega,rfl,rfl⟩
theorem kept_get(t:TnS)(k:Nat)(d:List UInt8):Kept t (t.get k d):=⟨rfl,rfl,by show t.cp.next+1≤_;omega,by show _≤t.cp.next+1;omega,rfl,rfl⟩
theorem kept_getR(t:TnS)(n:Int):Kept t (t.getR n).2:=by
 unfold TnS.getR
 split
 ·exact Kept.refl t
 ·split
  ·exact Kept.refl t
  ·exact kept_get t _ _
theorem kept_setOb(t:TnS)(a:Int)(d:List UInt8):Kept t (t.setOb a d):=⟨rfl,rfl,by show t.cp.next≤_;omega,by show _≤t.cp.next;omega,rfl,rfl⟩
theorem kept_ask(ok:TnOk B cm win tb t)(x:OpS):Kept t (t.ask x).2:=by
 unfold TnS.ask
 split
 ·exact kept_getR t _
 split
 ·unfold TnS.calloc
  split
  ·exact kept_getR t _
  ·exact Kept.refl t
 split
 ·unfold TnS.free
  split
  ·exact kept_put t _
  ·exact Kept.refl t
 split
 ·unfold TnS.realloc
  split
  ·exact Kept.refl t
  split
  ·exact Kept.refl t
  split
  ·exact kept_setOb t _ _
  split
  ·exact Kept.refl t
  ·have h1:=kept_get t (kindT x.N).toNat (List.replicate x.N.toNat 0)
   have h2:=kept_setOb (t.get (kindT x.N).toNat (List.replicate x.N.toNat 0)) (t.getA (kindT x.N).toNat) (sized (t.bytes (t.cp.findF x.H 4).1) x.N.toNat);have h3:=kept_put ((t.get (kindT x.N).toNat (List.replicate x.N.toNat 0)).setOb (t.getA (kindT x.N).toNat) (sized (t.bytes (t.cp.findF x.H 4).1) x.N.toNat)) (t.cp.findF x.H 4).1;obtain⟨e1,e2⟩:=rv_next ((t.get (kindT x.N).toNat (List.replicate x.N.toNat 0)).setOb (t.getA (kindT x.N).toNat) (sized (t.bytes (t.cp.findF x.H 4).1) x.N.toNat)).cp (t.cp.findF x.H 4).1 4160;refine⟨h3.wl.trans (h2.wl.trans h1.wl),h3.tn.trans (h2.tn.trans h1.tn),?_,?_,h3.qb.trans (h2.qb.trans h1.qb),h3.pk.trans (h2.pk.trans h1.pk)⟩
   ·refine Int.le_of_eq (e1.trans ?_)
    rfl
   ·refine Int.le_trans (h1.lo) (Int.le_of_eq ?_)
    exact e1.symm
 split
 ·unfold TnS.usable
  split<;>exact Kept.refl t
 split
 ·unfold TnS.read
  split<;>exact Kept.refl t
 split
 ·unfold TnS.write
  split
  ·exact kept_setOb t _ _
  ·exact Kept.refl t
 ·obtain⟨a1,a2,a3,a4⟩:=ok.cp.rest x.H x.N
  exact⟨rfl,a2,a3,a4,rfl,rfl⟩
theorem nx_set{i:Nat}{t':TnS}(h:s.nx K)(ht:t'.cp.next≤K+2):(s.set i t').nx (K+1):=fun j hj=>by
 obtain⟨h1,h2⟩:=h j hj;refine⟨⟨h1.1,by have:=h1.2;show s.ser j≤_;omega⟩,fun u hu=>?_⟩;by_cases c:j=i
 ·subst c
  rw [show (s.set j t').ts j=some t' from up1_same] at hu;obtain rfl:=Option.some.inj hu;omega
 ·rw [show (s.set i t').ts j=s.ts j from up1_other c] at hu
  have:=h2 u hu;omega
theorem nx_mono(h:s.nx K):s.nx (K+1):=fun j hj=>by
 obtain⟨h1,h2⟩:=h j hj;exact⟨⟨h1.1,by have:=h1.2;omega⟩,fun u hu=>by have:=h2 u hu;omega⟩
theorem nx_do(hok:AdOk B cm p tbs s)(h:s.nx K)(x:OpS):(s.do_ x).2.nx (K+1):=by
 unfold AdS.do_
 split
 ·rename_i hr
  obtain⟨k0,k1,t0,t1,_⟩:=right_iff.1 hr;have hi:x.T.toNat<8:=by omega
  split
  ·unfold AdS.create
   split
   ·exact nx_mono h
   split
   ·exact nx_mono h
   split
   ·exact nx_mono h
   split
   ·exact nx_mono h
   ·exact nx_set h (by have:=(h _ hi).1;show s.ser _≤_;omega)
  split
  ·unfold AdS.resize
   cases e:s.ts x.T.toNat with
   |none=>exact nx_mono h
   |some t =>
    simp only
    split
    ·exact nx_mono h
    split
    ·exact nx_mono h
    split
    ·exact nx_mono h
    ·exact nx_set h (by have:=(h _ hi).2 t e;show t.cp.next≤_;omega)
  split
  ·unfold AdS.destroy
   cases e:s.ts x.T.toNat with
   |none=>exact nx_mono h
   |some t =>
    simp only;intro j hj;obtain⟨h1,h2⟩:=h j hj;have hn:=(h _ hi).2 t e;have hk:=(hok.tn _ t hi e).1.cp.ok.next;by_cases c:j=x.T.toNat
    ·subst c
     refine⟨?_,fun u hu=>?_⟩
     ·show 1≤up1 s.ser _ _ _∧up1 s.ser _ _ _≤_
      rw [up1_same];omega
     ·rw [show ({s with ts:=up1 s.ts x.T.toNat none,ser:=up1 s.ser x.T.toNat t.cp.next}:AdS).ts x.T.toNat=none from up1_same] at hu;cases hu
    ·refine⟨?_,fun u hu=>?_⟩
     ·show 1≤up1 s.ser _ _ _∧up1 s.ser _ _ _≤_
      rw [up1_other c];omega
     ·rw [show ({s with ts:=up1 s.ts x.T.toNat none,ser:=up1 s.ser x.T.toNat t.cp.next}:AdS).ts j=s.ts j from up1_other c] at hu
      have:=h2 u hu;omega
  ·cases e:s.ts x.T.toNat with
   |none=>exact nx_mono h
   |some t =>
    have hk:=kept_ask (hok.tn _ t hi e).1 x;exact nx_set h (by have:=(h _ hi).2 t e;have:=hk.up;omega)
 ·exact nx_mono h
theorem do_PC(s:AdS)(x:OpS):(s.do_ x).2.P=s.P∧(s.do_ x).2.C=s.C:=by
 unfold AdS.do_
 split
 ·split
  ·unfold AdS.create;repeat' split
   all_goals exact⟨rfl,rfl⟩
  split
  ·unfold AdS.resize;repeat' split
   all_goals exact⟨rfl,rfl⟩
  split
  ·unfold AdS.destroy;repeat' split
   all_goals exact⟨rfl,rfl⟩
  ·split<;>exact⟨rfl,rfl⟩
 ·exact⟨rfl,rfl⟩
end
def UndS(r v:Tag):Prop:=Und r v∨Und (sg r) v
structure SvM(w:World)(o:Nat→Tag)(r:Tag)(b ba:Nat)(x:OpS)(W:World)(O:Nat→Tag)(dv:Value)(n:Nat)(tv:Value)(B:List UInt8)(m:Nat)(s:AdS)(an:Ans):Prop where
 sv:SvG W O r b ba dv n tv B m s
 op:OpRow W w.heap.size x
 rw_:Row W (w.heap.size+1) an
 t0:O w.heap.size=[7]
 t1:O (w.heap.size+1)=[7]
 fr:Fr (UndS r) w o W O
section
variable{S:Tag→Prop}{w W W':World}{o O O':Nat→Tag}{r:Tag}{b ba:Nat}{dv tv dv' tv':Value}{n n' K:Nat}{B B':List UInt8}{m m':Nat}{s s':AdS}{x:OpS}{an:Ans}
theorem sg7{r:Tag}:¬sg r <+: [7]:=fun q=>absurd (List.cons_prefix_cons.1 q).1 (by decide)
theorem SvM.start(h:SvG w o r b ba dv n tv B m s)(x:OpS):SvM w o r b ba x ((w.alloc (.cells (opC x) 32)).alloc (.cells (ansC ans0) 47)) (setO (setO o w.heap.size [7]) (w.heap.size+1) [7]) dv n tv B m s ans0:=by
 have f1:Fr (fun _=>False) w o (w.alloc (.cells (opC x) 32)) (setO o w.heap.size [7]):=Fr.alloc _ _;have hrow:OpRow (w.alloc (.cells (opC x) 32)) w.heap.size x:=heap_alloc_new w _;have hsz:(w.alloc (.cells (opC x) 32)).heap.size=w.heap.size+1:=by simp
 have f2:Fr (fun _=>False) (w.alloc (.cells (opC x) 32)) (setO o w.heap.size [7]) ((w.alloc (.cells (opC x) 32)).alloc (.cells (ansC ans0) 47)) (setO (setO o w.heap.size [7]) (w.heap.size+1) [7]):=by
  have:=Fr.alloc (S:=fun _=>False) (w:=w.alloc (.cells (opC x) 32)) (o:=setO o w.heap.size [7]) (.cells (ansC ans0) 47) [7]
  rwa [hsz] at this
 have hr2:=Row.made (w.alloc (.cells (opC x) 32)) ans0;rw [hsz] at hr2;refine⟨(h.fr f1 off_no off_no).fr f2 off_no off_no,(heap_alloc_old _ _ (by rw [hsz];omega)).trans hrow,hr2,?_,setO_same,(f1.trans f2).mono fun v q=>q.elim⟩;rw [setO_other (by omega)];exact setO_same
theorem SvM.lt(h:SvM w o r b ba x W O dv n tv B m s an):w.heap.size<W.heap.size∧w.heap.size+1<W.heap.size:=⟨(Array.getElem?_eq_some_iff.1 h.op).1,(Array.getElem?_eq_some_iff.1 h.rw_).1⟩
theorem SvM.step(h:SvM w o r b ba x W O dv n tv B m s an)(f:Fr S W O W' O')(h7:¬S [7])(hS:∀v,S v→UndS r v)(g:SvG W' O' r b ba dv' n' tv' B' m' s'):SvM w o r b ba x W' O' dv' n' tv' B' m' s' an:=by
 obtain⟨l0,l1⟩:=h.lt;exact⟨g,(f.only.block _ l0 (by rw [h.t0];exact h7)).trans h.op,(f.only.block _ l1 (by rw [h.t1];exact h7)).trans h.rw_,(f.ext _ l0).trans h.t0,(f.ext _ l1).trans h.t1,h.fr.trans (f.mono hS)⟩
theorem SvM.still(h:SvM w o r b ba x W O dv n tv B m s an)(f:Fr (fun _=>False) W O W' O'):SvM w o r b ba x W' O' dv n tv B m s an:=h.step f (fun q=>q) (fun v q=>q.elim) (h.sv.fr f off_no off_no)
theorem SvM.set1(h:SvM w o r b ba x W O dv n tv B m s an)(hr:Root r)(i:Nat)(v:Value){an':Ans}(hw:Row (W.setCell ⟨w.heap.size+1,i,none⟩ v) (w.heap.size+1) an'):SvM w o r b ba x (W.setCell ⟨w.heap.size+1,i,none⟩ v) O dv n tv B m s an':=by
 have f:Fr (fun v=>v=[7]) W O (W.setCell ⟨w.heap.size+1,i,none⟩ v) O:=Fr.setCell (fun _=>h.t1) _;refine⟨h.sv.fr f (off_7 hr.r7) (off_7 sg7),?_,hw,h.t0,h.t1,h.fr.set' (p:=⟨w.heap.size+1,i,none⟩) (fun q=>absurd q (by simp only;omega)) _⟩;show (W.setCell _ _).heap[_]? = _;rw [show (W.setCell ⟨w.heap.size+1,i,none⟩ v).heap[w.heap.size]? = W.heap[w.heap.size]? by simp [World.setCell,Array.getElem?_modify]];exact h.op
theorem Row.set0{w:World}{g:Nat}{x:Ans}(h:Row w g x)(c:Int):Row (w.setCell ⟨g,0,none⟩ (.int .i64 c)) g {x with err:=c}:=(h.blk.set 0 (.int .i64 c)).2
theorem SvM.setE(h:SvM w o r b ba x W O dv n tv B m s an)(hr:Root r)(e:Int):SvM w o r b ba x (W.setCell ⟨w.heap.size+1,0,none⟩ (.int .i64 e)) O dv n tv B m s {an with err:=e}:=h.set1 hr 0 _ (h.rw_.set0 e)
theorem SvM.set5(h:SvM w o r b ba x W O dv n tv B m s an)(hr:Root r)(e:Int):SvM w o r b ba x (W.setCell ⟨w.heap.size+1,5,none⟩ (.int .i64 e)) O dv n tv B m s {an with ch:=e}:=h.set1 hr 5 _ (h.rw_.set5 e)
theorem SvM.all(h:SvM w o r b ba x W O dv n tv B m s an)(hr:Root r)(y:Ans):SvM w o r b ba x (sto6 W (w.heap.size+1) y) O dv n tv B m s y:=by
 have f:Fr (fun v=>v=[7]) W O (sto6 W (w.heap.size+1) y) O:=sto6_fr (Fr.refl _ _ _) (fun _=>h.t1) y;refine⟨h.sv.fr f (off_7 hr.r7) (off_7 sg7),?_,h.rw_.store y,h.t0,h.t1,sto6_fr h.fr (fun q=>absurd q (by omega)) y⟩;have l0:=h.lt.1;have:=Fr.set' (S:=fun v=>v=[7]) (Fr.refl _ W O) (p:=⟨w.heap.size+1,0,none⟩) (fun _=>h.t1) (.int .i64 0);show (sto6 W (w.heap.size+1) y).heap[w.heap.size]? = _;rw [show (sto6 W (w.heap.size+1) y).heap[w.heap.size]? = W.heap[w.heap.size]? by simp [sto6,World.setCell,Array.getElem?_modify]];exact h.op
theorem SvM.at_(h:SvM w o r b ba x W O dv n tv B m s an)(hn:n≤K)(hm:m≤1000000)(hx:s.nx K):SvAt W O r b B K s∧Fr (UndS r) w o W O:=⟨⟨ba,dv,n,tv,m,h.sv,hn,by omega,hx⟩,h.fr⟩
end
end
section
open Go.RowKit Flt
attribute [local irreducible] CpS.rv
section
variable{S:Tag→Prop}{w W W':World}{o O O':Nat→Tag}{r:Tag}{b ba:Nat}{dv tv dv' tv':Value}{n n' K:Nat}{B B':List UInt8}{m m':Nat}{s s':AdS}{x:OpS}{an:Ans}
theorem SvM.c0(M:SvM w o r b ba x W O dv n tv B m s an):W.cell? ⟨b,0,none⟩=some (eP ba):=M.sv.blk.cell' (i:=0) rfl
theorem SvM.ph1(M:SvM w o r b ba x W O dv n tv B m s an)(hr:Root r):∃a,Calls Tryz.prog 28 #[eP ba] W (fun e w1=>e=.returned (eP a)∧w1=W) ∧
  Calls Tryz.prog 29 #[eP a] W (fun e w1=>e=.returned (.tuple #[])∧w1.cell? ⟨b,4,none⟩=some tv∧w1.frozen? ⟨b,4,none⟩=false∧∃O1,SvM w o r b ba x (w1.setCell ⟨b,4,none⟩ (.slice none 0 0)) O1 dv n (.slice none 0 0) B 0 s an):=by
 obtain⟨y,cm,p,tbs,g⟩:=M.sv.ad;refine⟨y.a,adArena ba W g,(arForget y.a W g.ar).mono ?_⟩;rintro e w1 ⟨rfl,ga,f⟩;have g1:=g.inAr hr f ga;have M1:=M.step f (fun q=>not_pre hr.r7 q) (fun v q=>.inl q.up) (M.sv.inAd f (fun q=>sg_self [5] hr q.up) (fun q=>sg_self [6] hr q.up) ⟨y,cm,p,tbs,g1⟩ rfl rfl);obtain⟨s2,f2⟩:=M1.sv.setT hr (.slice none 0 0);exact⟨rfl,M1.sv.blk.cell' (i:=4) rfl,M1.sv.blk.free 4,_,M1.step f2 (fun e=>by simp at e) (fun v q=>.inr (by rw [q];exact Und.app _ _)) s2⟩
theorem SvM.ph2(M:SvM w o r b ba x W O dv n tv B m s an)(hr:Root r)(hs:x.s.size≤maxLen):OpRC W w.heap.size x∧Calls Tryz.prog 30 #[x.v] W (fun e w3=>e=.returned (.int .i64 (if rightO x.K x.T x.s=true then 0 else 1))∧RowC w3 (w.heap.size+1) an ∧
  (∀e,SvM w o r b ba x (w3.setCell ⟨w.heap.size+1,0,none⟩ (.int .i64 e)) O dv n tv B m s {an with err:=e}∧RowC (w3.setCell ⟨w.heap.size+1,0,none⟩ (.int .i64 e)) (w.heap.size+1) {an with err:=e})):=by
 refine⟨M.op.cells,?_⟩;have hfin:∀w3,Below W.heap.size W w3→RowC w3 (w.heap.size+1) an∧(∀e,SvM w o r b ba x (w3.setCell ⟨w.heap.size+1,0,none⟩ (.int .i64 e)) O dv n tv B m s {an with err:=e}∧RowC (w3.setCell ⟨w.heap.size+1,0,none⟩ (.int .i64 e)) (w.heap.size+1) {an with err:=e}):=fun w3 hb=>by
  have M3:=M.still (Fr.below hb);exact⟨M3.rw_.cells,fun e=>⟨M3.setE hr e,(M3.setE hr e).rw_.cells⟩⟩
 cases h:rightO x.K x.T x.s with
 |true =>
  refine(opCheck_yes x.K x.T x.N x.M x.H x.s W hs h).mono ?_;rintro e w3 ⟨rfl,hb⟩;exact⟨rfl,hfin w3 hb⟩
 |false =>
  refine(opCheck_no x.K x.T x.N x.M x.H x.s W hs h).mono ?_;rintro e w3 ⟨rfl,hb⟩;exact⟨rfl,hfin w3 hb⟩
structure NtC(W:World)(b g:Nat)(dv:Value)(x:OpS):Prop where
 d:W.cell? ⟨b,3,none⟩=some dv
 k:OpRC W g x
theorem SvM.ntc(M:SvM w o r b ba x W O dv n tv B m s an):NtC W b w.heap.size dv x:=⟨M.sv.blk.cell' (i:=3) rfl,M.op.cells⟩
theorem SvM.ph3(M:SvM w o r b ba x W O dv n tv B m s an)(hr:Root r)(hn:n≤1000000):NtC W.drew b w.heap.size dv x∧NtC (W.drew.alloc (.cells (opC x) 32)) b w.heap.size dv x ∧
  ∃A k c w5,(Builtin.append_ #[36,36] 36 #[dv,.slice (some ⟨W.heap.size,0,none⟩) 1 1]).run Tryz.prog (W.drew.alloc (.cells (opC x) 32))=.ok (.slice A k c) w5∧NtC w5 b w.heap.size dv x∧w5.frozen? ⟨b,3,none⟩=false ∧
   ∃O',SvM w o r b ba x (w5.setCell ⟨b,3,none⟩ (.slice A k c)) O' (.slice A k c) (n+1) tv B m s an:=by
 have Md:=M.still Fr.drew;have Ma:=Md.still (Fr.alloc' (.cells (opC x) 32));obtain⟨A,k,c,w5,h1,h2,h3,O',h4,h5,h6⟩:=Md.sv.note hr x hn;have l:=Md.lt;have hop:OpRow w5 w.heap.size x:=(h6.only.block _ l.1 (by show ¬(O w.heap.size=_);rw [M.t0];simp)).trans Md.op;refine⟨Md.ntc,Ma.ntc,A,k,c,w5,h1,⟨h2,hop.cells⟩,h3,O',Md.step h5 (fun e=>by simp at e) (fun v q=>.inr (q.elim (fun q=>by rw [q];exact Und.app _ _) (fun q=>by rw [q];exact Und.app _ _))) h4⟩
structure AdC(W:World)(b ba g:Nat)(x:OpS):Prop where
 c:W.cell? ⟨b,0,none⟩=some (eP ba)
 k1:W.cell? ⟨g,1,none⟩=some (.int .i64 x.T)
 k2:W.cell? ⟨g,2,none⟩=some (.int .i64 x.N)
 k3:W.cell? ⟨g,3,none⟩=some (.int .i64 x.M)
theorem SvM.adc(M:SvM w o r b ba x W O dv n tv B m s an):AdC W b ba w.heap.size x:=⟨M.c0,M.op.cells.k1,M.op.cells.k2,M.op.cells.k3⟩
def AdmPost(w:World)(o:Nat→Tag)(r:Tag)(b ba:Nat)(x:OpS)(dv:Value)(n:Nat)(tv:Value)(m:Nat)(an:Ans)(k:Int)(s':AdS)(e:Ending)(w7:World):Prop :=
 e=.returned (.int .i64 k)∧AdC w7 b ba w.heap.size x∧RowC w7 (w.heap.size+1) an∧∃O' B',SvM w o r b ba x (w7.setCell ⟨w.heap.size+1,0,none⟩ (.int .i64 k)) O' dv n tv B' m s' {an with err:=k}
theorem SvM.admEnd(M:SvM w o r b ba x W O dv n tv B m s an)(hr:Root r){k:Int}{w7:World}(h:AdEnd' W O r ba m' s' w7)(hP:s'.P=s.P)(hC:s'.C=s.C):AdmPost w o r b ba x dv n tv m' an k s' (.returned (.int .i64 k)) w7:=by
 obtain⟨O',B',h1,f⟩:=h;have M7:=M.step f (fun q=>hr.r7 q) (fun v q=>.inl q) (M.sv.inAd f (sg_self [5] hr) (sg_self [6] hr) h1 hP hC);exact⟨rfl,M7.adc,M7.rw_.cells,O',B',M7.setE hr k⟩
theorem SvM.create(M:SvM w o r b ba x W O dv n tv B m s an)(hr:Root r){i:Nat}(hi:i<8)(hT:x.T=i)(hx:s.nx K)(hK:K≤1000000) :
  Calls Tryz.prog 31 #[eP ba,.int .i64 x.T,.int .i64 x.M,.int .i64 x.N] W (AdmPost w o r b ba x dv n tv m an (s.create i x.M x.N).1 (s.create i x.M x.N).2):=by
 obtain⟨y,cm,p,tbs,g⟩:=M.sv.ad;have hn:=(hx i hi).1;rw [hT];refine(adCreate i x.M x.N g hr hi (by omega)).mono ?_;rintro e w7 ⟨rfl,O',h1,f⟩;have hpc:(s.create i x.M x.N).2.P=s.P∧(s.create i x.M x.N).2.C=s.C:=by
  unfold AdS.create;repeat' split
  all_goals exact⟨rfl,rfl⟩
 exact M.admEnd hr ⟨O',_,h1,f⟩ hpc.1 hpc.2
theorem SvM.resize(M:SvM w o r b ba x W O dv n tv B m s an)(hr:Root r){i:Nat}(hi:i<8)(hT:x.T=i)(hm:m≤600000) :
  Calls Tryz.prog 32 #[eP ba,.int .i64 x.T,.int .i64 x.M,.int .i64 x.N] W (AdmPost w o r b ba x dv n tv (m+20000) an (s.resize i x.M x.N).1 (s.resize i x.M x.N).2):=by
 obtain⟨y,cm,p,tbs,g⟩:=M.sv.ad;rw [hT];refine(adResize i x.M x.N g hr hi hm).mono ?_;rintro e w7 ⟨rfl,h1⟩;have hpc:(s.resize i x.M x.N).2.P=s.P∧(s.resize i x.M x.N).2.C=s.C:=by
  unfold AdS.resize;repeat' split
  all_goals exact⟨rfl,rfl⟩
 exact M.admEnd hr h1 hpc.1 hpc.2
theorem SvM.destroy(M:SvM w o r b ba x W O dv n tv B m s an)(hr:Root r){i:Nat}(hi:i<8)(hT:x.T=i)(hm:m≤600000) :
  Calls Tryz.prog 33 #[eP ba,.int .i64 x.T] W (AdmPost w o r b ba x dv n tv (m+7000) an (s.destroy i).1 (s.destroy i).2):=by
 obtain⟨y,cm,p,tbs,g⟩:=M.sv.ad;rw [hT];refine(adDestroy i g hr hi (by omega)).mono ?_;rintro e w7 ⟨rfl,h1⟩;have hpc:(s.destroy i).2.P=s.P∧(s.destroy i).2.C=s.C:=by
  unfold AdS.destroy;repeat' split
  all_goals exact⟨rfl,rfl⟩
 exact M.admEnd hr h1 hpc.1 hpc.2
theorem SvM.ask(M:SvM w o r b ba x W O dv n tv B m s an)(hr:Root r){i:Nat}(hi:i<8)(hT:x.T=i)(hx:s.nx K)(hK:K≤1000000)(hm:m≤500000)(hH:x.H<18446744073709551616)(hs:x.s.size≤8192)(hk:4≤x.K∧x.K≤11){t:TnS}(ht:s.ts i=some t) :
  ∃bt,Calls Tryz.prog 34 #[eP ba,.int .i64 x.T] W (fun e w1=>e=.returned (eP bt)∧w1=W) ∧
   Calls Tryz.prog 35 #[eP bt,x.v] W (fun e w8=>e=.returned (ansV (t.ask x).1)∧RowC w8 (w.heap.size+1) an∧∃O' B',SvM w o r b ba x (sto6 w8 (w.heap.size+1) (t.ask x).1) O' dv n tv B' (m+30000) (s.set i (t.ask x).2) (t.ask x).1):=by
 obtain⟨y,cm,p,tbs,g⟩:=M.sv.ad;obtain⟨k1,k2,k3⟩:=g.ok.tn i t hi ht;refine⟨y.bt i,?_,?_⟩
 ·have:=adTenant ba i W hi g
  rw [hT];unfold tvF at this;rw [ht] at this;exact this
 ·refine(svAsked x (g.tn i t hi ht) k1 (ad_ap3 hr i) (ad_t7 hr i) (not_pre hr.r8) hm (by have:=(hx i hi).2 t ht;omega) hH hs hk).mono ?_
  rintro e w8 ⟨rfl,go⟩;have hkp:=kept_ask k1 x;obtain⟨O',B',h1,f⟩:=g.go hr hi ht go hkp.tn hkp.wl;have M8:=M.step f (fun q=>hr.r7 q) (fun v q=>.inl q) (M.sv.inAd f (sg_self [5] hr) (sg_self [6] hr) h1 rfl rfl);exact⟨rfl,M8.rw_.cells,O',B',M8.all hr _⟩
theorem SvM.noTen(M:SvM w o r b ba x W O dv n tv B m s an)(hr:Root r){i:Nat}(hi:i<8)(hT:x.T=i)(ht:s.ts i=none):Calls Tryz.prog 34 #[eP ba,.int .i64 x.T] W (fun e w1=>e=.returned (.pointer none)∧w1=W):=by
 obtain⟨y,cm,p,tbs,g⟩:=M.sv.ad;have:=adTenant ba i W hi g;rw [hT];unfold tvF at this;rw [ht] at this;exact this
theorem SvM.ph8(M:SvM w o r b ba x W O dv n tv B m s an)(hr:Root r){i:Nat}(hi:i<8)(hT:x.T=i)(hm:m≤1000000) :
  W.cell? ⟨w.heap.size,1,none⟩=some (.int .i64 x.T)∧Calls Tryz.prog 23 #[eP b,.int .i64 x.T] W (fun e w1=>e=.returned (.int .i64 (s.chg i))∧w1=W)∧RowC W (w.heap.size+1) an ∧
   (W.setCell ⟨w.heap.size+1,5,none⟩ (.int .i64 (s.chg i))).cell? ⟨b,0,none⟩=some (eP ba)∧∃a,Calls Tryz.prog 28 #[eP ba] (W.setCell ⟨w.heap.size+1,5,none⟩ (.int .i64 (s.chg i))) (fun e w1=>e=.returned (eP a)∧w1=W.setCell ⟨w.heap.size+1,5,none⟩ (.int .i64 (s.chg i))) ∧
    Calls Tryz.prog 36 #[eP a] (W.setCell ⟨w.heap.size+1,5,none⟩ (.int .i64 (s.chg i))) (fun e w1=>∃A k c,e=.returned (.slice A k c)∧w1.cell? ⟨b,4,none⟩=some tv∧w1.frozen? ⟨b,4,none⟩=false∧RowC (w1.setCell ⟨b,4,none⟩ (.slice A k c)) (w.heap.size+1) {an with ch:=s.chg i} ∧
     SvM w o r b ba x (sto6 (w1.setCell ⟨b,4,none⟩ (.slice A k c)) (w.heap.size+1) {an with ch:=s.chg i}) O dv n (.slice A k c) B m s {an with ch:=s.chg i}∧Row (w1.setCell ⟨b,4,none⟩ (.slice A k c)) (w.heap.size+1) {an with ch:=s.chg i}):=by
 have M9:=M.set5 hr (s.chg i);obtain⟨y,cm,p,tbs,g⟩:=M9.sv.ad;refine⟨M.op.cells.k1,by rw [hT];exact svCharged i hi M.sv,M.rw_.cells,M9.c0,y.a,adArena ba _ g,(arTouched y.a _ g.ar (by omega)).mono ?_⟩;rintro e w1 ⟨⟨A,k,c,rfl⟩,hb⟩;have M10:=M9.still (Fr.below hb);obtain⟨s2,f2⟩:=M10.sv.setT hr (.slice A k c);have M11:=M10.step f2 (fun e=>by simp at e) (fun v q=>.inr (by rw [q];exact Und.app _ _)) s2;exact⟨A,k,c,rfl,M10.sv.blk.cell' (i:=4) rfl,M10.sv.blk.free 4,M11.rw_.cells,M11.all hr _,M11.rw_⟩
end
end
section
open Go.RowKit Flt
attribute [local irreducible] CpS.rv
section
variable{w:World}{o:Nat→Tag}{r:Tag}{b ba:Nat}{dv tv:Value}{n kk:Nat}{B:List UInt8}{m:Nat}{s:AdS}{K T N M:Int}{H:Nat}{sd:ByteArray}
set_option maxHeartbeats 4000000 in
theorem svDo_bad(hv:SvG w o r b ba dv n tv B m s)(hr:Root r)(hs:sd.size≤maxLen)(hrt:¬rightO K T sd=true) :
  Calls Tryz.prog 18 #[eP b,.agg #[.int .i64 K,.int .i64 T,.int .i64 N,.int .i64 M,.int .u64 H,.string sd]] w fun e w'=>e=.returned (ansV ⟨1,0,0,0,ByteArray.empty,0⟩)∧∃O,SvG w' O r b ba dv n (.slice none 0 0) B 0 s∧Fr (UndS r) w o w' O:=by
 have M0:=SvM.start hv ⟨K,T,N,M,H,sd⟩;obtain⟨a0,ha,hfo⟩:=M0.ph1 hr;have c0:((w.alloc (.cells #[.int .i64 K,.int .i64 T,.int .i64 N,.int .i64 M,.int .u64 H,.string sd] 32)).alloc (.cells #[.int .i64 0,.int .u64 0,.int .i64 0,.int .i64 0,.string {data:=#[]},.int .i64 0] 47)).cell? ⟨b,0,none⟩=some (eP ba):=M0.c0;replace ha:=HD ha;replace hfo:=HD hfo;have hp2:=HD (fun W O (M1:SvM w o r b ba ⟨K,T,N,M,H,sd⟩ W O dv n (.slice none 0 0) B 0 s ans0)=>M1.ph2 hr hs);rw [if_neg hrt] at hp2;have hal:=HD (fun W O (M4:SvM w o r b ba ⟨K,T,N,M,H,sd⟩ W O dv n (.slice none 0 0) B 0 s ⟨1,0,0,0,ByteArray.empty,0⟩)=>M4.all hr ⟨1,0,0,0,ByteArray.empty,0⟩);clear hv M0 hrt hs;go_enter Tryz.func18,Tryz.ntmps18
 go_wp2_with fail;go_step3
 go_wp2_with fail;refine SM ha.out ?_;go_wp2_with fail;refine hfo.out.mono ?_;rintro e w1 ⟨rfl,z1,z2,O1,M1⟩;obtain⟨⟨k0,k1,k2,k3,k4,k5⟩,hck⟩:=hp2.out _ _ M1;simp only [OpS.v,opV] at hck k0 k1 k2 k3 k4 k5;replace hck:=HD hck;clear hp2 ha hfo c0 M1;go_wp2_with fail;refine hck.out.mono ?_;rintro e w3 ⟨rfl,⟨l0,l1,l2,l3,l4,l5,f0,f1,f2,f3,f4,f5⟩,hset⟩;obtain⟨M4,rc4⟩:=hset 1;replace M4:=HD M4;clear hset hck z1 z2;obtain⟨q0,q1,q2,q3,q4,q5,y0,y1,y2,y3,y4,y5⟩:=rc4;simp only [ans0] at q0 q1 q2 q3 q4 q5;simp only [ans0] at l0 l1 l2 l3 l4 l5;have M5:=HD (hal.out _ _ M4.out);have R4:=HD M4.out.rw_;clear M4 hal;go_wp2_with fail;rw [Exit.noGoto_ret];refine bodyPost_ret (v:=ansV ⟨1,0,0,0,ByteArray.empty,0⟩) ?_ rfl ⟨rfl,O1,M5.out.sv,M5.out.fr⟩;exact ans_results_at 4 (by kernel_rfl) _ _ _ rfl (R4.out.store ⟨1,0,0,0,ByteArray.empty,0⟩)
end
end
section
open Go.RowKit Flt
attribute [local irreducible] CpS.rv
section
variable{w:World}{o:Nat→Tag}{r:Tag}{b ba:Nat}{dv tv:Value}{n kk:Nat}{B:List UInt8}{m:Nat}{s:AdS}{K T N M:Int}{H:Nat}{sd:ByteArray}
set_option maxHeartbeats 4000000 in
theorem svDo_none{i:Nat}(hi:i<8)(hv:SvG w o r b ba dv n tv B m s)(hr:Root r)(hs:sd.size≤maxLen)(hn:n≤1000000)(hrt:rightO K (i:Int) sd=true)(hk:4≤K)(ht:s.ts i=none) :
  Calls Tryz.prog 18 #[eP b,.agg #[.int .i64 K,.int .i64 i,.int .i64 N,.int .i64 M,.int .u64 H,.string sd]] w fun e w'=>e=.returned (ansV ⟨6,0,0,0,ByteArray.empty,0⟩)∧∃O dv',SvG w' O r b ba dv' (n+1) (.slice none 0 0) B 0 s∧Fr (UndS r) w o w' O:=by
 have M0:=SvM.start hv ⟨K,i,N,M,H,sd⟩;obtain⟨a0,ha,hfo⟩:=M0.ph1 hr;have c0:((w.alloc (.cells #[.int .i64 K,.int .i64 i,.int .i64 N,.int .i64 M,.int .u64 H,.string sd] 32)).alloc (.cells #[.int .i64 0,.int .u64 0,.int .i64 0,.int .i64 0,.string {data:=#[]},.int .i64 0] 47)).cell? ⟨b,0,none⟩=some (eP ba):=M0.c0;replace ha:=HD ha;replace hfo:=HD hfo;have hp2:=HD (fun W O (M1:SvM w o r b ba ⟨K,i,N,M,H,sd⟩ W O dv n (.slice none 0 0) B 0 s ans0)=>M1.ph2 hr hs);rw [if_pos hrt] at hp2;have d1:(K==1)=false:=by simp;omega
 have d2:(K==2)=false:=by simp;omega
 have d3:(K==3)=false:=by simp;omega
 clear hv M0 hrt hs hk;go_enter Tryz.func18,Tryz.ntmps18
 go_wp2_with fail;go_step3
 go_wp2_with fail;refine SM ha.out ?_;go_wp2_with fail;refine hfo.out.mono ?_;rintro e w1 ⟨rfl,z1,z2,O1,M1⟩;obtain⟨⟨k0,k1,k2,k3,k4,k5⟩,hck⟩:=hp2.out _ _ M1;simp only [OpS.v,opV] at hck k0 k1 k2 k3 k4 k5;replace hck:=HD hck;clear hp2 ha hfo c0 M1;go_wp2_with fail;refine hck.out.mono ?_;rintro e w3 ⟨rfl,⟨l0,l1,l2,l3,l4,l5,f0,f1,f2,f3,f4,f5⟩,hset⟩;obtain⟨M4,rc4⟩:=hset 0;replace M4:=HD M4;clear hset hck z1 z2;obtain⟨q0,q1,q2,q3,q4,q5,y0,y1,y2,y3,y4,y5⟩:=rc4;simp only [ans0] at q0 q1 q2 q3 q4 q5;simp only [ans0] at l0 l1 l2 l3 l4 l5;go_wp2_with fail;generalize (w3.setCell ⟨w.heap.size+1,0,none⟩ (Value.int .i64 0))=W4 at *;have hp3:=HD (M4.out.ph3 hr hn);obtain⟨n1,n2,A,kc,cc,w5,hap,n3,z3,O6,M6⟩:=hp3.out;replace n1:=HD n1;replace n2:=HD n2;replace n3:=HD n3;replace M6:=HD M6;have e3:=n3.out.d;clear hp3 M4;refine wp_region_noPanic ?_;refine wp_region_T (S:=(fun W'=>W'.cell? ⟨b,3,none⟩=some dv∧W'.cell? ⟨w.heap.size,0,none⟩=some (.int .i64 K)∧W'.cell? ⟨w.heap.size,1,none⟩=some (.int .i64 i)∧W'.cell? ⟨w.heap.size,2,none⟩=some (.int .i64 N)∧W'.cell? ⟨w.heap.size,3,none⟩=some (.int .i64 M)∧W'.cell? ⟨w.heap.size,4,none⟩=some (.int .u64 H)∧W'.cell? ⟨w.heap.size,5,none⟩=some (.string sd))) 12 (by kernel_rfl) ?_ (fun hHeld=>?_)
 ·(first|exact⟨n1.out.d,n1.out.k.k0,n1.out.k.k1,n1.out.k.k2,n1.out.k.k3,n1.out.k.k4,n1.out.k.k5⟩|exact⟨n2.out.d,n2.out.k.k0,n2.out.k.k1,n2.out.k.k2,n2.out.k.k3,n2.out.k.k4,n2.out.k.k5⟩|exact⟨n3.out.d,n3.out.k.k0,n3.out.k.k1,n3.out.k.k2,n3.out.k.k3,n3.out.k.k4,n3.out.k.k5⟩)
 refine tkY 0 (h:=?_);refine tkY 1 (h:=?_);refine tkY 2 (h:=?_);refine tkY 3 (h:=?_);refine tkY 4 (h:=?_);refine tkT 5 (h:=?_);refine tkT 6 (h:=?_);refine onT 7 (h:=fun K hK=>?_);go_simp;refine hK.out _ _ ?_ (fun hHeld=>?_)
 ·(first|exact⟨n1.out.d,n1.out.k.k0,n1.out.k.k1,n1.out.k.k2,n1.out.k.k3,n1.out.k.k4,n1.out.k.k5⟩|exact⟨n2.out.d,n2.out.k.k0,n2.out.k.k1,n2.out.k.k2,n2.out.k.k3,n2.out.k.k4,n2.out.k.k5⟩|exact⟨n3.out.d,n3.out.k.k0,n3.out.k.k1,n3.out.k.k2,n3.out.k.k3,n3.out.k.k4,n3.out.k.k5⟩)
 clear hK;refine nmT (h:=?_);refine onT 8 (h:=fun K hK=>?_);refine step_append_is _ rfl _ _ 36 rfl rfl rfl hap ?_;refine hK.out _ _ ?_ (fun hHeld=>?_)
 ·(first|exact⟨n1.out.d,n1.out.k.k0,n1.out.k.k1,n1.out.k.k2,n1.out.k.k3,n1.out.k.k4,n1.out.k.k5⟩|exact⟨n2.out.d,n2.out.k.k0,n2.out.k.k1,n2.out.k.k2,n2.out.k.k3,n2.out.k.k4,n2.out.k.k5⟩|exact⟨n3.out.d,n3.out.k.k0,n3.out.k.k1,n3.out.k.k2,n3.out.k.k3,n3.out.k.k4,n3.out.k.k5⟩)
 clear hK;refine nmT (h:=?_);refine tkY 9 (h:=?_);refine tkY 10 (h:=?_);refine tkY 11 (h:=?_);refine laT (h:=fun K hK=>?_);go_simp;refine hK.out _ _ ?_;clear hK;refine NoPanic.normal ?_;clear hap n1 n2 n3 z3 e3 k0 k1 k2 k3 k4 k5 l0 l1 l2 l3 l4 l5 f0 f1 f2 f3 f4 f5 q0 q1 q2 q3 q4 q5 y0 y1 y2 y3 y4 y5;generalize (w5.setCell ⟨b,3,none⟩ (Value.slice A kc cc))=W6 at *;obtain⟨k0,k1,k2,k3,k4,k5⟩:=M6.out.op.cells;simp only at k0 k1 k2 k3 k4 k5;have M7:=HD (M6.out.still Fr.drew);have hA1:=HD M7.out.adc;have hte:=HD (M7.out.noTen hr hi rfl ht);obtain⟨l0,l1,l2,l3,l4,l5,f0,f1,f2,f3,f4,f5⟩:=M7.out.rw_.cells;simp only [ans0] at l0 l1 l2 l3 l4 l5;have M8:=HD (M7.out.all hr ⟨6,0,0,0,ByteArray.empty,0⟩);have R7:=HD M7.out.rw_;clear M6 M7;go_wp2_with fail;refine wp_region_noPanic ?_;refine wp_region_held_drew (S:=(fun W'=>W'.cell? ⟨b,0,none⟩=some (eP ba)∧W'.cell? ⟨w.heap.size,1,none⟩=some (.int .i64 i))) (by kernel_rfl) ?_ (fun hHeld=>?_)
 ·exact⟨hA1.out.c,hA1.out.k1⟩
 refine tkH 0 (h:=?_);refine tkH 1 (h:=?_);refine tkH 2 (h:=?_);refine tkH 3 (h:=?_);refine tkH 4 (h:=?_);refine tkH 5 (h:=?_);refine tkH 6 (h:=?_);refine onH 7 (h:=fun K hK=>?_);go_simp;refine SM hte.out ?_;go_wp2_with fail;refine hK.out _ _ ?_ (fun hHeld=>?_)
 ·exact⟨hA1.out.c,hA1.out.k1⟩
 clear hK;refine nmH (h:=?_);refine tkH 8 (h:=?_);refine wpAnyH_done (by kernel_rfl) ?_ _;refine NoPanic.normal ?_;clear hA1 hte;generalize W6.drew=W7 at *;go_wp2_with fail;rw [Exit.noGoto_ret];refine bodyPost_ret (v:=ansV ⟨6,0,0,0,ByteArray.empty,0⟩) ?_ rfl ⟨rfl,O6,_,M8.out.sv,M8.out.fr⟩;exact ans_results_at 4 (by kernel_rfl) _ _ _ rfl (R7.out.store ⟨6,0,0,0,ByteArray.empty,0⟩)
end
end
section
open Go.RowKit Flt
attribute [local irreducible] CpS.rv
section
variable{w:World}{o:Nat→Tag}{r:Tag}{b ba:Nat}{dv tv:Value}{n kk:Nat}{B:List UInt8}{m:Nat}{s:AdS}{K T N M:Int}{H:Nat}{sd:ByteArray}
set_option maxHeartbeats 4000000 in
theorem svDo_ask{i:Nat}(hi:i<8)(hv:SvG w o r b ba dv n tv B m s)(hr:Root r)(hs:sd.size≤maxLen)(hn:n≤1000000)(hrt:rightO K (i:Int) sd=true)(hk:4≤K)(hx:s.nx kk)(hkk:kk≤1000000)(hH:H<18446744073709551616){t:TnS}(ht:s.ts i=some t) :
  Calls Tryz.prog 18 #[eP b,.agg #[.int .i64 K,.int .i64 i,.int .i64 N,.int .i64 M,.int .u64 H,.string sd]] w fun e w'=>e=.returned (ansV {(t.ask ⟨K,i,N,M,H,sd⟩).1 with ch:=(t.ask ⟨K,i,N,M,H,sd⟩).2.cb})∧∃O B' dv' tv',SvG w' O r b ba dv' (n+1) tv' B' 30000 (s.set i (t.ask ⟨K,i,N,M,H,sd⟩).2)∧Fr (UndS r) w o w' O:=by
 obtain⟨g1,g2,g3,g4,g5,g6⟩:=right_iff.1 hrt;have M0:=SvM.start hv ⟨K,i,N,M,H,sd⟩;obtain⟨a0,ha,hfo⟩:=M0.ph1 hr;have c0:((w.alloc (.cells #[.int .i64 K,.int .i64 i,.int .i64 N,.int .i64 M,.int .u64 H,.string sd] 32)).alloc (.cells #[.int .i64 0,.int .u64 0,.int .i64 0,.int .i64 0,.string {data:=#[]},.int .i64 0] 47)).cell? ⟨b,0,none⟩=some (eP ba):=M0.c0;replace ha:=HD ha;replace hfo:=HD hfo;have hp2:=HD (fun W O (M1:SvM w o r b ba ⟨K,i,N,M,H,sd⟩ W O dv n (.slice none 0 0) B 0 s ans0)=>M1.ph2 hr hs);rw [if_pos hrt] at hp2;have d1:(K==1)=false:=by simp;omega
 have d2:(K==2)=false:=by simp;omega
 have d3:(K==3)=false:=by simp;omega
 have hak:=HD (fun W O dv n (M7:SvM w o r b ba ⟨K,i,N,M,H,sd⟩ W O dv n (.slice none 0 0) B 0 s ans0)=>M7.ask hr hi rfl hx hkk (by omega) hH g5 ⟨hk,g2⟩ ht);have hcg:(s.set i (t.ask ⟨K,i,N,M,H,sd⟩).2).chg i=(t.ask ⟨K,i,N,M,H,sd⟩).2.cb:=by
  unfold AdS.chg;rw [show (s.set i (t.ask ⟨K,i,N,M,H,sd⟩).2).ts i=some (t.ask ⟨K,i,N,M,H,sd⟩).2 from up1_same]
 clear hv M0 hrt hs hk hx hkk hH ht g1 g2 g3 g4 g5 g6;rw [←hcg];generalize s.set i (t.ask ⟨K,i,N,M,H,sd⟩).2=s' at *;generalize (t.ask ⟨K,i,N,M,H,sd⟩).1=an at *;clear hcg;obtain⟨re,rh,ra,rn,rd,rc⟩:=an;go_enter Tryz.func18,Tryz.ntmps18
 go_wp2_with fail;go_step3
 go_wp2_with fail;refine SM ha.out ?_;go_wp2_with fail;refine hfo.out.mono ?_;rintro e w1 ⟨rfl,z1,z2,O1,M1⟩;obtain⟨⟨k0,k1,k2,k3,k4,k5⟩,hck⟩:=hp2.out _ _ M1;simp only [OpS.v,opV] at hck k0 k1 k2 k3 k4 k5;replace hck:=HD hck;clear hp2 ha hfo c0 M1;go_wp2_with fail;refine hck.out.mono ?_;rintro e w3 ⟨rfl,⟨l0,l1,l2,l3,l4,l5,f0,f1,f2,f3,f4,f5⟩,hset⟩;obtain⟨M4,rc4⟩:=hset 0;replace M4:=HD M4;clear hset hck z1 z2;obtain⟨q0,q1,q2,q3,q4,q5,y0,y1,y2,y3,y4,y5⟩:=rc4;simp only [ans0] at q0 q1 q2 q3 q4 q5;simp only [ans0] at l0 l1 l2 l3 l4 l5;go_wp2_with fail;generalize (w3.setCell ⟨w.heap.size+1,0,none⟩ (Value.int .i64 0))=W4 at *;have hp3:=HD (M4.out.ph3 hr hn);obtain⟨n1,n2,A,kc,cc,w5,hap,n3,z3,O6,M6⟩:=hp3.out;replace n1:=HD n1;replace n2:=HD n2;replace n3:=HD n3;replace M6:=HD M6;have e3:=n3.out.d;clear hp3 M4;refine wp_region_noPanic ?_;refine wp_region_T (S:=(fun W'=>W'.cell? ⟨b,3,none⟩=some dv∧W'.cell? ⟨w.heap.size,0,none⟩=some (.int .i64 K)∧W'.cell? ⟨w.heap.size,1,none⟩=some (.int .i64 i)∧W'.cell? ⟨w.heap.size,2,none⟩=some (.int .i64 N)∧W'.cell? ⟨w.heap.size,3,none⟩=some (.int .i64 M)∧W'.cell? ⟨w.heap.size,4,none⟩=some (.int .u64 H)∧W'.cell? ⟨w.heap.size,5,none⟩=some (.string sd))) 12 (by kernel_rfl) ?_ (fun hHeld=>?_)
 ·(first|exact⟨n1.out.d,n1.out.k.k0,n1.out.k.k1,n1.out.k.k2,n1.out.k.k3,n1.out.k.k4,n1.out.k.k5⟩|exact⟨n2.out.d,n2.out.k.k0,n2.out.k.k1,n2.out.k.k2,n2.out.k.k3,n2.out.k.k4,n2.out.k.k5⟩|exact⟨n3.out.d,n3.out.k.k0,n3.out.k.k1,n3.out.k.k2,n3.out.k.k3,n3.out.k.k4,n3.out.k.k5⟩)
 refine tkY 0 (h:=?_);refine tkY 1 (h:=?_);refine tkY 2 (h:=?_);refine tkY 3 (h:=?_);refine tkY 4 (h:=?_);refine tkT 5 (h:=?_);refine tkT 6 (h:=?_);refine onT 7 (h:=fun K hK=>?_);go_simp;refine hK.out _ _ ?_ (fun hHeld=>?_)
 ·(first|exact⟨n1.out.d,n1.out.k.k0,n1.out.k.k1,n1.out.k.k2,n1.out.k.k3,n1.out.k.k4,n1.out.k.k5⟩|exact⟨n2.out.d,n2.out.k.k0,n2.out.k.k1,n2.out.k.k2,n2.out.k.k3,n2.out.k.k4,n2.out.k.k5⟩|exact⟨n3.out.d,n3.out.k.k0,n3.out.k.k1,n3.out.k.k2,n3.out.k.k3,n3.out.k.k4,n3.out.k.k5⟩)
 clear hK;refine nmT (h:=?_);refine onT 8 (h:=fun K hK=>?_);refine step_append_is _ rfl _ _ 36 rfl rfl rfl hap ?_;refine hK.out _ _ ?_ (fun hHeld=>?_)
 ·(first|exact⟨n1.out.d,n1.out.k.k0,n1.out.k.k1,n1.out.k.k2,n1.out.k.k3,n1.out.k.k4,n1.out.k.k5⟩|exact⟨n2.out.d,n2.out.k.k0,n2.out.k.k1,n2.out.k.k2,n2.out.k.k3,n2.out.k.k4,n2.out.k.k5⟩|exact⟨n3.out.d,n3.out.k.k0,n3.out.k.k1,n3.out.k.k2,n3.out.k.k3,n3.out.k.k4,n3.out.k.k5⟩)
 clear hK;refine nmT (h:=?_);refine tkY 9 (h:=?_);refine tkY 10 (h:=?_);refine tkY 11 (h:=?_);refine laT (h:=fun K hK=>?_);go_simp;refine hK.out _ _ ?_;clear hK;refine NoPanic.normal ?_;clear hap n1 n2 n3 z3 e3 k0 k1 k2 k3 k4 k5 l0 l1 l2 l3 l4 l5 f0 f1 f2 f3 f4 f5 q0 q1 q2 q3 q4 q5 y0 y1 y2 y3 y4 y5;generalize (w5.setCell ⟨b,3,none⟩ (Value.slice A kc cc))=W6 at *;obtain⟨k0,k1,k2,k3,k4,k5⟩:=M6.out.op.cells;simp only at k0 k1 k2 k3 k4 k5;have M7:=HD (M6.out.still Fr.drew);have hA1:=HD M7.out.adc;obtain⟨bt,hte,hcl⟩:=hak.out _ _ _ _ M7.out;simp only [OpS.v,opV] at hcl;replace hte:=HD hte;replace hcl:=HD hcl;have k7:=M7.out.op.cells;obtain⟨p0,p1,p2,p3,p4,p5⟩:=k7;simp only at p0 p1 p2 p3 p4 p5;clear M6 M7 hak;go_wp2_with fail;refine wp_region_noPanic ?_;refine wp_region_held_drew (S:=(fun W'=>W'.cell? ⟨b,0,none⟩=some (eP ba)∧W'.cell? ⟨w.heap.size,1,none⟩=some (.int .i64 i))) (by kernel_rfl) ?_ (fun hHeld=>?_)
 ·exact⟨hA1.out.c,hA1.out.k1⟩
 refine tkH 0 (h:=?_);refine tkH 1 (h:=?_);refine tkH 2 (h:=?_);refine tkH 3 (h:=?_);refine tkH 4 (h:=?_);refine tkH 5 (h:=?_);refine tkH 6 (h:=?_);refine onH 7 (h:=fun K hK=>?_);go_simp;refine SM hte.out ?_;go_wp2_with fail;refine hK.out _ _ ?_ (fun hHeld=>?_)
 ·exact⟨hA1.out.c,hA1.out.k1⟩
 clear hK;refine nmH (h:=?_);refine tkH 8 (h:=?_);refine wpAnyH_done (by kernel_rfl) ?_ _;refine NoPanic.normal ?_;clear hA1 hte;generalize W6.drew=W7 at *;go_wp2_with fail;refine hcl.out.mono ?_;rintro e w8 ⟨rfl,⟨l0,l1,l2,l3,l4,l5,f0,f1,f2,f3,f4,f5⟩,O8,B8,M8⟩;simp only [ans0] at l0 l1 l2 l3 l4 l5;replace M8:=HD M8;clear hcl k0 k1 k2 k3 k4 k5 p0 p1 p2 p3 p4 p5;have hm8:0+30000≤1000000:=by omega
 simp only [ansV];go_wp2_with fail;go_step3
 clear l0 l1 l2 l3 l4 l5 f0 f1 f2 f3 f4 f5;obtain⟨k1',hch,⟨l0,l1,l2,l3,l4,l5,f0,f1,f2,f3,f4,f5⟩,c0,a8,ha8,hto⟩:=M8.out.ph8 hr hi rfl hm8;simp only at k1' l0 l1 l2 l3 l4 l5;replace hch:=HD hch;replace ha8:=HD ha8;replace hto:=HD hto;clear M8;go_wp2_with fail;refine SM hch.out ?_;go_wp2_with fail;refine SM ha8.out ?_;clear ha8 hch;go_wp2_with fail;refine hto.out.mono ?_;rintro e w10 ⟨A1,kc1,cc1,rfl,z1,z2,⟨q0,q1,q2,q3,q4,q5,y0,y1,y2,y3,y4,y5⟩,M11,R11⟩;simp only at q0 q1 q2 q3 q4 q5 M11 R11;replace M11:=HD M11;replace R11:=HD R11;clear hto c0 l0 l1 l2 l3 l4 l5 f0 f1 f2 f3 f4 f5;go_wp2_with fail;rw [Exit.noGoto_ret];refine bodyPost_ret (v:=ansV ⟨re,rh,ra,rn,rd,s'.chg i⟩) ?_ rfl ⟨rfl,O8,B8,_,_,M11.out.sv,M11.out.fr⟩;exact ans_results_at 4 (by kernel_rfl) _ _ _ rfl (R11.out.store ⟨re,rh,ra,rn,rd,s'.chg i⟩)
end
end
section
open Go.RowKit Flt
attribute [local irreducible] CpS.rv
section
variable{w:World}{o:Nat→Tag}{r:Tag}{b ba:Nat}{dv tv:Value}{n kk:Nat}{B:List UInt8}{m:Nat}{s:AdS}{K T N M:Int}{H:Nat}{sd:ByteArray}
theorem SvG.mono(h:SvG w o r b ba dv n tv B m s){m':Nat}(hm:m≤m'):SvG w o r b ba dv n tv B m' s:=⟨h.blk,h.ad.mono hm,h.dn,h.dt⟩
set_option maxHeartbeats 4000000 in
theorem svDo_create{i:Nat}(hi:i<8)(hv:SvG w o r b ba dv n tv B m s)(hr:Root r)(hs:sd.size≤maxLen)(hn:n≤1000000)(hrt:rightO 1 (i:Int) sd=true)(hx:s.nx kk)(hkk:kk≤1000000) :
  Calls Tryz.prog 18 #[eP b,.agg #[.int .i64 1,.int .i64 i,.int .i64 N,.int .i64 M,.int .u64 H,.string sd]] w fun e w'=>e=.returned (ansV ⟨(s.create i M N).1,0,0,0,ByteArray.empty,(s.create i M N).2.chg i⟩)∧∃O B' dv' tv',SvG w' O r b ba dv' (n+1) tv' B' 30000 (s.create i M N).2∧Fr (UndS r) w o w' O:=by
 have M0:=SvM.start hv ⟨1,i,N,M,H,sd⟩;obtain⟨a0,ha,hfo⟩:=M0.ph1 hr;have c0:((w.alloc (.cells #[.int .i64 1,.int .i64 i,.int .i64 N,.int .i64 M,.int .u64 H,.string sd] 32)).alloc (.cells #[.int .i64 0,.int .u64 0,.int .i64 0,.int .i64 0,.string {data:=#[]},.int .i64 0] 47)).cell? ⟨b,0,none⟩=some (eP ba):=M0.c0;replace ha:=HD ha;replace hfo:=HD hfo;have hp2:=HD (fun W O (M1:SvM w o r b ba ⟨1,i,N,M,H,sd⟩ W O dv n (.slice none 0 0) B 0 s ans0)=>M1.ph2 hr hs);rw [if_pos hrt] at hp2;have hak:=HD (fun W O dv n (M7:SvM w o r b ba ⟨1,i,N,M,H,sd⟩ W O dv n (.slice none 0 0) B 0 s ans0)=>M7.create hr hi rfl hx hkk);clear hv M0 hrt hs hx hkk;generalize s.create i M N=rs at *;obtain⟨re,s'⟩:=rs;simp only at hak ⊢;go_enter Tryz.func18,Tryz.ntmps18
 go_wp2_with fail;refine wp_scope_jumps 0 (fun a' w'=>(∃O' B' dv' tv' m',m'≤30000∧SvM w o r b ba ⟨1,i,N,M,H,sd⟩ w' O' dv' (n+1) tv' B' m' s' ⟨re,0,0,0,ByteArray.empty,0⟩)∧∃fv:Nat→Value,a'={tmps:=#[eP b,fv 1,fv 2,eP w.heap.size,eP (w.heap.size+1),fv 5,fv 6,fv 7,fv 8,fv 9,fv 10,fv 11,fv 12,fv 13,fv 14,fv 15,fv 16,fv 17,fv 18,fv 19,fv 20,fv 21,fv 22,fv 23,fv 24,fv 25,fv 26,fv 27,fv 28,fv 29,fv 30,fv 31,fv 32,fv 33,fv 34,fv 35,fv 36,fv 37,fv 38,fv 39,fv 40,fv 41,fv 42,fv 43,fv 44,fv 45,fv 46,fv 47,fv 48,fv 49,fv 50,fv 51,fv 52,fv 53,fv 54,fv 55,fv 56,fv 57,fv 58,fv 59,fv 60,fv 61,fv 62,fv 63,fv 64,fv 65,fv 66,fv 67,fv 68,fv 69,fv 70,fv 71,fv 72,fv 73,fv 74,fv 75,fv 76,fv 77,fv 78,fv 79,fv 80,fv 81,fv 82,fv 83,fv 84,fv 85,fv 86,fv 87,fv 88,fv 89,fv 90,fv 91,fv 92,fv 93,fv 94,fv 95,fv 96,fv 97,fv 98,fv 99,fv 100,fv 101,fv 102,fv 103,fv 104,fv 105,fv 106,fv 107,fv 108,fv 109,fv 110,fv 111,fv 112],defers:=[]}) (fun _ _=>0) rfl ?_ ?_;rotate_left
 ·rintro a' W8 ⟨⟨O8,B8,dv8,tv8,m8,hm0,M8⟩,fv,rfl⟩
  replace M8:=HD M8;have hm8:m8≤1000000:=by omega
  clear ha hfo hp2 c0 hak;obtain⟨k1',hch,⟨l0,l1,l2,l3,l4,l5,f0,f1,f2,f3,f4,f5⟩,c0,a8,ha8,hto⟩:=M8.out.ph8 hr hi rfl hm8;simp only at k1' l0 l1 l2 l3 l4 l5;replace hch:=HD hch;replace ha8:=HD ha8;replace hto:=HD hto;clear M8;go_wp2_with fail;refine SM hch.out ?_;go_wp2_with fail;refine SM ha8.out ?_;clear ha8 hch;go_wp2_with fail;refine hto.out.mono ?_;rintro e w10 ⟨A1,kc1,cc1,rfl,z1,z2,⟨q0,q1,q2,q3,q4,q5,y0,y1,y2,y3,y4,y5⟩,M11,R11⟩;simp only at q0 q1 q2 q3 q4 q5 M11 R11;replace M11:=HD M11;replace R11:=HD R11;clear hto c0 l0 l1 l2 l3 l4 l5 f0 f1 f2 f3 f4 f5;go_wp2_with fail;simp only [Exit.jump];have hfin:=HD (M11.out.sv.mono hm0);refine bodyPost_ret (v:=ansV ⟨re,0,0,0,ByteArray.empty,s'.chg i⟩) ?_ rfl ⟨rfl,O8,B8,_,_,hfin.out,M11.out.fr⟩;exact ans_results_at 4 (by kernel_rfl) _ _ _ rfl (R11.out.store ⟨re,0,0,0,ByteArray.empty,s'.chg i⟩)
 go_wp2_with fail;refine SM ha.out ?_;go_wp2_with fail;refine hfo.out.mono ?_;rintro e w1 ⟨rfl,z1,z2,O1,M1⟩;obtain⟨⟨k0,k1,k2,k3,k4,k5⟩,hck⟩:=hp2.out _ _ M1;simp only [OpS.v,opV] at hck k0 k1 k2 k3 k4 k5;replace hck:=HD hck;clear hp2 ha hfo c0 M1;go_wp2_with fail;refine hck.out.mono ?_;rintro e w3 ⟨rfl,⟨l0,l1,l2,l3,l4,l5,f0,f1,f2,f3,f4,f5⟩,hset⟩;obtain⟨M4,rc4⟩:=hset 0;replace M4:=HD M4;clear hset hck z1 z2;obtain⟨q0,q1,q2,q3,q4,q5,y0,y1,y2,y3,y4,y5⟩:=rc4;simp only [ans0] at q0 q1 q2 q3 q4 q5;simp only [ans0] at l0 l1 l2 l3 l4 l5;go_wp2_with fail;generalize (w3.setCell ⟨w.heap.size+1,0,none⟩ (Value.int .i64 0))=W4 at *;have hp3:=HD (M4.out.ph3 hr hn);obtain⟨n1,n2,A,kc,cc,w5,hap,n3,z3,O6,M6⟩:=hp3.out;replace n1:=HD n1;replace n2:=HD n2;replace n3:=HD n3;replace M6:=HD M6;have e3:=n3.out.d;clear hp3 M4;refine wp_region_noPanic ?_;refine wp_region_T (S:=(fun W'=>W'.cell? ⟨b,3,none⟩=some dv∧W'.cell? ⟨w.heap.size,0,none⟩=some (.int .i64 1)∧W'.cell? ⟨w.heap.size,1,none⟩=some (.int .i64 i)∧W'.cell? ⟨w.heap.size,2,none⟩=some (.int .i64 N)∧W'.cell? ⟨w.heap.size,3,none⟩=some (.int .i64 M)∧W'.cell? ⟨w.heap.size,4,none⟩=some (.int .u64 H)∧W'.cell? ⟨w.heap.size,5,none⟩=some (.string sd))) 12 (by kernel_rfl) ?_ (fun hHeld=>?_)
 ·(first|exact⟨n1.out.d,n1.out.k.k0,n1.out.k.k1,n1.out.k.k2,n1.out.k.k3,n1.out.k.k4,n1.out.k.k5⟩|exact⟨n2.out.d,n2.out.k.k0,n2.out.k.k1,n2.out.k.k2,n2.out.k.k3,n2.out.k.k4,n2.out.k.k5⟩|exact⟨n3.out.d,n3.out.k.k0,n3.out.k.k1,n3.out.k.k2,n3.out.k.k3,n3.out.k.k4,n3.out.k.k5⟩)
 refine tkY 0 (h:=?_);refine tkY 1 (h:=?_);refine tkY 2 (h:=?_);refine tkY 3 (h:=?_);refine tkY 4 (h:=?_);refine tkT 5 (h:=?_);refine tkT 6 (h:=?_);refine onT 7 (h:=fun K hK=>?_);go_simp;refine hK.out _ _ ?_ (fun hHeld=>?_)
 ·(first|exact⟨n1.out.d,n1.out.k.k0,n1.out.k.k1,n1.out.k.k2,n1.out.k.k3,n1.out.k.k4,n1.out.k.k5⟩|exact⟨n2.out.d,n2.out.k.k0,n2.out.k.k1,n2.out.k.k2,n2.out.k.k3,n2.out.k.k4,n2.out.k.k5⟩|exact⟨n3.out.d,n3.out.k.k0,n3.out.k.k1,n3.out.k.k2,n3.out.k.k3,n3.out.k.k4,n3.out.k.k5⟩)
 clear hK;refine nmT (h:=?_);refine onT 8 (h:=fun K hK=>?_);refine step_append_is _ rfl _ _ 36 rfl rfl rfl hap ?_;refine hK.out _ _ ?_ (fun hHeld=>?_)
 ·(first|exact⟨n1.out.d,n1.out.k.k0,n1.out.k.k1,n1.out.k.k2,n1.out.k.k3,n1.out.k.k4,n1.out.k.k5⟩|exact⟨n2.out.d,n2.out.k.k0,n2.out.k.k1,n2.out.k.k2,n2.out.k.k3,n2.out.k.k4,n2.out.k.k5⟩|exact⟨n3.out.d,n3.out.k.k0,n3.out.k.k1,n3.out.k.k2,n3.out.k.k3,n3.out.k.k4,n3.out.k.k5⟩)
 clear hK;refine nmT (h:=?_);refine tkY 9 (h:=?_);refine tkY 10 (h:=?_);refine tkY 11 (h:=?_);refine laT (h:=fun K hK=>?_);go_simp;refine hK.out _ _ ?_;clear hK;refine NoPanic.normal ?_;clear hap n1 n2 n3 z3 e3 k0 k1 k2 k3 k4 k5 l0 l1 l2 l3 l4 l5 f0 f1 f2 f3 f4 f5 q0 q1 q2 q3 q4 q5 y0 y1 y2 y3 y4 y5;generalize (w5.setCell ⟨b,3,none⟩ (Value.slice A kc cc))=W6 at *;obtain⟨k0,k1,k2,k3,k4,k5⟩:=M6.out.op.cells;simp only at k0 k1 k2 k3 k4 k5;have M7:=HD (M6.out.still Fr.drew);have hA1:=HD M7.out.adc;have hcl:=HD (hak.out _ _ _ _ M7.out);clear M6 M7 hak;go_wp2_with fail;refine wp_region_noPanic ?_;refine wp_region_T (S:=(fun W'=>W'.cell? ⟨b,0,none⟩=some (eP ba)∧W'.cell? ⟨w.heap.size,1,none⟩=some (.int .i64 i)∧W'.cell? ⟨w.heap.size,2,none⟩=some (.int .i64 N)∧W'.cell? ⟨w.heap.size,3,none⟩=some (.int .i64 M))) 13 (by kernel_rfl) ?_ (fun hHeld=>?_)
 ·(first|exact⟨hA1.out.c,hA1.out.k1,hA1.out.k2,hA1.out.k3⟩|exact⟨hA2.out.c,hA2.out.k1,hA2.out.k2,hA2.out.k3⟩)
 refine tkY 0 (h:=?_);refine tkY 1 (h:=?_);refine tkY 2 (h:=?_);refine tkY 3 (h:=?_);refine tkT 4 (h:=?_);refine tkY 5 (h:=?_);refine tkT 6 (h:=?_);refine tkY 7 (h:=?_);refine tkT 8 (h:=?_);refine tkY 9 (h:=?_);refine tkT 10 (h:=?_);refine onT 11 (h:=fun K hK=>?_);go_simp;refine hcl.out.mono ?_;rintro e w7 ⟨rfl,hA2,⟨l0,l1,l2,l3,l4,l5,f0,f1,f2,f3,f4,f5⟩,O8,B8,M8⟩;simp only [ans0] at l0 l1 l2 l3 l4 l5;replace hA2:=HD hA2;replace M8:=HD M8;go_wp2_with fail;refine hK.out _ _ ?_ (fun hHeld=>?_)
 ·(first|exact⟨hA1.out.c,hA1.out.k1,hA1.out.k2,hA1.out.k3⟩|exact⟨hA2.out.c,hA2.out.k1,hA2.out.k2,hA2.out.k3⟩)
 clear hK;refine nmT (h:=?_);refine tkY 12 (h:=?_);refine laT (h:=fun K hK=>?_);go_simp;refine hK.out _ _ ?_;clear hK;refine NoPanic.normal ?_;clear hA1 hcl;go_wp2_with fail;go_step3
 exact⟨rfl,⟨O8,B8,_,_,_,by omega,M8.out⟩,fun k=>List.getD [undef,_,_,undef,undef,_,_,_,_,_,_,_,_,_,_,_,_,_,_,_,_,_,_,_,_,_,_,_,_,_,_,_,_,_,_,_,_,_,_,_,_,_,_,_,_,_,_,_,_,_,_,_,_,_,_,_,_,_,_,_,_,_,_,_,_,_,_,_,_,_,_,_,_,_,_,_,_,_,_,_,_,_,_,_,_,_,_,_,_,_,_,_,_,_,_,_,_,_,_,_,_,_,_,_,_,_,_,_,_,_,_,_,_] k undef,rfl⟩
set_option maxHeartbeats 4000000 in
theorem svDo_resize{i:Nat}(hi:i<8)(hv:SvG w o r b ba dv n tv B m s)(hr:Root r)(hs:sd.size≤maxLen)(hn:n≤1000000)(hrt:rightO 2 (i:Int) sd=true)(hx:s.nx kk)(hkk:kk≤1000000) :
  Calls Tryz.prog 18 #[eP b,.agg #[.int .i64 2,.int .i64 i,.int .i64 N,.int .i64 M,.int .u64 H,.string sd]] w fun e w'=>e=.returned (ansV ⟨(s.resize i M N).1,0,0,0,ByteArray.empty,(s.resize i M N).2.chg i⟩)∧∃O B' dv' tv',SvG w' O r b ba dv' (n+1) tv' B' 30000 (s.resize i M N).2∧Fr (UndS r) w o w' O:=by
 have M0:=SvM.start hv ⟨2,i,N,M,H,sd⟩;obtain⟨a0,ha,hfo⟩:=M0.ph1 hr;have c0:((w.alloc (.cells #[.int .i64 2,.int .i64 i,.int .i64 N,.int .i64 M,.int .u64 H,.string sd] 32)).alloc (.cells #[.int .i64 0,.int .u64 0,.int .i64 0,.int .i64 0,.string {data:=#[]},.int .i64 0] 47)).cell? ⟨b,0,none⟩=some (eP ba):=M0.c0;replace ha:=HD ha;replace hfo:=HD hfo;have hp2:=HD (fun W O (M1:SvM w o r b ba ⟨2,i,N,M,H,sd⟩ W O dv n (.slice none 0 0) B 0 s ans0)=>M1.ph2 hr hs);rw [if_pos hrt] at hp2;have hak:=HD (fun W O dv n (M7:SvM w o r b ba ⟨2,i,N,M,H,sd⟩ W O dv n (.slice none 0 0) B 0 s ans0)=>M7.resize hr hi rfl (by omega));clear hv M0 hrt hs hx hkk;generalize s.resize i M N=rs at *;obtain⟨re,s'⟩:=rs;simp only at hak ⊢;go_enter Tryz.func18,Tryz.ntmps18
 go_wp2_with fail;refine wp_scope_jumps 0 (fun a' w'=>(∃O' B' dv' tv' m',m'≤30000∧SvM w o r b ba ⟨2,i,N,M,H,sd⟩ w' O' dv' (n+1) tv' B' m' s' ⟨re,0,0,0,ByteArray.empty,0⟩)∧∃fv:Nat→Value,a'={tmps:=#[eP b,fv 1,fv 2,eP w.heap.size,eP (w.heap.size+1),fv 5,fv 6,fv 7,fv 8,fv 9,fv 10,fv 11,fv 12,fv 13,fv 14,fv 15,fv 16,fv 17,fv 18,fv 19,fv 20,fv 21,fv 22,fv 23,fv 24,fv 25,fv 26,fv 27,fv 28,fv 29,fv 30,fv 31,fv 32,fv 33,fv 34,fv 35,fv 36,fv 37,fv 38,fv 39,fv 40,fv 41,fv 42,fv 43,fv 44,fv 45,fv 46,fv 47,fv 48,fv 49,fv 50,fv 51,fv 52,fv 53,fv 54,fv 55,fv 56,fv 57,fv 58,fv 59,fv 60,fv 61,fv 62,fv 63,fv 64,fv 65,fv 66,fv 67,fv 68,fv 69,fv 70,fv 71,fv 72,fv 73,fv 74,fv 75,fv 76,fv 77,fv 78,fv 79,fv 80,fv 81,fv 82,fv 83,fv 84,fv 85,fv 86,fv 87,fv 88,fv 89,fv 90,fv 91,fv 92,fv 93,fv 94,fv 95,fv 96,fv 97,fv 98,fv 99,fv 100,fv 101,fv 102,fv 103,fv 104,fv 105,fv 106,fv 107,fv 108,fv 109,fv 110,fv 111,fv 112],defers:=[]}) (fun _ _=>0) rfl ?_ ?_;rotate_left
 ·rintro a' W8 ⟨⟨O8,B8,dv8,tv8,m8,hm0,M8⟩,fv,rfl⟩
  replace M8:=HD M8;have hm8:m8≤1000000:=by omega
  clear ha hfo hp2 c0 hak;obtain⟨k1',hch,⟨l0,l1,l2,l3,l4,l5,f0,f1,f2,f3,f4,f5⟩,c0,a8,ha8,hto⟩:=M8.out.ph8 hr hi rfl hm8;simp only at k1' l0 l1 l2 l3 l4 l5;replace hch:=HD hch;replace ha8:=HD ha8;replace hto:=HD hto;clear M8;go_wp2_with fail;refine SM hch.out ?_;go_wp2_with fail;refine SM ha8.out ?_;clear ha8 hch;go_wp2_with fail;refine hto.out.mono ?_;rintro e w10 ⟨A1,kc1,cc1,rfl,z1,z2,⟨q0,q1,q2,q3,q4,q5,y0,y1,y2,y3,y4,y5⟩,M11,R11⟩;simp only at q0 q1 q2 q3 q4 q5 M11 R11;replace M11:=HD M11;replace R11:=HD R11;clear hto c0 l0 l1 l2 l3 l4 l5 f0 f1 f2 f3 f4 f5;go_wp2_with fail;simp only [Exit.jump];have hfin:=HD (M11.out.sv.mono hm0);refine bodyPost_ret (v:=ansV ⟨re,0,0,0,ByteArray.empty,s'.chg i⟩) ?_ rfl ⟨rfl,O8,B8,_,_,hfin.out,M11.out.fr⟩;exact ans_results_at 4 (by kernel_rfl) _ _ _ rfl (R11.out.store ⟨re,0,0,0,ByteArray.empty,s'.chg i⟩)
 go_wp2_with fail;refine SM ha.out ?_;go_wp2_with fail;refine hfo.out.mono ?_;rintro e w1 ⟨rfl,z1,z2,O1,M1⟩;obtain⟨⟨k0,k1,k2,k3,k4,k5⟩,hck⟩:=hp2.out _ _ M1;simp only [OpS.v,opV] at hck k0 k1 k2 k3 k4 k5;replace hck:=HD hck;clear hp2 ha hfo c0 M1;go_wp2_with fail;refine hck.out.mono ?_;rintro e w3 ⟨rfl,⟨l0,l1,l2,l3,l4,l5,f0,f1,f2,f3,f4,f5⟩,hset⟩;obtain⟨M4,rc4⟩:=hset 0;replace M4:=HD M4;clear hset hck z1 z2;obtain⟨q0,q1,q2,q3,q4,q5,y0,y1,y2,y3,y4,y5⟩:=rc4;simp only [ans0] at q0 q1 q2 q3 q4 q5;simp only [ans0] at l0 l1 l2 l3 l4 l5;go_wp2_with fail;generalize (w3.setCell ⟨w.heap.size+1,0,none⟩ (Value.int .i64 0))=W4 at *;have hp3:=HD (M4.out.ph3 hr hn);obtain⟨n1,n2,A,kc,cc,w5,hap,n3,z3,O6,M6⟩:=hp3.out;replace n1:=HD n1;replace n2:=HD n2;replace n3:=HD n3;replace M6:=HD M6;have e3:=n3.out.d;clear hp3 M4;refine wp_region_noPanic ?_;refine wp_region_T (S:=(fun W'=>W'.cell? ⟨b,3,none⟩=some dv∧W'.cell? ⟨w.heap.size,0,none⟩=some (.int .i64 2)∧W'.cell? ⟨w.heap.size,1,none⟩=some (.int .i64 i)∧W'.cell? ⟨w.heap.size,2,none⟩=some (.int .i64 N)∧W'.cell? ⟨w.heap.size,3,none⟩=some (.int .i64 M)∧W'.cell? ⟨w.heap.size,4,none⟩=some (.int .u64 H)∧W'.cell? ⟨w.heap.size,5,none⟩=some (.string sd))) 12 (by kernel_rfl) ?_ (fun hHeld=>?_)
 ·(first|exact⟨n1.out.d,n1.out.k.k0,n1.out.k.k1,n1.out.k.k2,n1.out.k.k3,n1.out.k.k4,n1.out.k.k5⟩|exact⟨n2.out.d,n2.out.k.k0,n2.out.k.k1,n2.out.k.k2,n2.out.k.k3,n2.out.k.k4,n2.out.k.k5⟩|exact⟨n3.out.d,n3.out.k.k0,n3.out.k.k1,n3.out.k.k2,n3.out.k.k3,n3.out.k.k4,n3.out.k.k5⟩)
 refine tkY 0 (h:=?_);refine tkY 1 (h:=?_);refine tkY 2 (h:=?_);refine tkY 3 (h:=?_);refine tkY 4 (h:=?_);refine tkT 5 (h:=?_);refine tkT 6 (h:=?_);refine onT 7 (h:=fun K hK=>?_);go_simp;refine hK.out _ _ ?_ (fun hHeld=>?_)
 ·(first|exact⟨n1.out.d,n1.out.k.k0,n1.out.k.k1,n1.out.k.k2,n1.out.k.k3,n1.out.k.k4,n1.out.k.k5⟩|exact⟨n2.out.d,n2.out.k.k0,n2.out.k.k1,n2.out.k.k2,n2.out.k.k3,n2.out.k.k4,n2.out.k.k5⟩|exact⟨n3.out.d,n3.out.k.k0,n3.out.k.k1,n3.out.k.k2,n3.out.k.k3,n3.out.k.k4,n3.out.k.k5⟩)
 clear hK;refine nmT (h:=?_);refine onT 8 (h:=fun K hK=>?_);refine step_append_is _ rfl _ _ 36 rfl rfl rfl hap ?_;refine hK.out _ _ ?_ (fun hHeld=>?_)
 ·(first|exact⟨n1.out.d,n1.out.k.k0,n1.out.k.k1,n1.out.k.k2,n1.out.k.k3,n1.out.k.k4,n1.out.k.k5⟩|exact⟨n2.out.d,n2.out.k.k0,n2.out.k.k1,n2.out.k.k2,n2.out.k.k3,n2.out.k.k4,n2.out.k.k5⟩|exact⟨n3.out.d,n3.out.k.k0,n3.out.k.k1,n3.out.k.k2,n3.out.k.k3,n3.out.k.k4,n3.out.k.k5⟩)
 clear hK;refine nmT (h:=?_);refine tkY 9 (h:=?_);refine tkY 10 (h:=?_);refine tkY 11 (h:=?_);refine laT (h:=fun K hK=>?_);go_simp;refine hK.out _ _ ?_;clear hK;refine NoPanic.normal ?_;clear hap n1 n2 n3 z3 e3 k0 k1 k2 k3 k4 k5 l0 l1 l2 l3 l4 l5 f0 f1 f2 f3 f4 f5 q0 q1 q2 q3 q4 q5 y0 y1 y2 y3 y4 y5;generalize (w5.setCell ⟨b,3,none⟩ (Value.slice A kc cc))=W6 at *;obtain⟨k0,k1,k2,k3,k4,k5⟩:=M6.out.op.cells;simp only at k0 k1 k2 k3 k4 k5;have M7:=HD (M6.out.still Fr.drew);have hA1:=HD M7.out.adc;have hcl:=HD (hak.out _ _ _ _ M7.out);clear M6 M7 hak;go_wp2_with fail;refine wp_region_noPanic ?_;refine wp_region_T (S:=(fun W'=>W'.cell? ⟨b,0,none⟩=some (eP ba)∧W'.cell? ⟨w.heap.size,1,none⟩=some (.int .i64 i)∧W'.cell? ⟨w.heap.size,2,none⟩=some (.int .i64 N)∧W'.cell? ⟨w.heap.size,3,none⟩=some (.int .i64 M))) 13 (by kernel_rfl) ?_ (fun hHeld=>?_)
 ·(first|exact⟨hA1.out.c,hA1.out.k1,hA1.out.k2,hA1.out.k3⟩|exact⟨hA2.out.c,hA2.out.k1,hA2.out.k2,hA2.out.k3⟩)
 refine tkY 0 (h:=?_);refine tkY 1 (h:=?_);refine tkY 2 (h:=?_);refine tkY 3 (h:=?_);refine tkT 4 (h:=?_);refine tkY 5 (h:=?_);refine tkT 6 (h:=?_);refine tkY 7 (h:=?_);refine tkT 8 (h:=?_);refine tkY 9 (h:=?_);refine tkT 10 (h:=?_);refine onT 11 (h:=fun K hK=>?_);go_simp;refine hcl.out.mono ?_;rintro e w7 ⟨rfl,hA2,⟨l0,l1,l2,l3,l4,l5,f0,f1,f2,f3,f4,f5⟩,O8,B8,M8⟩;simp only [ans0] at l0 l1 l2 l3 l4 l5;replace hA2:=HD hA2;replace M8:=HD M8;go_wp2_with fail;refine hK.out _ _ ?_ (fun hHeld=>?_)
 ·(first|exact⟨hA1.out.c,hA1.out.k1,hA1.out.k2,hA1.out.k3⟩|exact⟨hA2.out.c,hA2.out.k1,hA2.out.k2,hA2.out.k3⟩)
 clear hK;refine nmT (h:=?_);refine tkY 12 (h:=?_);refine laT (h:=fun K hK=>?_);go_simp;refine hK.out _ _ ?_;clear hK;refine NoPanic.normal ?_;clear hA1 hcl;go_wp2_with fail;go_step3
 exact⟨rfl,⟨O8,B8,_,_,_,by omega,M8.out⟩,fun k=>List.getD [undef,_,_,undef,undef,_,_,_,_,_,_,_,_,_,_,_,_,_,_,_,_,_,_,_,_,_,_,_,_,_,_,_,_,_,_,_,_,_,_,_,_,_,_,_,_,_,_,_,_,_,_,_,_,_,_,_,_,_,_,_,_,_,_,_,_,_,_,_,_,_,_,_,_,_,_,_,_,_,_,_,_,_,_,_,_,_,_,_,_,_,_,_,_,_,_,_,_,_,_,_,_,_,_,_,_,_,_,_,_,_,_,_,_] k undef,rfl⟩
set_option maxHeartbeats 4000000 in
theorem svDo_destroy{i:Nat}(hi:i<8)(hv:SvG w o r b ba dv n tv B m s)(hr:Root r)(hs:sd.size≤maxLen)(hn:n≤1000000)(hrt:rightO 3 (i:Int) sd=true)(hx:s.nx kk)(hkk:kk≤1000000) :
  Calls Tryz.prog 18 #[eP b,.agg #[.int .i64 3,.int .i64 i,.int .i64 N,.int .i64 M,.int .u64 H,.string sd]] w fun e w'=>e=.returned (ansV ⟨(s.destroy i).1,0,0,0,ByteArray.empty,(s.destroy i).2.chg i⟩)∧∃O B' dv' tv',SvG w' O r b ba dv' (n+1) tv' B' 30000 (s.destroy i).2∧Fr (UndS r) w o w' O:=by
 have M0:=SvM.start hv ⟨3,i,N,M,H,sd⟩;obtain⟨a0,ha,hfo⟩:=M0.ph1 hr;have c0:((w.alloc (.cells #[.int .i64 3,.int .i64 i,.int .i64 N,.int .i64 M,.int .u64 H,.string sd] 32)).alloc (.cells #[.int .i64 0,.int .u64 0,.int .i64 0,.int .i64 0,.string {data:=#[]},.int .i64 0] 47)).cell? ⟨b,0,none⟩=some (eP ba):=M0.c0;replace ha:=HD ha;replace hfo:=HD hfo;have hp2:=HD (fun W O (M1:SvM w o r b ba ⟨3,i,N,M,H,sd⟩ W O dv n (.slice none 0 0) B 0 s ans0)=>M1.ph2 hr hs);rw [if_pos hrt] at hp2;have hak:=HD (fun W O dv n (M7:SvM w o r b ba ⟨3,i,N,M,H,sd⟩ W O dv n (.slice none 0 0) B 0 s ans0)=>M7.destroy hr hi rfl (by omega));clear hv M0 hrt hs hx hkk;generalize s.destroy i=rs at *;obtain⟨re,s'⟩:=rs;simp only at hak ⊢;go_enter Tryz.func18,Tryz.ntmps18
 go_wp2_with fail;refine wp_scope_jumps 0 (fun a' w'=>(∃O' B' dv' tv' m',m'≤30000∧SvM w o r b ba ⟨3,i,N,M,H,sd⟩ w' O' dv' (n+1) tv' B' m' s' ⟨re,0,0,0,ByteArray.empty,0⟩)∧∃fv:Nat→Value,a'={tmps:=#[eP b,fv 1,fv 2,eP w.heap.size,eP (w.heap.size+1),fv 5,fv 6,fv 7,fv 8,fv 9,fv 10,fv 11,fv 12,fv 13,fv 14,fv 15,fv 16,fv 17,fv 18,fv 19,fv 20,fv 21,fv 22,fv 23,fv 24,fv 25,fv 26,fv 27,fv 28,fv 29,fv 30,fv 31,fv 32,fv 33,fv 34,fv 35,fv 36,fv 37,fv 38,fv 39,fv 40,fv 41,fv 42,fv 43,fv 44,fv 45,fv 46,fv 47,fv 48,fv 49,fv 50,fv 51,fv 52,fv 53,fv 54,fv 55,fv 56,fv 57,fv 58,fv 59,fv 60,fv 61,fv 62,fv 63,fv 64,fv 65,fv 66,fv 67,fv 68,fv 69,fv 70,fv 71,fv 72,fv 73,fv 74,fv 75,fv 76,fv 77,fv 78,fv 79,fv 80,fv 81,fv 82,fv 83,fv 84,fv 85,fv 86,fv 87,fv 88,fv 89,fv 90,fv 91,fv 92,fv 93,fv 94,fv 95,fv 96,fv 97,fv 98,fv 99,fv 100,fv 101,fv 102,fv 103,fv 104,fv 105,fv 106,fv 107,fv 108,fv 109,fv 110,fv 111,fv 112],defers:=[]}) (fun _ _=>0) rfl ?_ ?_;rotate_left
 ·rintro a' W8 ⟨⟨O8,B8,dv8,tv8,m8,hm0,M8⟩,fv,rfl⟩
  replace M8:=HD M8;have hm8:m8≤1000000:=by omega
  clear ha hfo hp2 c0 hak;obtain⟨k1',hch,⟨l0,l1,l2,l3,l4,l5,f0,f1,f2,f3,f4,f5⟩,c0,a8,ha8,hto⟩:=M8.out.ph8 hr hi rfl hm8;simp only at k1' l0 l1 l2 l3 l4 l5;replace hch:=HD hch;replace ha8:=HD ha8;replace hto:=HD hto;clear M8;go_wp2_with fail;refine SM hch.out ?_;go_wp2_with fail;refine SM ha8.out ?_;clear ha8 hch;go_wp2_with fail;refine hto.out.mono ?_;rintro e w10 ⟨A1,kc1,cc1,rfl,z1,z2,⟨q0,q1,q2,q3,q4,q5,y0,y1,y2,y3,y4,y5⟩,M11,R11⟩;simp only at q0 q1 q2 q3 q4 q5 M11 R11;replace M11:=HD M11;replace R11:=HD R11;clear hto c0 l0 l1 l2 l3 l4 l5 f0 f1 f2 f3 f4 f5;go_wp2_with fail;simp only [Exit.jump];have hfin:=HD (M11.out.sv.mono hm0);refine bodyPost_ret (v:=ansV ⟨re,0,0,0,ByteArray.empty,s'.chg i⟩) ?_ rfl ⟨rfl,O8,B8,_,_,hfin.out,M11.out.fr⟩;exact ans_results_at 4 (by kernel_rfl) _ _ _ rfl (R11.out.store ⟨re,0,0,0,ByteArray.empty,s'.chg i⟩)
 go_wp2_with fail;refine SM ha.out ?_;go_wp2_with fail;refine hfo.out.mono ?_;rintro e w1 ⟨rfl,z1,z2,O1,M1⟩;obtain⟨⟨k0,k1,k2,k3,k4,k5⟩,hck⟩:=hp2.out _ _ M1;simp only [OpS.v,opV] at hck k0 k1 k2 k3 k4 k5;replace hck:=HD hck;clear hp2 ha hfo c0 M1;go_wp2_with fail;refine hck.out.mono ?_;rintro e w3 ⟨rfl,⟨l0,l1,l2,l3,l4,l5,f0,f1,f2,f3,f4,f5⟩,hset⟩;obtain⟨M4,rc4⟩:=hset 0;replace M4:=HD M4;clear hset hck z1 z2;obtain⟨q0,q1,q2,q3,q4,q5,y0,y1,y2,y3,y4,y5⟩:=rc4;simp only [ans0] at q0 q1 q2 q3 q4 q5;simp only [ans0] at l0 l1 l2 l3 l4 l5;go_wp2_with fail;generalize (w3.setCell ⟨w.heap.size+1,0,none⟩ (Value.int .i64 0))=W4 at *;have hp3:=HD (M4.out.ph3 hr hn);obtain⟨n1,n2,A,kc,cc,w5,hap,n3,z3,O6,M6⟩:=hp3.out;replace n1:=HD n1;replace n2:=HD n2;replace n3:=HD n3;replace M6:=HD M6;have e3:=n3.out.d;clear hp3 M4;refine wp_region_noPanic ?_;refine wp_region_T (S:=(fun W'=>W'.cell? ⟨b,3,none⟩=some dv∧W'.cell? ⟨w.heap.size,0,none⟩=some (.int .i64 3)∧W'.cell? ⟨w.heap.size,1,none⟩=some (.int .i64 i)∧W'.cell? ⟨w.heap.size,2,none⟩=some (.int .i64 N)∧W'.cell? ⟨w.heap.size,3,none⟩=some (.int .i64 M)∧W'.cell? ⟨w.heap.size,4,none⟩=some (.int .u64 H)∧W'.cell? ⟨w.heap.size,5,none⟩=some (.string sd))) 12 (by kernel_rfl) ?_ (fun hHeld=>?_)
 ·(first|exact⟨n1.out.d,n1.out.k.k0,n1.out.k.k1,n1.out.k.k2,n1.out.k.k3,n1.out.k.k4,n1.out.k.k5⟩|exact⟨n2.out.d,n2.out.k.k0,n2.out.k.k1,n2.out.k.k2,n2.out.k.k3,n2.out.k.k4,n2.out.k.k5⟩|exact⟨n3.out.d,n3.out.k.k0,n3.out.k.k1,n3.out.k.k2,n3.out.k.k3,n3.out.k.k4,n3.out.k.k5⟩)
 refine tkY 0 (h:=?_);refine tkY 1 (h:=?_);refine tkY 2 (h:=?_);refine tkY 3 (h:=?_);refine tkY 4 (h:=?_);refine tkT 5 (h:=?_);refine tkT 6 (h:=?_);refine onT 7 (h:=fun K hK=>?_);go_simp;refine hK.out _ _ ?_ (fun hHeld=>?_)
 ·(first|exact⟨n1.out.d,n1.out.k.k0,n1.out.k.k1,n1.out.k.k2,n1.out.k.k3,n1.out.k.k4,n1.out.k.k5⟩|exact⟨n2.out.d,n2.out.k.k0,n2.out.k.k1,n2.out.k.k2,n2.out.k.k3,n2.out.k.k4,n2.out.k.k5⟩|exact⟨n3.out.d,n3.out.k.k0,n3.out.k.k1,n3.out.k.k2,n3.out.k.k3,n3.out.k.k4,n3.out.k.k5⟩)
 clear hK;refine nmT (h:=?_);refine onT 8 (h:=fun K hK=>?_);refine step_append_is _ rfl _ _ 36 rfl rfl rfl hap ?_;refine hK.out _ _ ?_ (fun hHeld=>?_)
 ·(first|exact⟨n1.out.d,n1.out.k.k0,n1.out.k.k1,n1.out.k.k2,n1.out.k.k3,n1.out.k.k4,n1.out.k.k5⟩|exact⟨n2.out.d,n2.out.k.k0,n2.out.k.k1,n2.out.k.k2,n2.out.k.k3,n2.out.k.k4,n2.out.k.k5⟩|exact⟨n3.out.d,n3.out.k.k0,n3.out.k.k1,n3.out.k.k2,n3.out.k.k3,n3.out.k.k4,n3.out.k.k5⟩)
 clear hK;refine nmT (h:=?_);refine tkY 9 (h:=?_);refine tkY 10 (h:=?_);refine tkY 11 (h:=?_);refine laT (h:=fun K hK=>?_);go_simp;refine hK.out _ _ ?_;clear hK;refine NoPanic.normal ?_;clear hap n1 n2 n3 z3 e3 k0 k1 k2 k3 k4 k5 l0 l1 l2 l3 l4 l5 f0 f1 f2 f3 f4 f5 q0 q1 q2 q3 q4 q5 y0 y1 y2 y3 y4 y5;generalize (w5.setCell ⟨b,3,none⟩ (Value.slice A kc cc))=W6 at *;obtain⟨k0,k1,k2,k3,k4,k5⟩:=M6.out.op.cells;simp only at k0 k1 k2 k3 k4 k5;have M7:=HD (M6.out.still Fr.drew);have hA1:=HD M7.out.adc;have hcl:=HD (hak.out _ _ _ _ M7.out);clear M6 M7 hak;go_wp2_with fail;refine wp_region_noPanic ?_;refine wp_region_T (S:=(fun W'=>W'.cell? ⟨b,0,none⟩=some (eP ba)∧W'.cell? ⟨w.heap.size,1,none⟩=some (.int .i64 i))) 9 (by kernel_rfl) ?_ (fun hHeld=>?_)
 ·(first|exact⟨hA1.out.c,hA1.out.k1⟩|exact⟨hA2.out.c,hA2.out.k1⟩)
 refine tkY 0 (h:=?_);refine tkY 1 (h:=?_);refine tkY 2 (h:=?_);refine tkY 3 (h:=?_);refine tkT 4 (h:=?_);refine tkY 5 (h:=?_);refine tkT 6 (h:=?_);refine onT 7 (h:=fun K hK=>?_);go_simp;refine hcl.out.mono ?_;rintro e w7 ⟨rfl,hA2,⟨l0,l1,l2,l3,l4,l5,f0,f1,f2,f3,f4,f5⟩,O8,B8,M8⟩;simp only [ans0] at l0 l1 l2 l3 l4 l5;replace hA2:=HD hA2;replace M8:=HD M8;go_wp2_with fail;refine hK.out _ _ ?_ (fun hHeld=>?_)
 ·(first|exact⟨hA1.out.c,hA1.out.k1⟩|exact⟨hA2.out.c,hA2.out.k1⟩)
 clear hK;refine nmT (h:=?_);refine tkY 8 (h:=?_);refine laT (h:=fun K hK=>?_);go_simp;refine hK.out _ _ ?_;clear hK;refine NoPanic.normal ?_;clear hA1 hcl;go_wp2_with fail;go_step3
 exact⟨rfl,⟨O8,B8,_,_,_,by omega,M8.out⟩,fun k=>List.getD [undef,_,_,undef,undef,_,_,_,_,_,_,_,_,_,_,_,_,_,_,_,_,_,_,_,_,_,_,_,_,_,_,_,_,_,_,_,_,_,_,_,_,_,_,_,_,_,_,_,_,_,_,_,_,_,_,_,_,_,_,_,_,_,_,_,_,_,_,_,_,_,_,_,_,_,_,_,_,_,_,_,_,_,_,_,_,_,_,_,_,_,_,_,_,_,_,_,_,_,_,_,_,_,_,_,_,_,_,_,_,_,_,_,_] k undef,rfl⟩
end
end
end Go.Proofs.YtfliaggjkianpaaGreatDoor
