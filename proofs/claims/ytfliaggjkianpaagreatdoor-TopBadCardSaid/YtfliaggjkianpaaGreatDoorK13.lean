import Derived.Test.YtfliaggjkianpaaGreatDoorK00
import Derived.Test.YtfliaggjkianpaaGreatDoorK06
import Derived.StillTailTactics
import Derived.Test.YtfliaggjkianpaaGreatDoorK09
set_option linter.unusedVariables false
set_option linter.unusedSimpArgs false
set_option maxRecDepth 100000
namespace Go.Proofs.YtfliaggjkianpaaGreatDoor
section
open Go.RowKit
abbrev eN:Int×Int→Value:=fun p=>.agg #[.int .i64 p.1,.int .i64 p.2]
structure LnS where
 m:List (Int×(Int×Int))
 first:Int
 last:Int
def LnAt(w:World)(o:Nat→Tag)(t:Tag)(b:Nat)(s:LnS):Prop :=
 ∃g,Blk w o t b #[.map (some g),.int .i64 s.first,.int .i64 s.last] 282∧MpAt w o t g .i64 eN s.m∧b≠g
theorem LnAt.fr{S:Tag→Prop}{w w':World}{o o':Nat→Tag}{t:Tag}{b:Nat}{s:LnS}(h:LnAt w o t b s)(f:Fr S w o w' o')(hS:¬S t):LnAt w' o' t b s:=by
 obtain⟨g,h1,h2,h3⟩:=h;exact⟨g,h1.fr f hS,h2.fr f hS,h3⟩
theorem zeroN(w:World):(zeroValue 289).run Tryz.prog w=.ok (eN (0,0)) w:=by kernel_rfl
def LnS.new:LnS:=⟨[],-1,-1⟩
theorem lnNew(w:World)(o:Nat→Tag)(t:Tag) :
  Calls Tryz.prog 181 #[] w fun e w'=>(∃b,e=.returned (.pointer (some ⟨b,0,none⟩))∧LnAt w' (newO o w t) t b LnS.new)∧Below w.heap.size w w':=by
 have hmk:∀w,(Instr.makeMap 280 none).run Tryz.prog w=.ok (.map (some w.heap.size)) (w.alloc (.map #[] 0)):=fun w=>run_makeMap _ w
 have hB:Hid (Below w.heap.size w ((w.alloc (.map #[] 0)).alloc (.cells #[.map (some w.heap.size),.int .i64 (-1),.int .i64 (-1)] 282))):=HD (below_alloc (by simp) (below_alloc (Nat.le_refl _) (Below.refl _ _)));have hC:Hid (LnAt ((w.alloc (.map #[] 0)).alloc (.cells #[.map (some w.heap.size),.int .i64 (-1),.int .i64 (-1)] 282)) (newO o w t) t (w.heap.size+1) LnS.new):=HD (by
  have k0:(w.alloc (.map #[] 0)).heap[w.heap.size]? = some (.map #[] 0):=heap_alloc_new w _;have k1:((w.alloc (.map #[] 0)).alloc (.cells #[.map (some w.heap.size),.int .i64 (-1),.int .i64 (-1)] 282)).heap[w.heap.size+1]? = some (.cells #[.map (some w.heap.size),.int .i64 (-1),.int .i64 (-1)] 282):=by
   have:=heap_alloc_new (w.alloc (.map #[] 0)) (.cells #[.map (some w.heap.size),.int .i64 (-1),.int .i64 (-1)] 282);rwa [World.size_alloc] at this
  have old:∀(W:World) (x:Obj) (k:Nat),k<W.heap.size→(W.alloc x).heap[k]? = W.heap[k]?:=fun W x k hk=>((Only.refl (fun _=>False) W).alloc x).block k hk (fun q=>q)
  refine⟨w.heap.size,⟨newO_new (by omega),k1⟩,⟨newO_new (Nat.le_refl _),List.Pairwise.nil,by simp [LnS.new],#[],0,?_,MapKept.stamped_empty 0,by simp [LnS.new]⟩,by omega⟩;rw [old _ _ _ (by simp)];exact k0)
 go_enter Tryz.func181,Tryz.ntmps181
 go_wp2_with fail;go_ret
 exact⟨⟨_,rfl,hC.out⟩,hB.out⟩
theorem lnFront(b:Nat)(w:World){o:Nat→Tag}{t:Tag}{s:LnS}(h:LnAt w o t b s) :
  Calls Tryz.prog 197 #[.pointer (some ⟨b,0,none⟩)] w fun e w'=>e=.returned (.int .i64 s.first)∧w'=w:=by
 obtain⟨g,h1,h2,_⟩:=h;have c1:w.cell? ⟨b,1,none⟩=some (.int .i64 s.first):=h1.cell' (i:=1) rfl;clear h1 h2;go_enter Tryz.func197,Tryz.ntmps197
 go_wp2_with fail;go_ret
 exact⟨rfl,rfl⟩
def LnS.has(s:LnS)(k:Int):Bool:=(mGet s.m k).isSome
theorem lnHas(b:Nat)(k:Int)(w:World){o:Nat→Tag}{t:Tag}{s:LnS}(h:LnAt w o t b s) :
  Calls Tryz.prog 234 #[.pointer (some ⟨b,0,none⟩),.int .i64 k] w fun e w'=>e=.returned (.bool (s.has k))∧Below w.heap.size w w':=by
 obtain⟨g,h1,h2,_⟩:=h;have c0:w.cell? ⟨b,0,none⟩=some (.map (some g)):=h1.cell' (i:=0) rfl;have hl:=mp_lookup h2 (P:=Tryz.prog) Tryz.underlying280 Tryz.underlying3 zeroN k true;have hB:∀x:Array Value,Below w.heap.size w (w.alloc (.cells x 289)):=fun x=>(Below.refl _ _).alloc (Nat.le_refl _) _
 replace hB:=HD hB;unfold LnS.has;cases hg:mGet s.m k with
 |none =>
  rw [hg] at hl;simp only [if_true] at hl;clear h1 h2 hg;go_enter Tryz.func234,Tryz.ntmps234
  go_wp2_with fail;go_ret
  exact⟨rfl,hB.out _⟩
 |some v =>
  rw [hg] at hl;simp only [if_true] at hl;clear h1 h2 hg;go_enter Tryz.func234,Tryz.ntmps234
  go_wp2_with fail;go_ret
  exact⟨rfl,hB.out _⟩
end
section
open Go.RowKit
def LnG(w:World)(o:Nat→Tag)(t:Tag)(b g:Nat)(s:LnS):Prop :=
 Blk w o t b #[.map (some g),.int .i64 s.first,.int .i64 s.last] 282∧MpAt w o t g .i64 eN s.m∧b≠g
def LnS.near(s:LnS)(k:Int):Int×Int:=(mGet s.m k).getD (0,0)
def LnS.tieA(s:LnS)(a b:Int):LnS:=if a=-1 then ⟨s.m,b,s.last⟩ else ⟨mIns a ((s.near a).1,b) s.m,s.first,s.last⟩
def LnS.tieB(s:LnS)(a b:Int):LnS:=if b=-1 then ⟨s.m,s.first,a⟩ else ⟨mIns b (a,(s.near b).2) s.m,s.first,s.last⟩
def LnS.tie(s:LnS)(a b:Int):LnS:=(s.tieA a b).tieB a b
section
variable{w:World}{o:Nat→Tag}{t:Tag}{b g:Nat}{s:LnS}
theorem LnG.drew(h:LnG w o t b g s):LnG w.drew o t b g s:=⟨h.1.drew,h.2.1.drew,h.2.2⟩
theorem LnG.setA(h:LnG w o t b g s)(x:Int):LnG (w.setCell ⟨b,1,none⟩ (.int .i64 x)) o t b g ⟨s.m,x,s.last⟩∧Fr (· = t) w o (w.setCell ⟨b,1,none⟩ (.int .i64 x)) o:=by
 have f:Fr (· = t) w o (w.setCell ⟨b,1,none⟩ (.int .i64 x)) o:=Fr.setCell (fun _=>h.1.1) _;refine⟨⟨h.1.set 1 _,?_,h.2.2⟩,f⟩;exact only_mp h.2.1 (bs:=(· = b)) ((Only.refl (fun k=>k=b) w).setCell (p:=⟨b,1,none⟩) (fun _=>rfl) _) (fun e=>h.2.2 e.symm)
theorem LnG.setB(h:LnG w o t b g s)(x:Int):LnG (w.setCell ⟨b,2,none⟩ (.int .i64 x)) o t b g ⟨s.m,s.first,x⟩∧Fr (· = t) w o (w.setCell ⟨b,2,none⟩ (.int .i64 x)) o:=by
 have f:Fr (· = t) w o (w.setCell ⟨b,2,none⟩ (.int .i64 x)) o:=Fr.setCell (fun _=>h.1.1) _;refine⟨⟨h.1.set 2 _,?_,h.2.2⟩,f⟩;exact only_mp h.2.1 (bs:=(· = b)) ((Only.refl (fun k=>k=b) w).setCell (p:=⟨b,2,none⟩) (fun _=>rfl) _) (fun e=>h.2.2 e.symm)
theorem LnG.store(h:LnG w o t b g s)(k:Int)(v:Int×Int)(hr:s.m.length<1000000000) :
  ∃w',(Instr.mapUpdate 280 (.map (some g)) (.int .i64 k) (.agg #[.int .i64 v.1,.int .i64 v.2])).run Tryz.prog w=.ok () w'∧LnG w' o t b g ⟨mIns k v s.m,s.first,s.last⟩∧Fr (· = t) w o w' o:=by
 obtain⟨w1,e1,m1,f1,q1⟩:=mp_store (P:=Tryz.prog) h.2.1 Tryz.underlying280 Tryz.underlying3 k v hr;exact⟨w1,e1,⟨only_blk h.1 q1 h.2.2,m1,h.2.2⟩,f1⟩
theorem LnG.look(h:LnG w o t b g s)(k:Int):(Instr.lookup 280 (.map (some g)) (.int .i64 k) false).run Tryz.prog w=.ok (.agg #[.int .i64 (s.near k).1,.int .i64 (s.near k).2]) w:=by
 have:=mp_lookup h.2.1 (P:=Tryz.prog) Tryz.underlying280 Tryz.underlying3 zeroN k false;rw [this];unfold LnS.near;cases mGet s.m k<;>rfl
theorem LnG.c0(h:LnG w o t b g s):w.cell? ⟨b,0,none⟩=some (.map (some g)):=h.1.cell' (i:=0) rfl
theorem LnG.c1(h:LnG w o t b g s):w.cell? ⟨b,1,none⟩=some (.int .i64 s.first):=h.1.cell' (i:=1) rfl
theorem LnG.c2(h:LnG w o t b g s):w.cell? ⟨b,2,none⟩=some (.int .i64 s.last):=h.1.cell' (i:=2) rfl
theorem LnG.f1(h:LnG w o t b g s):w.frozen? ⟨b,1,none⟩=false:=h.1.free 1
theorem LnG.f2(h:LnG w o t b g s):w.frozen? ⟨b,2,none⟩=false:=h.1.free 2
end
theorem fieldN0(x y:Int)(w:World):(Instr.field 289 (.agg #[.int .i64 x,.int .i64 y]) 0).run Tryz.prog w=.ok (.int .i64 x) w:=by kernel_rfl
theorem fieldN1(x y:Int)(w:World):(Instr.field 289 (.agg #[.int .i64 x,.int .i64 y]) 1).run Tryz.prog w=.ok (.int .i64 y) w:=by kernel_rfl
set_option maxHeartbeats 1000000 in
theorem lnTie(bl:Nat)(a b:Int)(w:World){o:Nat→Tag}{t:Tag}{g:Nat}{s:LnS}(h:LnG w o t bl g s)(hr:s.m.length<1000000) :
  Calls Tryz.prog 235 #[.pointer (some ⟨bl,0,none⟩),.int .i64 a,.int .i64 b] w fun e w'=>e=.returned (.tuple #[])∧LnG w' o t bl g (s.tie a b)∧Fr (· = t) w o w' o:=by
 unfold LnS.tie;by_cases ha:a=-1
 ·subst ha
  have eA:s.tieA (-1) b=⟨s.m,b,s.last⟩:=if_pos rfl;rw [eA];obtain⟨k1,r1⟩:=h.setA b;have f1:=h.f1;have c1:=h.c1;have c0:=h.c0;have hr1:s.m.length<1000000000:=by omega
  by_cases hb:b=-1
  ·subst hb
   have eB:LnS.tieB ⟨s.m,-1,s.last⟩ (-1) (-1)=_:=if_pos rfl;rw [eB];obtain⟨k2,r2⟩:=k1.setB (-1);have f2:=k1.f2;have d2:=k1.c2;replace k2:=HD k2;have rr:=HD (r1.trans r2);clear k1 r1 r2 h eA eB;go_enter Tryz.func235,Tryz.ntmps235
   go_wp2_with fail;exact bodyPost_end (results_none (by kernel_rfl) _ _ _) rfl ⟨rfl,k2.out,rr.out⟩
  ·have eB:LnS.tieB ⟨s.m,b,s.last⟩ (-1) b=_:=if_neg hb
   rw [eB];obtain⟨w2,e2,k2,r2⟩:=k1.drew.store b ((-1),(LnS.near ⟨s.m,b,s.last⟩ b).2) hr1;have d0:=k1.c0;have l2:=k1.drew.look b;replace k2:=HD k2;have rr:=HD (r1.trans (Fr.drew.trans r2));clear k1 r1 r2 h eA eB;generalize LnS.near _ b=nb at *;have g1:=fieldN1 nb.1 nb.2;go_enter Tryz.func235,Tryz.ntmps235
   go_wp2_with fail;generalize w.setCell ⟨bl,1,none⟩ (.int .i64 b)=w1 at *;go_still_tail 14,(by kernel_rfl)
   change wpList _ _ _ _ _ w1.drew;go_wp2_with fail;exact bodyPost_end (results_none (by kernel_rfl) _ _ _) rfl ⟨rfl,k2.out,rr.out⟩
 ·have eA:s.tieA a b=⟨mIns a ((s.near a).1,b) s.m,s.first,s.last⟩:=if_neg ha
  rw [eA];obtain⟨w1,e1,k1,r1⟩:=h.drew.store a ((s.near a).1,b) (by omega);have c0:=h.c0;have l1:=h.drew.look a;have hr1:(mIns a ((s.near a).1,b) s.m).length<1000000000:=by have:=mIns_len h.2.1.2.1 a ((s.near a).1,b);omega
  have ea:¬a=-1:=ha;by_cases hb:b=-1
  ·subst hb
   have eB:LnS.tieB ⟨mIns a ((s.near a).1,-1) s.m,s.first,s.last⟩ a (-1)=_:=if_pos rfl;rw [eB];obtain⟨k2,r2⟩:=k1.setB a;have f2:=k1.f2;have d2:=k1.c2;replace k2:=HD k2;have rr:=HD ((Fr.drew.trans r1).trans r2);clear k1 r1 r2 h eA eB;generalize s.near a=na at *;have g0:=fieldN0 na.1 na.2;go_enter Tryz.func235,Tryz.ntmps235
   go_wp2_with fail;go_still_tail 14,(by kernel_rfl)
   change wpList _ _ _ _ _ w.drew;go_wp2_with fail;exact bodyPost_end (results_none (by kernel_rfl) _ _ _) rfl ⟨rfl,k2.out,rr.out⟩
  ·have eB:LnS.tieB ⟨mIns a ((s.near a).1,b) s.m,s.first,s.last⟩ a b=_:=if_neg hb
   rw [eB];obtain⟨w2,e2,k2,r2⟩:=k1.drew.store b (a,(LnS.near ⟨mIns a ((s.near a).1,b) s.m,s.first,s.last⟩ b).2) hr1;have d0:=k1.c0;have l2:=k1.drew.look b;replace k2:=HD k2;have rr:=HD ((Fr.drew.trans r1).trans (Fr.drew.trans r2));clear k1 r1 r2 h eA eB;generalize s.near a=na at *;have g0:=fieldN0 na.1 na.2;generalize LnS.near _ b=nb at *;have g1:=fieldN1 nb.1 nb.2;go_enter Tryz.func235,Tryz.ntmps235
   go_wp2_with fail;go_still_tail 14,(by kernel_rfl)
   change wpList _ _ _ _ _ w.drew;go_wp2_with fail;go_still_tail 14,(by kernel_rfl)
   change wpList _ _ _ _ _ w1.drew;go_wp2_with fail;exact bodyPost_end (results_none (by kernel_rfl) _ _ _) rfl ⟨rfl,k2.out,rr.out⟩
end
section
open Go.RowKit
theorem LnG.fr{S:Tag→Prop}{w w':World}{o o':Nat→Tag}{t:Tag}{b g:Nat}{s:LnS}(h:LnG w o t b g s)(f:Fr S w o w' o')(hS:¬S t):LnG w' o' t b g s :=
 ⟨h.1.fr f hS,h.2.1.fr f hS,h.2.2⟩
theorem tieA_len{s:LnS}(hr:Rise s.m)(a b:Int):(s.tieA a b).m.length≤s.m.length+1∧Rise (s.tieA a b).m:=by
 unfold LnS.tieA
 split
 ·exact⟨Nat.le_succ _,hr⟩
 ·exact⟨mIns_len hr _ _,mIns_rise hr _ _⟩
theorem tieB_len{s:LnS}(hr:Rise s.m)(a b:Int):(s.tieB a b).m.length≤s.m.length+1∧Rise (s.tieB a b).m:=by
 unfold LnS.tieB
 split
 ·exact⟨Nat.le_succ _,hr⟩
 ·exact⟨mIns_len hr _ _,mIns_rise hr _ _⟩
theorem tie_len{s:LnS}(hr:Rise s.m)(a b:Int):(s.tie a b).m.length≤s.m.length+2:=by
 have h1:=tieA_len hr a b;have h2:=tieB_len h1.2 a b;unfold LnS.tie;omega
def LnS.pushE(s:LnS)(k:Int):Int:=if k<0 then 12 else if s.has k=true then 7 else 0
def LnS.put(s:LnS)(k:Int):LnS:=((⟨mIns k (-1,-1) s.m,s.first,s.last⟩:LnS).tie s.last k).tie k (-1)
def LnS.push(s:LnS)(k:Int):LnS:=if s.pushE k=0 then s.put k else s
theorem lnPush(bl:Nat)(k:Int)(w:World){o:Nat→Tag}{t:Tag}{g:Nat}{s:LnS}(h:LnG w o t bl g s)(hr:s.m.length<900000) :
  Calls Tryz.prog 203 #[.pointer (some ⟨bl,0,none⟩),.int .i64 k] w fun e w'=>e=.returned (.int .i64 (s.pushE k))∧LnG w' (newO o w t) t bl g (s.push k)∧Fr (· = t) w o w' (newO o w t):=by
 have hH:=HD (lnHas bl k w ⟨g,h⟩);have hstay:=HD (fun (w1:World) (hB:Below w.heap.size w w1)=>(show LnG w1 (newO o w t) t bl g s∧Fr (· = t) w o w1 (newO o w t) from⟨h.fr (S:=fun _=>False) (Fr.below' hB t) (fun q=>q),Fr.below' hB t⟩));unfold LnS.push;by_cases h0:k<0
 ·have e:s.pushE k=12:=if_pos h0
  rw [e,if_neg (by decide)];clear hH e h;go_enter Tryz.func203,Tryz.ntmps203
  go_wp2_with fail;go_ret
  exact⟨rfl,hstay.out _ (Below.refl _ _)⟩
 ·by_cases h1:s.has k=true
  ·have e:s.pushE k=7:=by unfold LnS.pushE;rw [if_neg h0,if_pos h1]
   rw [e,if_neg (by decide)];rw [h1] at hH;clear e h;go_enter Tryz.func203,Tryz.ntmps203
   go_wp2_with fail;refine hH.out.mono ?_;rintro e w1 ⟨rfl,hB⟩;replace hB:=HD (hstay.out w1 hB);go_wp2_with fail;go_ret
   exact⟨rfl,hB.out⟩
  ·have e:s.pushE k=0:=by unfold LnS.pushE;rw [if_neg h0,if_neg h1]
   have hf:s.has k=false:=by simpa using h1
   rw [e,if_pos rfl];rw [hf] at hH;have hri:=h.2.1.2.1;have hlen:=mIns_len hri k ((-1:Int),(-1:Int));have hl2:=tie_len (s:=⟨mIns k (-1,-1) s.m,s.first,s.last⟩) (mIns_rise hri k (-1,-1)) s.last k;clear e h h1 hf;go_enter Tryz.func203,Tryz.ntmps203
   go_wp2_with fail;refine hH.out.mono ?_;rintro e w1 ⟨rfl,hB⟩;obtain⟨k1,r1⟩:=hstay.out w1 hB;obtain⟨w2,e2,k2,r2⟩:=k1.store k (-1,-1) (by omega);have c0:=k1.c0;have c2:=k1.c2;have hT:=HD (lnTie bl s.last k w2 k2 (show (mIns k (-1,-1) s.m).length<1000000 by omega));replace r2:=HD (r1.trans r2);clear k1 k2 r1 hB;go_wp2_with fail;refine hT.out.mono ?_;rintro e w3 ⟨rfl,k3,r3⟩;have hT2:=HD (lnTie bl k (-1) w3 k3 (by omega));replace r3:=HD (r2.out.trans r3);clear k3;go_wp2_with fail;refine hT2.out.mono ?_;rintro e w4 ⟨rfl,k4,r4⟩;replace k4:=HD k4;replace r4:=HD (r3.out.trans r4);go_wp2_with fail;go_ret
   exact⟨rfl,k4.out,r4.out⟩
end
section
open Go.RowKit
theorem LnG.delete{w:World}{o:Nat→Tag}{t:Tag}{b g:Nat}{s:LnS}(h:LnG w o t b g s)(k:Int) :
  ∃w',(Builtin.delete_ #[280,3] 0 #[.map (some g),.int .i64 k]).run Tryz.prog w=.ok (.tuple #[]) w'∧LnG w' o t b g ⟨mDel k s.m,s.first,s.last⟩∧Fr (· = t) w o w' o∧Only (· = g) w w':=by
 obtain⟨w1,e1,m1,f1,q1⟩:=mp_delete (P:=Tryz.prog) (ty:=0) h.2.1 Tryz.underlying280 Tryz.underlying3 k;exact⟨w1,e1,⟨only_blk h.1 q1 h.2.2,m1,h.2.2⟩,f1,q1⟩
theorem mDel_le{α:Type}{M:List (Int×α)}(k:Int):(mDel k M).length≤M.length:=by
 induction M with
 |nil=>simp [mDel]
 |cons p M ih=>unfold mDel;split<;>simp<;>omega
def LnS.rmE(s:LnS)(k:Int):Int:=if s.has k=true then 0 else 13
def LnS.cut(s:LnS)(k:Int):LnS:=(⟨mDel k s.m,s.first,s.last⟩:LnS).tie (s.near k).1 (s.near k).2
def LnS.rm(s:LnS)(k:Int):LnS:=if s.has k=true then s.cut k else s
set_option maxHeartbeats 1000000 in
theorem lnRemove(bl:Nat)(k:Int)(w:World){o:Nat→Tag}{t:Tag}{g:Nat}{s:LnS}(h:LnG w o t bl g s)(hr:s.m.length<900000) :
  Calls Tryz.prog 200 #[.pointer (some ⟨bl,0,none⟩),.int .i64 k] w fun e w'=>e=.returned (.int .i64 (s.rmE k))∧LnG w' (newO o w t) t bl g (s.rm k)∧Fr (· = t) w o w' (newO o w t):=by
 have hH:=HD (lnHas bl k w ⟨g,h⟩);have hstay:=HD (fun (w1:World) (hB:Below w.heap.size w w1)=>(show LnG w1 (newO o w t) t bl g s∧Fr (· = t) w o w1 (newO o w t) from⟨h.fr (S:=fun _=>False) (Fr.below' hB t) (fun q=>q),Fr.below' hB t⟩));unfold LnS.rm LnS.rmE;by_cases h1:s.has k=true
 ·rw [if_pos h1,if_pos h1]
  rw [h1] at hH;have hri:=h.2.1.2.1;have hdl:=mDel_le (M:=s.m) k;clear h h1;unfold LnS.cut;generalize hna:s.near k=na;replace hna:=HD hna;go_enter Tryz.func200,Tryz.ntmps200
  go_wp2_with fail;refine hH.out.mono ?_;rintro e w1 ⟨rfl,hB⟩;obtain⟨k1,r1⟩:=hstay.out w1 hB;have c0:=k1.c0;have l1:=k1.look k;rw [hna.out] at l1;have k2:LnG (w1.alloc (.cells #[.int .i64 na.1,.int .i64 na.2] 289)) (newO o w t) t bl g s:=k1.fr (S:=fun _=>False) (Fr.alloc' _) (fun q=>q);have r2:Fr (· = t) w o (w1.alloc (.cells #[.int .i64 na.1,.int .i64 na.2] 289)) (newO o w t):=r1.trans (Fr.alloc' _);have c0':=k2.c0;obtain⟨w2,e2,k3,r3,q3⟩:=k2.delete k;have hgs:g≠w1.heap.size:=by have:=k1.2.1.lt;omega
  have n0:w2.cell? ⟨w1.heap.size,0,none⟩=some (.int .i64 na.1):=q3.cell (by simp) (fun e=>hgs e.symm);have n1:w2.cell? ⟨w1.heap.size,1,none⟩=some (.int .i64 na.2):=q3.cell (by simp) (fun e=>hgs e.symm);have hT:=HD (lnTie bl na.1 na.2 w2 k3 (show (mDel k s.m).length<1000000 by omega));replace r3:=HD (r2.trans r3);clear k1 k2 k3 r1 r2 q3 hB hgs;go_wp2_with fail;refine hT.out.mono ?_;rintro e w4 ⟨rfl,k4,r4⟩;replace k4:=HD k4;replace r4:=HD (r3.out.trans r4);go_wp2_with fail;go_ret
  exact⟨rfl,k4.out,r4.out⟩
 ·rw [if_neg h1,if_neg h1]
  have hf:s.has k=false:=by simpa using h1
  rw [hf] at hH;clear h h1 hf;go_enter Tryz.func200,Tryz.ntmps200
  go_wp2_with fail;refine hH.out.mono ?_;rintro e w1 ⟨rfl,hB⟩;replace hB:=HD (hstay.out w1 hB);go_wp2_with fail;go_ret
  exact⟨rfl,hB.out⟩
end
section
open Go.RowKit
def hdI:List Int→Int
 |[]=>-1
 |a :: _=>a
def lsI(pr:Int):List Int→Int
 |[]=>pr
 |a :: l=>lsI a l
def nb(pr:Int):List Int→Int→Option (Int×Int)
 |[],_=>none
 |a :: l,k=>if k=a then some (pr,hdI l) else nb a l k
theorem nb_none{k:Int}:∀{l:List Int} (pr:Int),k∉l→nb pr l k=none
 |[],_,_=>rfl
 |a :: l,pr,h=>by
  simp at h
  rw [nb,if_neg h.1,nb_none a h.2]
theorem nb_mem{k:Int}:∀{l:List Int} (pr:Int),(nb pr l k).isSome=true↔k∈l
 |[],_=>by simp [nb]
 |a :: l,pr=>by
  rw [nb];by_cases e:k=a
  ·rw [if_pos e];simp [e]
  ·rw [if_neg e,nb_mem a];simp [e]
theorem lsI_mem:∀{l:List Int} (pr:Int),l≠[]→lsI pr l∈l
 |[],_,h=>absurd rfl h
 |[a],_,_=>by simp [lsI]
 |a :: b :: l,_,_=>by
  have:=lsI_mem (l:=b :: l) a (by simp);exact List.mem_cons_of_mem _ this
theorem hdI_snoc(l:List Int)(k:Int):hdI (l++[k])=if l=[] then k else hdI l:=by
 cases l<;>simp [hdI]
theorem lsI_snoc:∀(l:List Int) (pr k:Int),lsI pr (l++[k])=k
 |[],_,_=>rfl
 |a :: l,_,k=>lsI_snoc l a k
theorem nb_snoc{k:Int}(j:Int):∀{l:List Int} (pr:Int),l.Nodup→k∉l→nb pr (l++[k]) j=if j=k then some (lsI pr l,-1) else if l≠[]∧j=lsI pr l then (nb pr l j).map (fun x=>(x.1,k)) else nb pr l j
 |[],pr,_,_=>by
  show (if j=k then some (pr,hdI []) else none)=_;by_cases e:j=k
  ·rw [if_pos e,if_pos e];rfl
  ·rw [if_neg e,if_neg e,if_neg (by simp)];rfl
 |a :: l,pr,hn,hk=>by
  rw [List.nodup_cons] at hn;simp at hk
  show (if j=a then some (pr,hdI (l++[k])) else nb a (l++[k]) j)=_;by_cases e:j=a
  ·subst e
   rw [if_pos rfl,if_neg (fun q=>hk.1 q.symm),hdI_snoc];cases l with
   |nil=>rw [if_pos rfl,if_pos ⟨by simp,rfl⟩];simp [nb]
   |cons b l =>
    have:=lsI_mem (l:=b :: l) j (by simp);rw [if_neg (by simp),if_neg]
    ·simp [nb]
    ·rintro ⟨_,q⟩;exact hn.1 (by rw [q];exact this)
  ·rw [if_neg e,nb_snoc j a hn.2 hk.2]
   have e2:nb pr (a :: l) j=nb a l j:=by rw [nb,if_neg e]
   have e3:lsI pr (a :: l)=lsI a l:=rfl;rw [e2,e3];by_cases e4:j=k
   ·rw [if_pos e4,if_pos e4]
   ·rw [if_neg e4,if_neg e4]
    by_cases e5:l=[]
    ·subst e5
     rw [if_neg (by simp),if_neg];rintro ⟨_,q⟩;exact e q
    ·by_cases e6:j=lsI a l
     ·rw [if_pos ⟨e5,e6⟩,if_pos ⟨by simp,e6⟩]
     ·rw [if_neg (fun q=>e6 q.2),if_neg (fun q=>e6 q.2)]
theorem hd_nb{l:List Int}(hn:l.Nodup){x j:Int}(pr:Int):nb pr l j=if j∈l∧j=hdI l then (nb x l j).map (fun y=>(pr,y.2)) else nb x l j:=by
 cases l with
 |nil=>rw [if_neg (by simp)];rfl
 |cons b l =>
  rw [nb,nb];by_cases e:j=b
  ·subst e
   rw [if_pos rfl,if_pos rfl,if_pos ⟨by simp,rfl⟩];rfl
  ·rw [if_neg e,if_neg e,if_neg (fun q=>e q.2)]
theorem nb_erase{k a b:Int}(j:Int)(hj:j≠k):∀{l:List Int} (pr:Int),l.Nodup→pr∉l→(-1)∉l→nb pr l k=some (a,b) →
  nb pr (l.erase k) j=if j∈l∧j=a then (nb pr l j).map (fun x=>(x.1,b)) else if j∈l∧j=b then (nb pr l j).map (fun x=>(a,x.2)) else nb pr l j
 |[],_,_,_,_,h=>by cases h
 |x :: l,pr,hn,hp,hm,h=>by
  rw [List.nodup_cons] at hn;simp only [List.mem_cons,not_or] at hp hm;by_cases e:k=x
  ·subst e
   rw [nb,if_pos rfl] at h;injection h with h
   injection h with h1 h2
   subst h1 h2;rw [List.erase_cons_head,nb,if_neg hj,hd_nb hn.2 (x:=k) pr];have c1:¬(j∈k :: l∧j=pr):=by
    rintro ⟨q,rfl⟩;rcases List.mem_cons.1 q with q|q
    ·exact hj q
    ·exact hp.2 q
   rw [if_neg c1];by_cases c2:j∈l∧j=hdI l
   ·rw [if_pos c2,if_pos ⟨List.mem_cons_of_mem _ c2.1,c2.2⟩]
   ·rw [if_neg c2,if_neg]
    rintro ⟨q1,q2⟩;exact c2 ⟨(List.mem_cons.1 q1).resolve_left hj,q2⟩
  ·rw [nb,if_neg e] at h
   rw [List.erase_cons_tail (by simpa using fun q=>e q.symm)];by_cases ej:j=x
   ·subst ej
    rw [nb,if_pos rfl,nb,if_pos rfl];have hmem:k∈l:=(nb_mem j).1 (by rw [h];rfl);cases l with
    |nil=>cases hmem
    |cons y l =>
     by_cases ek:k=y
     ·subst ek
      rw [nb,if_pos rfl] at h;injection h with h
      injection h with h1 h2
      subst h1 h2;rw [List.erase_cons_head,if_pos ⟨by simp,rfl⟩];rfl
     ·have ha:j≠a:=by
       rintro rfl;rw [nb,if_neg ek] at h;have:∀{l:List Int} {pr p:Int} {q:Int},nb pr l k=some (p,q)→p=pr∨p∈l:=by
        intro l;induction l with
        |nil=>intro pr p q h;cases h
        |cons z l ih =>
         intro pr p q h;rw [nb] at h
         split at h
         ·injection h with h;injection h with h1 h2;exact .inl h1.symm
         ·rcases ih h with q|q
          ·exact .inr (by rw [q];simp)
          ·exact .inr (List.mem_cons_of_mem _ q)
       rcases this h with q|q
       ·exact hn.1 (by rw [q];simp)
       ·exact hn.1 (List.mem_cons_of_mem _ q)
      have hb:j≠b:=by
       rintro rfl;rw [nb,if_neg ek] at h;have:∀{l:List Int} {pr p:Int} {q:Int},nb pr l k=some (p,q)→q=-1∨q∈l:=by
        intro l;induction l with
        |nil=>intro pr p q h;cases h
        |cons z l ih =>
         intro pr p q h;rw [nb] at h
         split at h
         ·injection h with h;injection h with h1 h2
          cases l with
          |nil=>exact .inl h2.symm
          |cons u l=>exact .inr (by rw [←h2];simp [hdI])
         ·rcases ih h with q|q
          ·exact .inl q
          ·exact .inr (List.mem_cons_of_mem _ q)
       rcases this h with q|q
       ·exact hm.1 q.symm
       ·exact hn.1 (List.mem_cons_of_mem _ q)
      rw [if_neg (fun q=>ha q.2),if_neg (fun q=>hb q.2),List.erase_cons_tail (by simpa using fun q=>ek q.symm)];rfl
   ·rw [nb,if_neg ej,nb_erase j hj x hn.2 hn.1 hm.2 h]
    have e2:nb pr (x :: l) j=nb x l j:=by rw [nb,if_neg ej]
    have e3:j∈x :: l↔j∈l:=by simp [ej]
    rw [e2];simp only [e3]
theorem nb_fst{k a b:Int}:∀{l:List Int} {pr:Int},nb pr l k=some (a,b)→a=pr∨a∈l
 |[],_,h=>by cases h
 |z :: l,pr,h=>by
  rw [nb] at h
  split at h
  ·injection h with h;injection h with h1 h2;exact .inl h1.symm
  ·rcases nb_fst h with q|q
   ·exact .inr (by rw [q];simp)
   ·exact .inr (List.mem_cons_of_mem _ q)
theorem nb_snd{k a b:Int}:∀{l:List Int} {pr:Int},nb pr l k=some (a,b)→b=-1∨b∈l
 |[],_,h=>by cases h
 |z :: l,pr,h=>by
  rw [nb] at h
  split at h
  ·injection h with h;injection h with h1 h2
   cases l with
   |nil=>exact .inl h2.symm
   |cons u l=>exact .inr (by rw [←h2];simp [hdI])
  ·rcases nb_snd h with q|q
   ·exact .inl q
   ·exact .inr (List.mem_cons_of_mem _ q)
theorem ls_erase{k a b:Int}:∀{l:List Int} (pr:Int),(-1)∉l→nb pr l k=some (a,b)→lsI pr (l.erase k)=if b=-1 then a else lsI pr l
 |[],_,_,h=>by cases h
 |x :: l,pr,hm,h=>by
  simp only [List.mem_cons,not_or] at hm;by_cases e:k=x
  ·subst e
   rw [nb,if_pos rfl] at h;injection h with h
   injection h with h1 h2
   subst h1 h2;rw [List.erase_cons_head];cases l with
   |nil=>rfl
   |cons y l =>
    rw [if_neg]
    ·rfl
    ·intro q;exact hm.2 (by rw [←q];simp [hdI])
  ·rw [nb,if_neg e] at h
   rw [List.erase_cons_tail (by simpa using fun q=>e q.symm)];exact ls_erase x hm.2 h
theorem hd_erase{k a b:Int}{l:List Int}(hm:(-1)∉l)(h:nb (-1) l k=some (a,b)):hdI (l.erase k)=if a=-1 then b else hdI l:=by
 cases l with
 |nil=>cases h
 |cons x l =>
  simp only [List.mem_cons,not_or] at hm;by_cases e:k=x
  ·subst e
   rw [nb,if_pos rfl] at h;injection h with h
   injection h with h1 h2
   subst h1 h2;rw [List.erase_cons_head,if_pos rfl]
  ·rw [nb,if_neg e] at h
   rw [List.erase_cons_tail (by simpa using fun q=>e q.symm),if_neg]
   ·rfl
   ·intro q
    rcases nb_fst h with q2|q2
    ·exact hm.1 (by rw [←q,q2])
    ·exact hm.2 (by rw [←q];exact q2)
structure LnIs(s:LnS)(l:List Int):Prop where
 nodup:l.Nodup
 pos:∀k∈l,0≤k
 rise:Rise s.m
 first:s.first=hdI l
 last:s.last=lsI (-1) l
 get:∀k,mGet s.m k=nb (-1) l k
 len:s.m.length=l.length
theorem LnIs.neg{s:LnS}{l:List Int}(h:LnIs s l):(-1)∉l:=fun q=>by have:=h.pos _ q;omega
theorem LnIs.new:LnIs LnS.new []:=⟨List.nodup_nil,fun k h=>(nomatch h),List.Pairwise.nil,rfl,rfl,fun _=>rfl,rfl⟩
theorem LnIs.has{s:LnS}{l:List Int}(h:LnIs s l)(k:Int):s.has k=decide (k∈l):=by
 unfold LnS.has;rw [h.get k];by_cases e:k∈l
 ·rw [decide_eq_true e,(nb_mem (-1)).2 e]
 ·rw [decide_eq_false e,nb_none _ e];rfl
theorem len_ins_some{α:Type}{M:List (Int×α)}(hr:Rise M){k:Int}{u:α}(h:mGet M k=some u)(p:α):(mIns k p M).length=M.length:=by
 obtain⟨A,B,h1,h2,_⟩:=mAt hr (mGet_mem h);rw [h2,h1];simp
section
variable{s:LnS}(hr:Rise s.m)(a b:Int)
include hr
theorem tieA_get(j:Int):mGet (s.tieA a b).m j=if a≠-1∧j=a then some ((s.near a).1,b) else mGet s.m j:=by
 unfold LnS.tieA;by_cases e:a=-1
 ·rw [if_pos e,if_neg (fun q=>q.1 e)]
 ·rw [if_neg e]
  by_cases e2:j=a
  ·subst e2;rw [if_pos ⟨e,rfl⟩];exact mGet_ins_same hr _ _
  ·rw [if_neg (fun q=>e2 q.2)];exact mGet_ins_other e2 _
theorem tieB_get(j:Int):mGet (s.tieB a b).m j=if b≠-1∧j=b then some (a,(s.near b).2) else mGet s.m j:=by
 unfold LnS.tieB;by_cases e:b=-1
 ·rw [if_pos e,if_neg (fun q=>q.1 e)]
 ·rw [if_neg e]
  by_cases e2:j=b
  ·subst e2;rw [if_pos ⟨e,rfl⟩];exact mGet_ins_same hr _ _
  ·rw [if_neg (fun q=>e2 q.2)];exact mGet_ins_other e2 _
theorem tieA_leq(h:a≠-1→(mGet s.m a).isSome=true):(s.tieA a b).m.length=s.m.length:=by
 unfold LnS.tieA;by_cases e:a=-1
 ·rw [if_pos e]
 ·rw [if_neg e]
  obtain⟨u,hu⟩:=Option.isSome_iff_exists.1 (h e);exact len_ins_some hr hu _
theorem tieB_leq(h:b≠-1→(mGet s.m b).isSome=true):(s.tieB a b).m.length=s.m.length:=by
 unfold LnS.tieB;by_cases e:b=-1
 ·rw [if_pos e]
 ·rw [if_neg e]
  obtain⟨u,hu⟩:=Option.isSome_iff_exists.1 (h e);exact len_ins_some hr hu _
theorem tie_get(hab:a=b→a=-1)(j:Int):mGet (s.tie a b).m j=if b≠-1∧j=b then some (a,(s.near b).2) else if a≠-1∧j=a then some ((s.near a).1,b) else mGet s.m j:=by
 unfold LnS.tie;rw [tieB_get (tieA_len hr a b).2,tieA_get hr];by_cases e:b≠-1∧j=b
 ·rw [if_pos e,if_pos e]
  congr 2
  unfold LnS.near;rw [tieA_get hr,if_neg (fun q=>q.1 (hab q.2.symm))]
 ·rw [if_neg e,if_neg e]
theorem tie_rise:Rise (s.tie a b).m:=(tieB_len (tieA_len hr a b).2 a b).2
theorem tie_leq(h:a≠-1→(mGet s.m a).isSome=true)(h2:b≠-1→(mGet s.m b).isSome=true):(s.tie a b).m.length=s.m.length:=by
 unfold LnS.tie;rw [tieB_leq (tieA_len hr a b).2 a b,tieA_leq hr a b h];intro e;rw [tieA_get hr]
 split
 ·rfl
 ·exact h2 e
end
theorem tie_ends(s:LnS)(a b:Int):(s.tie a b).first=(if a=-1 then b else s.first)∧(s.tie a b).last=(if b=-1 then a else s.last):=by
 unfold LnS.tie LnS.tieA LnS.tieB;constructor<;>(split<;>split<;>rfl)
theorem near_eq{s:LnS}{k:Int}{x:Int×Int}(h:mGet s.m k=some x):s.near k=x:=by unfold LnS.near;rw [h];rfl
theorem LnIs.push{s:LnS}{l:List Int}(h:LnIs s l){k:Int}(hk:0≤k)(hn:k∉l):s.pushE k=0∧LnIs (s.push k) (l++[k]):=by
 have e0:s.pushE k=0:=by
  unfold LnS.pushE;rw [if_neg (by omega),h.has,decide_eq_false hn,if_neg (by simp)]
 refine⟨e0,?_⟩;unfold LnS.push;rw [if_pos e0];have hno:mGet s.m k=none:=by rw [h.get,nb_none _ hn]
 have hnd:(l++[k]).Nodup:=List.nodup_append.2 ⟨h.nodup,by simp,fun x hx y hy e=>hn (by rw [←List.mem_singleton.1 hy,←e];exact hx)⟩;have hpos:∀x∈l++[k],0≤x:=fun x hx=>by
  rcases List.mem_append.1 hx with q|q
  ·exact h.pos x q
  ·rw [List.mem_singleton.1 q];exact hk
 have r1:=mIns_rise h.rise k ((-1,-1):Int×Int);have l1:=len_ins hno (p:=((-1,-1):Int×Int));have hlast:l≠[]→s.last∈l:=fun e=>by rw [h.last];exact lsI_mem _ e
 have hlk:s.last=k→s.last=-1:=fun e=>by
  by_cases q:l=[]
  ·rw [h.last,q];rfl
  ·exact absurd (by rw [←e];exact hlast q) hn
 have hlm:s.last≠-1→l≠[]:=fun e q=>e (by rw [h.last,q];rfl)
 unfold LnS.put;have r2:=tie_rise (s:=⟨mIns k (-1,-1) s.m,s.first,s.last⟩) r1 s.last k;have g1:∀j,mGet (mIns k ((-1,-1):Int×Int) s.m) j=if j=k then some (-1,-1) else mGet s.m j:=fun j=>by
  by_cases e:j=k
  ·subst e;rw [if_pos rfl];exact mGet_ins_same h.rise _ _
  ·rw [if_neg e];exact mGet_ins_other e _
 have g2:∀j,mGet ((⟨mIns k (-1,-1) s.m,s.first,s.last⟩:LnS).tie s.last k).m j=if j=k then some (s.last,-1) else if s.last≠-1∧j=s.last then (mGet s.m j).map (fun x=>(x.1,k)) else mGet s.m j:=fun j=>by
  rw [tie_get r1 _ _ hlk];by_cases e:j=k
  ·rw [if_pos ⟨by omega,e⟩,if_pos e]
   rw [near_eq (x:=(-1,-1)) (by rw [g1,if_pos rfl])]
  ·rw [if_neg (fun q=>e q.2),if_neg e]
   by_cases e2:s.last≠-1∧j=s.last
   ·rw [if_pos e2,if_pos e2]
    obtain⟨x,hx⟩:=Option.isSome_iff_exists.1 ((h.get s.last)▸(nb_mem (-1)).2 (hlast (hlm e2.1)));rw [near_eq (x:=x) (by show mGet (mIns k (-1,-1) s.m) s.last=_;rw [g1,if_neg (fun q=>e2.1 (hlk q))];exact hx),e2.2,hx];rfl
   ·rw [if_neg e2,if_neg e2];show mGet (mIns k (-1,-1) s.m) j=_;rw [g1,if_neg e]
 have e1:=tie_ends (⟨mIns k (-1,-1) s.m,s.first,s.last⟩:LnS) s.last k;have e2:=tie_ends ((⟨mIns k (-1,-1) s.m,s.first,s.last⟩:LnS).tie s.last k) k (-1);refine⟨hnd,hpos,tie_rise r2 _ _,?_,?_,fun j=>?_,?_⟩
 ·rw [e2.1,if_neg (by omega),e1.1,hdI_snoc]
  by_cases q:l=[]
  ·rw [if_pos q,if_pos (by rw [h.last,q];rfl)]
  ·rw [if_neg q,if_neg (fun e=>h.neg (by rw [←e];exact hlast q))];exact h.first
 ·rw [e2.2,if_pos rfl,lsI_snoc]
 ·rw [tie_get r2 _ _ (by omega),if_neg (fun q=>q.1 rfl),nb_snoc j (-1) h.nodup hn]
  by_cases e:j=k
  ·rw [if_pos ⟨by omega,e⟩,if_pos e]
   rw [near_eq (x:=(s.last,-1)) (by rw [g2,if_pos rfl]),h.last]
  ·rw [if_neg (fun q=>e q.2),if_neg e,g2,if_neg e]
   by_cases e3:s.last≠-1∧j=s.last
   ·rw [if_pos e3,if_pos ⟨hlm e3.1,by rw [e3.2,h.last]⟩,h.get]
   ·rw [if_neg e3,if_neg,h.get]
    rintro ⟨q1,q2⟩;exact e3 ⟨fun q=>h.neg (by rw [←q];exact hlast q1),by rw [q2,h.last]⟩
 ·rw [tie_leq r2,tie_leq r1,l1,h.len]
  ·simp
  ·intro e;show (mGet (mIns k (-1,-1) s.m) _).isSome=true;rw [g1,if_neg (fun q=>e (hlk q)),h.get,nb_mem];exact hlast (hlm e)
  ·intro e;show (mGet (mIns k (-1,-1) s.m) _).isSome=true;rw [g1,if_pos rfl];rfl
  ·intro e;rw [g2,if_pos rfl];rfl
  ·intro e;exact absurd rfl e
theorem LnIs.rm{s:LnS}{l:List Int}(h:LnIs s l){k:Int}(hk:k∈l):s.rmE k=0∧LnIs (s.rm k) (l.erase k):=by
 have hh:s.has k=true:=by rw [h.has,decide_eq_true hk]
 refine⟨by unfold LnS.rmE;rw [if_pos hh],?_⟩;unfold LnS.rm;rw [if_pos hh];obtain⟨⟨a,b⟩,hx⟩:=Option.isSome_iff_exists.1 ((nb_mem (-1)).2 hk);have hg:mGet s.m k=some (a,b):=(h.get k).trans hx;have hne:s.near k=(a,b):=near_eq hg;unfold LnS.cut;rw [hne];have r1:=mDel_rise h.rise k;have g1:∀j,mGet (mDel k s.m) j=if j=k then none else mGet s.m j:=fun j=>by
  by_cases e:j=k
  ·subst e;rw [if_pos rfl];exact mGet_del_same h.rise _
  ·rw [if_neg e];exact mGet_del_other e
 have ha:=nb_fst hx;have hb:=nb_snd hx;have hak:a≠k∧b≠k∧(a=b→a=-1):=by
  have main:∀{l:List Int} {pr:Int},l.Nodup→pr∉l→nb pr l k=some (a,b)→a≠k∧b≠k∨k=-1:=by
   intro l;induction l with
   |nil=>intro pr _ _ h;cases h
   |cons x l ih =>
    intro pr hn hp h;rw [List.nodup_cons] at hn;simp only [List.mem_cons,not_or] at hp;rw [nb] at h
    split at h
    ·rename_i e
     injection h with h;injection h with h1 h2
     subst e h1 h2;by_cases q:k=-1
     ·exact .inr q
     ·refine .inl ⟨hp.1,?_⟩
      cases l with
      |nil=>exact fun e=>q e.symm
      |cons y l=>intro e;exact hn.1 (by rw [←e];simp [hdI])
    ·exact ih hn.2 hn.1 h
  have hkp:=h.pos k hk;have h1:=(main h.nodup h.neg hx).resolve_right (by omega);refine⟨h1.1,h1.2,fun e=>?_⟩;have main2:∀{l:List Int} {pr:Int},l.Nodup→pr∉l→(-1)∉l→nb pr l k=some (a,b)→a=b→a=-1:=by
   intro l;induction l with
   |nil=>intro pr _ _ _ h;cases h
   |cons x l ih =>
    intro pr hn hp hm h e;rw [List.nodup_cons] at hn;simp only [List.mem_cons,not_or] at hp hm;rw [nb] at h
    split at h
    ·injection h with h;injection h with h1 h2
     cases l with
     |nil=>rw [e];exact h2.symm
     |cons y l=>exact absurd (by rw [h1,e,←h2];simp [hdI]) hp.2
    ·exact ih hn.2 hn.1 hm.2 h e
  exact main2 h.nodup h.neg h.neg hx e
 have hin:∀j,j≠-1→(j=a∨j=b)→j∈l:=fun j hj q=>by
  rcases q with rfl|rfl
  ·exact ha.resolve_left hj
  ·exact hb.resolve_left hj
 have hsome:∀j,j≠-1→(j=a∨j=b)→j≠k→∃x,mGet s.m j=some x∧mGet (mDel k s.m) j=some x:=fun j hj q e=>by
  obtain⟨x,hx⟩:=Option.isSome_iff_exists.1 ((h.get j)▸(nb_mem (-1)).2 (hin j hj q));exact⟨x,hx,by rw [g1,if_neg e];exact hx⟩
 have e1:=tie_ends (⟨mDel k s.m,s.first,s.last⟩:LnS) a b;refine⟨h.nodup.erase _,fun x hx=>h.pos x (List.mem_of_mem_erase hx),tie_rise r1 _ _,?_,?_,fun j=>?_,?_⟩
 ·rw [e1.1,hd_erase h.neg hx,h.first]
 ·rw [e1.2,ls_erase (-1) h.neg hx,h.last]
 ·rw [tie_get r1 _ _ hak.2.2]
  by_cases ejk:j=k
  ·rw [ejk,if_neg (fun q=>hak.2.1 q.2.symm),if_neg (fun q=>hak.1 q.2.symm)]
   show mGet (mDel k s.m) k=_;rw [g1,if_pos rfl,nb_none];intro q;exact((h.nodup.mem_erase_iff).1 q).1 rfl
  ·rw [nb_erase j ejk (-1) h.nodup h.neg h.neg hx]
   by_cases c1:b≠-1∧j=b
   ·rw [if_pos c1,if_neg,if_pos ⟨hin j (by rw [c1.2];exact c1.1) (.inr c1.2),c1.2⟩]
    ·obtain⟨x,x1,x2⟩:=hsome b c1.1 (.inr rfl) hak.2.1
     rw [near_eq (x:=x) x2,←h.get,c1.2,x1];rfl
    ·rintro ⟨_,q⟩
     have:=hak.2.2 (by rw [←q,c1.2]);exact c1.1 (by rw [←c1.2,q,this])
   ·rw [if_neg c1]
    by_cases c2:a≠-1∧j=a
    ·rw [if_pos c2,if_pos ⟨hin j (by rw [c2.2];exact c2.1) (.inl c2.2),c2.2⟩]
     obtain⟨x,x1,x2⟩:=hsome a c2.1 (.inl rfl) hak.1;rw [near_eq (x:=x) x2,←h.get,c2.2,x1];rfl
    ·rw [if_neg c2,if_neg,if_neg]
     ·show mGet (mDel k s.m) j=_
      rw [g1,if_neg ejk,h.get]
     ·rintro ⟨q1,q2⟩;exact c1 ⟨fun q=>h.neg (by rw [←q,←q2];exact q1),q2⟩
     ·rintro ⟨q1,q2⟩;exact c2 ⟨fun q=>h.neg (by rw [←q,←q2];exact q1),q2⟩
 ·rw [tie_leq r1]
  ·have:=len_del h.rise hg
   show (mDel k s.m).length=_;rw [List.length_erase_of_mem hk,←h.len];omega
  ·intro e;obtain⟨x,_,x2⟩:=hsome a e (.inl rfl) hak.1;show (mGet (mDel k s.m) a).isSome=true;rw [x2];rfl
  ·intro e;obtain⟨x,_,x2⟩:=hsome b e (.inr rfl) hak.2.1;show (mGet (mDel k s.m) b).isSome=true;rw [x2];rfl
end
end Go.Proofs.YtfliaggjkianpaaGreatDoor
