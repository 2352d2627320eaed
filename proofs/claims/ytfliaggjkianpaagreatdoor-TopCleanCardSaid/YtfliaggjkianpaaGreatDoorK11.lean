import Derived.Test.YtfliaggjkianpaaGreatDoorK09
import Derived.Test.YtfliaggjkianpaaGreatDoorK08
import Derived.Deep.QuietTactic
import Derived.BigQuiet
set_option linter.unusedVariables false
set_option linter.unusedSimpArgs false
set_option maxRecDepth 100000
namespace Go.Proofs.YtfliaggjkianpaaGreatDoor
section
open Go.RowKit Flt
def quoCells(q:QS):Array Value:=#[.complex .f64 (F q.lB) (F q.lP),.complex .f64 (F q.cB) (F q.cP),.complex .f64 (F q.rB) (F q.rP)]
def Qat(w:World)(b:Nat)(q:QS):Prop:=w.heap[b]? = some (.cells (quoCells q) 182 (0,0))
theorem Qat.cells{w:World}{b:Nat}{q:QS}(h:Qat w b q) :
  (w.cell? ⟨b,0,none⟩=some (.complex .f64 (F q.lB) (F q.lP))∧w.cell? ⟨b,1,none⟩=some (.complex .f64 (F q.cB) (F q.cP))∧w.cell? ⟨b,2,none⟩=some (.complex .f64 (F q.rB) (F q.rP))) ∧
  (w.frozen? ⟨b,0,none⟩=false∧w.frozen? ⟨b,1,none⟩=false∧w.frozen? ⟨b,2,none⟩=false)∧b<w.heap.size:=by
 unfold Qat quoCells at h;refine⟨⟨?_,?_,?_⟩,⟨?_,?_,?_⟩,lt_of_block h⟩<;>simp [World.cell?,World.frozen?,h]
theorem Qat.only{w w':World}{b:Nat}{q:QS}{bs:Nat→Prop}(h:Qat w b q)(ho:Only bs w w')(hn:¬bs b):Qat w' b q :=
 (ho.block b (lt_of_block h) hn).trans h
theorem Qat.below{w w':World}{b:Nat}{q:QS}(h:Qat w b q)(hb:Below w.heap.size w w'):Qat w' b q:=(hb.block b (lt_of_block h)).trans h
theorem heap_set{w:World}{b i:Nat}{c:Array Value}{t:TypeId}{u:Value}(h:w.heap[b]? = some (.cells c t (0,0))):(w.setCell ⟨b,i,none⟩ u).heap[b]? = some (.cells (c.setIfInBounds i u) t (0,0)):=by
 simp [World.setCell,Array.getElem?_modify,h]
theorem Qat.set0{w:World}{b:Nat}{q:QS}(h:Qat w b q)(x y:Int):Qat (w.setCell ⟨b,0,none⟩ (.complex .f64 (F x) (F y))) b {q with lB:=x,lP:=y}:=heap_set h
theorem Qat.set1{w:World}{b:Nat}{q:QS}(h:Qat w b q)(x y:Int):Qat (w.setCell ⟨b,1,none⟩ (.complex .f64 (F x) (F y))) b {q with cB:=x,cP:=y}:=heap_set h
theorem Qat.set2{w:World}{b:Nat}{q:QS}(h:Qat w b q)(x y:Int):Qat (w.setCell ⟨b,2,none⟩ (.complex .f64 (F x) (F y))) b {q with rB:=x,rP:=y}:=heap_set h
theorem rightS{b p:Int}(hb:b.natAbs<2^53)(hp:p.natAbs<2^53)(w:World) :
  Calls Tryz.prog 114 #[.complex .f64 (F b) (F p)] w fun e w'=>e=.returned (.bool (okS b p))∧w'=w:=by
 have:=right_any (F b) (F p) w
 rwa [right_F hb hp] at this
theorem ready_any(qb:Nat)(b p:Int)(w:World)(hb:b.natAbs<2^53)(hp:p.natAbs<2^53) :
  Calls Tryz.prog 135 #[.pointer (some ⟨qb,0,none⟩),.complex .f64 (F b) (F p)] w fun e w'=>e=.returned (.int .i64 (if okS b p=true then 0 else 12))∧w'=w:=by
 have hr:=fun w=>rightS hb hp w
 cases h:okS b p with
 |true =>
  rw [h] at hr;rw [if_pos rfl];replace hr:=HD hr;clear h;go_enter Tryz.func135,Tryz.ntmps135
  go_wp2_with fail;refine(hr.out _).mono ?_;rintro e w' ⟨rfl,hw⟩;obtain rfl:=hw.symm;clear hw;go_wp2_with fail;go_ret
  exact⟨rfl,rfl⟩
 |false =>
  rw [h] at hr;rw [if_neg (by decide)];replace hr:=HD hr;clear h;go_enter Tryz.func135,Tryz.ntmps135
  go_wp2_with fail;refine(hr.out _).mono ?_;rintro e w' ⟨rfl,hw⟩;obtain rfl:=hw.symm;clear hw;go_wp2_with fail;go_ret
  exact⟨rfl,rfl⟩
theorem limit_any(qb:Nat)(q:QS)(w:World)(hq:Qat w qb q) :
  Calls Tryz.prog 71 #[.pointer (some ⟨qb,0,none⟩)] w fun e w'=>e=.returned (.complex .f64 (F q.lB) (F q.lP))∧w'=w:=by
 obtain⟨⟨z0,z1,z2⟩,_,_⟩:=hq.cells;go_enter Tryz.func71,Tryz.ntmps71
 go_wp2_with fail;go_ret
 exact⟨rfl,rfl⟩
theorem charged_any(qb:Nat)(q:QS)(w:World)(hq:Qat w qb q) :
  Calls Tryz.prog 69 #[.pointer (some ⟨qb,0,none⟩)] w fun e w'=>e=.returned (.complex .f64 (F q.cB) (F q.cP))∧w'=w:=by
 obtain⟨⟨z0,z1,z2⟩,_,_⟩:=hq.cells;go_enter Tryz.func69,Tryz.ntmps69
 go_wp2_with fail;go_ret
 exact⟨rfl,rfl⟩
theorem complex_add{a b c d:Int}(h1:(a+c).natAbs<2^53)(h2:(b+d).natAbs<2^53)(ha:a.natAbs<2^53)(hb:b.natAbs<2^53)(hc:c.natAbs<2^53)(hd:d.natAbs<2^53)(w:World)(t:TypeId) :
  (binOp .add t (.complex .f64 (F a) (F b)) (.complex .f64 (F c) (F d))).run Tryz.prog w=.ok (.complex .f64 (F (a+c)) (F (b+d))) w :=
 run_complex_sum (P:=Tryz.prog) w .add (Or.inl rfl) t .f64 (F a) (F b) (F c) (F d) (F (a+c)) (F (b+d))
  (by unfold cSumBits floatBits;simp only [show FloatKind.f64.format=Ieee.double from rfl,add_val (val_F (n:=a) (by omega)) (val_F (n:=c) (by omega)) (by omega),add_val (val_F (n:=b) (by omega)) (val_F (n:=d) (by omega)) (by omega),Option.bind_some])
theorem complex_sub{a b c d:Int}(h1:(a-c).natAbs<2^53)(h2:(b-d).natAbs<2^53)(ha:a.natAbs<2^53)(hb:b.natAbs<2^53)(hc:c.natAbs<2^53)(hd:d.natAbs<2^53)(w:World)(t:TypeId) :
  (binOp .sub t (.complex .f64 (F a) (F b)) (.complex .f64 (F c) (F d))).run Tryz.prog w=.ok (.complex .f64 (F (a-c)) (F (b-d))) w :=
 run_complex_sum (P:=Tryz.prog) w .sub (Or.inr rfl) t .f64 (F a) (F b) (F c) (F d) (F (a-c)) (F (b-d))
  (by unfold cSumBits floatBits;simp only [show FloatKind.f64.format=Ieee.double from rfl,sub_val (val_F (n:=a) (by omega)) (val_F (n:=c) (by omega)) (by omega),sub_val (val_F (n:=b) (by omega)) (val_F (n:=d) (by omega)) (by omega),Option.bind_some])
def QPost(w:World)(qb:Nat)(k:Int)(q:QS)(e:Ending)(w':World):Prop:=e=.returned (.int .i64 k)∧Qat w' qb q∧Only (· = qb) w w'
theorem total3(g c:Nat)(q:QS)(b p:Int)(w:World)(hq:q.wf)(hb:okS b p=true)
  (h0:w.cell? ⟨g,0,none⟩=some (.complex .f64 (F q.cB) (F q.cP))) (h1:w.cell? ⟨g,1,none⟩=some (.complex .f64 (F q.rB) (F q.rP))) (h2:w.cell? ⟨g,2,none⟩=some (.complex .f64 (F b) (F p))) :
  Calls Tryz.prog 194 #[.slice (some ⟨g,0,none⟩) 3 c] w fun e w'=>e=.returned (.tuple #[.complex .f64 (F (rB (q.cB+q.rB+b) (q.cP+q.rP+p))) (F (rP (q.cB+q.rB+b) (q.cP+q.rP+p))),.int .i64 (rE (q.cB+q.rB+b) (q.cP+q.rP+p))])∧w'=w:=by
 obtain⟨o1,o2,o3,o4⟩:=QS.ok hq;have:=total_F g 0 3 c [(q.cB,q.cP),(q.rB,q.rP),(b,p)] w rfl (by omega) (by
   intro x hx;simp only [List.mem_cons,List.not_mem_nil,or_false] at hx;rcases hx with rfl|rfl|rfl
   ·exact o2
   ·exact o3
   ·exact hb) (by
   intro i hi;match i,hi with
   |0,_=>exact h0
   |1,_=>exact h1
   |2,_=>exact h2)
 simp only [sumA,sumC,Int.add_zero] at this;rw [←Int.add_assoc,←Int.add_assoc] at this;exact this
set_option maxHeartbeats 1000000 in
set_option maxRecDepth 20000 in
theorem reserve_yes(qb:Nat)(q:QS)(b p:Int)(w:World)(hwf:q.wf)(hb:okS b p=true)(hq:Qat w qb q) :
  Calls Tryz.prog 143 #[.pointer (some ⟨qb,0,none⟩),.complex .f64 (F b) (F p)] w (QPost w qb (q.resE b p) (q.res b p)):=by
 obtain⟨b0,b1,p0,p1⟩:=okS_iff.1 hb;obtain⟨o1,o2,o3,o4⟩:=QS.ok hwf;obtain⟨h0,h1,h2,h3,h4,h5,h6,h7,h8,h9⟩:=hwf;have hr:=ready_any qb b p w (by omega) (by omega);rw [hb,if_pos rfl] at hr;replace hr:=HD hr;obtain⟨⟨z0,z1,z2⟩,⟨f0,f1,f2⟩,hlt⟩:=hq.cells;have htot:=HD (fun (g c:Nat) (W:World)=>total3 g c q b p W ⟨h0,h1,h2,h3,h4,h5,h6,h7,h8,h9⟩ hb);have hadd:=fun (W:World) (t:TypeId)=>complex_add (a:=q.rB) (b:=q.rP) (c:=b) (d:=p) (by omega) (by omega) (by omega) (by omega) (by omega) (by omega) W t
 have hQ:=HD hq;by_cases hfit:q.cB+q.rB+b≤q.lB∧q.cP+q.rP+p≤q.lP
 ·have e1:q.resE b p=0:=by unfold QS.resE;rw [if_pos hfit]
  have e2:q.res b p={q with rB:=q.rB+b,rP:=q.rP+p}:=by unfold QS.res;rw [if_pos hfit]
  rw [e1,e2];have hT:okS (q.cB+q.rB+b) (q.cP+q.rP+p)=true:=okS_iff.2 (by omega);have htot2:Hid (∀(g c:Nat) (W:World),W.cell? ⟨g,0,none⟩=some (.complex .f64 (F q.cB) (F q.cP))→W.cell? ⟨g,1,none⟩=some (.complex .f64 (F q.rB) (F q.rP))→W.cell? ⟨g,2,none⟩=some (.complex .f64 (F b) (F p)) →
    Calls Tryz.prog 194 #[.slice (some ⟨g,0,none⟩) 3 c] W fun e w'=>e=.returned (.tuple #[.complex .f64 (F (q.cB+q.rB+b)) (F (q.cP+q.rP+p)),.int .i64 0])∧w'=W):=by
   refine HD fun g c W a1 a2 a3=>?_
   have:=htot.out g c W a1 a2 a3;obtain⟨r1,r2,r3⟩:=r_yes hT
   rwa [r1,r2,r3] at this
  have hfy:=HD (fun (W:World)=>fits_yes _ _ _ _ W hT o1 hfit);have hset:=HD (fun (W:World) (HW:Qat W qb q)=>HW.set2 (q.rB+b) (q.rP+p));clear htot e1 e2 hT hfit;replace o1:=HD o1;replace o2:=HD o2;replace o3:=HD o3;replace o4:=HD o4;replace hb:=HD hb;generalize F q.lB=x1 at *;generalize F q.lP=x2 at *;generalize F q.cB=x3 at *;generalize F q.cP=x4 at *;generalize F q.rB=x5 at *;generalize F q.rP=x6 at *;generalize F b=x7 at *;generalize F p=x8 at *;generalize F (q.rB+b)=x9 at *;generalize F (q.rP+p)=x10 at *;generalize F (q.cB+q.rB+b)=x11 at *;generalize F (q.cP+q.rP+p)=x12 at *;have kst:=fun (a:Addr) (x y:Nat) (W:World)=>run_store Tryz.prog W a (.complex .f64 x y) .plain rfl
  go_enter Tryz.func143,Tryz.ntmps143
  go_wp2_with fail;refine hr.out.mono ?_;rintro e w' ⟨rfl,hw⟩;obtain rfl:=hw.symm;clear hw;go_wp2_with fail;go_region_held3 (fun W=>W.cell? ⟨qb,1,none⟩=some (.complex .f64 x3 x4)∧W.cell? ⟨qb,2,none⟩=some (.complex .f64 x5 x6)) (go_keep) (first|(go_at_call 194;refine(htot2.out _ _ _ ?_ ?_ ?_).mono ?_;(first|exact new_cell rfl|exact keep_drew (new_cell rfl));(first|exact new_cell rfl|exact keep_drew (new_cell rfl));(first|exact new_cell rfl|exact keep_drew (new_cell rfl));rintro e w' ⟨rfl,hw⟩;obtain rfl:=hw.symm))
  go_wp2_with fail;refine(hfy.out _).mono ?_;rintro e w' ⟨rfl,hw⟩;obtain rfl:=hw.symm;clear hw;go_wp2_with fail;go_ret
  exact⟨rfl,(hset.out _ hQ.out).only (bs:=fun _=>False) (((Only.refl _ _).alloc _).drew) (fun q=>q),(((Only.refl (· = qb) w).setCell (p:=⟨qb,2,none⟩) (fun _=>rfl) _).alloc _).drew⟩
 ·have e1:q.resE b p=3:=by unfold QS.resE;rw [if_neg hfit]
  have e2:q.res b p=q:=by unfold QS.res;rw [if_neg hfit]
  rw [e1,e2];clear e1 e2;cases hT:okS (q.cB+q.rB+b) (q.cP+q.rP+p) with
  |true =>
   have htot2:Hid (∀(g c:Nat) (W:World),W.cell? ⟨g,0,none⟩=some (.complex .f64 (F q.cB) (F q.cP))→W.cell? ⟨g,1,none⟩=some (.complex .f64 (F q.rB) (F q.rP))→W.cell? ⟨g,2,none⟩=some (.complex .f64 (F b) (F p)) →
     Calls Tryz.prog 194 #[.slice (some ⟨g,0,none⟩) 3 c] W fun e w'=>e=.returned (.tuple #[.complex .f64 (F (q.cB+q.rB+b)) (F (q.cP+q.rP+p)),.int .i64 0])∧w'=W):=by
    refine HD fun g c W a1 a2 a3=>?_
    have:=htot.out g c W a1 a2 a3;obtain⟨r1,r2,r3⟩:=r_yes hT
    rwa [r1,r2,r3] at this
   have hfy:=HD (fun (W:World)=>fits_no _ _ _ _ W hT o1 hfit);clear htot hT hfit hadd;replace o1:=HD o1;replace o2:=HD o2;replace o3:=HD o3;replace o4:=HD o4;replace hb:=HD hb;generalize F q.lB=x1 at *;generalize F q.lP=x2 at *;generalize F q.cB=x3 at *;generalize F q.cP=x4 at *;generalize F q.rB=x5 at *;generalize F q.rP=x6 at *;generalize F b=x7 at *;generalize F p=x8 at *;generalize F (q.cB+q.rB+b)=x11 at *;generalize F (q.cP+q.rP+p)=x12 at *;have kst:=fun (a:Addr) (x y:Nat) (W:World)=>run_store Tryz.prog W a (.complex .f64 x y) .plain rfl
   go_enter Tryz.func143,Tryz.ntmps143
   go_wp2_with fail;refine hr.out.mono ?_;rintro e w' ⟨rfl,hw⟩;obtain rfl:=hw.symm;clear hw;go_wp2_with fail;go_region_held3 (fun W=>W.cell? ⟨qb,1,none⟩=some (.complex .f64 x3 x4)∧W.cell? ⟨qb,2,none⟩=some (.complex .f64 x5 x6)) (go_keep) (first|(go_at_call 194;refine(htot2.out _ _ _ ?_ ?_ ?_).mono ?_;(first|exact new_cell rfl|exact keep_drew (new_cell rfl));(first|exact new_cell rfl|exact keep_drew (new_cell rfl));(first|exact new_cell rfl|exact keep_drew (new_cell rfl));rintro e w' ⟨rfl,hw⟩;obtain rfl:=hw.symm))
   go_wp2_with fail;refine(hfy.out _).mono ?_;rintro e w' ⟨rfl,hw⟩;obtain rfl:=hw.symm;clear hw;go_wp2_with fail;go_ret
   exact⟨rfl,hQ.out.only (bs:=fun _=>False) (((Only.refl _ _).alloc _).drew) (fun q=>q),((Only.refl _ _).alloc _).drew⟩
  |false =>
   have htot2:Hid (∀(g c:Nat) (W:World),W.cell? ⟨g,0,none⟩=some (.complex .f64 (F q.cB) (F q.cP))→W.cell? ⟨g,1,none⟩=some (.complex .f64 (F q.rB) (F q.rP))→W.cell? ⟨g,2,none⟩=some (.complex .f64 (F b) (F p)) →
     Calls Tryz.prog 194 #[.slice (some ⟨g,0,none⟩) 3 c] W fun e w'=>e=.returned (.tuple #[.complex .f64 0 0,.int .i64 12])∧w'=W):=by
    refine HD fun g c W a1 a2 a3=>?_
    have:=htot.out g c W a1 a2 a3;obtain⟨r1,r2,r3⟩:=r_no hT
    rwa [r1,r2,r3,F_zero] at this
   clear htot hT hfit hadd;replace o1:=HD o1;replace o2:=HD o2;replace o3:=HD o3;replace o4:=HD o4;replace hb:=HD hb;generalize F q.lB=x1 at *;generalize F q.lP=x2 at *;generalize F q.cB=x3 at *;generalize F q.cP=x4 at *;generalize F q.rB=x5 at *;generalize F q.rP=x6 at *;generalize F b=x7 at *;generalize F p=x8 at *;have kst:=fun (a:Addr) (x y:Nat) (W:World)=>run_store Tryz.prog W a (.complex .f64 x y) .plain rfl
   go_enter Tryz.func143,Tryz.ntmps143
   go_wp2_with fail;refine hr.out.mono ?_;rintro e w' ⟨rfl,hw⟩;obtain rfl:=hw.symm;clear hw;go_wp2_with fail;go_region_held3 (fun W=>W.cell? ⟨qb,1,none⟩=some (.complex .f64 x3 x4)∧W.cell? ⟨qb,2,none⟩=some (.complex .f64 x5 x6)) (go_keep) (first|(go_at_call 194;refine(htot2.out _ _ _ ?_ ?_ ?_).mono ?_;(first|exact new_cell rfl|exact keep_drew (new_cell rfl));(first|exact new_cell rfl|exact keep_drew (new_cell rfl));(first|exact new_cell rfl|exact keep_drew (new_cell rfl));rintro e w' ⟨rfl,hw⟩;obtain rfl:=hw.symm))
   go_wp2_with fail;go_ret
   exact⟨rfl,hQ.out.only (bs:=fun _=>False) (((Only.refl _ _).alloc _).drew) (fun q=>q),((Only.refl _ _).alloc _).drew⟩
set_option maxHeartbeats 1000000 in
theorem move_rc_yes(qb:Nat)(q:QS)(b p:Int)(w:World)(hwf:q.wf)(hb:okS b p=true)(hq:Qat w qb q)(hfit:b≤q.rB∧p≤q.rP) :
  Calls Tryz.prog 141 #[.pointer (some ⟨qb,0,none⟩),.complex .f64 (F b) (F p),.pointer (some ⟨qb,2,none⟩),.pointer (some ⟨qb,1,none⟩)] w (QPost w qb 0 {q with rB:=q.rB-b,rP:=q.rP-p,cB:=q.cB+b,cP:=q.cP+p}):=by
 obtain⟨b0,b1,p0,p1⟩:=okS_iff.1 hb;obtain⟨o1,o2,o3,o4⟩:=QS.ok hwf;obtain⟨h0,h1,h2,h3,h4,h5,h6,h7,h8,h9⟩:=hwf;obtain⟨⟨z0,z1,z2⟩,⟨f0,f1,f2⟩,hlt⟩:=hq.cells;have hfy:=HD (fun (W:World)=>fits_yes b p q.rB q.rP W hb o3 hfit);have hsub:=fun (W:World) (t:TypeId)=>complex_sub (a:=q.rB) (b:=q.rP) (c:=b) (d:=p) (by omega) (by omega) (by omega) (by omega) (by omega) (by omega) W t
 have hadd:=fun (W:World) (t:TypeId)=>complex_add (a:=q.cB) (b:=q.cP) (c:=b) (d:=p) (by omega) (by omega) (by omega) (by omega) (by omega) (by omega) W t
 have hset:=HD ((hq.set2 (q.rB-b) (q.rP-p)).set1 (q.cB+b) (q.cP+p));replace o1:=HD o1;replace o2:=HD o2;replace o3:=HD o3;replace o4:=HD o4;replace hb:=HD hb;clear hfit;replace hq:=HD hq;generalize F q.lB=x1 at *;generalize F q.lP=x2 at *;generalize F q.cB=x3 at *;generalize F q.cP=x4 at *;generalize F q.rB=x5 at *;generalize F q.rP=x6 at *;generalize F b=x7 at *;generalize F p=x8 at *;generalize F (q.rB-b)=x9 at *;generalize F (q.rP-p)=x10 at *;generalize F (q.cB+b)=x11 at *;generalize F (q.cP+p)=x12 at *;have kst:=fun (a:Addr) (x y:Nat) (W:World)=>run_store Tryz.prog W a (.complex .f64 x y) .plain rfl
 go_enter Tryz.func141,Tryz.ntmps141
 go_wp2_with fail;refine(hfy.out _).mono ?_;rintro e w' ⟨rfl,hw⟩;obtain rfl:=hw.symm;clear hw;go_wp2_with fail;go_ret
 exact⟨rfl,hset.out,((Only.refl (· = qb) w).setCell (p:=⟨qb,2,none⟩) (fun _=>rfl) _).setCell (p:=⟨qb,1,none⟩) (fun _=>rfl) _⟩
theorem move_rc_no(qb:Nat)(q:QS)(b p:Int)(w:World)(hwf:q.wf)(hb:okS b p=true)(hq:Qat w qb q)(hfit:¬(b≤q.rB∧p≤q.rP)) :
  Calls Tryz.prog 141 #[.pointer (some ⟨qb,0,none⟩),.complex .f64 (F b) (F p),.pointer (some ⟨qb,2,none⟩),.pointer (some ⟨qb,1,none⟩)] w (QPost w qb 12 q):=by
 obtain⟨o1,o2,o3,o4⟩:=QS.ok hwf;obtain⟨⟨z0,z1,z2⟩,⟨f0,f1,f2⟩,hlt⟩:=hq.cells;have hfy:=HD (fun (W:World)=>fits_no b p q.rB q.rP W hb o3 hfit);replace o1:=HD o1;replace o2:=HD o2;replace o3:=HD o3;replace o4:=HD o4;replace hb:=HD hb;clear hfit;have kst:=fun (a:Addr) (x y:Nat) (W:World)=>run_store Tryz.prog W a (.complex .f64 x y) .plain rfl
 go_enter Tryz.func141,Tryz.ntmps141
 go_wp2_with fail;refine(hfy.out _).mono ?_;rintro e w' ⟨rfl,hw⟩;obtain rfl:=hw.symm;clear hw;go_wp2_with fail;go_ret
 exact⟨rfl,hq,Only.refl _ _⟩
set_option maxHeartbeats 1000000 in
theorem move_c_yes(qb:Nat)(q:QS)(b p:Int)(w:World)(hwf:q.wf)(hb:okS b p=true)(hq:Qat w qb q)(hfit:b≤q.cB∧p≤q.cP) :
  Calls Tryz.prog 141 #[.pointer (some ⟨qb,0,none⟩),.complex .f64 (F b) (F p),.pointer (some ⟨qb,1,none⟩),.pointer none] w (QPost w qb 0 {q with cB:=q.cB-b,cP:=q.cP-p}):=by
 obtain⟨b0,b1,p0,p1⟩:=okS_iff.1 hb;obtain⟨o1,o2,o3,o4⟩:=QS.ok hwf;obtain⟨h0,h1,h2,h3,h4,h5,h6,h7,h8,h9⟩:=hwf;obtain⟨⟨z0,z1,z2⟩,⟨f0,f1,f2⟩,hlt⟩:=hq.cells;have hfy:=HD (fun (W:World)=>fits_yes b p q.cB q.cP W hb o2 hfit);have hsub:=fun (W:World) (t:TypeId)=>complex_sub (a:=q.cB) (b:=q.cP) (c:=b) (d:=p) (by omega) (by omega) (by omega) (by omega) (by omega) (by omega) W t
 have hset:=HD (hq.set1 (q.cB-b) (q.cP-p));replace o1:=HD o1;replace o2:=HD o2;replace o3:=HD o3;replace o4:=HD o4;replace hb:=HD hb;clear hfit;replace hq:=HD hq;generalize F q.lB=x1 at *;generalize F q.lP=x2 at *;generalize F q.cB=x3 at *;generalize F q.cP=x4 at *;generalize F q.rB=x5 at *;generalize F q.rP=x6 at *;generalize F b=x7 at *;generalize F p=x8 at *;generalize F (q.cB-b)=x9 at *;generalize F (q.cP-p)=x10 at *;have kst:=fun (a:Addr) (x y:Nat) (W:World)=>run_store Tryz.prog W a (.complex .f64 x y) .plain rfl
 go_enter Tryz.func141,Tryz.ntmps141
 go_wp2_with fail;refine(hfy.out _).mono ?_;rintro e w' ⟨rfl,hw⟩;obtain rfl:=hw.symm;clear hw;go_wp2_with fail;go_ret
 exact⟨rfl,hset.out,(Only.refl (· = qb) w).setCell (p:=⟨qb,1,none⟩) (fun _=>rfl) _⟩
theorem move_c_no(qb:Nat)(q:QS)(b p:Int)(w:World)(hwf:q.wf)(hb:okS b p=true)(hq:Qat w qb q)(hfit:¬(b≤q.cB∧p≤q.cP)) :
  Calls Tryz.prog 141 #[.pointer (some ⟨qb,0,none⟩),.complex .f64 (F b) (F p),.pointer (some ⟨qb,1,none⟩),.pointer none] w (QPost w qb 12 q):=by
 obtain⟨o1,o2,o3,o4⟩:=QS.ok hwf;obtain⟨⟨z0,z1,z2⟩,⟨f0,f1,f2⟩,hlt⟩:=hq.cells;have hfy:=HD (fun (W:World)=>fits_no b p q.cB q.cP W hb o2 hfit);replace o1:=HD o1;replace o2:=HD o2;replace o3:=HD o3;replace o4:=HD o4;replace hb:=HD hb;clear hfit;have kst:=fun (a:Addr) (x y:Nat) (W:World)=>run_store Tryz.prog W a (.complex .f64 x y) .plain rfl
 go_enter Tryz.func141,Tryz.ntmps141
 go_wp2_with fail;refine(hfy.out _).mono ?_;rintro e w' ⟨rfl,hw⟩;obtain rfl:=hw.symm;clear hw;go_wp2_with fail;go_ret
 exact⟨rfl,hq,Only.refl _ _⟩
set_option maxRecDepth 20000 in
theorem commit_yes(qb:Nat)(q:QS)(b p:Int)(w:World)(hwf:q.wf)(hb:okS b p=true)(hq:Qat w qb q) :
  Calls Tryz.prog 149 #[.pointer (some ⟨qb,0,none⟩),.complex .f64 (F b) (F p)] w (QPost w qb (q.canE b p) (q.com b p)):=by
 have hr:=ready_any qb b p w (by have:=okS_iff.1 hb;omega) (by have:=okS_iff.1 hb;omega);rw [hb,if_pos rfl] at hr;replace hr:=HD hr;obtain⟨⟨z0,z1,z2⟩,⟨f0,f1,f2⟩,hlt⟩:=hq.cells;by_cases hfit:b≤q.rB∧p≤q.rP
 ·rw [show q.canE b p=0 by unfold QS.canE;rw [if_pos hfit],show q.com b p={q with rB:=q.rB-b,rP:=q.rP-p,cB:=q.cB+b,cP:=q.cP+p} by unfold QS.com;rw [if_pos hfit]]
  have hm:=HD (fun (W:World) (HW:Qat W qb q)=>move_rc_yes qb q b p W hwf hb HW hfit);clear hfit;replace hb:=HD hb;replace hwf:=HD hwf;have hQ:=HD hq;go_enter Tryz.func149,Tryz.ntmps149
  go_wp2_with fail;refine hr.out.mono ?_;rintro e w' ⟨rfl,hw⟩;obtain rfl:=hw.symm;clear hw;go_wp2_with fail;go_still_tail 8,(by kernel_rfl)
  change wpList _ _ _ _ _ w.drew;go_wp2_with fail;refine(hm.out w.drew (show Qat w.drew qb q from hQ.out)).mono ?_;rintro e w1 ⟨rfl,h1,h2⟩;go_wp2_with fail;go_ret
  exact⟨rfl,h1,((Only.refl (· = qb) w).drew).trans h2⟩
 ·rw [show q.canE b p=12 by unfold QS.canE;rw [if_neg hfit],show q.com b p=q by unfold QS.com;rw [if_neg hfit]]
  have hm:=HD (fun (W:World) (HW:Qat W qb q)=>move_rc_no qb q b p W hwf hb HW hfit);clear hfit;replace hb:=HD hb;replace hwf:=HD hwf;have hQ:=HD hq;go_enter Tryz.func149,Tryz.ntmps149
  go_wp2_with fail;refine hr.out.mono ?_;rintro e w' ⟨rfl,hw⟩;obtain rfl:=hw.symm;clear hw;go_wp2_with fail;go_still_tail 8,(by kernel_rfl)
  change wpList _ _ _ _ _ w.drew;go_wp2_with fail;refine(hm.out w.drew (show Qat w.drew qb q from hQ.out)).mono ?_;rintro e w1 ⟨rfl,h1,h2⟩;go_wp2_with fail;go_ret
  exact⟨rfl,h1,((Only.refl (· = qb) w).drew).trans h2⟩
set_option maxRecDepth 20000 in
theorem refund_yes(qb:Nat)(q:QS)(b p:Int)(w:World)(hwf:q.wf)(hb:okS b p=true)(hq:Qat w qb q) :
  Calls Tryz.prog 96 #[.pointer (some ⟨qb,0,none⟩),.complex .f64 (F b) (F p)] w (QPost w qb (q.refE b p) (q.ref b p)):=by
 have hr:=ready_any qb b p w (by have:=okS_iff.1 hb;omega) (by have:=okS_iff.1 hb;omega);rw [hb,if_pos rfl] at hr;replace hr:=HD hr;obtain⟨⟨z0,z1,z2⟩,⟨f0,f1,f2⟩,hlt⟩:=hq.cells;by_cases hfit:b≤q.cB∧p≤q.cP
 ·rw [show q.refE b p=0 by unfold QS.refE;rw [if_pos hfit],show q.ref b p={q with cB:=q.cB-b,cP:=q.cP-p} by unfold QS.ref;rw [if_pos hfit]]
  have hm:=HD (fun (W:World) (HW:Qat W qb q)=>move_c_yes qb q b p W hwf hb HW hfit);clear hfit;replace hb:=HD hb;replace hwf:=HD hwf;have hQ:=HD hq;go_enter Tryz.func96,Tryz.ntmps96
  go_wp2_with fail;refine hr.out.mono ?_;rintro e w' ⟨rfl,hw⟩;obtain rfl:=hw.symm;clear hw;go_wp2_with fail;refine(hm.out _ hQ.out).mono ?_;rintro e w1 ⟨rfl,h1,h2⟩;go_wp2_with fail;go_ret
  exact⟨rfl,h1,h2⟩
 ·rw [show q.refE b p=12 by unfold QS.refE;rw [if_neg hfit],show q.ref b p=q by unfold QS.ref;rw [if_neg hfit]]
  have hm:=HD (fun (W:World) (HW:Qat W qb q)=>move_c_no qb q b p W hwf hb HW hfit);clear hfit;replace hb:=HD hb;replace hwf:=HD hwf;have hQ:=HD hq;go_enter Tryz.func96,Tryz.ntmps96
  go_wp2_with fail;refine hr.out.mono ?_;rintro e w' ⟨rfl,hw⟩;obtain rfl:=hw.symm;clear hw;go_wp2_with fail;refine(hm.out _ hQ.out).mono ?_;rintro e w1 ⟨rfl,h1,h2⟩;go_wp2_with fail;go_ret
  exact⟨rfl,h1,h2⟩
set_option maxRecDepth 20000 in
theorem resize_yes(qb:Nat)(q:QS)(b p:Int)(w:World)(hwf:q.wf)(hb:okS b p=true)(hq:Qat w qb q) :
  Calls Tryz.prog 92 #[.pointer (some ⟨qb,0,none⟩),.complex .f64 (F b) (F p)] w (QPost w qb (q.sizE b p) (q.siz b p)):=by
 have hr:=ready_any qb b p w (by have:=okS_iff.1 hb;omega) (by have:=okS_iff.1 hb;omega);rw [hb,if_pos rfl] at hr;replace hr:=HD hr;obtain⟨b0,b1,p0,p1⟩:=okS_iff.1 hb;obtain⟨o1,o2,o3,o4⟩:=QS.ok hwf;obtain⟨h0,h1,h2,h3,h4,h5,h6,h7,h8,h9⟩:=hwf;obtain⟨⟨z0,z1,z2⟩,⟨f0,f1,f2⟩,hlt⟩:=hq.cells;have hadd:=fun (W:World) (t:TypeId)=>complex_add (a:=q.cB) (b:=q.cP) (c:=q.rB) (d:=q.rP) (by omega) (by omega) (by omega) (by omega) (by omega) (by omega) W t
 have hQ:=HD hq;have hset:=HD (hq.set0 b p);have kst:=fun (a:Addr) (x y:Nat) (W:World)=>run_store Tryz.prog W a (.complex .f64 x y) .plain rfl
 by_cases hfit:q.cB+q.rB≤b∧q.cP+q.rP≤p
 ·rw [show q.sizE b p=0 by unfold QS.sizE;rw [if_pos hfit],show q.siz b p={q with lB:=b,lP:=p} by unfold QS.siz;rw [if_pos hfit]]
  have hfy:=HD (fun (W:World)=>fits_yes _ _ b p W o4 hb hfit);clear hfit;replace o1:=HD o1;replace o2:=HD o2;replace o3:=HD o3;replace o4:=HD o4;replace hb:=HD hb;generalize F (q.cB+q.rB)=x1 at *;generalize F (q.cP+q.rP)=x2 at *;go_enter Tryz.func92,Tryz.ntmps92
  go_wp2_with fail;refine hr.out.mono ?_;rintro e w' ⟨rfl,hw⟩;obtain rfl:=hw.symm;clear hw;go_wp2_with fail;go_quiet (fail)
  go_wp2_with fail;refine(hfy.out _).mono ?_;rintro e w' ⟨rfl,hw⟩;obtain rfl:=hw.symm;clear hw;go_wp2_with fail;go_ret
  exact⟨rfl,hset.out.only (bs:=fun _=>False) ((Only.refl _ _).drewN _) (fun q=>q),((Only.refl (· = qb) w).setCell (p:=⟨qb,0,none⟩) (fun _=>rfl) _).drewN _⟩
 ·rw [show q.sizE b p=3 by unfold QS.sizE;rw [if_neg hfit],show q.siz b p=q by unfold QS.siz;rw [if_neg hfit]]
  have hfy:=HD (fun (W:World)=>fits_no _ _ b p W o4 hb hfit);clear hfit;replace o1:=HD o1;replace o2:=HD o2;replace o3:=HD o3;replace o4:=HD o4;replace hb:=HD hb;generalize F (q.cB+q.rB)=x1 at *;generalize F (q.cP+q.rP)=x2 at *;go_enter Tryz.func92,Tryz.ntmps92
  go_wp2_with fail;refine hr.out.mono ?_;rintro e w' ⟨rfl,hw⟩;obtain rfl:=hw.symm;clear hw;go_wp2_with fail;go_quiet (fail)
  go_wp2_with fail;refine(hfy.out _).mono ?_;rintro e w' ⟨rfl,hw⟩;obtain rfl:=hw.symm;clear hw;go_wp2_with fail;go_ret
  exact⟨rfl,hQ.out,(Only.refl _ _).drewN _⟩
theorem new_yes(b p:Int)(w:World)(hb:okS b p=true) :
  Calls Tryz.prog 88 #[.complex .f64 (F b) (F p)] w fun e w'=>e=.returned (.tuple #[.pointer (some ⟨w.heap.size,0,none⟩),.int .i64 0])∧w'=w.alloc (.cells #[.complex .f64 (F b) (F p),.complex .f64 0 0,.complex .f64 0 0] 182):=by
 have hr:=fun w=>rightS (b:=b) (p:=p) (by have:=okS_iff.1 hb;omega) (by have:=okS_iff.1 hb;omega) w
 rw [hb] at hr;replace hr:=HD hr;clear hb;go_enter Tryz.func88,Tryz.ntmps88
 go_wp2_with fail;refine(hr.out _).mono ?_;rintro e w' ⟨rfl,hw⟩;obtain rfl:=hw.symm;clear hw;go_wp2_with fail;go_ret2
 exact⟨rfl,rfl⟩
end
section
open Go.RowKit
def CpS.hit(s:CpS)(addr:Int)(k:Nat):Bool:=match mGet s.slots k with
 |some x=>decide (x.2=addr)
 |none=>false
def CpS.drop(s:CpS)(k:Nat):CpS:=⟨s.tenant,s.next,mDel k s.slots,if k<4096 then s.obj.give k else s.obj,if k<4096 then s.ext else s.ext.give ((k:Int)-4096)⟩
def CpS.rv(s:CpS)(addr:Int):Nat→CpS×Nat
 |0=>(s,0)
 |k+1=>if (s.rv addr k).1.hit addr k=true then ((s.rv addr k).1.drop k,(s.rv addr k).2+1) else s.rv addr k
theorem rv_le(s:CpS)(addr:Int)(k:Nat):(s.rv addr k).2≤k:=by
 induction k with
 |zero=>exact Nat.le_refl _
 |succ k ih =>
  unfold CpS.rv
  split
  ·show (s.rv addr k).2+1≤k+1
   omega
  ·omega
theorem rv_hit{w1:World}{o:Nat→Tag}{t:Tag}{b g bo be:Nat}{q:CpS}{k:Nat}{a n d:Int}(h:CpG w1 o t b g bo be q)(h9:¬t <+: [9]) :
  (w1.alloc (.cells #[.int .i64 a,.int .i64 n,.int .i64 d] 230)).cell? ⟨b,2,none⟩=some (.map (some g)) ∧
  ∃w2,(Builtin.delete_ #[193,3] 0 #[.map (some g),.int .i64 k]).run Tryz.prog (w1.alloc (.cells #[.int .i64 a,.int .i64 n,.int .i64 d] 230))=.ok (.tuple #[]) w2 ∧
   w2.cell? ⟨b,3,none⟩=some (.pointer (some ⟨bo,0,none⟩))∧w2.cell? ⟨b,4,none⟩=some (.pointer (some ⟨be,0,none⟩)) ∧
   (k<4096→Calls Tryz.prog 93 #[.pointer (some ⟨bo,0,none⟩),.int .i64 k] w2 (fun e w3=>∃v,e=.returned v∧CpG w3 o t b g bo be (q.drop k)∧Fr (Und t) w1 o w3 o)) ∧
   (¬k<4096→Calls Tryz.prog 93 #[.pointer (some ⟨be,0,none⟩),.int .i64 ((k:Int)-4096)] w2 (fun e w3=>∃v,e=.returned v∧CpG w3 o t b g bo be (q.drop k)∧Fr (Und t) w1 o w3 o)):=by
 have f0:Fr (fun _=>False) w1 o (w1.alloc (.cells #[.int .i64 a,.int .i64 n,.int .i64 d] 230)) o:=Fr.alloc' _;have h0:=h.fr f0 off_no;obtain⟨w2,e1,m1,f1,q1⟩:=mp_delete (P:=Tryz.prog) (ty:=0) h0.2.1 Tryz.underlying193 Tryz.underlying3 k;have hsib:∀i,Off (· = t) (t++[i]):=fun i=>⟨fun v hv q=>by subst q;have:=List.IsPrefix.length_le hv;simp at this;omega,fun q=>h9 (by rw [←q];exact List.prefix_refl _)⟩
 have b2:=only_blk h0.1 q1 h.2.2.2.2;have s3:=h0.2.2.1.fr f1 (hsib 0);have s4:=h0.2.2.2.1.fr f1 (hsib 1);have g1:Fr (Und t) w1 o w2 o:=(f0.mono fun _ q=>q.elim).trans (f1.mono fun v q=>by rw [q];exact Und.self t);refine⟨h0.1.cell' (i:=2) rfl,w2,e1,b2.cell' (i:=3) rfl,b2.cell' (i:=4) rfl,fun hk=>?_,fun hk=>?_⟩
 ·refine(shGive bo k w2 s3 (not_nine h9 _)).mono ?_
  rintro e w3 ⟨rfl,r1,r2⟩;refine⟨_,rfl,⟨b2.fr r2 (not_sub t _),m1.fr r2 (not_sub t _),?_,?_,h.2.2.2.2⟩,g1.trans (r2.mono fun v q=>q.up)⟩
  ·show ShAt w3 o (t++[0]) bo (if k<4096 then q.obj.give k else q.obj)
   rw [if_pos hk];exact r1
  ·show ShAt w3 o (t++[1]) be (if k<4096 then q.ext else _)
   rw [if_pos hk];exact s4.fr r2 (off_one (by decide) h9)
 ·refine(shGive be ((k:Int)-4096) w2 s4 (not_nine h9 _)).mono ?_
  rintro e w3 ⟨rfl,r1,r2⟩;refine⟨_,rfl,⟨b2.fr r2 (not_sub t _),m1.fr r2 (not_sub t _),?_,?_,h.2.2.2.2⟩,g1.trans (r2.mono fun v q=>q.up)⟩
  ·show ShAt w3 o (t++[0]) bo (if k<4096 then q.obj.give k else q.obj)
   rw [if_neg hk];exact s3.fr r2 (off_one (by decide) h9)
  ·show ShAt w3 o (t++[1]) be (if k<4096 then q.ext else _)
   rw [if_neg hk];exact r1
set_option maxHeartbeats 1000000 in
theorem cpRevoke(b:Nat)(addr:Int)(w:World){o:Nat→Tag}{t:Tag}{s:CpS}(hc:CpAt w o t b s)(h9:¬t <+: [9]) :
  Calls Tryz.prog 147 #[.pointer (some ⟨b,0,none⟩),.int .i64 addr] w (CpPost w o t b (.int .i64 (s.rv addr 4160).2) (s.rv addr 4160).1):=by
 obtain⟨g,bo,be,h⟩:=hc;replace h:Hid (CpG w o t b g bo be s):=HD h;go_enter Tryz.func147,Tryz.ntmps147
 go_wp2_with fail;refine wp_scope_round 0 (fun a' w'=>∃(k:Nat) (u2 u3 u4 u7 u8 u9 u10 u11 u12 u13 u14 u15 u16 u17 u18 u19 u20 u21 u22 u23 u24 u25 u26 u27 u28 u29 u30 u31 u32 u33 u34 u35 u36 u37 u38 u39 u40 u41 u42 u43 u44 u45 u46 u47 u48 u49 u50 u51 u52 u53:Value),a'={tmps:=#[.pointer (some ⟨b,0,none⟩),.int .i64 addr,u2,u3,u4,.int .i64 (s.rv addr k).2,.int .i64 k,u7,u8,u9,u10,u11,u12,u13,u14,u15,u16,u17,u18,u19,u20,u21,u22,u23,u24,u25,u26,u27,u28,u29,u30,u31,u32,u33,u34,u35,u36,u37,u38,u39,u40,u41,u42,u43,u44,u45,u46,u47,u48,u49,u50,u51,u52,u53],defers:=[]}∧k≤4160∧Hid (CpG w' o t b g bo be (s.rv addr k).1∧Fr (Und t) w o w' o)) (fun a' _=>4160-(intOf (a'.tmps.getD 6 undef)).toNat) rfl ?_ ?_
 ·rintro a' w1 ⟨k,u2,u3,u4,u7,u8,u9,u10,u11,u12,u13,u14,u15,u16,u17,u18,u19,u20,u21,u22,u23,u24,u25,u26,u27,u28,u29,u30,u31,u32,u33,u34,u35,u36,u37,u38,u39,u40,u41,u42,u43,u44,u45,u46,u47,u48,u49,u50,u51,u52,u53,rfl,hk,hg⟩
  have hn:=rv_le s addr k;by_cases hlt:k<4160
  ·have hd:decide ((4160:Int)≤(k:Int))=false:=decide_eq_false (by omega)
   obtain⟨a,n,d,th,hrel,hlk⟩:=slot_of (s.rv addr k).1.slots k;replace hlk:=hlk w1 o t g hg.out.1.2.1;have c2:w1.cell? ⟨b,2,none⟩=some (.map (some g)):=hg.out.1.1.cell' (i:=2) rfl;by_cases hhit:(s.rv addr k).1.hit addr k=true
   ·have hdd:th=true∧d=addr:=by
     unfold CpS.hit at hhit;rcases hrel with ⟨rfl,hm⟩|⟨rfl,hm⟩
     ·rw [hm] at hhit;exact⟨rfl,by simpa using hhit⟩
     ·rw [hm] at hhit;cases hhit
    obtain⟨rfl,rfl⟩:=hdd;have hnext:s.rv d (k+1)=((s.rv d k).1.drop k,(s.rv d k).2+1):=by
     conv=>lhs;unfold CpS.rv
     rw [if_pos hhit]
    obtain⟨z2,w2,hdel,z3,z4,hlo,hhi⟩:=rv_hit (a:=a) (n:=n) (d:=d) (k:=k) hg.out.1 h9;have hfin:=HD (show ∀w3,CpG w3 o t b g bo be ((s.rv d k).1.drop k)→Fr (Und t) w1 o w3 o→CpG w3 o t b g bo be (s.rv d (k+1)).1∧Fr (Und t) w o w3 o from fun w3 r1 r2=>by
     rw [hnext];exact⟨r1,hg.out.2.trans r2⟩)
    have hcount:((s.rv d (k+1)).2:Int)=(s.rv d k).2+1:=by rw [hnext];simp
    generalize (s.rv d k).2=c at *;have u1:=IntWalk.i64_in ((c:Int)+1) (by omega);have u2:=IntWalk.i64_in ((k:Int)+1) (by omega);have u3:=IntWalk.i64_in ((k:Int)-4096) (by omega);clear hrel hhit hg h hnext;by_cases hk0:k<4096
    ·have hk1:decide ((k:Int)<4096)=true:=decide_eq_true (by omega)
     replace hlo:=HD (hlo hk0);clear hhi;go_wp2_with fail;refine hlo.out.mono ?_;rintro e w3 ⟨v,rfl,r1,r2⟩;replace r1:=HD (hfin.out w3 r1 r2);clear r2;go_wp2_with fail;go_step3
     rw [←hcount,show ((k:Int)+1)=((k+1:Nat):Int) from rfl];refine⟨rfl,⟨k+1,_,_,_,_,_,_,_,_,_,_,_,_,_,_,_,_,_,_,_,_,_,_,_,_,_,_,_,_,_,_,_,_,_,_,_,_,_,_,_,_,_,_,_,_,_,_,_,_,_,_,rfl,by omega,r1⟩,?_⟩;simp [intOf]
     omega
    ·have hk1:decide ((k:Int)<4096)=false:=decide_eq_false (by omega)
     replace hhi:=HD (hhi hk0);clear hlo;go_wp2_with fail;refine hhi.out.mono ?_;rintro e w3 ⟨v,rfl,r1,r2⟩;replace r1:=HD (hfin.out w3 r1 r2);clear r2;go_wp2_with fail;go_step3
     rw [←hcount,show ((k:Int)+1)=((k+1:Nat):Int) from rfl];refine⟨rfl,⟨k+1,_,_,_,_,_,_,_,_,_,_,_,_,_,_,_,_,_,_,_,_,_,_,_,_,_,_,_,_,_,_,_,_,_,_,_,_,_,_,_,_,_,_,_,_,_,_,_,_,_,_,rfl,by omega,r1⟩,?_⟩;simp [intOf]
     omega
   ·have hnext:s.rv addr (k+1)=s.rv addr k:=by
     conv=>lhs;unfold CpS.rv
     rw [if_neg hhit]
    have hfin:=HD (show CpG (w1.alloc (.cells #[.int .i64 a,.int .i64 n,.int .i64 d] 230)) o t b g bo be (s.rv addr (k+1)).1∧Fr (Und t) w o (w1.alloc (.cells #[.int .i64 a,.int .i64 n,.int .i64 d] 230)) o from by
     have f0:Fr (fun _=>False) w1 o (w1.alloc (.cells #[.int .i64 a,.int .i64 n,.int .i64 d] 230)) o:=Fr.alloc' _;rw [hnext];exact⟨hg.out.1.fr f0 off_no,hg.out.2.trans (f0.mono fun _ q=>q.elim)⟩)
    have hcount:(s.rv addr (k+1)).2=(s.rv addr k).2:=by rw [hnext]
    have u2:=IntWalk.i64_in ((k:Int)+1) (by omega);have hth:th=false∨(th=true∧(d==addr)=false):=by
     unfold CpS.hit at hhit;rcases hrel with ⟨rfl,hm⟩|⟨rfl,hm⟩
     ·rw [hm] at hhit;exact .inr ⟨rfl,by simpa using hhit⟩
     ·exact .inl rfl
    rw [←hcount];clear hrel hhit hg h hnext hcount hn;rcases hth with rfl|⟨rfl,hd2⟩
    ·go_wp2_with fail
     go_step3
     rw [show ((k:Int)+1)=((k+1:Nat):Int) from rfl];refine⟨rfl,⟨k+1,_,_,_,_,_,_,_,_,_,_,_,_,_,_,_,_,_,_,_,_,_,_,_,_,_,_,_,_,_,_,_,_,_,_,_,_,_,_,_,_,_,_,_,_,_,_,_,_,_,_,rfl,by omega,hfin⟩,?_⟩;simp [intOf]
     omega
    ·go_wp2_with fail
     go_step3
     rw [show ((k:Int)+1)=((k+1:Nat):Int) from rfl];refine⟨rfl,⟨k+1,_,_,_,_,_,_,_,_,_,_,_,_,_,_,_,_,_,_,_,_,_,_,_,_,_,_,_,_,_,_,_,_,_,_,_,_,_,_,_,_,_,_,_,_,_,_,_,_,_,_,rfl,by omega,hfin⟩,?_⟩;simp [intOf]
     omega
  ·obtain rfl:k=4160:=by omega
   have hfin:=HD (show CpPost w o t b (.int .i64 (s.rv addr 4160).2) (s.rv addr 4160).1 (.returned (.int .i64 (s.rv addr 4160).2)) w1 from⟨rfl,o,hg.out.1.at,hg.out.2⟩);clear hg h;go_wp2_with fail;simp only [Exit.jump];go_ret
   exact hfin.out
 ·intro H
  go_wp2_with fail;go_step3
  rename_i K hK;exact hK _ _ <| H _ _ ⟨0,_,_,_,_,_,_,_,_,_,_,_,_,_,_,_,_,_,_,_,_,_,_,_,_,_,_,_,_,_,_,_,_,_,_,_,_,_,_,_,_,_,_,_,_,_,_,_,_,_,_,rfl,Nat.zero_le _,HD ⟨h.out,Fr.refl _ _ _⟩⟩
end
section
open Go.RowKit
def CpS.new(tenant serial:Int):CpS:=⟨tenant,serial,[],ShS.new 4096,ShS.new 64⟩
theorem cpNew(tenant serial:Int)(w:World){o:Nat→Tag}{t:Tag}(hT:Tab w o)(ht:0≤tenant∧tenant≤7)(hs:1≤serial∧serial≤17592186044416) :
  Calls Tryz.prog 85 #[.int .i64 tenant,.int .i64 serial] w fun e w'=>∃b o',e=.returned (.tuple #[.pointer (some ⟨b,0,none⟩),.int .i64 0])∧CpAt w' o' t b (CpS.new tenant serial)∧Fr (fun _=>False) w o w' o':=by
 have hmk:∀w,(Instr.makeMap 193 none).run Tryz.prog w=.ok (.map (some w.heap.size)) (w.alloc (.map #[] 0)):=fun w=>run_makeMap _ w
 have h1:=HD (shNew 4096 w o (t++[0]) hT (by omega));have hfin:=HD (show ∀w1 b1 o1,ShAt w1 o1 (t++[0]) b1 (ShS.new 4096)→Fr (fun _=>False) w o w1 o1 →
   Calls Tryz.prog 77 #[.int .i64 64] w1 (fun e w2=>∃b2,e=.returned (.tuple #[.pointer (some ⟨b2,0,none⟩),.int .i64 0]) ∧
    ∃o',CpAt ((w2.alloc (.map #[] 0)).alloc (.cells #[.int .i64 tenant,.int .i64 serial,.map (some w2.heap.size),.pointer (some ⟨b1,0,none⟩),.pointer (some ⟨b2,0,none⟩)] 195)) o' t (w2.heap.size+1) (CpS.new tenant serial) ∧
     Fr (fun _=>False) w o ((w2.alloc (.map #[] 0)).alloc (.cells #[.int .i64 tenant,.int .i64 serial,.map (some w2.heap.size),.pointer (some ⟨b1,0,none⟩),.pointer (some ⟨b2,0,none⟩)] 195)) o') from fun w1 b1 o1 r1 f1=>by
  refine(shNew 64 w1 o1 (t++[1]) (hT.fr f1 (fun q=>q)) (by omega)).mono ?_;rintro e w2 ⟨b2,o2,rfl,r2,f2⟩;refine⟨b2,rfl,?_⟩;have f3:Fr (fun _=>False) w2 o2 (w2.alloc (.map #[] 0)) (setO o2 w2.heap.size t):=Fr.alloc _ t;have m3:=MpAt.made w2 o2 t .i64 eS;have f4:Fr (fun _=>False) (w2.alloc (.map #[] 0)) (setO o2 w2.heap.size t) ((w2.alloc (.map #[] 0)).alloc (.cells #[.int .i64 tenant,.int .i64 serial,.map (some w2.heap.size),.pointer (some ⟨b1,0,none⟩),.pointer (some ⟨b2,0,none⟩)] 195)) (setO (setO o2 w2.heap.size t) (w2.alloc (.map #[] 0)).heap.size t):=Fr.alloc _ t;have b4:=Blk.made (w2.alloc (.map #[] 0)) (setO o2 w2.heap.size t) t #[.int .i64 tenant,.int .i64 serial,.map (some w2.heap.size),.pointer (some ⟨b1,0,none⟩),.pointer (some ⟨b2,0,none⟩)] 195;have g1:=(r1.fr ((f2.trans f3).trans f4) off_no)
  have g2:=(r2.fr (f3.trans f4) off_no)
  have g3:=m3.fr f4 (fun q=>q);rw [World.size_alloc] at b4 g1 g2 g3;rw [World.size_alloc] at f4;exact⟨_,⟨w2.heap.size,b1,b2,b4,g3,g1,g2,by omega⟩,((f1.trans f2).trans f3).trans f4⟩)
 clear hT;go_enter Tryz.func85,Tryz.ntmps85
 go_wp2_with fail;refine h1.out.mono ?_;rintro e w1 ⟨b1,o1,rfl,r1,r2⟩;replace hfin:=HD (hfin.out w1 b1 o1 r1 r2);clear r1 r2;go_wp2_with fail;refine hfin.out.mono ?_;rintro e w2 ⟨b2,rfl,o',r1,r2⟩;replace r1:=HD r1;replace r2:=HD r2;go_wp2_with fail;go_ret2
 exact⟨_,o',rfl,r1.out,r2.out⟩
theorem give_n'(s:ShS)(k:Int):(s.give k).n=s.n:=by unfold ShS.give;split<;>rfl
theorem CpOk.new{tenant serial:Int}(ht:0≤tenant∧tenant≤7)(hs:1≤serial∧serial≤17592186044416):CpOk (CpS.new tenant serial):=⟨ht,hs,rfl,rfl,fun p q=>by simp [CpS.new] at q⟩
theorem CpOk.putF{s:CpS}(h:CpOk s)(ob:Bool)(addr rights:Int):CpOk (s.putF ob addr rights).2:=by
 unfold CpS.putF
 split
 ·exact h
 ·split
  ·exact h
  ·rename_i hn k hl
   have hk:k<(s.sh ob).n:=by
    have:=List.mem_of_find?_eq_some hl;simpa using this
   have h1:=h.obj;have h2:=h.ext;have h3:=h.next;refine⟨h.tenant,⟨show 1≤s.next+1 by omega,show s.next+1≤17592186044416 by omega⟩,?_,?_,fun p hp=>?_⟩
   ·show (if ob then s.obj.flip k else s.obj).n=4096
    cases ob<;>exact h1
   ·show (if ob then s.ext else s.ext.flip k).n=64
    cases ob<;>exact h2
   ·rcases mIns_mem p hp with rfl|hp
    ·cases ob
     ·have hk':k<s.ext.n:=hk
      show 0≤(4096:Int)+k∧(4096:Int)+k<4160;omega
     ·have hk':k<s.obj.n:=hk
      show 0≤(0:Int)+k∧(0:Int)+k<4160;omega
    ·exact h.keys p hp
theorem CpOk.grantF{s:CpS}(h:CpOk s)(addr:Int):CpOk (s.grantF addr).2:=by
 unfold CpS.grantF;split
 ·exact h
 ·exact h.putF _ _ _
theorem CpOk.restF{s:CpS}(h:CpOk s)(k:Nat)(r:Int):CpOk (s.restF k r).2:=by
 unfold CpS.restF;split
 ·exact h
 ·split
  ·exact h
  ·split
   ·exact h.putF _ _ _
   ·exact h
theorem CpOk.drop{s:CpS}(h:CpOk s)(k:Nat):CpOk (s.drop k):=by
 refine⟨h.tenant,h.next,?_,?_,fun p hp=>h.keys p (mDel_mem p hp)⟩
 ·show (if k<4096 then s.obj.give k else s.obj).n=4096
  split
  ·rw [give_n'];exact h.obj
  ·exact h.obj
 ·show (if k<4096 then s.ext else s.ext.give ((k:Int)-4096)).n=64
  split
  ·exact h.ext
  ·rw [give_n'];exact h.ext
theorem CpOk.rv{s:CpS}(h:CpOk s)(addr:Int)(k:Nat):CpOk (s.rv addr k).1:=by
 induction k with
 |zero=>exact h
 |succ k ih =>
  unfold CpS.rv
  split
  ·exact ih.drop k
  ·exact ih
end
end Go.Proofs.YtfliaggjkianpaaGreatDoor
