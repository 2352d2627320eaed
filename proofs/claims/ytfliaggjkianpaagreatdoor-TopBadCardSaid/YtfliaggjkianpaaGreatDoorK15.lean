import Derived.Test.YtfliaggjkianpaaGreatDoorK00
import Derived.Test.YtfliaggjkianpaaGreatDoorK11
import Derived.Test.YtfliaggjkianpaaGreatDoorK01
import Derived.Deep.RegionHeld3
import Derived.StillTailTactics
import Derived.Deep.QuietTactic
import Derived.BigQuiet
set_option linter.unusedVariables false
set_option linter.unusedSimpArgs false
set_option maxRecDepth 100000
namespace Go.Proofs.YtfliaggjkianpaaGreatDoor
section
open Go.RowKit Flt
def quoCells(q:QS):Array Value:=#[.complex .f64 (F q.lB) (F q.lP),.complex .f64 (F q.cB) (F q.cP),.complex .f64 (F q.rB) (F q.rP)]
def Qat(w:World)(b:Nat)(q:QS):Prop:=w.heap[b]? = some (.cells (quoCells q) 182 (0,0))
theorem Qat.cells{w:World}{b:Nat}{q:QS}(h:Qat w b q) :
  (w.cell? ⟨b,0,none⟩=some (.complex .f64 (F q.lB) (F q.lP))∧w.cell? ⟨b,1,none⟩=some (.complex .f64 (F q.cB) (F q.cP))∧w.cell? ⟨b,2,none⟩=some (.complex .f64 (F q.rB) (F q.rP))) ∧
  (w.frozen? ⟨b,0,none⟩=false∧w.frozen? ⟨b,1,none⟩=false∧w.frozen? ⟨b,2,none⟩=false)∧b<w.heap.size:=by
 unfold Qat quoCells at h;refine⟨⟨?_,?_,?_⟩,⟨?_,?_,?_⟩,lt_of_block h⟩<;>simp [World.cell?,World.frozen?,h]
theorem Qat.only{w w':World}{b:Nat}{q:QS}{bs:Nat→Prop}(h:Qat w b q)(ho:Only bs w w')(hn:¬bs b):Qat w' b q :=
 (ho.block b (lt_of_block h) hn).trans h
theorem Qat.below{w w':World}{b:Nat}{q:QS}(h:Qat w b q)(hb:Below w.heap.size w w'):Qat w' b q:=(hb.block b (lt_of_block h)).trans h
theorem heap_set{w:World}{b i:Nat}{c:Array Value}{t:TypeId}{u:Value}(h:w.heap[b]? = some (.cells c t (0,0))):(w.setCell ⟨b,i,none⟩ u).heap[b]? = some (.cells (c.setIfInBounds i u) t (0,0)):=by
 simp [World.setCell,Array.getElem?_modify,h]
theorem Qat.set0{w:World}{b:Nat}{q:QS}(h:Qat w b q)(x y:Int):Qat (w.setCell ⟨b,0,none⟩ (.complex .f64 (F x) (F y))) b {q with lB:=x,lP:=y}:=heap_set h
theorem Qat.set1{w:World}{b:Nat}{q:QS}(h:Qat w b q)(x y:Int):Qat (w.setCell ⟨b,1,none⟩ (.complex .f64 (F x) (F y))) b {q with cB:=x,cP:=y}:=heap_set h
theorem Qat.set2{w:World}{b:Nat}{q:QS}(h:Qat w b q)(x y:Int):Qat (w.setCell ⟨b,2,none⟩ (.complex .f64 (F x) (F y))) b {q with rB:=x,rP:=y}:=heap_set h
theorem rightS{b p:Int}(hb:b.natAbs<2^53)(hp:p.natAbs<2^53)(w:World) :
  Calls Tryz.prog 114 #[.complex .f64 (F b) (F p)] w fun e w'=>e=.returned (.bool (okS b p))∧w'=w:=by
 have:=right_any (F b) (F p) w
 rwa [right_F hb hp] at this
theorem ready_any(qb:Nat)(b p:Int)(w:World)(hb:b.natAbs<2^53)(hp:p.natAbs<2^53) :
  Calls Tryz.prog 135 #[.pointer (some ⟨qb,0,none⟩),.complex .f64 (F b) (F p)] w fun e w'=>e=.returned (.int .i64 (if okS b p=true then 0 else 12))∧w'=w:=by
 have hr:=fun w=>rightS hb hp w
 cases h:okS b p with
 |true =>
  rw [h] at hr;rw [if_pos rfl];replace hr:=HD hr;clear h;go_enter Tryz.func135,Tryz.ntmps135
  go_wp2_with fail;refine(hr.out _).mono ?_;rintro e w' ⟨rfl,hw⟩;obtain rfl:=hw.symm;clear hw;go_wp2_with fail;go_ret
  exact⟨rfl,rfl⟩
 |false =>
  rw [h] at hr;rw [if_neg (by decide)];replace hr:=HD hr;clear h;go_enter Tryz.func135,Tryz.ntmps135
  go_wp2_with fail;refine(hr.out _).mono ?_;rintro e w' ⟨rfl,hw⟩;obtain rfl:=hw.symm;clear hw;go_wp2_with fail;go_ret
  exact⟨rfl,rfl⟩
theorem limit_any(qb:Nat)(q:QS)(w:World)(hq:Qat w qb q) :
  Calls Tryz.prog 71 #[.pointer (some ⟨qb,0,none⟩)] w fun e w'=>e=.returned (.complex .f64 (F q.lB) (F q.lP))∧w'=w:=by
 obtain⟨⟨z0,z1,z2⟩,_,_⟩:=hq.cells;go_enter Tryz.func71,Tryz.ntmps71
 go_wp2_with fail;go_ret
 exact⟨rfl,rfl⟩
theorem charged_any(qb:Nat)(q:QS)(w:World)(hq:Qat w qb q) :
  Calls Tryz.prog 69 #[.pointer (some ⟨qb,0,none⟩)] w fun e w'=>e=.returned (.complex .f64 (F q.cB) (F q.cP))∧w'=w:=by
 obtain⟨⟨z0,z1,z2⟩,_,_⟩:=hq.cells;go_enter Tryz.func69,Tryz.ntmps69
 go_wp2_with fail;go_ret
 exact⟨rfl,rfl⟩
theorem complex_add{a b c d:Int}(h1:(a+c).natAbs<2^53)(h2:(b+d).natAbs<2^53)(ha:a.natAbs<2^53)(hb:b.natAbs<2^53)(hc:c.natAbs<2^53)(hd:d.natAbs<2^53)(w:World)(t:TypeId) :
  (binOp .add t (.complex .f64 (F a) (F b)) (.complex .f64 (F c) (F d))).run Tryz.prog w=.ok (.complex .f64 (F (a+c)) (F (b+d))) w :=
 run_complex_sum (P:=Tryz.prog) w .add (Or.inl rfl) t .f64 (F a) (F b) (F c) (F d) (F (a+c)) (F (b+d))
  (by unfold cSumBits floatBits;simp only [show FloatKind.f64.format=Ieee.double from rfl,add_val (val_F (n:=a) (by omega)) (val_F (n:=c) (by omega)) (by omega),add_val (val_F (n:=b) (by omega)) (val_F (n:=d) (by omega)) (by omega),Option.bind_some])
theorem complex_sub{a b c d:Int}(h1:(a-c).natAbs<2^53)(h2:(b-d).natAbs<2^53)(ha:a.natAbs<2^53)(hb:b.natAbs<2^53)(hc:c.natAbs<2^53)(hd:d.natAbs<2^53)(w:World)(t:TypeId) :
  (binOp .sub t (.complex .f64 (F a) (F b)) (.complex .f64 (F c) (F d))).run Tryz.prog w=.ok (.complex .f64 (F (a-c)) (F (b-d))) w :=
 run_complex_sum (P:=Tryz.prog) w .sub (Or.inr rfl) t .f64 (F a) (F b) (F c) (F d) (F (a-c)) (F (b-d))
  (by unfold cSumBits floatBits;simp only [show FloatKind.f64.format=Ieee.double from rfl,sub_val (val_F (n:=a) (by omega)) (val_F (n:=c) (by omega)) (by omega),sub_val (val_F (n:=b) (by omega)) (val_F (n:=d) (by omega)) (by omega),Option.bind_some])
def QPost(w:World)(qb:Nat)(k:Int)(q:QS)(e:Ending)(w':World):Prop:=e=.returned (.int .i64 k)∧Qat w' qb q∧Only (· = qb) w w'
theorem total3(g c:Nat)(q:QS)(b p:Int)(w:World)(hq:q.wf)(hb:okS b p=true)
  (h0:w.cell? ⟨g,0,none⟩=some (.complex .f64 (F q.cB) (F q.cP))) (h1:w.cell? ⟨g,1,none⟩=some (.complex .f64 (F q.rB) (F q.rP))) (h2:w.cell? ⟨g,2,none⟩=some (.complex .f64 (F b) (F p))) :
  Calls Tryz.prog 194 #[.slice (some ⟨g,0,none⟩) 3 c] w fun e w'=>e=.returned (.tuple #[.complex .f64 (F (rB (q.cB+q.rB+b) (q.cP+q.rP+p))) (F (rP (q.cB+q.rB+b) (q.cP+q.rP+p))),.int .i64 (rE (q.cB+q.rB+b) (q.cP+q.rP+p))])∧w'=w:=by
 obtain⟨o1,o2,o3,o4⟩:=QS.ok hq;have:=total_F g 0 3 c [(q.cB,q.cP),(q.rB,q.rP),(b,p)] w rfl (by omega) (by
   intro x hx;simp only [List.mem_cons,List.not_mem_nil,or_false] at hx;rcases hx with rfl|rfl|rfl
   ·exact o2
   ·exact o3
   ·exact hb) (by
   intro i hi;match i,hi with
   |0,_=>exact h0
   |1,_=>exact h1
   |2,_=>exact h2)
 simp only [sumA,sumC,Int.add_zero] at this;rw [←Int.add_assoc,←Int.add_assoc] at this;exact this
set_option maxHeartbeats 1000000 in
set_option maxRecDepth 20000 in
theorem reserve_yes(qb:Nat)(q:QS)(b p:Int)(w:World)(hwf:q.wf)(hb:okS b p=true)(hq:Qat w qb q) :
  Calls Tryz.prog 143 #[.pointer (some ⟨qb,0,none⟩),.complex .f64 (F b) (F p)] w (QPost w qb (q.resE b p) (q.res b p)):=by
 obtain⟨b0,b1,p0,p1⟩:=okS_iff.1 hb;obtain⟨o1,o2,o3,o4⟩:=QS.ok hwf;obtain⟨h0,h1,h2,h3,h4,h5,h6,h7,h8,h9⟩:=hwf;have hr:=ready_any qb b p w (by omega) (by omega);rw [hb,if_pos rfl] at hr;replace hr:=HD hr;obtain⟨⟨z0,z1,z2⟩,⟨f0,f1,f2⟩,hlt⟩:=hq.cells;have htot:=HD (fun (g c:Nat) (W:World)=>total3 g c q b p W ⟨h0,h1,h2,h3,h4,h5,h6,h7,h8,h9⟩ hb);have hadd:=fun (W:World) (t:TypeId)=>complex_add (a:=q.rB) (b:=q.rP) (c:=b) (d:=p) (by omega) (by omega) (by omega) (by omega) (by omega) (by omega) W t
 have hQ:=HD hq;by_cases hfit:q.cB+q.rB+b≤q.lB∧q.cP+q.rP+p≤q.lP
 ·have e1:q.resE b p=0:=by unfold QS.resE;rw [if_pos hfit]
  have e2:q.res b p={q with rB:=q.rB+b,rP:=q.rP+p}:=by unfold QS.res;rw [if_pos hfit]
  rw [e1,e2];have hT:okS (q.cB+q.rB+b) (q.cP+q.rP+p)=true:=okS_iff.2 (by omega);have htot2:Hid (∀(g c:Nat) (W:World),W.cell? ⟨g,0,none⟩=some (.complex .f64 (F q.cB) (F q.cP))→W.cell? ⟨g,1,none⟩=some (.complex .f64 (F q.rB) (F q.rP))→W.cell? ⟨g,2,none⟩=some (.complex .f64 (F b) (F p)) →
    Calls Tryz.prog 194 #[.slice (some ⟨g,0,none⟩) 3 c] W fun e w'=>e=.returned (.tuple #[.complex .f64 (F (q.cB+q.rB+b)) (F (q.cP+q.rP+p)),.int .i64 0])∧w'=W):=by
   refine HD fun g c W a1 a2 a3=>?_
   have:=htot.out g c W a1 a2 a3;obtain⟨r1,r2,r3⟩:=r_yes hT
   rwa [r1,r2,r3] at this
  have hfy:=HD (fun (W:World)=>fits_yes _ _ _ _ W hT o1 hfit);have hset:=HD (fun (W:World) (HW:Qat W qb q)=>HW.set2 (q.rB+b) (q.rP+p));clear htot e1 e2 hT hfit;replace o1:=HD o1;replace o2:=HD o2;replace o3:=HD o3;replace o4:=HD o4;replace hb:=HD hb;generalize F q.lB=x1 at *;generalize F q.lP=x2 at *;generalize F q.cB=x3 at *;generalize F q.cP=x4 at *;generalize F q.rB=x5 at *;generalize F q.rP=x6 at *;generalize F b=x7 at *;generalize F p=x8 at *;generalize F (q.rB+b)=x9 at *;generalize F (q.rP+p)=x10 at *;generalize F (q.cB+q.rB+b)=x11 at *;generalize F (q.cP+q.rP+p)=x12 at *;have kst:=fun (a:Addr) (x y:Nat) (W:World)=>run_store Tryz.prog W a (.complex .f64 x y) .plain rfl
  go_enter Tryz.func143,Tryz.ntmps143
  go_wp2_with fail;refine hr.out.mono ?_;rintro e w' ⟨rfl,hw⟩;obtain rfl:=hw.symm;clear hw;go_wp2_with fail;go_region_held3 (fun W=>W.cell? ⟨qb,1,none⟩=some (.complex .f64 x3 x4)∧W.cell? ⟨qb,2,none⟩=some (.complex .f64 x5 x6)) (go_keep) (first|(go_at_call 194;refine(htot2.out _ _ _ ?_ ?_ ?_).mono ?_;(first|exact new_cell rfl|exact keep_drew (new_cell rfl));(first|exact new_cell rfl|exact keep_drew (new_cell rfl));(first|exact new_cell rfl|exact keep_drew (new_cell rfl));rintro e w' ⟨rfl,hw⟩;obtain rfl:=hw.symm))
  go_wp2_with fail;refine(hfy.out _).mono ?_;rintro e w' ⟨rfl,hw⟩;obtain rfl:=hw.symm;clear hw;go_wp2_with fail;go_ret
  exact⟨rfl,(hset.out _ hQ.out).only (bs:=fun _=>False) (((Only.refl _ _).alloc _).drew) (fun q=>q),(((Only.refl (· = qb) w).setCell (p:=⟨qb,2,none⟩) (fun _=>rfl) _).alloc _).drew⟩
 ·have e1:q.resE b p=3:=by unfold QS.resE;rw [if_neg hfit]
  have e2:q.res b p=q:=by unfold QS.res;rw [if_neg hfit]
  rw [e1,e2];clear e1 e2;cases hT:okS (q.cB+q.rB+b) (q.cP+q.rP+p) with
  |true =>
   have htot2:Hid (∀(g c:Nat) (W:World),W.cell? ⟨g,0,none⟩=some (.complex .f64 (F q.cB) (F q.cP))→W.cell? ⟨g,1,none⟩=some (.complex .f64 (F q.rB) (F q.rP))→W.cell? ⟨g,2,none⟩=some (.complex .f64 (F b) (F p)) →
     Calls Tryz.prog 194 #[.slice (some ⟨g,0,none⟩) 3 c] W fun e w'=>e=.returned (.tuple #[.complex .f64 (F (q.cB+q.rB+b)) (F (q.cP+q.rP+p)),.int .i64 0])∧w'=W):=by
    refine HD fun g c W a1 a2 a3=>?_
    have:=htot.out g c W a1 a2 a3;obtain⟨r1,r2,r3⟩:=r_yes hT
    rwa [r1,r2,r3] at this
   have hfy:=HD (fun (W:World)=>fits_no _ _ _ _ W hT o1 hfit);clear htot hT hfit hadd;replace o1:=HD o1;replace o2:=HD o2;replace o3:=HD o3;replace o4:=HD o4;replace hb:=HD hb;generalize F q.lB=x1 at *;generalize F q.lP=x2 at *;generalize F q.cB=x3 at *;generalize F q.cP=x4 at *;generalize F q.rB=x5 at *;generalize F q.rP=x6 at *;generalize F b=x7 at *;generalize F p=x8 at *;generalize F (q.cB+q.rB+b)=x11 at *;generalize F (q.cP+q.rP+p)=x12 at *;have kst:=fun (a:Addr) (x y:Nat) (W:World)=>run_store Tryz.prog W a (.complex .f64 x y) .plain rfl
   go_enter Tryz.func143,Tryz.ntmps143
   go_wp2_with fail;refine hr.out.mono ?_;rintro e w' ⟨rfl,hw⟩;obtain rfl:=hw.symm;clear hw;go_wp2_with fail;go_region_held3 (fun W=>W.cell? ⟨qb,1,none⟩=some (.complex .f64 x3 x4)∧W.cell? ⟨qb,2,none⟩=some (.complex .f64 x5 x6)) (go_keep) (first|(go_at_call 194;refine(htot2.out _ _ _ ?_ ?_ ?_).mono ?_;(first|exact new_cell rfl|exact keep_drew (new_cell rfl));(first|exact new_cell rfl|exact keep_drew (new_cell rfl));(first|exact new_cell rfl|exact keep_drew (new_cell rfl));rintro e w' ⟨rfl,hw⟩;obtain rfl:=hw.symm))
   go_wp2_with fail;refine(hfy.out _).mono ?_;rintro e w' ⟨rfl,hw⟩;obtain rfl:=hw.symm;clear hw;go_wp2_with fail;go_ret
   exact⟨rfl,hQ.out.only (bs:=fun _=>False) (((Only.refl _ _).alloc _).drew) (fun q=>q),((Only.refl _ _).alloc _).drew⟩
  |false =>
   have htot2:Hid (∀(g c:Nat) (W:World),W.cell? ⟨g,0,none⟩=some (.complex .f64 (F q.cB) (F q.cP))→W.cell? ⟨g,1,none⟩=some (.complex .f64 (F q.rB) (F q.rP))→W.cell? ⟨g,2,none⟩=some (.complex .f64 (F b) (F p)) →
     Calls Tryz.prog 194 #[.slice (some ⟨g,0,none⟩) 3 c] W fun e w'=>e=.returned (.tuple #[.complex .f64 0 0,.int .i64 12])∧w'=W):=by
    refine HD fun g c W a1 a2 a3=>?_
    have:=htot.out g c W a1 a2 a3;obtain⟨r1,r2,r3⟩:=r_no hT
    rwa [r1,r2,r3,F_zero] at this
   clear htot hT hfit hadd;replace o1:=HD o1;replace o2:=HD o2;replace o3:=HD o3;replace o4:=HD o4;replace hb:=HD hb;generalize F q.lB=x1 at *;generalize F q.lP=x2 at *;generalize F q.cB=x3 at *;generalize F q.cP=x4 at *;generalize F q.rB=x5 at *;generalize F q.rP=x6 at *;generalize F b=x7 at *;generalize F p=x8 at *;have kst:=fun (a:Addr) (x y:Nat) (W:World)=>run_store Tryz.prog W a (.complex .f64 x y) .plain rfl
   go_enter Tryz.func143,Tryz.ntmps143
   go_wp2_with fail;refine hr.out.mono ?_;rintro e w' ⟨rfl,hw⟩;obtain rfl:=hw.symm;clear hw;go_wp2_with fail;go_region_held3 (fun W=>W.cell? ⟨qb,1,none⟩=some (.complex .f64 x3 x4)∧W.cell? ⟨qb,2,none⟩=some (.complex .f64 x5 x6)) (go_keep) (first|(go_at_call 194;refine(htot2.out _ _ _ ?_ ?_ ?_).mono ?_;(first|exact new_cell rfl|exact keep_drew (new_cell rfl));(first|exact new_cell rfl|exact keep_drew (new_cell rfl));(first|exact new_cell rfl|exact keep_drew (new_cell rfl));rintro e w' ⟨rfl,hw⟩;obtain rfl:=hw.symm))
   go_wp2_with fail;go_ret
   exact⟨rfl,hQ.out.only (bs:=fun _=>False) (((Only.refl _ _).alloc _).drew) (fun q=>q),((Only.refl _ _).alloc _).drew⟩
set_option maxHeartbeats 1000000 in
theorem move_rc_yes(qb:Nat)(q:QS)(b p:Int)(w:World)(hwf:q.wf)(hb:okS b p=true)(hq:Qat w qb q)(hfit:b≤q.rB∧p≤q.rP) :
  Calls Tryz.prog 141 #[.pointer (some ⟨qb,0,none⟩),.complex .f64 (F b) (F p),.pointer (some ⟨qb,2,none⟩),.pointer (some ⟨qb,1,none⟩)] w (QPost w qb 0 {q with rB:=q.rB-b,rP:=q.rP-p,cB:=q.cB+b,cP:=q.cP+p}):=by
 obtain⟨b0,b1,p0,p1⟩:=okS_iff.1 hb;obtain⟨o1,o2,o3,o4⟩:=QS.ok hwf;obtain⟨h0,h1,h2,h3,h4,h5,h6,h7,h8,h9⟩:=hwf;obtain⟨⟨z0,z1,z2⟩,⟨f0,f1,f2⟩,hlt⟩:=hq.cells;have hfy:=HD (fun (W:World)=>fits_yes b p q.rB q.rP W hb o3 hfit);have hsub:=fun (W:World) (t:TypeId)=>complex_sub (a:=q.rB) (b:=q.rP) (c:=b) (d:=p) (by omega) (by omega) (by omega) (by omega) (by omega) (by omega) W t
 have hadd:=fun (W:World) (t:TypeId)=>complex_add (a:=q.cB) (b:=q.cP) (c:=b) (d:=p) (by omega) (by omega) (by omega) (by omega) (by omega) (by omega) W t
 have hset:=HD ((hq.set2 (q.rB-b) (q.rP-p)).set1 (q.cB+b) (q.cP+p));replace o1:=HD o1;replace o2:=HD o2;replace o3:=HD o3;replace o4:=HD o4;replace hb:=HD hb;clear hfit;replace hq:=HD hq;generalize F q.lB=x1 at *;generalize F q.lP=x2 at *;generalize F q.cB=x3 at *;generalize F q.cP=x4 at *;generalize F q.rB=x5 at *;generalize F q.rP=x6 at *;generalize F b=x7 at *;generalize F p=x8 at *;generalize F (q.rB-b)=x9 at *;generalize F (q.rP-p)=x10 at *;generalize F (q.cB+b)=x11 at *;generalize F (q.cP+p)=x12 at *;have kst:=fun (a:Addr) (x y:Nat) (W:World)=>run_store Tryz.prog W a (.complex .f64 x y) .plain rfl
 go_enter Tryz.func141,Tryz.ntmps141
 go_wp2_with fail;refine(hfy.out _).mono ?_;rintro e w' ⟨rfl,hw⟩;obtain rfl:=hw.symm;clear hw;go_wp2_with fail;go_ret
 exact⟨rfl,hset.out,((Only.refl (· = qb) w).setCell (p:=⟨qb,2,none⟩) (fun _=>rfl) _).setCell (p:=⟨qb,1,none⟩) (fun _=>rfl) _⟩
theorem move_rc_no(qb:Nat)(q:QS)(b p:Int)(w:World)(hwf:q.wf)(hb:okS b p=true)(hq:Qat w qb q)(hfit:¬(b≤q.rB∧p≤q.rP)) :
  Calls Tryz.prog 141 #[.pointer (some ⟨qb,0,none⟩),.complex .f64 (F b) (F p),.pointer (some ⟨qb,2,none⟩),.pointer (some ⟨qb,1,none⟩)] w (QPost w qb 12 q):=by
 obtain⟨o1,o2,o3,o4⟩:=QS.ok hwf;obtain⟨⟨z0,z1,z2⟩,⟨f0,f1,f2⟩,hlt⟩:=hq.cells;have hfy:=HD (fun (W:World)=>fits_no b p q.rB q.rP W hb o3 hfit);replace o1:=HD o1;replace o2:=HD o2;replace o3:=HD o3;replace o4:=HD o4;replace hb:=HD hb;clear hfit;have kst:=fun (a:Addr) (x y:Nat) (W:World)=>run_store Tryz.prog W a (.complex .f64 x y) .plain rfl
 go_enter Tryz.func141,Tryz.ntmps141
 go_wp2_with fail;refine(hfy.out _).mono ?_;rintro e w' ⟨rfl,hw⟩;obtain rfl:=hw.symm;clear hw;go_wp2_with fail;go_ret
 exact⟨rfl,hq,Only.refl _ _⟩
set_option maxHeartbeats 1000000 in
theorem move_c_yes(qb:Nat)(q:QS)(b p:Int)(w:World)(hwf:q.wf)(hb:okS b p=true)(hq:Qat w qb q)(hfit:b≤q.cB∧p≤q.cP) :
  Calls Tryz.prog 141 #[.pointer (some ⟨qb,0,none⟩),.complex .f64 (F b) (F p),.pointer (some ⟨qb,1,none⟩),.pointer none] w (QPost w qb 0 {q with cB:=q.cB-b,cP:=q.cP-p}):=by
 obtain⟨b0,b1,p0,p1⟩:=okS_iff.1 hb;obtain⟨o1,o2,o3,o4⟩:=QS.ok hwf;obtain⟨h0,h1,h2,h3,h4,h5,h6,h7,h8,h9⟩:=hwf;obtain⟨⟨z0,z1,z2⟩,⟨f0,f1,f2⟩,hlt⟩:=hq.cells;have hfy:=HD (fun (W:World)=>fits_yes b p q.cB q.cP W hb o2 hfit);have hsub:=fun (W:World) (t:TypeId)=>complex_sub (a:=q.cB) (b:=q.cP) (c:=b) (d:=p) (by omega) (by omega) (by omega) (by omega) (by omega) (by omega) W t
 have hset:=HD (hq.set1 (q.cB-b) (q.cP-p));replace o1:=HD o1;replace o2:=HD o2;replace o3:=HD o3;replace o4:=HD o4;replace hb:=HD hb;clear hfit;replace hq:=HD hq;generalize F q.lB=x1 at *;generalize F q.lP=x2 at *;generalize F q.cB=x3 at *;generalize F q.cP=x4 at *;generalize F q.rB=x5 at *;generalize F q.rP=x6 at *;generalize F b=x7 at *;generalize F p=x8 at *;generalize F (q.cB-b)=x9 at *;generalize F (q.cP-p)=x10 at *;have kst:=fun (a:Addr) (x y:Nat) (W:World)=>run_store Tryz.prog W a (.complex .f64 x y) .plain rfl
 go_enter Tryz.func141,Tryz.ntmps141
 go_wp2_with fail;refine(hfy.out _).mono ?_;rintro e w' ⟨rfl,hw⟩;obtain rfl:=hw.symm;clear hw;go_wp2_with fail;go_ret
 exact⟨rfl,hset.out,(Only.refl (· = qb) w).setCell (p:=⟨qb,1,none⟩) (fun _=>rfl) _⟩
theorem move_c_no(qb:Nat)(q:QS)(b p:Int)(w:World)(hwf:q.wf)(hb:okS b p=true)(hq:Qat w qb q)(hfit:¬(b≤q.cB∧p≤q.cP)) :
  Calls Tryz.prog 141 #[.pointer (some ⟨qb,0,none⟩),.complex .f64 (F b) (F p),.pointer (some ⟨qb,1,none⟩),.pointer none] w (QPost w qb 12 q):=by
 obtain⟨o1,o2,o3,o4⟩:=QS.ok hwf;obtain⟨⟨z0,z1,z2⟩,⟨f0,f1,f2⟩,hlt⟩:=hq.cells;have hfy:=HD (fun (W:World)=>fits_no b p q.cB q.cP W hb o2 hfit);replace o1:=HD o1;replace o2:=HD o2;replace o3:=HD o3;replace o4:=HD o4;replace hb:=HD hb;clear hfit;have kst:=fun (a:Addr) (x y:Nat) (W:World)=>run_store Tryz.prog W a (.complex .f64 x y) .plain rfl
 go_enter Tryz.func141,Tryz.ntmps141
 go_wp2_with fail;refine(hfy.out _).mono ?_;rintro e w' ⟨rfl,hw⟩;obtain rfl:=hw.symm;clear hw;go_wp2_with fail;go_ret
 exact⟨rfl,hq,Only.refl _ _⟩
set_option maxRecDepth 20000 in
theorem commit_yes(qb:Nat)(q:QS)(b p:Int)(w:World)(hwf:q.wf)(hb:okS b p=true)(hq:Qat w qb q) :
  Calls Tryz.prog 149 #[.pointer (some ⟨qb,0,none⟩),.complex .f64 (F b) (F p)] w (QPost w qb (q.canE b p) (q.com b p)):=by
 have hr:=ready_any qb b p w (by have:=okS_iff.1 hb;omega) (by have:=okS_iff.1 hb;omega);rw [hb,if_pos rfl] at hr;replace hr:=HD hr;obtain⟨⟨z0,z1,z2⟩,⟨f0,f1,f2⟩,hlt⟩:=hq.cells;by_cases hfit:b≤q.rB∧p≤q.rP
 ·rw [show q.canE b p=0 by unfold QS.canE;rw [if_pos hfit],show q.com b p={q with rB:=q.rB-b,rP:=q.rP-p,cB:=q.cB+b,cP:=q.cP+p} by unfold QS.com;rw [if_pos hfit]]
  have hm:=HD (fun (W:World) (HW:Qat W qb q)=>move_rc_yes qb q b p W hwf hb HW hfit);clear hfit;replace hb:=HD hb;replace hwf:=HD hwf;have hQ:=HD hq;go_enter Tryz.func149,Tryz.ntmps149
  go_wp2_with fail;refine hr.out.mono ?_;rintro e w' ⟨rfl,hw⟩;obtain rfl:=hw.symm;clear hw;go_wp2_with fail;go_still_tail 8,(by kernel_rfl)
  change wpList _ _ _ _ _ w.drew;go_wp2_with fail;refine(hm.out w.drew (show Qat w.drew qb q from hQ.out)).mono ?_;rintro e w1 ⟨rfl,h1,h2⟩;go_wp2_with fail;go_ret
  exact⟨rfl,h1,((Only.refl (· = qb) w).drew).trans h2⟩
 ·rw [show q.canE b p=12 by unfold QS.canE;rw [if_neg hfit],show q.com b p=q by unfold QS.com;rw [if_neg hfit]]
  have hm:=HD (fun (W:World) (HW:Qat W qb q)=>move_rc_no qb q b p W hwf hb HW hfit);clear hfit;replace hb:=HD hb;replace hwf:=HD hwf;have hQ:=HD hq;go_enter Tryz.func149,Tryz.ntmps149
  go_wp2_with fail;refine hr.out.mono ?_;rintro e w' ⟨rfl,hw⟩;obtain rfl:=hw.symm;clear hw;go_wp2_with fail;go_still_tail 8,(by kernel_rfl)
  change wpList _ _ _ _ _ w.drew;go_wp2_with fail;refine(hm.out w.drew (show Qat w.drew qb q from hQ.out)).mono ?_;rintro e w1 ⟨rfl,h1,h2⟩;go_wp2_with fail;go_ret
  exact⟨rfl,h1,((Only.refl (· = qb) w).drew).trans h2⟩
set_option maxRecDepth 20000 in
theorem refund_yes(qb:Nat)(q:QS)(b p:Int)(w:World)(hwf:q.wf)(hb:okS b p=true)(hq:Qat w qb q) :
  Calls Tryz.prog 96 #[.pointer (some ⟨qb,0,none⟩),.complex .f64 (F b) (F p)] w (QPost w qb (q.refE b p) (q.ref b p)):=by
 have hr:=ready_any qb b p w (by have:=okS_iff.1 hb;omega) (by have:=okS_iff.1 hb;omega);rw [hb,if_pos rfl] at hr;replace hr:=HD hr;obtain⟨⟨z0,z1,z2⟩,⟨f0,f1,f2⟩,hlt⟩:=hq.cells;by_cases hfit:b≤q.cB∧p≤q.cP
 ·rw [show q.refE b p=0 by unfold QS.refE;rw [if_pos hfit],show q.ref b p={q with cB:=q.cB-b,cP:=q.cP-p} by unfold QS.ref;rw [if_pos hfit]]
  have hm:=HD (fun (W:World) (HW:Qat W qb q)=>move_c_yes qb q b p W hwf hb HW hfit);clear hfit;replace hb:=HD hb;replace hwf:=HD hwf;have hQ:=HD hq;go_enter Tryz.func96,Tryz.ntmps96
  go_wp2_with fail;refine hr.out.mono ?_;rintro e w' ⟨rfl,hw⟩;obtain rfl:=hw.symm;clear hw;go_wp2_with fail;refine(hm.out _ hQ.out).mono ?_;rintro e w1 ⟨rfl,h1,h2⟩;go_wp2_with fail;go_ret
  exact⟨rfl,h1,h2⟩
 ·rw [show q.refE b p=12 by unfold QS.refE;rw [if_neg hfit],show q.ref b p=q by unfold QS.ref;rw [if_neg hfit]]
  have hm:=HD (fun (W:World) (HW:Qat W qb q)=>move_c_no qb q b p W hwf hb HW hfit);clear hfit;replace hb:=HD hb;replace hwf:=HD hwf;have hQ:=HD hq;go_enter Tryz.func96,Tryz.ntmps96
  go_wp2_with fail;refine hr.out.mono ?_;rintro e w' ⟨rfl,hw⟩;obtain rfl:=hw.symm;clear hw;go_wp2_with fail;refine(hm.out _ hQ.out).mono ?_;rintro e w1 ⟨rfl,h1,h2⟩;go_wp2_with fail;go_ret
  exact⟨rfl,h1,h2⟩
set_option maxRecDepth 20000 in
theorem resize_yes(qb:Nat)(q:QS)(b p:Int)(w:World)(hwf:q.wf)(hb:okS b p=true)(hq:Qat w qb q) :
  Calls Tryz.prog 92 #[.pointer (some ⟨qb,0,none⟩),.complex .f64 (F b) (F p)] w (QPost w qb (q.sizE b p) (q.siz b p)):=by
 have hr:=ready_any qb b p w (by have:=okS_iff.1 hb;omega) (by have:=okS_iff.1 hb;omega);rw [hb,if_pos rfl] at hr;replace hr:=HD hr;obtain⟨b0,b1,p0,p1⟩:=okS_iff.1 hb;obtain⟨o1,o2,o3,o4⟩:=QS.ok hwf;obtain⟨h0,h1,h2,h3,h4,h5,h6,h7,h8,h9⟩:=hwf;obtain⟨⟨z0,z1,z2⟩,⟨f0,f1,f2⟩,hlt⟩:=hq.cells;have hadd:=fun (W:World) (t:TypeId)=>complex_add (a:=q.cB) (b:=q.cP) (c:=q.rB) (d:=q.rP) (by omega) (by omega) (by omega) (by omega) (by omega) (by omega) W t
 have hQ:=HD hq;have hset:=HD (hq.set0 b p);have kst:=fun (a:Addr) (x y:Nat) (W:World)=>run_store Tryz.prog W a (.complex .f64 x y) .plain rfl
 by_cases hfit:q.cB+q.rB≤b∧q.cP+q.rP≤p
 ·rw [show q.sizE b p=0 by unfold QS.sizE;rw [if_pos hfit],show q.siz b p={q with lB:=b,lP:=p} by unfold QS.siz;rw [if_pos hfit]]
  have hfy:=HD (fun (W:World)=>fits_yes _ _ b p W o4 hb hfit);clear hfit;replace o1:=HD o1;replace o2:=HD o2;replace o3:=HD o3;replace o4:=HD o4;replace hb:=HD hb;generalize F (q.cB+q.rB)=x1 at *;generalize F (q.cP+q.rP)=x2 at *;go_enter Tryz.func92,Tryz.ntmps92
  go_wp2_with fail;refine hr.out.mono ?_;rintro e w' ⟨rfl,hw⟩;obtain rfl:=hw.symm;clear hw;go_wp2_with fail;go_quiet (fail)
  go_wp2_with fail;refine(hfy.out _).mono ?_;rintro e w' ⟨rfl,hw⟩;obtain rfl:=hw.symm;clear hw;go_wp2_with fail;go_ret
  exact⟨rfl,hset.out.only (bs:=fun _=>False) ((Only.refl _ _).drewN _) (fun q=>q),((Only.refl (· = qb) w).setCell (p:=⟨qb,0,none⟩) (fun _=>rfl) _).drewN _⟩
 ·rw [show q.sizE b p=3 by unfold QS.sizE;rw [if_neg hfit],show q.siz b p=q by unfold QS.siz;rw [if_neg hfit]]
  have hfy:=HD (fun (W:World)=>fits_no _ _ b p W o4 hb hfit);clear hfit;replace o1:=HD o1;replace o2:=HD o2;replace o3:=HD o3;replace o4:=HD o4;replace hb:=HD hb;generalize F (q.cB+q.rB)=x1 at *;generalize F (q.cP+q.rP)=x2 at *;go_enter Tryz.func92,Tryz.ntmps92
  go_wp2_with fail;refine hr.out.mono ?_;rintro e w' ⟨rfl,hw⟩;obtain rfl:=hw.symm;clear hw;go_wp2_with fail;go_quiet (fail)
  go_wp2_with fail;refine(hfy.out _).mono ?_;rintro e w' ⟨rfl,hw⟩;obtain rfl:=hw.symm;clear hw;go_wp2_with fail;go_ret
  exact⟨rfl,hQ.out,(Only.refl _ _).drewN _⟩
theorem new_yes(b p:Int)(w:World)(hb:okS b p=true) :
  Calls Tryz.prog 88 #[.complex .f64 (F b) (F p)] w fun e w'=>e=.returned (.tuple #[.pointer (some ⟨w.heap.size,0,none⟩),.int .i64 0])∧w'=w.alloc (.cells #[.complex .f64 (F b) (F p),.complex .f64 0 0,.complex .f64 0 0] 182):=by
 have hr:=fun w=>rightS (b:=b) (p:=p) (by have:=okS_iff.1 hb;omega) (by have:=okS_iff.1 hb;omega) w
 rw [hb] at hr;replace hr:=HD hr;clear hb;go_enter Tryz.func88,Tryz.ntmps88
 go_wp2_with fail;refine(hr.out _).mono ?_;rintro e w' ⟨rfl,hw⟩;obtain rfl:=hw.symm;clear hw;go_wp2_with fail;go_ret2
 exact⟨rfl,rfl⟩
end
end Go.Proofs.YtfliaggjkianpaaGreatDoor
