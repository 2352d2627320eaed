import Derived.Test.YtfliaggjkianpaaGreatDoorK00
import Derived.Test.YtfliaggjkianpaaGreatDoorK02
import Derived.Test.YtfliaggjkianpaaGreatDoorK03
import Derived.Test.YtfliaggjkianpaaGreatDoorK04
import Derived.Test.YtfliaggjkianpaaGreatDoorK06
import Derived.Test.YtfliaggjkianpaaGreatDoorK05
set_option linter.unusedVariables false
set_option linter.unusedSimpArgs false
set_option maxRecDepth 100000
namespace Go.Proofs.YtfliaggjkianpaaGreatDoor
section
open Go.RowKit
theorem or_sh{a x:Int}(j:Nat)(h0:0≤a)(ha:a<((2^j:Nat):Int))(hx:0≤x)(hj:a<18446744073709551616)(hb:x*((2^j:Nat):Int)<18446744073709551616):bits BinOp.or IntKind.u64 a (x*((2^j:Nat):Int))=a+x*((2^j:Nat):Int):=by
 obtain⟨a,rfl⟩:∃k:Nat,a=k:=⟨a.toNat,by omega⟩
 obtain⟨x,rfl⟩:∃k:Nat,x=k:=⟨x.toNat,by omega⟩
 have e:((x:Int)*((2^j:Nat):Int))=((x*2^j:Nat):Int):=by simp
 rw [e] at hb ⊢;have hpos:0<2^j:=Nat.two_pow_pos j;have h3:a<2^j:=by omega
 by_cases hx0:x=0
 ·subst hx0
  simp only [Nat.zero_mul];rw [bits_or_u64_nat _ _ (by omega) (by omega)];simp
 ·have h4:2^j≤x*2^j:=Nat.le_mul_of_pos_left _ (by omega)
  generalize hz:x*2^j=z at *;rw [bits_or_u64_nat _ _ (by omega) (by omega)];have h5:=Nat.two_pow_add_eq_or_of_lt h3 x;rw [Nat.mul_comm,hz] at h5;rw [Nat.or_comm,←h5];omega
def packN(t s r n:Int):Nat:=(t+16*r+128*s+1048576*n).toNat
def keyV(t s r n:Int):Value:=.agg #[.int .i64 t,.int .i64 s,.int .i64 r,.int .i64 n]
def packE(t s r n:Int):Value:=if keyOK t s r n then .tuple #[.int .u64 (packN t s r n:Nat),.int .i64 0] else .tuple #[.int .u64 0,.int .i64 12]
theorem hnPack(t s r n:Int)(w:World) :
  Calls Tryz.prog 215 #[.agg #[.int .i64 t,.int .i64 s,.int .i64 r,.int .i64 n]] w fun e w'=>e=.returned (packE t s r n)∧Below w.heap.size w w':=by
 have hB:=HD ((Below.refl w.heap.size w).alloc (Nat.le_refl _) (.cells #[.int .i64 t,.int .i64 s,.int .i64 r,.int .i64 n] 269));have hC:=fun w=>hnCheck t s r n w
 unfold packE;by_cases h:keyOK t s r n
 ·rw [if_pos h]
  have e:keyE t s r n=0:=if_pos h;rw [e] at hC;obtain⟨h1,h2,h3,h4⟩:=h;clear e;go_enter Tryz.func215,Tryz.ntmps215
  go_wp2_with fail;refine(hC _).mono ?_;rintro e w1 ⟨rfl,hb⟩;have k0:w1.cell? ⟨w.heap.size,0,none⟩=some (.int .i64 t):=keep_below hb (by simp) (by simp);have k1:w1.cell? ⟨w.heap.size,1,none⟩=some (.int .i64 s):=keep_below hb (by simp) (by simp);have k2:w1.cell? ⟨w.heap.size,2,none⟩=some (.int .i64 r):=keep_below hb (by simp) (by simp);have k3:w1.cell? ⟨w.heap.size,3,none⟩=some (.int .i64 n):=keep_below hb (by simp) (by simp);replace hb:=HD hb;have u1:=IntWalk.u64_in t (by omega);have u2:=IntWalk.u64_in s (by omega);have u3:=IntWalk.u64_in r (by omega);have u4:=IntWalk.u64_in n (by omega);go_wp2_with fail;go_ret2
  refine⟨?_,hB.out.trans (hb.out.mono (by simp))⟩;have o1:=or_sh (a:=t) (x:=r) 4 (by omega) (by omega) (by omega) (by omega) (by omega);have o2:=or_sh (a:=t+r*16) (x:=s) 7 (by omega) (by omega) (by omega) (by omega) (by omega);have o3:=or_sh (a:=t+r*16+s*128) (x:=n) 20 (by omega) (by omega) (by omega) (by omega) (by omega);have hP:bits BinOp.or IntKind.u64 (bits BinOp.or IntKind.u64 (bits BinOp.or IntKind.u64 t (r*16)) (s*128)) (n*1048576)=(packN t s r n:Nat):=by
   have e1:bits BinOp.or IntKind.u64 t (r*16)=t+r*16:=o1;have e2:bits BinOp.or IntKind.u64 (t+r*16) (s*128)=t+r*16+s*128:=o2;have e3:bits BinOp.or IntKind.u64 (t+r*16+s*128) (n*1048576)=t+r*16+s*128+n*1048576:=o3;rw [e1,e2,e3];unfold packN;omega
  rw [hP];rfl
 ·rw [if_neg h]
  have e:keyE t s r n=12:=if_neg h;rw [e] at hC;clear e h;go_enter Tryz.func215,Tryz.ntmps215
  go_wp2_with fail;refine(hC _).mono ?_;rintro e w1 ⟨rfl,hb⟩;replace hb:=HD hb;go_wp2_with fail;go_ret2
  exact⟨rfl,hB.out.trans (hb.out.mono (by simp))⟩
theorem and_low{a:Nat}(j:Nat)(ha:a<18446744073709551616)(hj:2^j<18446744073709551616):bits BinOp.and IntKind.u64 (a:Int) ((2^j-1:Nat):Int)=((a%2^j:Nat):Int):=by
 rw [bits_and_u64_nat _ _ ha (by omega),Nat.and_two_pow_sub_one_eq_mod]
def KV(t s r n:Int):Array Value:=#[.int .i64 t,.int .i64 s,.int .i64 r,.int .i64 n]
def unT(h:Nat):Int:=(h:Int)%16
def unR(h:Nat):Int:=(h:Int)/16%8
def unS(h:Nat):Int:=(h:Int)/128%8192
def unN(h:Nat):Int:=(h:Int)/1048576
def unOK(h:Nat):Prop:=keyOK (unT h) (unS h) (unR h) (unN h)
instance (h:Nat):Decidable (unOK h):=by unfold unOK;infer_instance
def unV(h:Nat):Value:=if unOK h then .tuple #[keyV (unT h) (unS h) (unR h) (unN h),.int .i64 0] else .tuple #[keyV 0 0 0 0,.int .i64 5]
theorem hnUnpack(h:Nat)(hh:h<18446744073709551616)(w:World) :
  Calls Tryz.prog 214 #[.int .u64 h] w fun e w'=>e=.returned (unV h)∧Below w.heap.size w w':=by
 have a1:bits BinOp.and IntKind.u64 (h:Int) 15=(h:Int)%16:=(and_low 4 hh (by decide)).trans (by omega);have a2:bits BinOp.and IntKind.u64 ((h:Int)/16) 7=(h:Int)/16%8:=by
  have:=and_low (a:=h/16) 3 (by omega) (by decide);rw [show ((h:Int)/16)=((h/16:Nat):Int) by omega];exact this.trans (by omega)
 have a3:bits BinOp.and IntKind.u64 ((h:Int)/128) 8191=(h:Int)/128%8192:=by
  have:=and_low (a:=h/128) 13 (by omega) (by decide);rw [show ((h:Int)/128)=((h/128:Nat):Int) by omega];exact this.trans (by omega)
 have b2:=IntWalk.i64_in ((h:Int)/16%8) (by omega);have b3:=IntWalk.i64_in ((h:Int)/128%8192) (by omega);have hC:=fun w=>hnCheck (unT h) (unS h) (unR h) (unN h) w
 have hB0:Blk (w.alloc (.cells (KV 0 0 0 0) 269)) (fun _=>[]) [] w.heap.size (KV 0 0 0 0) 269:=⟨rfl,heap_alloc_new w _⟩
 have hB1:∀x1 x2 x3 x4:Int,Blk ((w.alloc (.cells (KV 0 0 0 0) 269)).alloc (.cells (KV x1 x2 x3 x4) 269)) (fun _=>[]) [] (w.heap.size+1) (KV x1 x2 x3 x4) 269:=fun x1 x2 x3 x4=>⟨rfl,by
  have:=heap_alloc_new (w.alloc (.cells (KV 0 0 0 0) 269)) (.cells (KV x1 x2 x3 x4) 269)
  rwa [World.size_alloc] at this⟩
 by_cases hk:unOK h
 ·have e1:unV h=.tuple #[keyV (unT h) (unS h) (unR h) (unN h),.int .i64 0]:=if_pos hk
  have e2:keyE (unT h) (unS h) (unR h) (unN h)=0:=if_pos hk;rw [e1];rw [e2] at hC;clear e1 e2 hk;unfold keyV unT unS unR unN at *;go_enter Tryz.func214,Tryz.ntmps214
  go_wp2_with fail;refine(hC _).mono ?_;rintro e w1 ⟨rfl,hb⟩;have q0:=(hB0.alloc (.cells (KV ((h:Int)%16) ((h:Int)/128%8192) ((h:Int)/16%8) ((h:Int)/1048576)) 269)).fr (Fr.below (S:=fun _=>False) (o:=fun _=>[]) hb) (fun q=>q);have q1:=(hB1 ((h:Int)%16) ((h:Int)/128%8192) ((h:Int)/16%8) ((h:Int)/1048576)).fr (Fr.below (S:=fun _=>False) (o:=fun _=>[]) hb) (fun q=>q);have hBl:=HD (show Below w.heap.size w w1 from(((Below.refl w.heap.size w).alloc (Nat.le_refl _) _).alloc (by simp) _).trans (hb.mono (by simp;omega)));have c00:w1.cell? ⟨w.heap.size,0,none⟩=some (.int .i64 0):=q0.cell' (i:=0) rfl;have c01:w1.cell? ⟨w.heap.size,1,none⟩=some (.int .i64 0):=q0.cell' (i:=1) rfl;have c02:w1.cell? ⟨w.heap.size,2,none⟩=some (.int .i64 0):=q0.cell' (i:=2) rfl;have c03:w1.cell? ⟨w.heap.size,3,none⟩=some (.int .i64 0):=q0.cell' (i:=3) rfl;have f00:=q0.free 0;have f01:=q0.free 1;have f02:=q0.free 2;have f03:=q0.free 3;have c10:w1.cell? ⟨w.heap.size+1,0,none⟩=some (.int .i64 ((h:Int)%16)):=q1.cell' (i:=0) rfl;have c11:w1.cell? ⟨w.heap.size+1,1,none⟩=some (.int .i64 ((h:Int)/128%8192)):=q1.cell' (i:=1) rfl;have c12:w1.cell? ⟨w.heap.size+1,2,none⟩=some (.int .i64 ((h:Int)/16%8)):=q1.cell' (i:=2) rfl;have c13:w1.cell? ⟨w.heap.size+1,3,none⟩=some (.int .i64 ((h:Int)/1048576)):=q1.cell' (i:=3) rfl;replace q0:=HD q0;clear q1 hb;go_wp2_with fail;have Q:=(((q0.out.set 0 (.int .i64 ((h:Int)%16))).set 1 (.int .i64 ((h:Int)/128%8192))).set 2 (.int .i64 ((h:Int)/16%8))).set 3 (.int .i64 ((h:Int)/1048576));have d0:=Q.cell' (i:=0) (v:=.int .i64 ((h:Int)%16)) rfl;have d1:=Q.cell' (i:=1) (v:=.int .i64 ((h:Int)/128%8192)) rfl;have d2:=Q.cell' (i:=2) (v:=.int .i64 ((h:Int)/16%8)) rfl;have d3:=Q.cell' (i:=3) (v:=.int .i64 ((h:Int)/1048576)) rfl;have hlt:=q0.out.lt;have hF:=hBl.out.size;refine bodyPost_ret (v:=.tuple #[keyV ((h:Int)%16) ((h:Int)/128%8192) ((h:Int)/16%8) ((h:Int)/1048576),.int .i64 0]) ?_ rfl ⟨rfl,?_⟩
  ·unfold keyV
   rw [results_cell_tmp (p:=2) (u:=3) (ty:=269) (by kernel_rfl)];clear Q;go_simp
  ·exact(((hBl.out.setCell (Nat.le_refl _) _).setCell (Nat.le_refl _) _).setCell (Nat.le_refl _) _).setCell (Nat.le_refl _) _
 ·have e1:unV h=.tuple #[keyV 0 0 0 0,.int .i64 5]:=if_neg hk
  have e2:keyE (unT h) (unS h) (unR h) (unN h)=12:=if_neg hk;rw [e1];rw [e2] at hC;clear e1 e2 hk;unfold keyV;unfold unT unS unR unN at *;go_enter Tryz.func214,Tryz.ntmps214
  go_wp2_with fail;refine(hC _).mono ?_;rintro e w1 ⟨rfl,hb⟩;have q0:=(hB0.alloc (.cells (KV ((h:Int)%16) ((h:Int)/128%8192) ((h:Int)/16%8) ((h:Int)/1048576)) 269)).fr (Fr.below (S:=fun _=>False) (o:=fun _=>[]) hb) (fun q=>q);have q1:=(hB1 ((h:Int)%16) ((h:Int)/128%8192) ((h:Int)/16%8) ((h:Int)/1048576)).fr (Fr.below (S:=fun _=>False) (o:=fun _=>[]) hb) (fun q=>q);have hBl:=HD (show Below w.heap.size w w1 from(((Below.refl w.heap.size w).alloc (Nat.le_refl _) _).alloc (by simp) _).trans (hb.mono (by simp;omega)));have c00:w1.cell? ⟨w.heap.size,0,none⟩=some (.int .i64 0):=q0.cell' (i:=0) rfl;have c01:w1.cell? ⟨w.heap.size,1,none⟩=some (.int .i64 0):=q0.cell' (i:=1) rfl;have c02:w1.cell? ⟨w.heap.size,2,none⟩=some (.int .i64 0):=q0.cell' (i:=2) rfl;have c03:w1.cell? ⟨w.heap.size,3,none⟩=some (.int .i64 0):=q0.cell' (i:=3) rfl;have f00:=q0.free 0;have f01:=q0.free 1;have f02:=q0.free 2;have f03:=q0.free 3;have c10:w1.cell? ⟨w.heap.size+1,0,none⟩=some (.int .i64 ((h:Int)%16)):=q1.cell' (i:=0) rfl;have c11:w1.cell? ⟨w.heap.size+1,1,none⟩=some (.int .i64 ((h:Int)/128%8192)):=q1.cell' (i:=1) rfl;have c12:w1.cell? ⟨w.heap.size+1,2,none⟩=some (.int .i64 ((h:Int)/16%8)):=q1.cell' (i:=2) rfl;have c13:w1.cell? ⟨w.heap.size+1,3,none⟩=some (.int .i64 ((h:Int)/1048576)):=q1.cell' (i:=3) rfl;replace q0:=HD q0;clear q1 hb;go_wp2_with fail;have Q:=(((q0.out.set 0 (.int .i64 (0))).set 1 (.int .i64 (0))).set 2 (.int .i64 (0))).set 3 (.int .i64 (0));have d0:=Q.cell' (i:=0) (v:=.int .i64 (0)) rfl;have d1:=Q.cell' (i:=1) (v:=.int .i64 (0)) rfl;have d2:=Q.cell' (i:=2) (v:=.int .i64 (0)) rfl;have d3:=Q.cell' (i:=3) (v:=.int .i64 (0)) rfl;have hlt:=q0.out.lt;have hF:=hBl.out.size;refine bodyPost_ret (v:=.tuple #[keyV (0) (0) (0) (0),.int .i64 5]) ?_ rfl ⟨rfl,?_⟩
  ·unfold keyV
   rw [results_cell_tmp (p:=2) (u:=3) (ty:=269) (by kernel_rfl)];clear Q;go_simp
  ·exact(((hBl.out.setCell (Nat.le_refl _) _).setCell (Nat.le_refl _) _).setCell (Nat.le_refl _) _).setCell (Nat.le_refl _) _
end
section
open Go.RowKit
abbrev Slot:=(Int×Int)×Int
abbrev eS:Slot→Value:=fun x=>.agg #[.int .i64 x.1.1,.int .i64 x.1.2,.int .i64 x.2]
structure CpS where
 tenant:Int
 next:Int
 slots:List (Int×Slot)
 obj:ShS
 ext:ShS
def CpAt(w:World)(o:Nat→Tag)(t:Tag)(b:Nat)(s:CpS):Prop :=
 ∃g bo be,Blk w o t b #[.int .i64 s.tenant,.int .i64 s.next,.map (some g),.pointer (some ⟨bo,0,none⟩),.pointer (some ⟨be,0,none⟩)] 195 ∧
  MpAt w o t g .i64 eS s.slots∧ShAt w o (t++[0]) bo s.obj∧ShAt w o (t++[1]) be s.ext∧b≠g
theorem CpAt.fr{S:Tag→Prop}{w w':World}{o o':Nat→Tag}{t:Tag}{b:Nat}{s:CpS}(h:CpAt w o t b s)(f:Fr S w o w' o')(hS:Off S t):CpAt w' o' t b s:=by
 obtain⟨g,bo,be,h1,h2,h3,h4,h5⟩:=h;exact⟨g,bo,be,h1.fr f hS.self,h2.fr f hS.self,h3.fr f (hS.sub [0]),h4.fr f (hS.sub [1]),h5⟩
theorem zeroS(w:World):(zeroValue 230).run Tryz.prog w=.ok (eS ((0,0),0)) w:=by kernel_rfl
theorem cpSerial(b:Nat)(w:World){o:Nat→Tag}{t:Tag}{s:CpS}(h:CpAt w o t b s) :
  Calls Tryz.prog 94 #[.pointer (some ⟨b,0,none⟩)] w fun e w'=>e=.returned (.int .i64 s.next)∧w'=w:=by
 obtain⟨g,bo,be,h1,_⟩:=h;have c1:w.cell? ⟨b,1,none⟩=some (.int .i64 s.next):=h1.cell' (i:=1) rfl;clear h1;go_enter Tryz.func94,Tryz.ntmps94
 go_wp2_with fail;go_ret
 exact⟨rfl,rfl⟩
def mayR(a r:Int):Bool:=bits BinOp.and IntKind.i64 a r==r
theorem cpMay(a n r:Int)(w:World) :
  Calls Tryz.prog 163 #[.agg #[.int .i64 a,.int .i64 n],.int .i64 r] w fun e w'=>e=.returned (.bool (mayR a r))∧Below w.heap.size w w':=by
 have hB:=HD ((Below.refl w.heap.size w).alloc (Nat.le_refl _) (.cells #[.int .i64 a,.int .i64 n] 228));unfold mayR;go_enter Tryz.func163,Tryz.ntmps163
 go_wp2_with fail;go_ret
 exact⟨rfl,hB.out⟩
def CpS.look(s:CpS)(h:Nat):Option Slot:=if unOK h then (mGet s.slots (unS h)).bind fun x=>if unT h=s.tenant∧x.1=(unR h,unN h) then some x else none else none
def CpS.lookV(s:CpS)(h:Nat):Value:=match s.look h with
 |some x=>.tuple #[eS x,.int .i64 0]
 |none=>.tuple #[eS ((0,0),0),.int .i64 5]
theorem fr_below{w w':World}{o:Nat→Tag}(h:Below w.heap.size w w'):Fr (fun _=>False) w o w' o:=Fr.below h
theorem eq_good(a b c d:Int)(w:World):(Op.equalIn 10000 228 (.agg #[.int .i64 a,.int .i64 b]) (.agg #[.int .i64 c,.int .i64 d])).run Tryz.prog w=.ok (decide (a=c∧b=d)) w:=by
 have u3:=Tryz.underlying3;have a3:=Tryz.isAgg3;have z3:=Tryz.sizeOf3;have hS:Tryz.prog.underlying 228=some (.struct (Tryz.prog.fieldsOf 228)):=by kernel_rfl
 have hp:Tryz.prog.stoodInHeld 228=false:=by kernel_rfl
 rw [show (10000:Nat)=9999+1 from rfl,run_equalIn_agg w 9999 228 _ _ hS hp];simp only [Program.fieldsOf,Tryz.underlying228];go_simp;by_cases h1:a=c<;>by_cases h2:b=d<;>simp [h1,h2]
theorem slot_of(M:List (Int×Slot))(k:Int):∃a n d th,((th=true∧mGet M k=some ((a,n),d))∨(th=false∧mGet M k=none))∧∀(w:World) (o:Nat→Tag) (t:Tag) (g:Nat),MpAt w o t g .i64 eS M →
  (Instr.lookup 193 (.map (some g)) (.int .i64 k) true).run Tryz.prog w=.ok (.tuple #[.agg #[.int .i64 a,.int .i64 n,.int .i64 d],.bool th]) w:=by
 cases e:mGet M k with
 |none=>exact⟨0,0,0,false,.inr ⟨rfl,rfl⟩,fun w o t g h=>by
   have:=mp_lookup h (P:=Tryz.prog) Tryz.underlying193 Tryz.underlying3 zeroS k true;rw [this,e];rfl⟩
 |some x=>exact⟨x.1.1,x.1.2,x.2,true,.inl ⟨rfl,rfl⟩,fun w o t g h=>by
   have:=mp_lookup h (P:=Tryz.prog) Tryz.underlying193 Tryz.underlying3 zeroS k true;rw [this,e];rfl⟩
set_option maxHeartbeats 4000000 in
theorem cpFind0(b:Nat)(h:Nat)(hh:h<18446744073709551616)(w:World){o:Nat→Tag}{t:Tag}{s:CpS}(hc:CpAt w o t b s) :
  Calls Tryz.prog 162 #[.pointer (some ⟨b,0,none⟩),.int .u64 h] w fun e w'=>e=.returned (s.lookV h)∧Below w.heap.size w w':=by
 have hu:=fun w=>hnUnpack h hh w
 obtain⟨g,bo,be,h1,h2,h3,h4,h5⟩:=hc;by_cases hok:unOK h
 ·have e:unV h=.tuple #[keyV (unT h) (unS h) (unR h) (unN h),.int .i64 0]:=if_pos hok
  rw [e] at hu;unfold keyV at hu;replace hu:=HD hu;clear e;have hl:s.look h=(mGet s.slots (unS h)).bind fun x=>if unT h=s.tenant∧x.1=(unR h,unN h) then some x else none:=if_pos hok
  generalize unT h=T at *;generalize unS h=L at *;generalize unR h=R at *;generalize unN h=N at *;obtain⟨a,n,d,th,hrel,hlk⟩:=slot_of s.slots L;have hsee:=HD (show ∀W,Below w.heap.size w W→W.cell? ⟨b,2,none⟩=some (.map (some g))∧W.cell? ⟨b,0,none⟩=some (.int .i64 s.tenant)∧(Instr.lookup 193 (.map (some g)) (.int .i64 L) true).run Tryz.prog W=.ok (.tuple #[.agg #[.int .i64 a,.int .i64 n,.int .i64 d],.bool th]) W from fun W hb=>by
   have f:Fr (fun _=>False) w o W o:=fr_below hb;have q1:=h1.fr f (fun q=>q);exact⟨q1.cell' (i:=2) rfl,q1.cell' (i:=0) rfl,hlk W o t g (h2.fr f (fun q=>q))⟩)
  clear h1 h2 h3 h4 h5 hlk;go_enter Tryz.func162,Tryz.ntmps162
  go_wp2_with fail;refine(hu.out _).mono ?_;rintro e w1 ⟨rfl,hb⟩;have hsz:=hb.size;simp at hsz
  have hB1:Below w.heap.size w (w1.alloc (.cells #[.int .i64 T,.int .i64 L,.int .i64 R,.int .i64 N] 269)):=(((Below.refl w.heap.size w).alloc (Nat.le_refl _) _).trans (hb.mono (by simp))).alloc (by omega) _;have hB2:=hB1.drew;have hB3:=hB2.alloc (by simp;omega) (.cells #[.int .i64 0,.int .i64 0,.int .i64 0] 230);obtain⟨c2,_,hlk⟩:=hsee.out _ hB2;obtain⟨c2',_,hlk'⟩:=hsee.out _ hB3;have k1:(w1.alloc (.cells #[.int .i64 T,.int .i64 L,.int .i64 R,.int .i64 N] 269)).drew.cell? ⟨w1.heap.size,1,none⟩=some (.int .i64 L):=(Blk.made w1 o t _ _).cell' (i:=1) rfl;have k1':((w1.alloc (.cells #[.int .i64 T,.int .i64 L,.int .i64 R,.int .i64 N] 269)).drew.alloc (.cells #[.int .i64 0,.int .i64 0,.int .i64 0] 230)).cell? ⟨w1.heap.size,1,none⟩=some (.int .i64 L):=((Blk.made w1 o t _ _).drew.alloc _).cell' (i:=1) rfl;have hB4:=(hB1.alloc (by simp;omega) (.cells #[.int .i64 a,.int .i64 n,.int .i64 d] 230)).drew;obtain⟨c2'',cT,hlk''⟩:=hsee.out _ hB4;have qK:=((Blk.made w1 o t #[.int .i64 T,.int .i64 L,.int .i64 R,.int .i64 N] 269).alloc (.cells #[.int .i64 a,.int .i64 n,.int .i64 d] 230)).drew.drew;have qS:=(Blk.made (w1.alloc (.cells #[.int .i64 T,.int .i64 L,.int .i64 R,.int .i64 N] 269)) o t #[.int .i64 a,.int .i64 n,.int .i64 d] 230).drew.drew;rw [World.size_alloc] at qS;have q0:=((((Blk.made w o t #[.int .i64 0,.int .i64 0,.int .i64 0] 230).fr (S:=fun _=>False) (Fr.below hb) (fun q=>q)).alloc (.cells #[.int .i64 T,.int .i64 L,.int .i64 R,.int .i64 N] 269)).alloc (.cells #[.int .i64 a,.int .i64 n,.int .i64 d] 230)).drew.drew;have k1'':=qK.cell' (i:=1) (v:=.int .i64 L) rfl;have k0:=qK.cell' (i:=0) (v:=.int .i64 T) rfl;have k2:=qK.cell' (i:=2) (v:=.int .i64 R) rfl;have k3:=qK.cell' (i:=3) (v:=.int .i64 N) rfl;have s0:=qS.cell' (i:=0) (v:=.int .i64 a) rfl;have s1:=qS.cell' (i:=1) (v:=.int .i64 n) rfl;have s2:=qS.cell' (i:=2) (v:=.int .i64 d) rfl;have r0:=q0.cell' (i:=0) (v:=.int .i64 0) rfl;have r1:=q0.cell' (i:=1) (v:=.int .i64 0) rfl;have r2:=q0.cell' (i:=2) (v:=.int .i64 0) rfl;have g0:=q0.free 0;have g1:=q0.free 1;have g2:=q0.free 2;have cT':(((w1.alloc (.cells #[.int .i64 T,.int .i64 L,.int .i64 R,.int .i64 N] 269)).alloc (.cells #[.int .i64 a,.int .i64 n,.int .i64 d] 230)).drew.drew).cell? ⟨b,0,none⟩=some (.int .i64 s.tenant):=cT;have hBW:=HD hB4.drew;clear qK qS hB1 hB2 hB3 hB4 hb hsee;go_wp2_with fail;refine wp_region_noPanic ?_;refine wp_region_held_drew (S:=(fun W=>W.cell? ⟨b,2,none⟩=some (.map (some g))∧W.cell? ⟨w1.heap.size,1,none⟩=some (.int .i64 L)∧(Instr.lookup 193 (.map (some g)) (.int .i64 L) true).run Tryz.prog W=.ok (.tuple #[.agg #[.int .i64 a,.int .i64 n,.int .i64 d],.bool th]) W)) (by kernel_rfl) ?_ (fun hHeld=>?_)
  ·(try dsimp only)
   (first|exact⟨c2,k1,hlk⟩|exact⟨c2',k1',hlk'⟩|exact⟨c2'',k1'',hlk''⟩)
  refine tkH 0 (h:=?_);refine tkH 1 (h:=?_);refine tkH 2 (h:=?_);refine tkH 3 (h:=?_);refine tkH 4 (h:=?_);refine tkH 5 (h:=?_);refine tkH 6 (h:=?_);refine tkH 7 (h:=?_);refine tkH 8 (h:=?_);refine tkH 9 (h:=?_);refine onH 10 (h:=fun K hK=>?_);go_simp;refine hK.out _ _ ?_ (fun hHeld=>?_)
  ·(try dsimp only)
   (first|exact⟨c2,k1,hlk⟩|exact⟨c2',k1',hlk'⟩|exact⟨c2'',k1'',hlk''⟩)
  clear hK;refine nmH (h:=?_);refine onH 11 (h:=fun K hK=>?_);go_simp;refine hK.out _ _ ?_ (fun hHeld=>?_)
  ·(try dsimp only)
   (first|exact⟨c2,k1,hlk⟩|exact⟨c2',k1',hlk'⟩|exact⟨c2'',k1'',hlk''⟩)
  clear hK;refine nmH (h:=?_);refine tkH 12 (h:=?_);refine wpAnyH_done (by kernel_rfl) ?_ _;refine NoPanic.normal ?_;clear c2 c2' c2'' hlk hlk' hlk'' k1 k1' k1'' cT;generalize hW4:((w1.alloc (.cells #[.int .i64 T,.int .i64 L,.int .i64 R,.int .i64 N] 269)).alloc (.cells #[.int .i64 a,.int .i64 n,.int .i64 d] 230)).drew=W4 at *;clear hW4;rcases hrel with ⟨rfl,hm⟩|⟨rfl,hm⟩
  ·by_cases hT:T=s.tenant
   ·by_cases hG:a=R∧n=N
    ·have hx:∀w,(Op.equalIn 10000 228 (.agg #[.int .i64 a,.int .i64 n]) (.agg #[.int .i64 R,.int .i64 N])).run Tryz.prog w=.ok true w:=fun w=>by rw [eq_good,decide_eq_true hG]
     have hT':(T != s.tenant)=false:=by simpa using hT
     have hres:=HD (show Ending.returned (.tuple #[.agg #[.int .i64 a,.int .i64 n,.int .i64 d],.int .i64 0])=.returned (s.lookV h) from by
      unfold CpS.lookV;rw [hl,hm];obtain⟨rfl,rfl⟩:=hG;simp [hT])
     clear hl hT hG hm hok hh;go_wp2_with fail;refine wp_region_noPanic ?_;refine wp_region_held_drew (S:=(fun W=>W.cell? ⟨b,0,none⟩=some (.int .i64 s.tenant)∧W.cell? ⟨w1.heap.size,0,none⟩=some (.int .i64 T)∧W.cell? ⟨w1.heap.size,2,none⟩=some (.int .i64 R)∧W.cell? ⟨w1.heap.size,3,none⟩=some (.int .i64 N)∧W.cell? ⟨w1.heap.size+1,0,none⟩=some (.int .i64 a)∧W.cell? ⟨w1.heap.size+1,1,none⟩=some (.int .i64 n))) (by kernel_rfl) ?_ (fun hHeld=>?_)
     ·(try dsimp only)
      exact⟨cT',k0,k2,k3,s0,s1⟩
     refine tkH 0 (h:=?_);refine tkH 1 (h:=?_);refine tkH 2 (h:=?_);refine tkH 3 (h:=?_);refine tkH 4 (h:=?_);refine tkH 5 (h:=?_);refine tkH 6 (h:=?_);refine tkH 7 (h:=?_);refine tkH 8 (h:=?_);refine tkH 9 (h:=?_);refine tkH 10 (h:=?_);refine tkH 11 (h:=?_);refine tkH 12 (h:=?_);refine tkH 13 (h:=?_);refine tkH 14 (h:=?_);refine tkH 15 (h:=?_);refine tkH 16 (h:=?_);refine tkH 17 (h:=?_);refine tkH 18 (h:=?_);refine tkH 19 (h:=?_);refine tkH 20 (h:=?_);refine tkH 21 (h:=?_);refine tkH 22 (h:=?_);refine tkH 23 (h:=?_);refine tkH 24 (h:=?_);refine wpAnyH_done (by kernel_rfl) ?_ _;refine NoPanic.normal ?_;generalize W4.drew=W5 at *;go_wp2_with fail;have Q:=((q0.set 0 (.int .i64 a)).set 1 (.int .i64 n)).set 2 (.int .i64 d);have d0:=Q.cell' (i:=0) (v:=.int .i64 a) rfl;have d1:=Q.cell' (i:=1) (v:=.int .i64 n) rfl;have d2:=Q.cell' (i:=2) (v:=.int .i64 d) rfl;refine bodyPost_ret (v:=.tuple #[.agg #[.int .i64 a,.int .i64 n,.int .i64 d],.int .i64 0]) ?_ rfl ⟨hres.out,?_⟩
     ·rw [results_cell_tmp (p:=4) (u:=5) (ty:=230) (by kernel_rfl)]
      clear Q q0;go_simp
     ·exact(((hBW.out.setCell (Nat.le_refl _) _).setCell (Nat.le_refl _) _).setCell (Nat.le_refl _) _)
    ·have hx:∀w,(Op.equalIn 10000 228 (.agg #[.int .i64 a,.int .i64 n]) (.agg #[.int .i64 R,.int .i64 N])).run Tryz.prog w=.ok false w:=fun w=>by rw [eq_good,decide_eq_false hG]
     have hT':(T != s.tenant)=false:=by simpa using hT
     have hres:=HD (show Ending.returned (.tuple #[.agg #[.int .i64 0,.int .i64 0,.int .i64 0],.int .i64 5])=.returned (s.lookV h) from by
      unfold CpS.lookV;rw [hl];rw [hm];simp [hT,hG])
     clear hl hT hG hm hok hh;go_wp2_with fail;refine wp_region_noPanic ?_;refine wp_region_held_drew (S:=(fun W=>W.cell? ⟨b,0,none⟩=some (.int .i64 s.tenant)∧W.cell? ⟨w1.heap.size,0,none⟩=some (.int .i64 T)∧W.cell? ⟨w1.heap.size,2,none⟩=some (.int .i64 R)∧W.cell? ⟨w1.heap.size,3,none⟩=some (.int .i64 N)∧W.cell? ⟨w1.heap.size+1,0,none⟩=some (.int .i64 a)∧W.cell? ⟨w1.heap.size+1,1,none⟩=some (.int .i64 n))) (by kernel_rfl) ?_ (fun hHeld=>?_)
     ·(try dsimp only)
      exact⟨cT',k0,k2,k3,s0,s1⟩
     refine tkH 0 (h:=?_);refine tkH 1 (h:=?_);refine tkH 2 (h:=?_);refine tkH 3 (h:=?_);refine tkH 4 (h:=?_);refine tkH 5 (h:=?_);refine tkH 6 (h:=?_);refine tkH 7 (h:=?_);refine tkH 8 (h:=?_);refine tkH 9 (h:=?_);refine tkH 10 (h:=?_);refine tkH 11 (h:=?_);refine tkH 12 (h:=?_);refine tkH 13 (h:=?_);refine tkH 14 (h:=?_);refine tkH 15 (h:=?_);refine tkH 16 (h:=?_);refine tkH 17 (h:=?_);refine tkH 18 (h:=?_);refine tkH 19 (h:=?_);refine tkH 20 (h:=?_);refine tkH 21 (h:=?_);refine tkH 22 (h:=?_);refine tkH 23 (h:=?_);refine tkH 24 (h:=?_);refine wpAnyH_done (by kernel_rfl) ?_ _;refine NoPanic.normal ?_;generalize W4.drew=W5 at *;go_wp2_with fail;have Q:=((q0.set 0 (.int .i64 0)).set 1 (.int .i64 0)).set 2 (.int .i64 0);have d0:=Q.cell' (i:=0) (v:=.int .i64 0) rfl;have d1:=Q.cell' (i:=1) (v:=.int .i64 0) rfl;have d2:=Q.cell' (i:=2) (v:=.int .i64 0) rfl;refine bodyPost_ret (v:=.tuple #[.agg #[.int .i64 0,.int .i64 0,.int .i64 0],.int .i64 5]) ?_ rfl ⟨hres.out,?_⟩
     ·rw [results_cell_tmp (p:=4) (u:=5) (ty:=230) (by kernel_rfl)]
      clear Q q0;go_simp
     ·exact(((hBW.out.setCell (Nat.le_refl _) _).setCell (Nat.le_refl _) _).setCell (Nat.le_refl _) _)
   ·have hT':(T != s.tenant)=true:=by simpa using hT
    have hres:=HD (show Ending.returned (.tuple #[.agg #[.int .i64 0,.int .i64 0,.int .i64 0],.int .i64 5])=.returned (s.lookV h) from by
     unfold CpS.lookV;rw [hl];rw [hm];simp [hT])
    clear hl hT hm hok hh;go_wp2_with fail;refine wp_region_noPanic ?_;refine wp_region_held_drew (S:=(fun W=>W.cell? ⟨b,0,none⟩=some (.int .i64 s.tenant)∧W.cell? ⟨w1.heap.size,0,none⟩=some (.int .i64 T)∧W.cell? ⟨w1.heap.size,2,none⟩=some (.int .i64 R)∧W.cell? ⟨w1.heap.size,3,none⟩=some (.int .i64 N)∧W.cell? ⟨w1.heap.size+1,0,none⟩=some (.int .i64 a)∧W.cell? ⟨w1.heap.size+1,1,none⟩=some (.int .i64 n))) (by kernel_rfl) ?_ (fun hHeld=>?_)
    ·(try dsimp only)
     exact⟨cT',k0,k2,k3,s0,s1⟩
    refine tkH 0 (h:=?_);refine tkH 1 (h:=?_);refine tkH 2 (h:=?_);refine tkH 3 (h:=?_);refine tkH 4 (h:=?_);refine tkH 5 (h:=?_);refine tkH 6 (h:=?_);refine tkH 7 (h:=?_);refine tkH 8 (h:=?_);refine tkH 9 (h:=?_);refine tkH 10 (h:=?_);refine tkH 11 (h:=?_);refine tkH 12 (h:=?_);refine tkH 13 (h:=?_);refine tkH 14 (h:=?_);refine tkH 15 (h:=?_);refine tkHs 16 (h:=?_);refine tkHs 17 (h:=?_);refine tkHs 18 (h:=?_);refine tkHs 19 (h:=?_);refine tkHs 20 (h:=?_);refine tkHs 21 (h:=?_);refine tkHs 22 (h:=?_);refine tkHs 23 (h:=?_);refine tkH 24 (h:=?_);refine wpAnyH_done (by kernel_rfl) ?_ _;refine NoPanic.normal ?_;generalize W4.drew=W5 at *;go_wp2_with fail;have Q:=((q0.set 0 (.int .i64 0)).set 1 (.int .i64 0)).set 2 (.int .i64 0);have d0:=Q.cell' (i:=0) (v:=.int .i64 0) rfl;have d1:=Q.cell' (i:=1) (v:=.int .i64 0) rfl;have d2:=Q.cell' (i:=2) (v:=.int .i64 0) rfl;refine bodyPost_ret (v:=.tuple #[.agg #[.int .i64 0,.int .i64 0,.int .i64 0],.int .i64 5]) ?_ rfl ⟨hres.out,?_⟩
    ·rw [results_cell_tmp (p:=4) (u:=5) (ty:=230) (by kernel_rfl)]
     clear Q q0;go_simp
    ·exact(((hBW.out.setCell (Nat.le_refl _) _).setCell (Nat.le_refl _) _).setCell (Nat.le_refl _) _)
  ·skip
   have hres:=HD (show Ending.returned (.tuple #[.agg #[.int .i64 0,.int .i64 0,.int .i64 0],.int .i64 5])=.returned (s.lookV h) from by
    unfold CpS.lookV;rw [hl];rw [hm];rfl)
   clear hl hm hok hh;go_wp2_with fail;refine wp_region_noPanic ?_;refine wp_region_held_drew (S:=(fun W=>W.cell? ⟨b,0,none⟩=some (.int .i64 s.tenant)∧W.cell? ⟨w1.heap.size,0,none⟩=some (.int .i64 T)∧W.cell? ⟨w1.heap.size,2,none⟩=some (.int .i64 R)∧W.cell? ⟨w1.heap.size,3,none⟩=some (.int .i64 N)∧W.cell? ⟨w1.heap.size+1,0,none⟩=some (.int .i64 a)∧W.cell? ⟨w1.heap.size+1,1,none⟩=some (.int .i64 n))) (by kernel_rfl) ?_ (fun hHeld=>?_)
   ·(try dsimp only)
    exact⟨cT',k0,k2,k3,s0,s1⟩
   refine tkH 0 (h:=?_);refine tkH 1 (h:=?_);refine tkH 2 (h:=?_);refine tkH 3 (h:=?_);refine tkH 4 (h:=?_);refine tkH 5 (h:=?_);refine tkH 6 (h:=?_);refine tkHs 7 (h:=?_);refine tkHs 8 (h:=?_);refine tkHs 9 (h:=?_);refine tkHs 10 (h:=?_);refine tkHs 11 (h:=?_);refine tkHs 12 (h:=?_);refine tkHs 13 (h:=?_);refine tkH 14 (h:=?_);refine tkH 15 (h:=?_);refine tkHs 16 (h:=?_);refine tkHs 17 (h:=?_);refine tkHs 18 (h:=?_);refine tkHs 19 (h:=?_);refine tkHs 20 (h:=?_);refine tkHs 21 (h:=?_);refine tkHs 22 (h:=?_);refine tkHs 23 (h:=?_);refine tkH 24 (h:=?_);refine wpAnyH_done (by kernel_rfl) ?_ _;refine NoPanic.normal ?_;generalize W4.drew=W5 at *;go_wp2_with fail;have Q:=((q0.set 0 (.int .i64 0)).set 1 (.int .i64 0)).set 2 (.int .i64 0);have d0:=Q.cell' (i:=0) (v:=.int .i64 0) rfl;have d1:=Q.cell' (i:=1) (v:=.int .i64 0) rfl;have d2:=Q.cell' (i:=2) (v:=.int .i64 0) rfl;refine bodyPost_ret (v:=.tuple #[.agg #[.int .i64 0,.int .i64 0,.int .i64 0],.int .i64 5]) ?_ rfl ⟨hres.out,?_⟩
   ·rw [results_cell_tmp (p:=4) (u:=5) (ty:=230) (by kernel_rfl)]
    clear Q q0;go_simp
   ·exact(((hBW.out.setCell (Nat.le_refl _) _).setCell (Nat.le_refl _) _).setCell (Nat.le_refl _) _)
 ·have e:unV h=.tuple #[keyV 0 0 0 0,.int .i64 5]:=if_neg hok
  rw [e] at hu;unfold keyV at hu;clear e;have hl:s.look h=none:=if_neg hok;obtain⟨T,L,R,N,hu⟩:∃T L R N:Int,∀w,Calls Tryz.prog 214 #[.int .u64 h] w fun e w'=>e=.returned (.tuple #[.agg #[.int .i64 T,.int .i64 L,.int .i64 R,.int .i64 N],.int .i64 5])∧Below w.heap.size w w':=⟨0,0,0,0,hu⟩
  replace hu:=HD hu;obtain⟨a,n,d,th,hrel,hlk⟩:=slot_of s.slots L;have hsee:=HD (show ∀W,Below w.heap.size w W→W.cell? ⟨b,2,none⟩=some (.map (some g))∧W.cell? ⟨b,0,none⟩=some (.int .i64 s.tenant)∧(Instr.lookup 193 (.map (some g)) (.int .i64 L) true).run Tryz.prog W=.ok (.tuple #[.agg #[.int .i64 a,.int .i64 n,.int .i64 d],.bool th]) W from fun W hb=>by
   have f:Fr (fun _=>False) w o W o:=fr_below hb;have q1:=h1.fr f (fun q=>q);exact⟨q1.cell' (i:=2) rfl,q1.cell' (i:=0) rfl,hlk W o t g (h2.fr f (fun q=>q))⟩)
  clear h1 h2 h3 h4 h5 hlk;go_enter Tryz.func162,Tryz.ntmps162
  go_wp2_with fail;refine(hu.out _).mono ?_;rintro e w1 ⟨rfl,hb⟩;have hsz:=hb.size;simp at hsz
  have hB1:Below w.heap.size w (w1.alloc (.cells #[.int .i64 T,.int .i64 L,.int .i64 R,.int .i64 N] 269)):=(((Below.refl w.heap.size w).alloc (Nat.le_refl _) _).trans (hb.mono (by simp))).alloc (by omega) _;have hB2:=hB1.drew;have hB3:=hB2.alloc (by simp;omega) (.cells #[.int .i64 0,.int .i64 0,.int .i64 0] 230);obtain⟨c2,_,hlk⟩:=hsee.out _ hB2;obtain⟨c2',_,hlk'⟩:=hsee.out _ hB3;have k1:(w1.alloc (.cells #[.int .i64 T,.int .i64 L,.int .i64 R,.int .i64 N] 269)).drew.cell? ⟨w1.heap.size,1,none⟩=some (.int .i64 L):=(Blk.made w1 o t _ _).cell' (i:=1) rfl;have k1':((w1.alloc (.cells #[.int .i64 T,.int .i64 L,.int .i64 R,.int .i64 N] 269)).drew.alloc (.cells #[.int .i64 0,.int .i64 0,.int .i64 0] 230)).cell? ⟨w1.heap.size,1,none⟩=some (.int .i64 L):=((Blk.made w1 o t _ _).drew.alloc _).cell' (i:=1) rfl;have hB4:=(hB1.alloc (by simp;omega) (.cells #[.int .i64 a,.int .i64 n,.int .i64 d] 230)).drew;obtain⟨c2'',cT,hlk''⟩:=hsee.out _ hB4;have qK:=((Blk.made w1 o t #[.int .i64 T,.int .i64 L,.int .i64 R,.int .i64 N] 269).alloc (.cells #[.int .i64 a,.int .i64 n,.int .i64 d] 230)).drew.drew;have qS:=(Blk.made (w1.alloc (.cells #[.int .i64 T,.int .i64 L,.int .i64 R,.int .i64 N] 269)) o t #[.int .i64 a,.int .i64 n,.int .i64 d] 230).drew.drew;rw [World.size_alloc] at qS;have q0:=((((Blk.made w o t #[.int .i64 0,.int .i64 0,.int .i64 0] 230).fr (S:=fun _=>False) (Fr.below hb) (fun q=>q)).alloc (.cells #[.int .i64 T,.int .i64 L,.int .i64 R,.int .i64 N] 269)).alloc (.cells #[.int .i64 a,.int .i64 n,.int .i64 d] 230)).drew.drew;have k1'':=qK.cell' (i:=1) (v:=.int .i64 L) rfl;have k0:=qK.cell' (i:=0) (v:=.int .i64 T) rfl;have k2:=qK.cell' (i:=2) (v:=.int .i64 R) rfl;have k3:=qK.cell' (i:=3) (v:=.int .i64 N) rfl;have s0:=qS.cell' (i:=0) (v:=.int .i64 a) rfl;have s1:=qS.cell' (i:=1) (v:=.int .i64 n) rfl;have s2:=qS.cell' (i:=2) (v:=.int .i64 d) rfl;have r0:=q0.cell' (i:=0) (v:=.int .i64 0) rfl;have r1:=q0.cell' (i:=1) (v:=.int .i64 0) rfl;have r2:=q0.cell' (i:=2) (v:=.int .i64 0) rfl;have g0:=q0.free 0;have g1:=q0.free 1;have g2:=q0.free 2;have cT':(((w1.alloc (.cells #[.int .i64 T,.int .i64 L,.int .i64 R,.int .i64 N] 269)).alloc (.cells #[.int .i64 a,.int .i64 n,.int .i64 d] 230)).drew.drew).cell? ⟨b,0,none⟩=some (.int .i64 s.tenant):=cT;have hBW:=HD hB4.drew;clear qK qS hB1 hB2 hB3 hB4 hb hsee;go_wp2_with fail;refine wp_region_noPanic ?_;refine wp_region_held_drew (S:=(fun W=>W.cell? ⟨b,2,none⟩=some (.map (some g))∧W.cell? ⟨w1.heap.size,1,none⟩=some (.int .i64 L)∧(Instr.lookup 193 (.map (some g)) (.int .i64 L) true).run Tryz.prog W=.ok (.tuple #[.agg #[.int .i64 a,.int .i64 n,.int .i64 d],.bool th]) W)) (by kernel_rfl) ?_ (fun hHeld=>?_)
  ·(try dsimp only)
   (first|exact⟨c2,k1,hlk⟩|exact⟨c2',k1',hlk'⟩|exact⟨c2'',k1'',hlk''⟩)
  refine tkH 0 (h:=?_);refine tkH 1 (h:=?_);refine tkH 2 (h:=?_);refine tkH 3 (h:=?_);refine tkH 4 (h:=?_);refine tkH 5 (h:=?_);refine tkH 6 (h:=?_);refine tkH 7 (h:=?_);refine tkH 8 (h:=?_);refine tkH 9 (h:=?_);refine onH 10 (h:=fun K hK=>?_);go_simp;refine hK.out _ _ ?_ (fun hHeld=>?_)
  ·(try dsimp only)
   (first|exact⟨c2,k1,hlk⟩|exact⟨c2',k1',hlk'⟩|exact⟨c2'',k1'',hlk''⟩)
  clear hK;refine nmH (h:=?_);refine onH 11 (h:=fun K hK=>?_);go_simp;refine hK.out _ _ ?_ (fun hHeld=>?_)
  ·(try dsimp only)
   (first|exact⟨c2,k1,hlk⟩|exact⟨c2',k1',hlk'⟩|exact⟨c2'',k1'',hlk''⟩)
  clear hK;refine nmH (h:=?_);refine tkH 12 (h:=?_);refine wpAnyH_done (by kernel_rfl) ?_ _;refine NoPanic.normal ?_;clear c2 c2' c2'' hlk hlk' hlk'' k1 k1' k1'' cT;generalize hW4:((w1.alloc (.cells #[.int .i64 T,.int .i64 L,.int .i64 R,.int .i64 N] 269)).alloc (.cells #[.int .i64 a,.int .i64 n,.int .i64 d] 230)).drew=W4 at *;clear hW4;have hres:=HD (show Ending.returned (.tuple #[.agg #[.int .i64 0,.int .i64 0,.int .i64 0],.int .i64 5])=.returned (s.lookV h) from by
   unfold CpS.lookV;rw [hl])
  clear hl hok hh hrel;go_wp2_with fail;refine wp_region_noPanic ?_;refine wp_region_held_drew (S:=(fun W=>W.cell? ⟨b,0,none⟩=some (.int .i64 s.tenant)∧W.cell? ⟨w1.heap.size,0,none⟩=some (.int .i64 T)∧W.cell? ⟨w1.heap.size,2,none⟩=some (.int .i64 R)∧W.cell? ⟨w1.heap.size,3,none⟩=some (.int .i64 N)∧W.cell? ⟨w1.heap.size+1,0,none⟩=some (.int .i64 a)∧W.cell? ⟨w1.heap.size+1,1,none⟩=some (.int .i64 n))) (by kernel_rfl) ?_ (fun hHeld=>?_)
  ·(try dsimp only)
   exact⟨cT',k0,k2,k3,s0,s1⟩
  refine tkH 0 (h:=?_);refine tkH 1 (h:=?_);refine tkH 2 (h:=?_);refine tkHs 3 (h:=?_);refine tkHs 4 (h:=?_);refine tkH 5 (h:=?_);refine tkH 6 (h:=?_);refine tkHs 7 (h:=?_);refine tkHs 8 (h:=?_);refine tkHs 9 (h:=?_);refine tkHs 10 (h:=?_);refine tkHs 11 (h:=?_);refine tkHs 12 (h:=?_);refine tkHs 13 (h:=?_);refine tkH 14 (h:=?_);refine tkH 15 (h:=?_);refine tkHs 16 (h:=?_);refine tkHs 17 (h:=?_);refine tkHs 18 (h:=?_);refine tkHs 19 (h:=?_);refine tkHs 20 (h:=?_);refine tkHs 21 (h:=?_);refine tkHs 22 (h:=?_);refine tkHs 23 (h:=?_);refine tkH 24 (h:=?_);refine wpAnyH_done (by kernel_rfl) ?_ _;refine NoPanic.normal ?_;generalize W4.drew=W5 at *;go_wp2_with fail;have Q:=((q0.set 0 (.int .i64 0)).set 1 (.int .i64 0)).set 2 (.int .i64 0);have d0:=Q.cell' (i:=0) (v:=.int .i64 0) rfl;have d1:=Q.cell' (i:=1) (v:=.int .i64 0) rfl;have d2:=Q.cell' (i:=2) (v:=.int .i64 0) rfl;refine bodyPost_ret (v:=.tuple #[.agg #[.int .i64 0,.int .i64 0,.int .i64 0],.int .i64 5]) ?_ rfl ⟨hres.out,?_⟩
  ·rw [results_cell_tmp (p:=4) (u:=5) (ty:=230) (by kernel_rfl)]
   clear Q q0;go_simp
  ·exact(((hBW.out.setCell (Nat.le_refl _) _).setCell (Nat.le_refl _) _).setCell (Nat.le_refl _) _)
end
end Go.Proofs.YtfliaggjkianpaaGreatDoor
