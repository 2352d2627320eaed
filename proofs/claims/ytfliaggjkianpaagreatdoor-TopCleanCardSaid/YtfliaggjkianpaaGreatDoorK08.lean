import Derived.Test.YtfliaggjkianpaaGreatDoorK04
import Derived.Test.YtfliaggjkianpaaGreatDoorK03
set_option linter.unusedVariables false
set_option linter.unusedSimpArgs false
set_option maxRecDepth 100000
namespace Go.Proofs.YtfliaggjkianpaaGreatDoor
section
open Go.RowKit
theorem hnWithin(n a b:Int)(w:World) :
  Calls Tryz.prog 250 #[.int .i64 n,.int .i64 a,.int .i64 b] w fun e w'=>e=.returned (.bool (decide (a≤n)&&decide (n≤b)))∧w'=w:=by
 by_cases h:a≤n
 ·rw [decide_eq_true h,Bool.true_and]
  go_enter Tryz.func250,Tryz.ntmps250
  go_wp2
  go_ret
  exact⟨rfl,rfl⟩
 ·rw [decide_eq_false h,Bool.false_and]
  go_enter Tryz.func250,Tryz.ntmps250
  go_wp2
  go_ret
  exact⟨rfl,rfl⟩
def keyOK(t s r n:Int):Prop:=(0≤t∧t≤7)∧(0≤s∧s≤4159)∧(1≤r∧r≤7)∧(1≤n∧n≤17592186044415)
instance (t s r n:Int):Decidable (keyOK t s r n):=by unfold keyOK;infer_instance
def keyE(t s r n:Int):Int:=if keyOK t s r n then 0 else 12
theorem hnCheck(t s r n:Int)(w:World) :
  Calls Tryz.prog 241 #[.agg #[.int .i64 t,.int .i64 s,.int .i64 r,.int .i64 n]] w fun e w'=>e=.returned (.int .i64 (keyE t s r n))∧Below w.heap.size w w':=by
 have hB:=HD ((Below.refl w.heap.size w).alloc (Nat.le_refl _) (.cells #[.int .i64 t,.int .i64 s,.int .i64 r,.int .i64 n] 269));have hT:=fun w=>hnWithin t 0 7 w
 have hS:=fun w=>hnWithin s 0 4159 w
 have hR:=fun w=>hnWithin r 1 7 w
 have hN:=fun w=>hnWithin n 1 17592186044415 w
 by_cases h1:0≤t∧t≤7
 ·rw [decide_eq_true h1.1,decide_eq_true h1.2,Bool.true_and] at hT
  by_cases h2:0≤s∧s≤4159
  ·rw [decide_eq_true h2.1,decide_eq_true h2.2,Bool.true_and] at hS
   by_cases h3:1≤r∧r≤7
   ·rw [decide_eq_true h3.1,decide_eq_true h3.2,Bool.true_and] at hR
    by_cases h4:1≤n∧n≤17592186044415
    ·rw [decide_eq_true h4.1,decide_eq_true h4.2,Bool.true_and] at hN
     have e:keyE t s r n=0:=if_pos ⟨h1,h2,h3,h4⟩;rw [e];clear e h1 h2 h3 h4;go_enter Tryz.func241,Tryz.ntmps241
     go_wp2_with fail;go_step3
     go_wp2_with fail;refine SM (hT _) ?_;go_wp2_with fail;refine SM (hS _) ?_;go_wp2_with fail;refine SM (hR _) ?_;go_wp2_with fail;refine SM (hN _) ?_;go_wp2_with fail;rw [Exit.noGoto_ret];go_ret
     exact⟨rfl,hB.out⟩
    ·have hb:(decide (1≤n)&&decide (n≤17592186044415))=false:=by
      rw [Bool.and_eq_false_iff];simp only [decide_eq_false_iff_not];omega
     rw [hb] at hN;clear hb;have e:keyE t s r n=12:=if_neg (fun q=>h4 q.2.2.2);rw [e];clear e;go_enter Tryz.func241,Tryz.ntmps241
     go_wp2_with fail;refine wp_scope_jumps 0 (fun a' w'=>w'=w.alloc (.cells #[.int .i64 t,.int .i64 s,.int .i64 r,.int .i64 n] 269)∧∃(u1 u2 u3 u4 u5 u6 u7 u8 u9 u10 u11 u12 u13 u14 u15 u16 u17 u18 u19 u20:Value),a'={tmps:=#[.agg #[.int .i64 t,.int .i64 s,.int .i64 r,.int .i64 n],u1,u2,u3,u4,u5,u6,u7,u8,u9,u10,u11,u12,u13,u14,u15,u16,u17,u18,u19,u20],defers:=[]}) (fun _ _=>0) rfl ?_ ?_
     ·go_wp2_with fail
      refine SM (hT _) ?_;go_wp2_with fail;refine SM (hS _) ?_;go_wp2_with fail;refine SM (hR _) ?_;go_wp2_with fail;refine SM (hN _) ?_;go_wp2_with fail;go_step3
      rename_i K hK;refine hK _ _ ?_;go_wp2_with fail;simp only [Exit.jump];go_ret;exact⟨rfl,hB.out⟩
     ·rintro a' w' ⟨rfl,u1,u2,u3,u4,u5,u6,u7,u8,u9,u10,u11,u12,u13,u14,u15,u16,u17,u18,u19,u20,rfl⟩
      go_wp2_with fail;simp only [Exit.jump];go_ret
      exact⟨rfl,hB.out⟩
   ·have hb:(decide (1≤r)&&decide (r≤7))=false:=by
     rw [Bool.and_eq_false_iff];simp only [decide_eq_false_iff_not];omega
    rw [hb] at hR;clear hb;have e:keyE t s r n=12:=if_neg (fun q=>h3 q.2.2.1);rw [e];clear e;go_enter Tryz.func241,Tryz.ntmps241
    go_wp2_with fail;refine wp_scope_jumps 0 (fun a' w'=>w'=w.alloc (.cells #[.int .i64 t,.int .i64 s,.int .i64 r,.int .i64 n] 269)∧∃(u1 u2 u3 u4 u5 u6 u7 u8 u9 u10 u11 u12 u13 u14 u15 u16 u17 u18 u19 u20:Value),a'={tmps:=#[.agg #[.int .i64 t,.int .i64 s,.int .i64 r,.int .i64 n],u1,u2,u3,u4,u5,u6,u7,u8,u9,u10,u11,u12,u13,u14,u15,u16,u17,u18,u19,u20],defers:=[]}) (fun _ _=>0) rfl ?_ ?_
    ·go_wp2_with fail
     refine SM (hT _) ?_;go_wp2_with fail;refine SM (hS _) ?_;go_wp2_with fail;refine SM (hR _) ?_;go_wp2_with fail;go_step3
     rename_i K hK;refine hK _ _ ?_;go_wp2_with fail;simp only [Exit.jump];go_ret;exact⟨rfl,hB.out⟩
    ·rintro a' w' ⟨rfl,u1,u2,u3,u4,u5,u6,u7,u8,u9,u10,u11,u12,u13,u14,u15,u16,u17,u18,u19,u20,rfl⟩
     go_wp2_with fail;simp only [Exit.jump];go_ret
     exact⟨rfl,hB.out⟩
  ·have hb:(decide (0≤s)&&decide (s≤4159))=false:=by
    rw [Bool.and_eq_false_iff];simp only [decide_eq_false_iff_not];omega
   rw [hb] at hS;clear hb;have e:keyE t s r n=12:=if_neg (fun q=>h2 q.2.1);rw [e];clear e;go_enter Tryz.func241,Tryz.ntmps241
   go_wp2_with fail;refine wp_scope_jumps 0 (fun a' w'=>w'=w.alloc (.cells #[.int .i64 t,.int .i64 s,.int .i64 r,.int .i64 n] 269)∧∃(u1 u2 u3 u4 u5 u6 u7 u8 u9 u10 u11 u12 u13 u14 u15 u16 u17 u18 u19 u20:Value),a'={tmps:=#[.agg #[.int .i64 t,.int .i64 s,.int .i64 r,.int .i64 n],u1,u2,u3,u4,u5,u6,u7,u8,u9,u10,u11,u12,u13,u14,u15,u16,u17,u18,u19,u20],defers:=[]}) (fun _ _=>0) rfl ?_ ?_
   ·go_wp2_with fail
    refine SM (hT _) ?_;go_wp2_with fail;refine SM (hS _) ?_;go_wp2_with fail;go_step3
    exact⟨rfl,rfl,_,_,_,_,_,_,_,_,_,_,_,_,_,_,_,_,_,_,_,_,rfl⟩
   ·rintro a' w' ⟨rfl,u1,u2,u3,u4,u5,u6,u7,u8,u9,u10,u11,u12,u13,u14,u15,u16,u17,u18,u19,u20,rfl⟩
    go_wp2_with fail;simp only [Exit.jump];go_ret
    exact⟨rfl,hB.out⟩
 ·have hb:(decide (0≤t)&&decide (t≤7))=false:=by
   rw [Bool.and_eq_false_iff];simp only [decide_eq_false_iff_not];omega
  rw [hb] at hT;clear hb;have e:keyE t s r n=12:=if_neg (fun q=>h1 q.1);rw [e];clear e;go_enter Tryz.func241,Tryz.ntmps241
  go_wp2_with fail;refine wp_scope_jumps 0 (fun a' w'=>w'=w.alloc (.cells #[.int .i64 t,.int .i64 s,.int .i64 r,.int .i64 n] 269)∧∃(u1 u2 u3 u4 u5 u6 u7 u8 u9 u10 u11 u12 u13 u14 u15 u16 u17 u18 u19 u20:Value),a'={tmps:=#[.agg #[.int .i64 t,.int .i64 s,.int .i64 r,.int .i64 n],u1,u2,u3,u4,u5,u6,u7,u8,u9,u10,u11,u12,u13,u14,u15,u16,u17,u18,u19,u20],defers:=[]}) (fun _ _=>0) rfl ?_ ?_
  ·go_wp2_with fail
   refine SM (hT _) ?_;go_wp2_with fail;go_step3
   exact⟨rfl,rfl,_,_,_,_,_,_,_,_,_,_,_,_,_,_,_,_,_,_,_,_,rfl⟩
  ·rintro a' w' ⟨rfl,u1,u2,u3,u4,u5,u6,u7,u8,u9,u10,u11,u12,u13,u14,u15,u16,u17,u18,u19,u20,rfl⟩
   go_wp2_with fail;simp only [Exit.jump];go_ret
   exact⟨rfl,hB.out⟩
end
section
open Go.RowKit
theorem or_sh{a x:Int}(j:Nat)(h0:0≤a)(ha:a<((2^j:Nat):Int))(hx:0≤x)(hj:a<18446744073709551616)(hb:x*((2^j:Nat):Int)<18446744073709551616):bits BinOp.or IntKind.u64 a (x*((2^j:Nat):Int))=a+x*((2^j:Nat):Int):=by
 obtain⟨a,rfl⟩:∃k:Nat,a=k:=⟨a.toNat,by omega⟩
 obtain⟨x,rfl⟩:∃k:Nat,x=k:=⟨x.toNat,by omega⟩
 have e:((x:Int)*((2^j:Nat):Int))=((x*2^j:Nat):Int):=by simp
 rw [e] at hb ⊢;have hpos:0<2^j:=Nat.two_pow_pos j;have h3:a<2^j:=by omega
 by_cases hx0:x=0
 ·subst hx0
  simp only [Nat.zero_mul];rw [bits_or_u64_nat _ _ (by omega) (by omega)];simp
 ·have h4:2^j≤x*2^j:=Nat.le_mul_of_pos_left _ (by omega)
  generalize hz:x*2^j=z at *;rw [bits_or_u64_nat _ _ (by omega) (by omega)];have h5:=Nat.two_pow_add_eq_or_of_lt h3 x;rw [Nat.mul_comm,hz] at h5;rw [Nat.or_comm,←h5];omega
def packN(t s r n:Int):Nat:=(t+16*r+128*s+1048576*n).toNat
def keyV(t s r n:Int):Value:=.agg #[.int .i64 t,.int .i64 s,.int .i64 r,.int .i64 n]
def packE(t s r n:Int):Value:=if keyOK t s r n then .tuple #[.int .u64 (packN t s r n:Nat),.int .i64 0] else .tuple #[.int .u64 0,.int .i64 12]
theorem hnPack(t s r n:Int)(w:World) :
  Calls Tryz.prog 215 #[.agg #[.int .i64 t,.int .i64 s,.int .i64 r,.int .i64 n]] w fun e w'=>e=.returned (packE t s r n)∧Below w.heap.size w w':=by
 have hB:=HD ((Below.refl w.heap.size w).alloc (Nat.le_refl _) (.cells #[.int .i64 t,.int .i64 s,.int .i64 r,.int .i64 n] 269));have hC:=fun w=>hnCheck t s r n w
 unfold packE;by_cases h:keyOK t s r n
 ·rw [if_pos h]
  have e:keyE t s r n=0:=if_pos h;rw [e] at hC;obtain⟨h1,h2,h3,h4⟩:=h;clear e;go_enter Tryz.func215,Tryz.ntmps215
  go_wp2_with fail;refine(hC _).mono ?_;rintro e w1 ⟨rfl,hb⟩;have k0:w1.cell? ⟨w.heap.size,0,none⟩=some (.int .i64 t):=keep_below hb (by simp) (by simp);have k1:w1.cell? ⟨w.heap.size,1,none⟩=some (.int .i64 s):=keep_below hb (by simp) (by simp);have k2:w1.cell? ⟨w.heap.size,2,none⟩=some (.int .i64 r):=keep_below hb (by simp) (by simp);have k3:w1.cell? ⟨w.heap.size,3,none⟩=some (.int .i64 n):=keep_below hb (by simp) (by simp);replace hb:=HD hb;have u1:=IntWalk.u64_in t (by omega);have u2:=IntWalk.u64_in s (by omega);have u3:=IntWalk.u64_in r (by omega);have u4:=IntWalk.u64_in n (by omega);go_wp2_with fail;go_ret2
  refine⟨?_,hB.out.trans (hb.out.mono (by simp))⟩;have o1:=or_sh (a:=t) (x:=r) 4 (by omega) (by omega) (by omega) (by omega) (by omega);have o2:=or_sh (a:=t+r*16) (x:=s) 7 (by omega) (by omega) (by omega) (by omega) (by omega);have o3:=or_sh (a:=t+r*16+s*128) (x:=n) 20 (by omega) (by omega) (by omega) (by omega) (by omega);have hP:bits BinOp.or IntKind.u64 (bits BinOp.or IntKind.u64 (bits BinOp.or IntKind.u64 t (r*16)) (s*128)) (n*1048576)=(packN t s r n:Nat):=by
   have e1:bits BinOp.or IntKind.u64 t (r*16)=t+r*16:=o1;have e2:bits BinOp.or IntKind.u64 (t+r*16) (s*128)=t+r*16+s*128:=o2;have e3:bits BinOp.or IntKind.u64 (t+r*16+s*128) (n*1048576)=t+r*16+s*128+n*1048576:=o3;rw [e1,e2,e3];unfold packN;omega
  rw [hP];rfl
 ·rw [if_neg h]
  have e:keyE t s r n=12:=if_neg h;rw [e] at hC;clear e h;go_enter Tryz.func215,Tryz.ntmps215
  go_wp2_with fail;refine(hC _).mono ?_;rintro e w1 ⟨rfl,hb⟩;replace hb:=HD hb;go_wp2_with fail;go_ret2
  exact⟨rfl,hB.out.trans (hb.out.mono (by simp))⟩
theorem and_low{a:Nat}(j:Nat)(ha:a<18446744073709551616)(hj:2^j<18446744073709551616):bits BinOp.and IntKind.u64 (a:Int) ((2^j-1:Nat):Int)=((a%2^j:Nat):Int):=by
 rw [bits_and_u64_nat _ _ ha (by omega),Nat.and_two_pow_sub_one_eq_mod]
def KV(t s r n:Int):Array Value:=#[.int .i64 t,.int .i64 s,.int .i64 r,.int .i64 n]
def unT(h:Nat):Int:=(h:Int)%16
def unR(h:Nat):Int:=(h:Int)/16%8
def unS(h:Nat):Int:=(h:Int)/128%8192
def unN(h:Nat):Int:=(h:Int)/1048576
def unOK(h:Nat):Prop:=keyOK (unT h) (unS h) (unR h) (unN h)
instance (h:Nat):Decidable (unOK h):=by unfold unOK;infer_instance
def unV(h:Nat):Value:=if unOK h then .tuple #[keyV (unT h) (unS h) (unR h) (unN h),.int .i64 0] else .tuple #[keyV 0 0 0 0,.int .i64 5]
theorem hnUnpack(h:Nat)(hh:h<18446744073709551616)(w:World) :
  Calls Tryz.prog 214 #[.int .u64 h] w fun e w'=>e=.returned (unV h)∧Below w.heap.size w w':=by
 have a1:bits BinOp.and IntKind.u64 (h:Int) 15=(h:Int)%16:=(and_low 4 hh (by decide)).trans (by omega);have a2:bits BinOp.and IntKind.u64 ((h:Int)/16) 7=(h:Int)/16%8:=by
  have:=and_low (a:=h/16) 3 (by omega) (by decide);rw [show ((h:Int)/16)=((h/16:Nat):Int) by omega];exact this.trans (by omega)
 have a3:bits BinOp.and IntKind.u64 ((h:Int)/128) 8191=(h:Int)/128%8192:=by
  have:=and_low (a:=h/128) 13 (by omega) (by decide);rw [show ((h:Int)/128)=((h/128:Nat):Int) by omega];exact this.trans (by omega)
 have b2:=IntWalk.i64_in ((h:Int)/16%8) (by omega);have b3:=IntWalk.i64_in ((h:Int)/128%8192) (by omega);have hC:=fun w=>hnCheck (unT h) (unS h) (unR h) (unN h) w
 have hB0:Blk (w.alloc (.cells (KV 0 0 0 0) 269)) (fun _=>[]) [] w.heap.size (KV 0 0 0 0) 269:=⟨rfl,heap_alloc_new w _⟩
 have hB1:∀x1 x2 x3 x4:Int,Blk ((w.alloc (.cells (KV 0 0 0 0) 269)).alloc (.cells (KV x1 x2 x3 x4) 269)) (fun _=>[]) [] (w.heap.size+1) (KV x1 x2 x3 x4) 269:=fun x1 x2 x3 x4=>⟨rfl,by
  have:=heap_alloc_new (w.alloc (.cells (KV 0 0 0 0) 269)) (.cells (KV x1 x2 x3 x4) 269)
  rwa [World.size_alloc] at this⟩
 by_cases hk:unOK h
 ·have e1:unV h=.tuple #[keyV (unT h) (unS h) (unR h) (unN h),.int .i64 0]:=if_pos hk
  have e2:keyE (unT h) (unS h) (unR h) (unN h)=0:=if_pos hk;rw [e1];rw [e2] at hC;clear e1 e2 hk;unfold keyV unT unS unR unN at *;go_enter Tryz.func214,Tryz.ntmps214
  go_wp2_with fail;refine(hC _).mono ?_;rintro e w1 ⟨rfl,hb⟩;have q0:=(hB0.alloc (.cells (KV ((h:Int)%16) ((h:Int)/128%8192) ((h:Int)/16%8) ((h:Int)/1048576)) 269)).fr (Fr.below (S:=fun _=>False) (o:=fun _=>[]) hb) (fun q=>q);have q1:=(hB1 ((h:Int)%16) ((h:Int)/128%8192) ((h:Int)/16%8) ((h:Int)/1048576)).fr (Fr.below (S:=fun _=>False) (o:=fun _=>[]) hb) (fun q=>q);have hBl:=HD (show Below w.heap.size w w1 from(((Below.refl w.heap.size w).alloc (Nat.le_refl _) _).alloc (by simp) _).trans (hb.mono (by simp;omega)));have c00:w1.cell? ⟨w.heap.size,0,none⟩=some (.int .i64 0):=q0.cell' (i:=0) rfl;have c01:w1.cell? ⟨w.heap.size,1,none⟩=some (.int .i64 0):=q0.cell' (i:=1) rfl;have c02:w1.cell? ⟨w.heap.size,2,none⟩=some (.int .i64 0):=q0.cell' (i:=2) rfl;have c03:w1.cell? ⟨w.heap.size,3,none⟩=some (.int .i64 0):=q0.cell' (i:=3) rfl;have f00:=q0.free 0;have f01:=q0.free 1;have f02:=q0.free 2;have f03:=q0.free 3;have c10:w1.cell? ⟨w.heap.size+1,0,none⟩=some (.int .i64 ((h:Int)%16)):=q1.cell' (i:=0) rfl;have c11:w1.cell? ⟨w.heap.size+1,1,none⟩=some (.int .i64 ((h:Int)/128%8192)):=q1.cell' (i:=1) rfl;have c12:w1.cell? ⟨w.heap.size+1,2,none⟩=some (.int .i64 ((h:Int)/16%8)):=q1.cell' (i:=2) rfl;have c13:w1.cell? ⟨w.heap.size+1,3,none⟩=some (.int .i64 ((h:Int)/1048576)):=q1.cell' (i:=3) rfl;replace q0:=HD q0;clear q1 hb;go_wp2_with fail;have Q:=(((q0.out.set 0 (.int .i64 ((h:Int)%16))).set 1 (.int .i64 ((h:Int)/128%8192))).set 2 (.int .i64 ((h:Int)/16%8))).set 3 (.int .i64 ((h:Int)/1048576));have d0:=Q.cell' (i:=0) (v:=.int .i64 ((h:Int)%16)) rfl;have d1:=Q.cell' (i:=1) (v:=.int .i64 ((h:Int)/128%8192)) rfl;have d2:=Q.cell' (i:=2) (v:=.int .i64 ((h:Int)/16%8)) rfl;have d3:=Q.cell' (i:=3) (v:=.int .i64 ((h:Int)/1048576)) rfl;have hlt:=q0.out.lt;have hF:=hBl.out.size;refine bodyPost_ret (v:=.tuple #[keyV ((h:Int)%16) ((h:Int)/128%8192) ((h:Int)/16%8) ((h:Int)/1048576),.int .i64 0]) ?_ rfl ⟨rfl,?_⟩
  ·unfold keyV
   rw [results_cell_tmp (p:=2) (u:=3) (ty:=269) (by kernel_rfl)];clear Q;go_simp
  ·exact(((hBl.out.setCell (Nat.le_refl _) _).setCell (Nat.le_refl _) _).setCell (Nat.le_refl _) _).setCell (Nat.le_refl _) _
 ·have e1:unV h=.tuple #[keyV 0 0 0 0,.int .i64 5]:=if_neg hk
  have e2:keyE (unT h) (unS h) (unR h) (unN h)=12:=if_neg hk;rw [e1];rw [e2] at hC;clear e1 e2 hk;unfold keyV;unfold unT unS unR unN at *;go_enter Tryz.func214,Tryz.ntmps214
  go_wp2_with fail;refine(hC _).mono ?_;rintro e w1 ⟨rfl,hb⟩;have q0:=(hB0.alloc (.cells (KV ((h:Int)%16) ((h:Int)/128%8192) ((h:Int)/16%8) ((h:Int)/1048576)) 269)).fr (Fr.below (S:=fun _=>False) (o:=fun _=>[]) hb) (fun q=>q);have q1:=(hB1 ((h:Int)%16) ((h:Int)/128%8192) ((h:Int)/16%8) ((h:Int)/1048576)).fr (Fr.below (S:=fun _=>False) (o:=fun _=>[]) hb) (fun q=>q);have hBl:=HD (show Below w.heap.size w w1 from(((Below.refl w.heap.size w).alloc (Nat.le_refl _) _).alloc (by simp) _).trans (hb.mono (by simp;omega)));have c00:w1.cell? ⟨w.heap.size,0,none⟩=some (.int .i64 0):=q0.cell' (i:=0) rfl;have c01:w1.cell? ⟨w.heap.size,1,none⟩=some (.int .i64 0):=q0.cell' (i:=1) rfl;have c02:w1.cell? ⟨w.heap.size,2,none⟩=some (.int .i64 0):=q0.cell' (i:=2) rfl;have c03:w1.cell? ⟨w.heap.size,3,none⟩=some (.int .i64 0):=q0.cell' (i:=3) rfl;have f00:=q0.free 0;have f01:=q0.free 1;have f02:=q0.free 2;have f03:=q0.free 3;have c10:w1.cell? ⟨w.heap.size+1,0,none⟩=some (.int .i64 ((h:Int)%16)):=q1.cell' (i:=0) rfl;have c11:w1.cell? ⟨w.heap.size+1,1,none⟩=some (.int .i64 ((h:Int)/128%8192)):=q1.cell' (i:=1) rfl;have c12:w1.cell? ⟨w.heap.size+1,2,none⟩=some (.int .i64 ((h:Int)/16%8)):=q1.cell' (i:=2) rfl;have c13:w1.cell? ⟨w.heap.size+1,3,none⟩=some (.int .i64 ((h:Int)/1048576)):=q1.cell' (i:=3) rfl;replace q0:=HD q0;clear q1 hb;go_wp2_with fail;have Q:=(((q0.out.set 0 (.int .i64 (0))).set 1 (.int .i64 (0))).set 2 (.int .i64 (0))).set 3 (.int .i64 (0));have d0:=Q.cell' (i:=0) (v:=.int .i64 (0)) rfl;have d1:=Q.cell' (i:=1) (v:=.int .i64 (0)) rfl;have d2:=Q.cell' (i:=2) (v:=.int .i64 (0)) rfl;have d3:=Q.cell' (i:=3) (v:=.int .i64 (0)) rfl;have hlt:=q0.out.lt;have hF:=hBl.out.size;refine bodyPost_ret (v:=.tuple #[keyV (0) (0) (0) (0),.int .i64 5]) ?_ rfl ⟨rfl,?_⟩
  ·unfold keyV
   rw [results_cell_tmp (p:=2) (u:=3) (ty:=269) (by kernel_rfl)];clear Q;go_simp
  ·exact(((hBl.out.setCell (Nat.le_refl _) _).setCell (Nat.le_refl _) _).setCell (Nat.le_refl _) _).setCell (Nat.le_refl _) _
end
section
open Go.RowKit
abbrev Slot:=(Int×Int)×Int
abbrev eS:Slot→Value:=fun x=>.agg #[.int .i64 x.1.1,.int .i64 x.1.2,.int .i64 x.2]
structure CpS where
 tenant:Int
 next:Int
 slots:List (Int×Slot)
 obj:ShS
 ext:ShS
def CpAt(w:World)(o:Nat→Tag)(t:Tag)(b:Nat)(s:CpS):Prop :=
 ∃g bo be,Blk w o t b #[.int .i64 s.tenant,.int .i64 s.next,.map (some g),.pointer (some ⟨bo,0,none⟩),.pointer (some ⟨be,0,none⟩)] 195 ∧
  MpAt w o t g .i64 eS s.slots∧ShAt w o (t++[0]) bo s.obj∧ShAt w o (t++[1]) be s.ext∧b≠g
theorem CpAt.fr{S:Tag→Prop}{w w':World}{o o':Nat→Tag}{t:Tag}{b:Nat}{s:CpS}(h:CpAt w o t b s)(f:Fr S w o w' o')(hS:Off S t):CpAt w' o' t b s:=by
 obtain⟨g,bo,be,h1,h2,h3,h4,h5⟩:=h;exact⟨g,bo,be,h1.fr f hS.self,h2.fr f hS.self,h3.fr f (hS.sub [0]),h4.fr f (hS.sub [1]),h5⟩
theorem zeroS(w:World):(zeroValue 230).run Tryz.prog w=.ok (eS ((0,0),0)) w:=by kernel_rfl
theorem cpSerial(b:Nat)(w:World){o:Nat→Tag}{t:Tag}{s:CpS}(h:CpAt w o t b s) :
  Calls Tryz.prog 94 #[.pointer (some ⟨b,0,none⟩)] w fun e w'=>e=.returned (.int .i64 s.next)∧w'=w:=by
 obtain⟨g,bo,be,h1,_⟩:=h;have c1:w.cell? ⟨b,1,none⟩=some (.int .i64 s.next):=h1.cell' (i:=1) rfl;clear h1;go_enter Tryz.func94,Tryz.ntmps94
 go_wp2_with fail;go_ret
 exact⟨rfl,rfl⟩
def mayR(a r:Int):Bool:=bits BinOp.and IntKind.i64 a r==r
theorem cpMay(a n r:Int)(w:World) :
  Calls Tryz.prog 163 #[.agg #[.int .i64 a,.int .i64 n],.int .i64 r] w fun e w'=>e=.returned (.bool (mayR a r))∧Below w.heap.size w w':=by
 have hB:=HD ((Below.refl w.heap.size w).alloc (Nat.le_refl _) (.cells #[.int .i64 a,.int .i64 n] 228));unfold mayR;go_enter Tryz.func163,Tryz.ntmps163
 go_wp2_with fail;go_ret
 exact⟨rfl,hB.out⟩
def CpS.look(s:CpS)(h:Nat):Option Slot:=if unOK h then (mGet s.slots (unS h)).bind fun x=>if unT h=s.tenant∧x.1=(unR h,unN h) then some x else none else none
def CpS.lookV(s:CpS)(h:Nat):Value:=match s.look h with
 |some x=>.tuple #[eS x,.int .i64 0]
 |none=>.tuple #[eS ((0,0),0),.int .i64 5]
theorem fr_below{w w':World}{o:Nat→Tag}(h:Below w.heap.size w w'):Fr (fun _=>False) w o w' o:=Fr.below h
theorem eq_good(a b c d:Int)(w:World):(Op.equalIn 10000 228 (.agg #[.int .i64 a,.int .i64 b]) (.agg #[.int .i64 c,.int .i64 d])).run Tryz.prog w=.ok (decide (a=c∧b=d)) w:=by
 have u3:=Tryz.underlying3;have a3:=Tryz.isAgg3;have z3:=Tryz.sizeOf3;have hS:Tryz.prog.underlying 228=some (.struct (Tryz.prog.fieldsOf 228)):=by kernel_rfl
 have hp:Tryz.prog.stoodInHeld 228=false:=by kernel_rfl
 rw [show (10000:Nat)=9999+1 from rfl,run_equalIn_agg w 9999 228 _ _ hS hp];simp only [Program.fieldsOf,Tryz.underlying228];go_simp;by_cases h1:a=c<;>by_cases h2:b=d<;>simp [h1,h2]
theorem slot_of(M:List (Int×Slot))(k:Int):∃a n d th,((th=true∧mGet M k=some ((a,n),d))∨(th=false∧mGet M k=none))∧∀(w:World) (o:Nat→Tag) (t:Tag) (g:Nat),MpAt w o t g .i64 eS M →
  (Instr.lookup 193 (.map (some g)) (.int .i64 k) true).run Tryz.prog w=.ok (.tuple #[.agg #[.int .i64 a,.int .i64 n,.int .i64 d],.bool th]) w:=by
 cases e:mGet M k with
 |none=>exact⟨0,0,0,false,.inr ⟨rfl,rfl⟩,fun w o t g h=>by
   have:=mp_lookup h (P:=Tryz.prog) Tryz.underlying193 Tryz.underlying3 zeroS k true;rw [this,e];rfl⟩
 |some x=>exact⟨x.1.1,x.1.2,x.2,true,.inl ⟨rfl,rfl⟩,fun w o t g h=>by
   have:=mp_lookup h (P:=Tryz.prog) Tryz.underlying193 Tryz.underlying3 zeroS k true;rw [this,e];rfl⟩
set_option maxHeartbeats 4000000 in
theorem cpFind0(b:Nat)(h:Nat)(hh:h<18446744073709551616)(w:World){o:Nat→Tag}{t:Tag}{s:CpS}(hc:CpAt w o t b s) :
  Calls Tryz.prog 162 #[.pointer (some ⟨b,0,none⟩),.int .u64 h] w fun e w'=>e=.returned (s.lookV h)∧Below w.heap.size w w':=by
 have hu:=fun w=>hnUnpack h hh w
 obtain⟨g,bo,be,h1,h2,h3,h4,h5⟩:=hc;by_cases hok:unOK h
 ·have e:unV h=.tuple #[keyV (unT h) (unS h) (unR h) (unN h),.int .i64 0]:=if_pos hok
  rw [e] at hu;unfold keyV at hu;replace hu:=HD hu;clear e;have hl:s.look h=(mGet s.slots (unS h)).bind fun x=>if unT h=s.tenant∧x.1=(unR h,unN h) then some x else none:=if_pos hok
  generalize unT h=T at *;generalize unS h=L at *;generalize unR h=R at *;generalize unN h=N at *;obtain⟨a,n,d,th,hrel,hlk⟩:=slot_of s.slots L;have hsee:=HD (show ∀W,Below w.heap.size w W→W.cell? ⟨b,2,none⟩=some (.map (some g))∧W.cell? ⟨b,0,none⟩=some (.int .i64 s.tenant)∧(Instr.lookup 193 (.map (some g)) (.int .i64 L) true).run Tryz.prog W=.ok (.tuple #[.agg #[.int .i64 a,.int .i64 n,.int .i64 d],.bool th]) W from fun W hb=>by
   have f:Fr (fun _=>False) w o W o:=fr_below hb;have q1:=h1.fr f (fun q=>q);exact⟨q1.cell' (i:=2) rfl,q1.cell' (i:=0) rfl,hlk W o t g (h2.fr f (fun q=>q))⟩)
  clear h1 h2 h3 h4 h5 hlk;go_enter Tryz.func162,Tryz.ntmps162
  go_wp2_with fail;refine(hu.out _).mono ?_;rintro e w1 ⟨rfl,hb⟩;have hsz:=hb.size;simp at hsz
  have hB1:Below w.heap.size w (w1.alloc (.cells #[.int .i64 T,.int .i64 L,.int .i64 R,.int .i64 N] 269)):=(((Below.refl w.heap.size w).alloc (Nat.le_refl _) _).trans (hb.mono (by simp))).alloc (by omega) _;have hB2:=hB1.drew;have hB3:=hB2.alloc (by simp;omega) (.cells #[.int .i64 0,.int .i64 0,.int .i64 0] 230);obtain⟨c2,_,hlk⟩:=hsee.out _ hB2;obtain⟨c2',_,hlk'⟩:=hsee.out _ hB3;have k1:(w1.alloc (.cells #[.int .i64 T,.int .i64 L,.int .i64 R,.int .i64 N] 269)).drew.cell? ⟨w1.heap.size,1,none⟩=some (.int .i64 L):=(Blk.made w1 o t _ _).cell' (i:=1) rfl;have k1':((w1.alloc (.cells #[.int .i64 T,.int .i64 L,.int .i64 R,.int .i64 N] 269)).drew.alloc (.cells #[.int .i64 0,.int .i64 0,.int .i64 0] 230)).cell? ⟨w1.heap.size,1,none⟩=some (.int .i64 L):=((Blk.made w1 o t _ _).drew.alloc _).cell' (i:=1) rfl;have hB4:=(hB1.alloc (by simp;omega) (.cells #[.int .i64 a,.int .i64 n,.int .i64 d] 230)).drew;obtain⟨c2'',cT,hlk''⟩:=hsee.out _ hB4;have qK:=((Blk.made w1 o t #[.int .i64 T,.int .i64 L,.int .i64 R,.int .i64 N] 269).alloc (.cells #[.int .i64 a,.int .i64 n,.int .i64 d] 230)).drew.drew;have qS:=(Blk.made (w1.alloc (.cells #[.int .i64 T,.int .i64 L,.int .i64 R,.int .i64 N] 269)) o t #[.int .i64 a,.int .i64 n,.int .i64 d] 230).drew.drew;rw [World.size_alloc] at qS;have q0:=((((Blk.made w o t #[.int .i64 0,.int .i64 0,.int .i64 0] 230).fr (S:=fun _=>False) (Fr.below hb) (fun q=>q)).alloc (.cells #[.int .i64 T,.int .i64 L,.int .i64 R,.int .i64 N] 269)).alloc (.cells #[.int .i64 a,.int .i64 n,.int .i64 d] 230)).drew.drew;have k1'':=qK.cell' (i:=1) (v:=.int .i64 L) rfl;have k0:=qK.cell' (i:=0) (v:=.int .i64 T) rfl;have k2:=qK.cell' (i:=2) (v:=.int .i64 R) rfl;have k3:=qK.cell' (i:=3) (v:=.int .i64 N) rfl;have s0:=qS.cell' (i:=0) (v:=.int .i64 a) rfl;have s1:=qS.cell' (i:=1) (v:=.int .i64 n) rfl;have s2:=qS.cell' (i:=2) (v:=.int .i64 d) rfl;have r0:=q0.cell' (i:=0) (v:=.int .i64 0) rfl;have r1:=q0.cell' (i:=1) (v:=.int .i64 0) rfl;have r2:=q0.cell' (i:=2) (v:=.int .i64 0) rfl;have g0:=q0.free 0;have g1:=q0.free 1;have g2:=q0.free 2;have cT':(((w1.alloc (.cells #[.int .i64 T,.int .i64 L,.int .i64 R,.int .i64 N] 269)).alloc (.cells #[.int .i64 a,.int .i64 n,.int .i64 d] 230)).drew.drew).cell? ⟨b,0,none⟩=some (.int .i64 s.tenant):=cT;have hBW:=HD hB4.drew;clear qK qS hB1 hB2 hB3 hB4 hb hsee;go_wp2_with fail;refine wp_region_noPanic ?_;refine wp_region_held_drew (S:=(fun W=>W.cell? ⟨b,2,none⟩=some (.map (some g))∧W.cell? ⟨w1.heap.size,1,none⟩=some (.int .i64 L)∧(Instr.lookup 193 (.map (some g)) (.int .i64 L) true).run Tryz.prog W=.ok (.tuple #[.agg #[.int .i64 a,.int .i64 n,.int .i64 d],.bool th]) W)) (by kernel_rfl) ?_ (fun hHeld=>?_)
  ·(first|exact⟨c2,k1,hlk⟩|exact⟨c2',k1',hlk'⟩|exact⟨c2'',k1'',hlk''⟩)
  refine tkH 0 (h:=?_);refine tkH 1 (h:=?_);refine tkH 2 (h:=?_);refine tkH 3 (h:=?_);refine tkH 4 (h:=?_);refine tkH 5 (h:=?_);refine tkH 6 (h:=?_);refine tkH 7 (h:=?_);refine tkH 8 (h:=?_);refine tkH 9 (h:=?_);refine onH 10 (h:=fun K hK=>?_);go_simp;refine hK.out _ _ ?_ (fun hHeld=>?_)
  ·(first|exact⟨c2,k1,hlk⟩|exact⟨c2',k1',hlk'⟩|exact⟨c2'',k1'',hlk''⟩)
  clear hK;refine nmH (h:=?_);refine onH 11 (h:=fun K hK=>?_);go_simp;refine hK.out _ _ ?_ (fun hHeld=>?_)
  ·(first|exact⟨c2,k1,hlk⟩|exact⟨c2',k1',hlk'⟩|exact⟨c2'',k1'',hlk''⟩)
  clear hK;refine nmH (h:=?_);refine tkH 12 (h:=?_);refine wpAnyH_done (by kernel_rfl) ?_ _;refine NoPanic.normal ?_;clear c2 c2' c2'' hlk hlk' hlk'' k1 k1' k1'' cT;generalize hW4:((w1.alloc (.cells #[.int .i64 T,.int .i64 L,.int .i64 R,.int .i64 N] 269)).alloc (.cells #[.int .i64 a,.int .i64 n,.int .i64 d] 230)).drew=W4 at *;clear hW4;rcases hrel with ⟨rfl,hm⟩|⟨rfl,hm⟩
  ·by_cases hT:T=s.tenant
   ·by_cases hG:a=R∧n=N
    ·have hx:∀w,(Op.equalIn 10000 228 (.agg #[.int .i64 a,.int .i64 n]) (.agg #[.int .i64 R,.int .i64 N])).run Tryz.prog w=.ok true w:=fun w=>by rw [eq_good,decide_eq_true hG]
     have hT':(T != s.tenant)=false:=by simpa using hT
     have hres:=HD (show Ending.returned (.tuple #[.agg #[.int .i64 a,.int .i64 n,.int .i64 d],.int .i64 0])=.returned (s.lookV h) from by
      unfold CpS.lookV;rw [hl,hm];obtain⟨rfl,rfl⟩:=hG;simp [hT])
     clear hl hT hG hm hok hh;go_wp2_with fail;refine wp_region_noPanic ?_;refine wp_region_held_drew (S:=(fun W=>W.cell? ⟨b,0,none⟩=some (.int .i64 s.tenant)∧W.cell? ⟨w1.heap.size,0,none⟩=some (.int .i64 T)∧W.cell? ⟨w1.heap.size,2,none⟩=some (.int .i64 R)∧W.cell? ⟨w1.heap.size,3,none⟩=some (.int .i64 N)∧W.cell? ⟨w1.heap.size+1,0,none⟩=some (.int .i64 a)∧W.cell? ⟨w1.heap.size+1,1,none⟩=some (.int .i64 n))) (by kernel_rfl) ?_ (fun hHeld=>?_)
     ·exact⟨cT',k0,k2,k3,s0,s1⟩
     refine tkH 0 (h:=?_);refine tkH 1 (h:=?_);refine tkH 2 (h:=?_);refine tkH 3 (h:=?_);refine tkH 4 (h:=?_);refine tkH 5 (h:=?_);refine tkH 6 (h:=?_);refine tkH 7 (h:=?_);refine tkH 8 (h:=?_);refine tkH 9 (h:=?_);refine tkH 10 (h:=?_);refine tkH 11 (h:=?_);refine tkH 12 (h:=?_);refine tkH 13 (h:=?_);refine tkH 14 (h:=?_);refine tkH 15 (h:=?_);refine tkH 16 (h:=?_);refine tkH 17 (h:=?_);refine tkH 18 (h:=?_);refine tkH 19 (h:=?_);refine tkH 20 (h:=?_);refine tkH 21 (h:=?_);refine tkH 22 (h:=?_);refine tkH 23 (h:=?_);refine tkH 24 (h:=?_);refine wpAnyH_done (by kernel_rfl) ?_ _;refine NoPanic.normal ?_;generalize W4.drew=W5 at *;go_wp2_with fail;have Q:=((q0.set 0 (.int .i64 a)).set 1 (.int .i64 n)).set 2 (.int .i64 d);have d0:=Q.cell' (i:=0) (v:=.int .i64 a) rfl;have d1:=Q.cell' (i:=1) (v:=.int .i64 n) rfl;have d2:=Q.cell' (i:=2) (v:=.int .i64 d) rfl;refine bodyPost_ret (v:=.tuple #[.agg #[.int .i64 a,.int .i64 n,.int .i64 d],.int .i64 0]) ?_ rfl ⟨hres.out,?_⟩
     ·rw [results_cell_tmp (p:=4) (u:=5) (ty:=230) (by kernel_rfl)]
      clear Q q0;go_simp
     ·exact(((hBW.out.setCell (Nat.le_refl _) _).setCell (Nat.le_refl _) _).setCell (Nat.le_refl _) _)
    ·have hx:∀w,(Op.equalIn 10000 228 (.agg #[.int .i64 a,.int .i64 n]) (.agg #[.int .i64 R,.int .i64 N])).run Tryz.prog w=.ok false w:=fun w=>by rw [eq_good,decide_eq_false hG]
     have hT':(T != s.tenant)=false:=by simpa using hT
     have hres:=HD (show Ending.returned (.tuple #[.agg #[.int .i64 0,.int .i64 0,.int .i64 0],.int .i64 5])=.returned (s.lookV h) from by
      unfold CpS.lookV;rw [hl];rw [hm];simp [hT,hG])
     clear hl hT hG hm hok hh;go_wp2_with fail;refine wp_region_noPanic ?_;refine wp_region_held_drew (S:=(fun W=>W.cell? ⟨b,0,none⟩=some (.int .i64 s.tenant)∧W.cell? ⟨w1.heap.size,0,none⟩=some (.int .i64 T)∧W.cell? ⟨w1.heap.size,2,none⟩=some (.int .i64 R)∧W.cell? ⟨w1.heap.size,3,none⟩=some (.int .i64 N)∧W.cell? ⟨w1.heap.size+1,0,none⟩=some (.int .i64 a)∧W.cell? ⟨w1.heap.size+1,1,none⟩=some (.int .i64 n))) (by kernel_rfl) ?_ (fun hHeld=>?_)
     ·exact⟨cT',k0,k2,k3,s0,s1⟩
     refine tkH 0 (h:=?_);refine tkH 1 (h:=?_);refine tkH 2 (h:=?_);refine tkH 3 (h:=?_);refine tkH 4 (h:=?_);refine tkH 5 (h:=?_);refine tkH 6 (h:=?_);refine tkH 7 (h:=?_);refine tkH 8 (h:=?_);refine tkH 9 (h:=?_);refine tkH 10 (h:=?_);refine tkH 11 (h:=?_);refine tkH 12 (h:=?_);refine tkH 13 (h:=?_);refine tkH 14 (h:=?_);refine tkH 15 (h:=?_);refine tkH 16 (h:=?_);refine tkH 17 (h:=?_);refine tkH 18 (h:=?_);refine tkH 19 (h:=?_);refine tkH 20 (h:=?_);refine tkH 21 (h:=?_);refine tkH 22 (h:=?_);refine tkH 23 (h:=?_);refine tkH 24 (h:=?_);refine wpAnyH_done (by kernel_rfl) ?_ _;refine NoPanic.normal ?_;generalize W4.drew=W5 at *;go_wp2_with fail;have Q:=((q0.set 0 (.int .i64 0)).set 1 (.int .i64 0)).set 2 (.int .i64 0);have d0:=Q.cell' (i:=0) (v:=.int .i64 0) rfl;have d1:=Q.cell' (i:=1) (v:=.int .i64 0) rfl;have d2:=Q.cell' (i:=2) (v:=.int .i64 0) rfl;refine bodyPost_ret (v:=.tuple #[.agg #[.int .i64 0,.int .i64 0,.int .i64 0],.int .i64 5]) ?_ rfl ⟨hres.out,?_⟩
     ·rw [results_cell_tmp (p:=4) (u:=5) (ty:=230) (by kernel_rfl)]
      clear Q q0;go_simp
     ·exact(((hBW.out.setCell (Nat.le_refl _) _).setCell (Nat.le_refl _) _).setCell (Nat.le_refl _) _)
   ·have hT':(T != s.tenant)=true:=by simpa using hT
    have hres:=HD (show Ending.returned (.tuple #[.agg #[.int .i64 0,.int .i64 0,.int .i64 0],.int .i64 5])=.returned (s.lookV h) from by
     unfold CpS.lookV;rw [hl];rw [hm];simp [hT])
    clear hl hT hm hok hh;go_wp2_with fail;refine wp_region_noPanic ?_;refine wp_region_held_drew (S:=(fun W=>W.cell? ⟨b,0,none⟩=some (.int .i64 s.tenant)∧W.cell? ⟨w1.heap.size,0,none⟩=some (.int .i64 T)∧W.cell? ⟨w1.heap.size,2,none⟩=some (.int .i64 R)∧W.cell? ⟨w1.heap.size,3,none⟩=some (.int .i64 N)∧W.cell? ⟨w1.heap.size+1,0,none⟩=some (.int .i64 a)∧W.cell? ⟨w1.heap.size+1,1,none⟩=some (.int .i64 n))) (by kernel_rfl) ?_ (fun hHeld=>?_)
    ·exact⟨cT',k0,k2,k3,s0,s1⟩
    refine tkH 0 (h:=?_);refine tkH 1 (h:=?_);refine tkH 2 (h:=?_);refine tkH 3 (h:=?_);refine tkH 4 (h:=?_);refine tkH 5 (h:=?_);refine tkH 6 (h:=?_);refine tkH 7 (h:=?_);refine tkH 8 (h:=?_);refine tkH 9 (h:=?_);refine tkH 10 (h:=?_);refine tkH 11 (h:=?_);refine tkH 12 (h:=?_);refine tkH 13 (h:=?_);refine tkH 14 (h:=?_);refine tkH 15 (h:=?_);refine tkHs 16 (h:=?_);refine tkHs 17 (h:=?_);refine tkHs 18 (h:=?_);refine tkHs 19 (h:=?_);refine tkHs 20 (h:=?_);refine tkHs 21 (h:=?_);refine tkHs 22 (h:=?_);refine tkHs 23 (h:=?_);refine tkH 24 (h:=?_);refine wpAnyH_done (by kernel_rfl) ?_ _;refine NoPanic.normal ?_;generalize W4.drew=W5 at *;go_wp2_with fail;have Q:=((q0.set 0 (.int .i64 0)).set 1 (.int .i64 0)).set 2 (.int .i64 0);have d0:=Q.cell' (i:=0) (v:=.int .i64 0) rfl;have d1:=Q.cell' (i:=1) (v:=.int .i64 0) rfl;have d2:=Q.cell' (i:=2) (v:=.int .i64 0) rfl;refine bodyPost_ret (v:=.tuple #[.agg #[.int .i64 0,.int .i64 0,.int .i64 0],.int .i64 5]) ?_ rfl ⟨hres.out,?_⟩
    ·rw [results_cell_tmp (p:=4) (u:=5) (ty:=230) (by kernel_rfl)]
     clear Q q0;go_simp
    ·exact(((hBW.out.setCell (Nat.le_refl _) _).setCell (Nat.le_refl _) _).setCell (Nat.le_refl _) _)
  ·skip
   have hres:=HD (show Ending.returned (.tuple #[.agg #[.int .i64 0,.int .i64 0,.int .i64 0],.int .i64 5])=.returned (s.lookV h) from by
    unfold CpS.lookV;rw [hl];rw [hm];rfl)
   clear hl hm hok hh;go_wp2_with fail;refine wp_region_noPanic ?_;refine wp_region_held_drew (S:=(fun W=>W.cell? ⟨b,0,none⟩=some (.int .i64 s.tenant)∧W.cell? ⟨w1.heap.size,0,none⟩=some (.int .i64 T)∧W.cell? ⟨w1.heap.size,2,none⟩=some (.int .i64 R)∧W.cell? ⟨w1.heap.size,3,none⟩=some (.int .i64 N)∧W.cell? ⟨w1.heap.size+1,0,none⟩=some (.int .i64 a)∧W.cell? ⟨w1.heap.size+1,1,none⟩=some (.int .i64 n))) (by kernel_rfl) ?_ (fun hHeld=>?_)
   ·exact⟨cT',k0,k2,k3,s0,s1⟩
   refine tkH 0 (h:=?_);refine tkH 1 (h:=?_);refine tkH 2 (h:=?_);refine tkH 3 (h:=?_);refine tkH 4 (h:=?_);refine tkH 5 (h:=?_);refine tkH 6 (h:=?_);refine tkHs 7 (h:=?_);refine tkHs 8 (h:=?_);refine tkHs 9 (h:=?_);refine tkHs 10 (h:=?_);refine tkHs 11 (h:=?_);refine tkHs 12 (h:=?_);refine tkHs 13 (h:=?_);refine tkH 14 (h:=?_);refine tkH 15 (h:=?_);refine tkHs 16 (h:=?_);refine tkHs 17 (h:=?_);refine tkHs 18 (h:=?_);refine tkHs 19 (h:=?_);refine tkHs 20 (h:=?_);refine tkHs 21 (h:=?_);refine tkHs 22 (h:=?_);refine tkHs 23 (h:=?_);refine tkH 24 (h:=?_);refine wpAnyH_done (by kernel_rfl) ?_ _;refine NoPanic.normal ?_;generalize W4.drew=W5 at *;go_wp2_with fail;have Q:=((q0.set 0 (.int .i64 0)).set 1 (.int .i64 0)).set 2 (.int .i64 0);have d0:=Q.cell' (i:=0) (v:=.int .i64 0) rfl;have d1:=Q.cell' (i:=1) (v:=.int .i64 0) rfl;have d2:=Q.cell' (i:=2) (v:=.int .i64 0) rfl;refine bodyPost_ret (v:=.tuple #[.agg #[.int .i64 0,.int .i64 0,.int .i64 0],.int .i64 5]) ?_ rfl ⟨hres.out,?_⟩
   ·rw [results_cell_tmp (p:=4) (u:=5) (ty:=230) (by kernel_rfl)]
    clear Q q0;go_simp
   ·exact(((hBW.out.setCell (Nat.le_refl _) _).setCell (Nat.le_refl _) _).setCell (Nat.le_refl _) _)
 ·have e:unV h=.tuple #[keyV 0 0 0 0,.int .i64 5]:=if_neg hok
  rw [e] at hu;unfold keyV at hu;clear e;have hl:s.look h=none:=if_neg hok;obtain⟨T,L,R,N,hu⟩:∃T L R N:Int,∀w,Calls Tryz.prog 214 #[.int .u64 h] w fun e w'=>e=.returned (.tuple #[.agg #[.int .i64 T,.int .i64 L,.int .i64 R,.int .i64 N],.int .i64 5])∧Below w.heap.size w w':=⟨0,0,0,0,hu⟩
  replace hu:=HD hu;obtain⟨a,n,d,th,hrel,hlk⟩:=slot_of s.slots L;have hsee:=HD (show ∀W,Below w.heap.size w W→W.cell? ⟨b,2,none⟩=some (.map (some g))∧W.cell? ⟨b,0,none⟩=some (.int .i64 s.tenant)∧(Instr.lookup 193 (.map (some g)) (.int .i64 L) true).run Tryz.prog W=.ok (.tuple #[.agg #[.int .i64 a,.int .i64 n,.int .i64 d],.bool th]) W from fun W hb=>by
   have f:Fr (fun _=>False) w o W o:=fr_below hb;have q1:=h1.fr f (fun q=>q);exact⟨q1.cell' (i:=2) rfl,q1.cell' (i:=0) rfl,hlk W o t g (h2.fr f (fun q=>q))⟩)
  clear h1 h2 h3 h4 h5 hlk;go_enter Tryz.func162,Tryz.ntmps162
  go_wp2_with fail;refine(hu.out _).mono ?_;rintro e w1 ⟨rfl,hb⟩;have hsz:=hb.size;simp at hsz
  have hB1:Below w.heap.size w (w1.alloc (.cells #[.int .i64 T,.int .i64 L,.int .i64 R,.int .i64 N] 269)):=(((Below.refl w.heap.size w).alloc (Nat.le_refl _) _).trans (hb.mono (by simp))).alloc (by omega) _;have hB2:=hB1.drew;have hB3:=hB2.alloc (by simp;omega) (.cells #[.int .i64 0,.int .i64 0,.int .i64 0] 230);obtain⟨c2,_,hlk⟩:=hsee.out _ hB2;obtain⟨c2',_,hlk'⟩:=hsee.out _ hB3;have k1:(w1.alloc (.cells #[.int .i64 T,.int .i64 L,.int .i64 R,.int .i64 N] 269)).drew.cell? ⟨w1.heap.size,1,none⟩=some (.int .i64 L):=(Blk.made w1 o t _ _).cell' (i:=1) rfl;have k1':((w1.alloc (.cells #[.int .i64 T,.int .i64 L,.int .i64 R,.int .i64 N] 269)).drew.alloc (.cells #[.int .i64 0,.int .i64 0,.int .i64 0] 230)).cell? ⟨w1.heap.size,1,none⟩=some (.int .i64 L):=((Blk.made w1 o t _ _).drew.alloc _).cell' (i:=1) rfl;have hB4:=(hB1.alloc (by simp;omega) (.cells #[.int .i64 a,.int .i64 n,.int .i64 d] 230)).drew;obtain⟨c2'',cT,hlk''⟩:=hsee.out _ hB4;have qK:=((Blk.made w1 o t #[.int .i64 T,.int .i64 L,.int .i64 R,.int .i64 N] 269).alloc (.cells #[.int .i64 a,.int .i64 n,.int .i64 d] 230)).drew.drew;have qS:=(Blk.made (w1.alloc (.cells #[.int .i64 T,.int .i64 L,.int .i64 R,.int .i64 N] 269)) o t #[.int .i64 a,.int .i64 n,.int .i64 d] 230).drew.drew;rw [World.size_alloc] at qS;have q0:=((((Blk.made w o t #[.int .i64 0,.int .i64 0,.int .i64 0] 230).fr (S:=fun _=>False) (Fr.below hb) (fun q=>q)).alloc (.cells #[.int .i64 T,.int .i64 L,.int .i64 R,.int .i64 N] 269)).alloc (.cells #[.int .i64 a,.int .i64 n,.int .i64 d] 230)).drew.drew;have k1'':=qK.cell' (i:=1) (v:=.int .i64 L) rfl;have k0:=qK.cell' (i:=0) (v:=.int .i64 T) rfl;have k2:=qK.cell' (i:=2) (v:=.int .i64 R) rfl;have k3:=qK.cell' (i:=3) (v:=.int .i64 N) rfl;have s0:=qS.cell' (i:=0) (v:=.int .i64 a) rfl;have s1:=qS.cell' (i:=1) (v:=.int .i64 n) rfl;have s2:=qS.cell' (i:=2) (v:=.int .i64 d) rfl;have r0:=q0.cell' (i:=0) (v:=.int .i64 0) rfl;have r1:=q0.cell' (i:=1) (v:=.int .i64 0) rfl;have r2:=q0.cell' (i:=2) (v:=.int .i64 0) rfl;have g0:=q0.free 0;have g1:=q0.free 1;have g2:=q0.free 2;have cT':(((w1.alloc (.cells #[.int .i64 T,.int .i64 L,.int .i64 R,.int .i64 N] 269)).alloc (.cells #[.int .i64 a,.int .i64 n,.int .i64 d] 230)).drew.drew).cell? ⟨b,0,none⟩=some (.int .i64 s.tenant):=cT;have hBW:=HD hB4.drew;clear qK qS hB1 hB2 hB3 hB4 hb hsee;go_wp2_with fail;refine wp_region_noPanic ?_;refine wp_region_held_drew (S:=(fun W=>W.cell? ⟨b,2,none⟩=some (.map (some g))∧W.cell? ⟨w1.heap.size,1,none⟩=some (.int .i64 L)∧(Instr.lookup 193 (.map (some g)) (.int .i64 L) true).run Tryz.prog W=.ok (.tuple #[.agg #[.int .i64 a,.int .i64 n,.int .i64 d],.bool th]) W)) (by kernel_rfl) ?_ (fun hHeld=>?_)
  ·(first|exact⟨c2,k1,hlk⟩|exact⟨c2',k1',hlk'⟩|exact⟨c2'',k1'',hlk''⟩)
  refine tkH 0 (h:=?_);refine tkH 1 (h:=?_);refine tkH 2 (h:=?_);refine tkH 3 (h:=?_);refine tkH 4 (h:=?_);refine tkH 5 (h:=?_);refine tkH 6 (h:=?_);refine tkH 7 (h:=?_);refine tkH 8 (h:=?_);refine tkH 9 (h:=?_);refine onH 10 (h:=fun K hK=>?_);go_simp;refine hK.out _ _ ?_ (fun hHeld=>?_)
  ·(first|exact⟨c2,k1,hlk⟩|exact⟨c2',k1',hlk'⟩|exact⟨c2'',k1'',hlk''⟩)
  clear hK;refine nmH (h:=?_);refine onH 11 (h:=fun K hK=>?_);go_simp;refine hK.out _ _ ?_ (fun hHeld=>?_)
  ·(first|exact⟨c2,k1,hlk⟩|exact⟨c2',k1',hlk'⟩|exact⟨c2'',k1'',hlk''⟩)
  clear hK;refine nmH (h:=?_);refine tkH 12 (h:=?_);refine wpAnyH_done (by kernel_rfl) ?_ _;refine NoPanic.normal ?_;clear c2 c2' c2'' hlk hlk' hlk'' k1 k1' k1'' cT;generalize hW4:((w1.alloc (.cells #[.int .i64 T,.int .i64 L,.int .i64 R,.int .i64 N] 269)).alloc (.cells #[.int .i64 a,.int .i64 n,.int .i64 d] 230)).drew=W4 at *;clear hW4;have hres:=HD (show Ending.returned (.tuple #[.agg #[.int .i64 0,.int .i64 0,.int .i64 0],.int .i64 5])=.returned (s.lookV h) from by
   unfold CpS.lookV;rw [hl])
  clear hl hok hh hrel;go_wp2_with fail;refine wp_region_noPanic ?_;refine wp_region_held_drew (S:=(fun W=>W.cell? ⟨b,0,none⟩=some (.int .i64 s.tenant)∧W.cell? ⟨w1.heap.size,0,none⟩=some (.int .i64 T)∧W.cell? ⟨w1.heap.size,2,none⟩=some (.int .i64 R)∧W.cell? ⟨w1.heap.size,3,none⟩=some (.int .i64 N)∧W.cell? ⟨w1.heap.size+1,0,none⟩=some (.int .i64 a)∧W.cell? ⟨w1.heap.size+1,1,none⟩=some (.int .i64 n))) (by kernel_rfl) ?_ (fun hHeld=>?_)
  ·exact⟨cT',k0,k2,k3,s0,s1⟩
  refine tkH 0 (h:=?_);refine tkH 1 (h:=?_);refine tkH 2 (h:=?_);refine tkHs 3 (h:=?_);refine tkHs 4 (h:=?_);refine tkH 5 (h:=?_);refine tkH 6 (h:=?_);refine tkHs 7 (h:=?_);refine tkHs 8 (h:=?_);refine tkHs 9 (h:=?_);refine tkHs 10 (h:=?_);refine tkHs 11 (h:=?_);refine tkHs 12 (h:=?_);refine tkHs 13 (h:=?_);refine tkH 14 (h:=?_);refine tkH 15 (h:=?_);refine tkHs 16 (h:=?_);refine tkHs 17 (h:=?_);refine tkHs 18 (h:=?_);refine tkHs 19 (h:=?_);refine tkHs 20 (h:=?_);refine tkHs 21 (h:=?_);refine tkHs 22 (h:=?_);refine tkHs 23 (h:=?_);refine tkH 24 (h:=?_);refine wpAnyH_done (by kernel_rfl) ?_ _;refine NoPanic.normal ?_;generalize W4.drew=W5 at *;go_wp2_with fail;have Q:=((q0.set 0 (.int .i64 0)).set 1 (.int .i64 0)).set 2 (.int .i64 0);have d0:=Q.cell' (i:=0) (v:=.int .i64 0) rfl;have d1:=Q.cell' (i:=1) (v:=.int .i64 0) rfl;have d2:=Q.cell' (i:=2) (v:=.int .i64 0) rfl;refine bodyPost_ret (v:=.tuple #[.agg #[.int .i64 0,.int .i64 0,.int .i64 0],.int .i64 5]) ?_ rfl ⟨hres.out,?_⟩
  ·rw [results_cell_tmp (p:=4) (u:=5) (ty:=230) (by kernel_rfl)]
   clear Q q0;go_simp
  ·exact(((hBW.out.setCell (Nat.le_refl _) _).setCell (Nat.le_refl _) _).setCell (Nat.le_refl _) _)
end
section
open Go.RowKit
def CpS.sh(s:CpS)(ob:Bool):ShS:=if ob then s.obj else s.ext
def CpS.base(ob:Bool):Int:=if ob then 0 else 4096
def CpG(w:World)(o:Nat→Tag)(t:Tag)(b g bo be:Nat)(s:CpS):Prop :=
 Blk w o t b #[.int .i64 s.tenant,.int .i64 s.next,.map (some g),.pointer (some ⟨bo,0,none⟩),.pointer (some ⟨be,0,none⟩)] 195 ∧
  MpAt w o t g .i64 eS s.slots∧ShAt w o (t++[0]) bo s.obj∧ShAt w o (t++[1]) be s.ext∧b≠g
theorem CpG.at{w:World}{o:Nat→Tag}{t:Tag}{b g bo be:Nat}{s:CpS}(h:CpG w o t b g bo be s):CpAt w o t b s:=⟨g,bo,be,h⟩
structure CpOk(s:CpS):Prop where
 tenant:0≤s.tenant∧s.tenant≤7
 next:1≤s.next∧s.next≤17592186044416
 obj:s.obj.n=4096
 ext:s.ext.n=64
 keys:∀p∈s.slots,0≤p.1∧p.1<4160
def CpS.fill(s:CpS)(ob:Bool)(addr rights:Int)(k:Nat):CpS :=
 ⟨s.tenant,s.next+1,mIns (CpS.base ob+k) ((rights,s.next),addr) s.slots,if ob then s.obj.flip k else s.obj,if ob then s.ext else s.ext.flip k⟩
def CpS.putF(s:CpS)(ob:Bool)(addr rights:Int):Value×CpS :=
 if 17592186044416≤s.next then (.tuple #[.int .u64 0,.int .i64 10],s)
 else match (s.sh ob).low with
 |none=>(.tuple #[.int .u64 0,.int .i64 10],s)
 |some k=>(.tuple #[.int .u64 (packN s.tenant (CpS.base ob+k) rights s.next:Nat),.int .i64 0],s.fill ob addr rights k)
theorem CpG.fr{S:Tag→Prop}{w w':World}{o o':Nat→Tag}{t:Tag}{b g bo be:Nat}{s:CpS}(h:CpG w o t b g bo be s)(f:Fr S w o w' o')(hS:Off S t):CpG w' o' t b g bo be s :=
 ⟨h.1.fr f hS.self,h.2.1.fr f hS.self,h.2.2.1.fr f (hS.sub [0]),h.2.2.2.1.fr f (hS.sub [1]),h.2.2.2.2⟩
def CpPost(w:World)(o:Nat→Tag)(t:Tag)(b:Nat)(v:Value)(s:CpS)(e:Ending)(w':World):Prop:=e=.returned v∧∃o',CpAt w' o' t b s∧Fr (Und t) w o w' o'
def CpPostG(w:World)(o:Nat→Tag)(t:Tag)(b g bo be:Nat)(v:Value)(s:CpS)(e:Ending)(w':World):Prop:=e=.returned v∧CpG w' o t b g bo be s∧Fr (Und t) w o w' o
theorem CpPostG.post{w:World}{o:Nat→Tag}{t:Tag}{b g bo be:Nat}{v:Value}{s:CpS}{e:Ending}{w':World}(h:CpPostG w o t b g bo be v s e w'):CpPost w o t b v s e w':=⟨h.1,o,h.2.1.at,h.2.2⟩
def CpS.ix(ob:Bool):Nat:=if ob then 0 else 1
theorem cpPut(ob:Bool)(b g bo be p:Nat)(addr rights:Int)(w:World){o:Nat→Tag}{t:Tag}{s:CpS}(h:CpG w o t b g bo be s)(hok:CpOk s)(h9:¬t <+: [9])(hp:p=if ob then bo else be)(hr:1≤rights∧rights≤7) :
  Calls Tryz.prog 164 #[.pointer (some ⟨b,0,none⟩),.pointer (some ⟨p,0,none⟩),.int .i64 (CpS.base ob),.int .i64 addr,.int .i64 rights] w (CpPostG w o t b g bo be (s.putF ob addr rights).1 (s.putF ob addr rights).2):=by
 have hs0:=HD h;obtain⟨h1,h2,h3,h4,h5⟩:=h;have c1:w.cell? ⟨b,1,none⟩=some (.int .i64 s.next):=h1.cell' (i:=1) rfl;unfold CpS.putF;by_cases hn:17592186044416≤s.next
 ·rw [if_pos hn]
  clear h1 h2 h3 h4 h5 hok hr hp;go_enter Tryz.func164,Tryz.ntmps164
  go_wp2_with fail;go_ret2
  exact⟨rfl,hs0.out,Fr.refl _ _ _⟩
 ·rw [if_neg hn]
  have hpk:ShAt w o (t++[CpS.ix ob]) p (s.sh ob):=by rw [hp];cases ob<;>assumption
  have htk:=HD (shTake p w hpk (not_nine h9 _));have hnb:(s.sh ob).n≤4096∧CpS.base ob+(s.sh ob).n≤4160∧0≤CpS.base ob:=by
   have:=hok.obj;have:=hok.ext;cases ob
   ·show s.ext.n≤4096∧(4096:Int)+s.ext.n≤4160∧_;exact⟨by omega,by omega,by show (0:Int)≤4096;omega⟩
   ·show s.obj.n≤4096∧(0:Int)+s.obj.n≤4160∧_;exact⟨by omega,by omega,by show (0:Int)≤0;omega⟩
  rcases low_cases (s.sh ob) with ⟨e1,e2⟩|⟨k,e1,e2,hk,hkf⟩
  ·rw [e2]
   have e3:(s.sh ob).tkV=0∧(s.sh ob).tkE=13∧(s.sh ob).tk=s.sh ob:=by unfold ShS.tkV ShS.tkE ShS.tk;rw [e1];exact⟨rfl,rfl,rfl⟩
   rw [e3.1,e3.2.1,e3.2.2] at htk;have hfin:=HD (show ∀w1,ShAt w1 o (t++[CpS.ix ob]) p (s.sh ob)→Fr (Und (t++[CpS.ix ob])) w o w1 o→CpPostG w o t b g bo be (.tuple #[.int .u64 0,.int .i64 10]) s (.returned (.tuple #[.int .u64 0,.int .i64 10])) w1 from fun w1 r1 r2=>by
    refine⟨rfl,⟨h1.fr r2 (not_sub t _),h2.fr r2 (not_sub t _),?_,?_,h5⟩,r2.mono fun v q=>q.up⟩
    ·cases ob
     ·exact h3.fr r2 (off_one (by decide) h9)
     ·rw [hp] at r1;exact r1
    ·cases ob
     ·rw [hp] at r1;exact r1
     ·exact h4.fr r2 (off_one (by decide) h9))
   clear h1 h2 h3 h4 h5 hok hr hp hpk hs0 e1 e2 e3 hnb;generalize CpS.base ob=base at *;go_enter Tryz.func164,Tryz.ntmps164
   go_wp2_with fail;refine htk.out.mono ?_;rintro e w1 ⟨rfl,r1,r2⟩;have hf:=HD (hfin.out w1 r1 r2);clear r1 r2;go_wp2_with fail;go_ret2
   exact hf.out
  ·rw [e2]
   simp only;have e3:(s.sh ob).tkV=k∧(s.sh ob).tkE=0∧(s.sh ob).tk=(s.sh ob).flip k:=by unfold ShS.tkV ShS.tkE ShS.tk;rw [e1];exact⟨if_neg (by omega),if_neg (by omega),by rw [if_neg (by omega)];rfl⟩
   rw [e3.1,e3.2.1,e3.2.2] at htk;have hlen:=rise_len h2.2.1 0 4160 (by omega) hok.keys;have hnext:=hok.next;have hten:=hok.tenant;have hkey:keyOK s.tenant (CpS.base ob+k) rights s.next:=⟨hten,⟨by omega,by omega⟩,hr,⟨hnext.1,by omega⟩⟩
   have hfin:=HD (show ∀w1,ShAt w1 o (t++[CpS.ix ob]) p ((s.sh ob).flip k)→Fr (Und (t++[CpS.ix ob])) w o w1 o →
     w1.drew.cell? ⟨b,1,none⟩=some (.int .i64 s.next)∧w1.drew.cell? ⟨b,2,none⟩=some (.map (some g)) ∧
     ∃w2,(Instr.mapUpdate 193 (.map (some g)) (.int .i64 (CpS.base ob+k)) (.agg #[.int .i64 rights,.int .i64 s.next,.int .i64 addr])).run Tryz.prog w1.drew=.ok () w2 ∧
      w2.cell? ⟨b,1,none⟩=some (.int .i64 s.next)∧w2.cell? ⟨b,2,none⟩=some (.map (some g))∧w2.drew.cell? ⟨b,0,none⟩=some (.int .i64 s.tenant)∧w2.drew.cell? ⟨b,1,none⟩=some (.int .i64 s.next) ∧
      Calls Tryz.prog 215 #[.agg #[.int .i64 s.tenant,.int .i64 (CpS.base ob+k),.int .i64 rights,.int .i64 s.next]] w2.drew (fun e w3=>e=.returned (.tuple #[.int .u64 (packN s.tenant (CpS.base ob+k) rights s.next:Nat),.int .i64 0]) ∧
       (w3.cell? ⟨b,0,none⟩=some (.int .i64 s.tenant)∧w3.cell? ⟨b,1,none⟩=some (.int .i64 s.next))∧w3.frozen? ⟨b,1,none⟩=false ∧
       CpPostG w o t b g bo be (.tuple #[.int .u64 (packN s.tenant (CpS.base ob+k) rights s.next:Nat),.int .i64 0]) (s.fill ob addr rights k) (.returned (.tuple #[.int .u64 (packN s.tenant (CpS.base ob+k) rights s.next:Nat),.int .i64 0])) (w3.setCell ⟨b,1,none⟩ (.int .i64 (s.next+1)))) from fun w1 r1 r2=>by
    have q1:=h1.fr r2 (not_sub t _);have q2:=h2.fr r2 (not_sub t _);obtain⟨w2,hup,m2,m3,m4⟩:=mp_store (P:=Tryz.prog) q2.drew Tryz.underlying193 Tryz.underlying3 (CpS.base ob+k) ((rights,s.next),addr) (by omega);have b2:=only_blk q1.drew m4 h5;refine⟨q1.cell' (i:=1) rfl,q1.cell' (i:=2) rfl,w2,hup,b2.cell' (i:=1) rfl,b2.cell' (i:=2) rfl,b2.cell' (i:=0) rfl,b2.cell' (i:=1) rfl,?_⟩;refine(hnPack s.tenant (CpS.base ob+k) rights s.next w2.drew).mono ?_;rintro e w3 ⟨rfl,hB⟩;have f3:Fr (fun _=>False) w2 o w3 o:=Fr.drew.trans (Fr.below hB);have b3:=b2.fr f3 (fun q=>q);have g3:=m2.fr f3 (fun q=>q);have f4:Fr (· = t) w1 o (w3.setCell ⟨b,1,none⟩ (.int .i64 (s.next+1))) o:=((Fr.drew.trans m3).trans (f3.mono fun _ q=>q.elim)).set' (fun _=>q1.1) _;have hsib:∀i,Off (· = t) (t++[i]):=fun i=>⟨fun v hv q=>by subst q;have:=List.IsPrefix.length_le hv;simp at this;omega,fun q=>h9 (by rw [←q];exact List.prefix_refl _)⟩
    refine⟨by unfold packE;rw [if_pos hkey],⟨b3.cell' (i:=0) rfl,b3.cell' (i:=1) rfl⟩,b3.free 1,rfl,⟨b3.set 1 _,?_,?_,?_,h5⟩,(r2.mono fun v q=>q.up).trans (f4.mono fun v q=>by rw [q];exact Und.self t)⟩
    ·exact only_mp g3 ((Only.refl (· = b) w3).setCell (fun _=>rfl) _) (fun q=>h5 q.symm)
    ·cases ob
     ·exact(h3.fr r2 (off_one (by decide) h9)).fr f4 (hsib 0)
     ·rw [hp] at r1;exact r1.fr f4 (hsib 0)
    ·cases ob
     ·rw [hp] at r1;exact r1.fr f4 (hsib 1)
     ·exact(h4.fr r2 (off_one (by decide) h9)).fr f4 (hsib 1))
   have u1:=IntWalk.i64_in (CpS.base ob+k) (by omega);have u2:=IntWalk.i64_in (s.next+1) (by omega);clear h1 h2 h3 h4 h5 hok hp hpk hs0 e1 e2 e3 hkf hkey hten hlen;generalize CpS.base ob=base at *;generalize s.fill ob addr rights k=s' at *;go_enter Tryz.func164,Tryz.ntmps164
   go_wp2_with fail;refine htk.out.mono ?_;rintro e w1 ⟨rfl,r1,r2⟩;obtain⟨d1,d2,w2,hup,e1,e2,m0,m1,hpk⟩:=hfin.out w1 r1 r2;replace hpk:=HD hpk;clear r1 r2 hfin;go_wp2_with fail;refine wp_region_noPanic ?_;refine wp_region_held_drew (S:=(fun W=>W.cell? ⟨b,1,none⟩=some (.int .i64 s.next)∧W.cell? ⟨b,2,none⟩=some (.map (some g)))) (by kernel_rfl) ?_ (fun hHeld=>?_)
   ·(first|exact⟨d1,d2⟩|exact⟨e1,e2⟩)
   refine tkH 0 (h:=?_);refine tkH 1 (h:=?_);refine tkH 2 (h:=?_);refine tkH 3 (h:=?_);refine tkH 4 (h:=?_);refine tkH 5 (h:=?_);refine tkH 6 (h:=?_);refine tkH 7 (h:=?_);refine tkH 8 (h:=?_);refine tkH 9 (h:=?_);refine tkH 10 (h:=?_);refine tkH 11 (h:=?_);refine tkH 12 (h:=?_);refine tkH 13 (h:=?_);refine tkH 14 (h:=?_);refine onH 15 (h:=fun K hK=>?_);go_simp;refine hK.out _ _ ?_ (fun hHeld=>?_)
   ·(first|exact⟨d1,d2⟩|exact⟨e1,e2⟩)
   clear hK;refine nmH (h:=?_);refine wpAnyH_done (by kernel_rfl) ?_ _;refine NoPanic.normal ?_;go_wp2_with fail;refine wp_region_noPanic ?_;refine wp_region_held_drew (S:=(fun W=>W.cell? ⟨b,0,none⟩=some (.int .i64 s.tenant)∧W.cell? ⟨b,1,none⟩=some (.int .i64 s.next))) (by kernel_rfl) ?_ (fun hHeld=>?_)
   ·(first|exact⟨m0,m1⟩|exact hcs)
   refine tkH 0 (h:=?_);refine tkH 1 (h:=?_);refine tkH 2 (h:=?_);refine tkH 3 (h:=?_);refine tkH 4 (h:=?_);refine tkH 5 (h:=?_);refine tkH 6 (h:=?_);refine tkH 7 (h:=?_);refine tkH 8 (h:=?_);refine tkH 9 (h:=?_);refine tkH 10 (h:=?_);refine tkH 11 (h:=?_);refine tkH 12 (h:=?_);refine onH 13 (h:=fun K hK=>?_);go_simp;refine hpk.out.mono ?_;rintro e w3 ⟨rfl,hcs,hnx⟩;replace hnx:=HD hnx;go_wp2_with fail;refine hK.out _ _ ?_ (fun hHeld=>?_)
   ·(first|exact⟨m0,m1⟩|exact hcs)
   clear hK;refine nmH (h:=?_);refine tkH 14 (h:=?_);refine tkH 15 (h:=?_);refine tkH 16 (h:=?_);refine tkH 17 (h:=?_);refine tkH 18 (h:=?_);refine wpAnyH_done (by kernel_rfl) ?_ _;refine NoPanic.normal ?_;have z1:=hcs.2;have zf:=hnx.out.1;replace hnx:=HD hnx.out.2;go_wp2_with fail;go_ret2
   exact hnx.out
end
section
open Go.RowKit
theorem putF_tuple(s:CpS)(ob:Bool)(addr rights:Int):∃(v:Nat) (e:Int),(s.putF ob addr rights).1=.tuple #[.int .u64 (v:Nat),.int .i64 e]:=by
 unfold CpS.putF
 split
 ·exact⟨0,10,rfl⟩
 ·split
  ·exact⟨0,10,rfl⟩
  ·exact⟨_,0,rfl⟩
def CpS.grantF(s:CpS)(addr:Int):Value×CpS:=if addr<0 then (.tuple #[.int .u64 0,.int .i64 12],s) else s.putF true addr 7
theorem cpGrant(b:Nat)(addr:Int)(w:World){o:Nat→Tag}{t:Tag}{s:CpS}(h:CpAt w o t b s)(hok:CpOk s)(h9:¬t <+: [9]) :
  Calls Tryz.prog 146 #[.pointer (some ⟨b,0,none⟩),.int .i64 addr] w (CpPost w o t b (s.grantF addr).1 (s.grantF addr).2):=by
 have hs0:=HD h;obtain⟨g,bo,be,h⟩:=h;unfold CpS.grantF;by_cases ha:addr<0
 ·rw [if_pos ha]
  clear h hok;go_enter Tryz.func146,Tryz.ntmps146
  go_wp2_with fail;go_ret2
  exact⟨rfl,o,hs0.out,Fr.refl _ _ _⟩
 ·rw [if_neg ha]
  have hp:=HD (cpPut true b g bo be bo addr 7 w h hok h9 rfl (by omega));obtain⟨v,e,he⟩:=putF_tuple s true addr 7;rw [he] at hp ⊢;rw [show CpS.base true=0 from rfl] at hp;have c3:w.cell? ⟨b,3,none⟩=some (.pointer (some ⟨bo,0,none⟩)):=h.1.cell' (i:=3) rfl;clear h hok hs0 he;go_enter Tryz.func146,Tryz.ntmps146
  go_wp2_with fail;refine hp.out.mono ?_;rintro e w1 hx;have hv:=hx.1;replace hx:=HD hx.post;subst hv;go_wp2_with fail;go_ret2
  exact hx.out
def CpS.findF(s:CpS)(h:Nat)(r:Int):Int×Int:=match s.look h with
 |none=>(0,5)
 |some x=>if (0≤r∧r≤7)∧mayR x.1.1 r=true then (x.2,0) else (0,5)
theorem cpFind(b:Nat)(h:Nat)(r:Int)(hh:h<18446744073709551616)(w:World){o:Nat→Tag}{t:Tag}{s:CpS}(hc:CpAt w o t b s) :
  Calls Tryz.prog 150 #[.pointer (some ⟨b,0,none⟩),.int .u64 h,.int .i64 r] w fun e w'=>e=.returned (.tuple #[.int .i64 (s.findF h r).1,.int .i64 (s.findF h r).2])∧Below w.heap.size w w':=by
 have hf:=HD (cpFind0 b h hh w hc);unfold CpS.findF;unfold CpS.lookV at hf;cases hl:s.look h with
 |none =>
  rw [hl] at hf;simp only at hf ⊢;clear hc hl;have hB:Hid (∀w1,Below w.heap.size w w1→Below w.heap.size w (w1.alloc (.cells #[.int .i64 0,.int .i64 0,.int .i64 0] 230))):=HD fun w1 hb=>hb.alloc hb.size _
  go_enter Tryz.func150,Tryz.ntmps150
  go_wp2_with fail;refine hf.out.mono ?_;rintro e w1 ⟨rfl,hb⟩;replace hb:=HD (hB.out _ hb);go_wp2_with fail;go_ret2
  exact⟨rfl,hb.out⟩
 |some x =>
  obtain⟨⟨a,n⟩,d⟩:=x;rw [hl] at hf;simp only at hf ⊢;clear hc hl;have hB:Hid (∀w1,Below w.heap.size w w1→Below w.heap.size w (w1.alloc (.cells #[.int .i64 a,.int .i64 n,.int .i64 d] 230)) ∧
    Calls Tryz.prog 163 #[.agg #[.int .i64 a,.int .i64 n],.int .i64 r] (w1.alloc (.cells #[.int .i64 a,.int .i64 n,.int .i64 d] 230)) (fun e w2=>e=.returned (.bool (mayR a r))∧w2.cell? ⟨w1.heap.size,1+1,none⟩=some (.int .i64 d)∧w2.cell? ⟨w1.heap.size,2,none⟩=some (.int .i64 d)∧Below w.heap.size w w2)):=HD fun w1 hb=>by
   have q:=hb.alloc hb.size (.cells #[.int .i64 a,.int .i64 n,.int .i64 d] 230);refine⟨q,(cpMay a n r _).mono ?_⟩;rintro e w2 ⟨rfl,hb2⟩;have k:=((Blk.made w1 o t #[.int .i64 a,.int .i64 n,.int .i64 d] 230).fr (S:=fun _=>False) (Fr.below hb2) (fun q=>q)).cell' (i:=2) (v:=.int .i64 d) rfl;exact⟨rfl,k,k,q.trans (hb2.mono q.size)⟩
  by_cases r1:r<0
  ·have e0:¬((0≤r∧r≤7)∧mayR a r=true):=by omega
   rw [if_neg e0];clear e0;go_enter Tryz.func150,Tryz.ntmps150
   go_wp2_with fail;refine hf.out.mono ?_;rintro e w1 ⟨rfl,hb⟩;replace hb:=HD (hB.out _ hb).1;go_wp2_with fail;go_ret2
   exact⟨rfl,hb.out⟩
  ·by_cases r2:7<r
   ·have e0:¬((0≤r∧r≤7)∧mayR a r=true):=by omega
    rw [if_neg e0];clear e0;go_enter Tryz.func150,Tryz.ntmps150
    go_wp2_with fail;refine hf.out.mono ?_;rintro e w1 ⟨rfl,hb⟩;replace hb:=HD (hB.out _ hb).1;go_wp2_with fail;go_ret2
    exact⟨rfl,hb.out⟩
   ·have e1:((0≤r∧r≤7)∧mayR a r=true)↔mayR a r=true:=by constructor;exact fun q=>q.2;exact fun q=>⟨by omega,q⟩
    simp only [e1];clear e1;generalize mayR a r=mb at *;cases mb
    ·simp only [Bool.false_eq_true,if_false]
     go_enter Tryz.func150,Tryz.ntmps150
     go_wp2_with fail;refine hf.out.mono ?_;rintro e w1 ⟨rfl,hb⟩;replace hb:=HD (hB.out _ hb).2;go_wp2_with fail;refine hb.out.mono ?_;rintro e w2 ⟨rfl,_,_,hb2⟩;replace hb2:=HD hb2;go_wp2_with fail;go_ret2
     exact⟨rfl,hb2.out⟩
    ·simp only [if_true]
     go_enter Tryz.func150,Tryz.ntmps150
     go_wp2_with fail;refine hf.out.mono ?_;rintro e w1 ⟨rfl,hb⟩;replace hb:=HD (hB.out _ hb).2;go_wp2_with fail;refine hb.out.mono ?_;rintro e w2 ⟨rfl,k1,k2,hb2⟩;replace hb2:=HD hb2;go_wp2_with fail;go_ret2
     exact⟨rfl,hb2.out⟩
end
section
open Go.RowKit
def CpS.restF(s:CpS)(h:Nat)(r:Int):Value×CpS:=match s.look h with
 |none=>(.tuple #[.int .u64 0,.int .i64 5],s)
 |some x=>if r<1∨7<r then (.tuple #[.int .u64 0,.int .i64 2],s) else if mayR x.1.1 r=true then s.putF false x.2 r else (.tuple #[.int .u64 0,.int .i64 5],s)
theorem und_nil{t:Tag}(h9:¬t <+: [9]):¬Und t []:=fun q=>h9 (by
 cases t with
 |nil=>exact List.nil_prefix
 |cons a l=>have:=List.IsPrefix.length_le q;simp at this)
theorem cpRestrict(b:Nat)(h:Nat)(r:Int)(hh:h<18446744073709551616)(w:World){o:Nat→Tag}{t:Tag}{s:CpS}(hc:CpAt w o t b s)(hok:CpOk s)(h9:¬t <+: [9]) :
  Calls Tryz.prog 111 #[.pointer (some ⟨b,0,none⟩),.int .u64 h,.int .i64 r] w (CpPost w o t b (s.restF h r).1 (s.restF h r).2):=by
 have hf:=HD (cpFind0 b h hh w hc);have hsame:=HD (show ∀v w1,Below w.heap.size w w1→CpPost w o t b v s (.returned v) w1 from fun v w1 hb=>⟨rfl,o,hc.fr (Fr.below (S:=fun _=>False) hb) off_no,Fr.below hb⟩);unfold CpS.restF;unfold CpS.lookV at hf;cases hl:s.look h with
 |none =>
  rw [hl] at hf;simp only at hf ⊢;clear hc hl hok;have hB:Hid (∀w1,Below w.heap.size w w1→Below w.heap.size w (w1.alloc (.cells #[.int .i64 0,.int .i64 0,.int .i64 0] 230))):=HD fun w1 hb=>hb.alloc hb.size _
  go_enter Tryz.func111,Tryz.ntmps111
  go_wp2_with fail;refine hf.out.mono ?_;rintro e w1 ⟨rfl,hb⟩;replace hb:=HD (hB.out _ hb);go_wp2_with fail;go_ret2
  exact hsame.out _ _ hb.out
 |some x =>
  obtain⟨⟨a,n⟩,d⟩:=x;rw [hl] at hf;simp only at hf ⊢;clear hl;obtain⟨g,bo,be,hg⟩:=hc;replace hg:CpG w o t b g bo be s:=hg;have hB:Hid (∀w1,Below w.heap.size w w1→Below w.heap.size w (w1.alloc (.cells #[.int .i64 a,.int .i64 n,.int .i64 d] 230)) ∧
    Calls Tryz.prog 163 #[.agg #[.int .i64 a,.int .i64 n],.int .i64 r] (w1.alloc (.cells #[.int .i64 a,.int .i64 n,.int .i64 d] 230)) (fun e w2=>e=.returned (.bool (mayR a r))∧Below w.heap.size w w2 ∧
     w2.drew.cell? ⟨b,4,none⟩=some (.pointer (some ⟨be,0,none⟩))∧w2.drew.cell? ⟨w1.heap.size,2,none⟩=some (.int .i64 d) ∧
     (1≤r∧r≤7→Calls Tryz.prog 164 #[.pointer (some ⟨b,0,none⟩),.pointer (some ⟨be,0,none⟩),.int .i64 4096,.int .i64 d,.int .i64 r] w2.drew (fun e w3=>e=.returned (s.putF false d r).1 ∧
      (w3.cell? ⟨b,4,none⟩=some (.pointer (some ⟨be,0,none⟩))∧w3.cell? ⟨w1.heap.size,2,none⟩=some (.int .i64 d))∧CpPost w o t b (s.putF false d r).1 (s.putF false d r).2 (.returned (s.putF false d r).1) w3)))):=HD fun w1 hb=>by
   have q:=hb.alloc hb.size (.cells #[.int .i64 a,.int .i64 n,.int .i64 d] 230);refine⟨q,(cpMay a n r _).mono ?_⟩;rintro e w2 ⟨rfl,hb2⟩;have hbb:=q.trans (hb2.mono q.size);have f:Fr (fun _=>False) w o w2 (newO o w []):=Fr.below' hbb [];have g2:=hg.fr f off_no;have kk:Blk w2.drew (newO o w []) [] w1.heap.size #[.int .i64 a,.int .i64 n,.int .i64 d] 230:=⟨newO_new hb.size,((Blk.made w1 o t #[.int .i64 a,.int .i64 n,.int .i64 d] 230).fr (S:=fun _=>False) (Fr.below hb2) (fun q=>q)).2⟩
   refine⟨rfl,hbb,g2.1.cell' (i:=4) rfl,kk.cell' (i:=2) (v:=.int .i64 d) rfl,fun hr=>?_⟩;refine(cpPut false b g bo be be d r w2.drew (g2.fr (S:=fun _=>False) Fr.drew off_no) hok h9 rfl hr).mono ?_;rintro e w3 ⟨rfl,r1,r2⟩;exact⟨rfl,⟨r1.1.cell' (i:=4) rfl,(kk.fr r2 (und_nil h9)).cell' (i:=2) (v:=.int .i64 d) rfl⟩,rfl,_,r1.at,(f.mono (fun _ q=>q.elim)).trans (Fr.drew.trans r2)⟩
  clear hg hok;by_cases r1:r<1
  ·rw [if_pos (.inl r1)]
   go_enter Tryz.func111,Tryz.ntmps111
   go_wp2_with fail;refine hf.out.mono ?_;rintro e w1 ⟨rfl,hb⟩;replace hb:=HD (hB.out _ hb).1;go_wp2_with fail;go_ret2
   exact hsame.out _ _ hb.out
  ·by_cases r2:7<r
   ·rw [if_pos (.inr r2)]
    go_enter Tryz.func111,Tryz.ntmps111
    go_wp2_with fail;refine hf.out.mono ?_;rintro e w1 ⟨rfl,hb⟩;replace hb:=HD (hB.out _ hb).1;go_wp2_with fail;go_ret2
    exact hsame.out _ _ hb.out
   ·rw [if_neg (show ¬(r<1∨7<r) by omega)]
    generalize mayR a r=mb at *;cases mb
    ·simp only [Bool.false_eq_true,if_false]
     go_enter Tryz.func111,Tryz.ntmps111
     go_wp2_with fail;refine hf.out.mono ?_;rintro e w1 ⟨rfl,hb⟩;replace hb:=HD (hB.out _ hb).2;go_wp2_with fail;refine hb.out.mono ?_;rintro e w2 ⟨rfl,hb2,_⟩;replace hb2:=HD hb2;go_wp2_with fail;go_ret2
     exact hsame.out _ _ hb2.out
    ·simp only [if_true]
     obtain⟨v,e,he⟩:=putF_tuple s false d r;rw [he] at hB ⊢;go_enter Tryz.func111,Tryz.ntmps111
     go_wp2_with fail;refine hf.out.mono ?_;rintro e w1 ⟨rfl,hb⟩;replace hb:=HD (hB.out _ hb).2;go_wp2_with fail;refine hb.out.mono ?_;rintro e w2 ⟨rfl,hb2,z4,zd,hput⟩;replace hput:=HD (hput ⟨by omega,by omega⟩);clear hb hB hb2 hf hsame he;go_wp2_with fail;refine wp_region_noPanic ?_;refine wp_region_held_drew (S:=(fun W=>W.cell? ⟨b,4,none⟩=some (.pointer (some ⟨be,0,none⟩))∧W.cell? ⟨w1.heap.size,2,none⟩=some (.int .i64 d))) (by kernel_rfl) ?_ (fun hHeld=>?_)
     ·(first|exact⟨z4,zd⟩|exact hcs)
     refine tkH 0 (h:=?_);refine tkH 1 (h:=?_);refine tkH 2 (h:=?_);refine tkH 3 (h:=?_);refine tkH 4 (h:=?_);refine tkH 5 (h:=?_);refine tkH 6 (h:=?_);refine tkH 7 (h:=?_);refine onH 8 (h:=fun K hK=>?_);go_simp;refine hput.out.mono ?_;rintro e w3 ⟨rfl,hcs,hx⟩;replace hx:=HD hx;go_wp2_with fail;refine hK.out _ _ ?_ (fun hHeld=>?_)
     ·(first|exact⟨z4,zd⟩|exact hcs)
     clear hK;refine nmH (h:=?_);refine tkH 9 (h:=?_);refine tkH 10 (h:=?_);refine tkH 11 (h:=?_);refine tkH 12 (h:=?_);refine wpAnyH_done (by kernel_rfl) ?_ _;refine NoPanic.normal ?_;go_wp2_with fail;go_ret2
     exact hx.out
end
end Go.Proofs.YtfliaggjkianpaaGreatDoor
