import Derived.Test.YtfliaggjkianpaaGreatDoorK00
import Derived.Test.YtfliaggjkianpaaGreatDoorK01
import Derived.StillTailTactics
set_option linter.unusedVariables false
set_option linter.unusedSimpArgs false
set_option maxRecDepth 100000
namespace Go.Proofs.YtfliaggjkianpaaGreatDoor
section
open Go.RowKit
theorem arForget(b:Nat)(w:World){o:Nat→Tag}{t:Tag}{B:List UInt8}{m:Nat}(h:ArAt w o t b B m) :
  Calls Tryz.prog 29 #[.pointer (some ⟨b,0,none⟩)] w (ArPost w o t b (.tuple #[]) B 0):=by
 obtain⟨g,k,v,xs,hk,h⟩:=h;have c1:w.cell? ⟨b,1,none⟩=some v:=h.sb.cell' (i:=1) rfl;have f1:=h.sb.free 1;have hC:ArC (w.setCell ⟨b,1,none⟩ (.slice none 0 0)) (newO o w t) t b g B 0 (.slice none 0 0) [] :=
  ⟨h.sz,(h.sb.newO (w0:=w) h.sb.lt).set 1 _,(h.bb.newO (w0:=w) h.bb.lt).set_ne h.ne _,h.ne,World.ownsRow_nil _ _ _ _,fun q hq=>(by cases hq),fun u hu=>(by cases hu)⟩
 have hF:Fr (Und t) w o (w.setCell ⟨b,1,none⟩ (.slice none 0 0)) (newO o w t):=Fr.of_new ((Only.refl _ _).setCell (p:=⟨b,1,none⟩) (fun _=>by show Und t (o b);rw [h.sb.1];exact Und.self t) _) t;replace hC:=HD hC;replace hF:=HD hF;clear h;go_enter Tryz.func29,Tryz.ntmps29
 go_wp2_with fail;exact bodyPost_end (results_none (by kernel_rfl) _ _ _) rfl ⟨rfl,⟨g,0,_,_,Nat.le_refl _,hC.out⟩,hF.out⟩
theorem arTouched(b:Nat)(w:World){o:Nat→Tag}{t:Tag}{B:List UInt8}{m:Nat}(h:ArAt w o t b B m)(hm:m≤1000000000) :
  Calls Tryz.prog 36 #[.pointer (some ⟨b,0,none⟩)] w fun e w'=>(∃a n c,e=.returned (.slice a n c))∧Below w.heap.size w w':=by
 obtain⟨g,k,v,xs,hk,h⟩:=h;have c1:w.cell? ⟨b,1,none⟩=some v:=h.sb.cell' (i:=1) rfl;obtain⟨i0,hi,hz0,hz1,hz2⟩:=info_parts infoSpan;have hr0:(w.alloc (.cells #[] 217)).ownsRow 0 217 3 (.slice (some ⟨w.heap.size,0,none⟩) 0 0) 0 []:=⟨rfl,.inr ⟨w.heap.size,0,#[],rfl,Nat.zero_le _,heap_alloc_new _ _,Nat.le_refl _,by unfold maxLen;omega,rfl,rfl⟩⟩
 have hr1:=h.tr.alloc (.cells #[] 217);have hone:=h.one;replace c1:=keep_alloc (o:=.cells #[] 217) c1;replace h:=HD h;go_enter Tryz.func36,Tryz.ntmps36
 go_wp2_with (at_builtin;(refine wpList_append_two _ rfl _ _ 74 rfl 0 217 i0 (.agg #[.int .i64 0,.int .i64 0,.bool false]) 3 24 Tryz.underlying74 hi hz0 hz1 hz2 rfl (by decide) _ _ _ rfl hr0 _ _ _ rfl hr1 hone ?c3 ?c4 (Nat.zero_le _) ?_))
 case c3=>unfold maxLen;omega
 case c4=>omega
 intro v' w' hr2 hg2 hv2;have hb:Below w.heap.size w w':=(below_alloc (Nat.le_refl _) (Below.refl _ _)).grown hg2 (by simp) (fun q hq=>by simp [Value.ownBlock] at hq;omega);have hv:∃a n c,v'=.slice a n c:=by
  rcases hr2.2 with ⟨e,_⟩|⟨g',c',_,e,_⟩
  ·exact⟨_,_,_,e⟩
  ·exact⟨_,_,_,e⟩
 obtain⟨a1,n1,c1',rfl⟩:=hv;clear hr2 hg2 hv2 hr0 hr1;replace hb:=HD hb;go_wp2_with fail;go_ret
 exact⟨⟨_,_,_,rfl⟩,hb.out⟩
theorem infoU8':(Tryz.prog.info? 5).map (fun i=>(i.zero,i.size,i.bytes))=some (some (.int .u8 0),1,1):=by kernel_rfl
def ArNew(w:World)(o:Nat→Tag)(t:Tag)(n:Nat)(e:Ending)(w':World):Prop:=∃b,e=.returned (.tuple #[.pointer (some ⟨b,0,none⟩),.int .i64 0])∧ArAt w' (newO o w t) t b (List.replicate n 0) 0∧Below w.heap.size w w'
theorem arNew(n:Nat)(w:World)(o:Nat→Tag)(t:Tag)(hn:n≤2097152) :
  Calls Tryz.prog 45 #[.int .i64 n] w (ArNew w o t n):=by
 obtain⟨i0,hi,hz0,hz1,hz2⟩:=info_parts infoU8';have hn1:(n:Int)≤2097152:=by omega
 have hB:Below w.heap.size w ((w.alloc (.cells (Array.replicate n (.int .u8 0)) 5)).alloc (.cells #[.slice (some ⟨w.heap.size,0,none⟩) n n,.slice none 0 0] 109)):=below_alloc (by simp) (below_alloc (Nat.le_refl _) (Below.refl _ _));have hC:ArC ((w.alloc (.cells (Array.replicate n (.int .u8 0)) 5)).alloc (.cells #[.slice (some ⟨w.heap.size,0,none⟩) n n,.slice none 0 0] 109)) (newO o w t) t (w.heap.size+1) w.heap.size (List.replicate n 0) 0 (.slice none 0 0) []:=by
  refine⟨by simpa using hn,?_,?_,by omega,World.ownsRow_nil _ _ _ _,fun q hq=>(by cases hq),fun u hu=>(by cases hu)⟩
  ·refine⟨newO_new (by omega),?_⟩
   have:=heap_alloc_new (w.alloc (.cells (Array.replicate n (.int .u8 0)) 5)) (.cells #[.slice (some ⟨w.heap.size,0,none⟩) n n,.slice none 0 0] 109);rw [World.size_alloc] at this;simpa using this
  ·refine⟨newO_new (Nat.le_refl _),?_⟩
   have h1:=heap_alloc_new w (.cells (Array.replicate n (.int .u8 0)) 5);have h2:=((Only.refl (fun _=>False) (w.alloc (.cells (Array.replicate n (.int .u8 0)) 5))).alloc (.cells #[.slice (some ⟨w.heap.size,0,none⟩) n n,.slice none 0 0] 109)).block w.heap.size (by simp) (fun q=>q);rw [h2,h1];unfold arB;simp
 replace hC:=HD hC;replace hB:=HD hB;go_enter Tryz.func45,Tryz.ntmps45
 go_wp2_with (at_make;refine wpList_make_eq _ rfl _ _ 57 rfl 5 i0 (.int .u8 0) Tryz.underlying57 hi hz0 hz1 rfl _ _ _ _ n rfl rfl (by omega) (by omega) (by rw [hz2];omega) (by omega) ?_)
 go_ret2
 exact⟨w.heap.size+1,rfl,⟨_,0,_,_,Nat.le_refl _,hC.out⟩,hB.out⟩
end
section
open Go.RowKit
theorem arPost_trans{w w1 w2:World}{o:Nat→Tag}{t:Tag}(f:Fr (Und t) w o w1 (newO o w t))(f1:Fr (Und t) w1 (newO o w t) w2 (newO (newO o w t) w1 t)):newO (newO o w t) w1 t=newO o w t:=by
 have hs:=f.size
 funext k
 unfold newO;by_cases h:w1.heap.size≤k
 ·rw [if_pos h,if_pos (by omega)]
 ·rw [if_neg h]
def cpE(l:Nat)(to_ from_ n:Int):Int:=if hasE l to_ n=0 then hasE l from_ n else hasE l to_ n
def cpB(B:List UInt8)(to_ from_ n:Int):List UInt8:=if hasE B.length to_ n=0∧hasE B.length from_ n=0 then splice B to_.toNat (sub B from_.toNat n.toNat) else B
theorem arCopy(b:Nat)(to_ from_ n:Int)(w:World){o:Nat→Tag}{t:Tag}{B:List UInt8}{m:Nat}(h:ArAt w o t b B m)(hm:m≤1000000) :
  Calls Tryz.prog 131 #[.pointer (some ⟨b,0,none⟩),.int .i64 to_,.int .i64 from_,.int .i64 n] w (ArPost w o t b (.int .i64 (cpE B.length to_ from_ n)) (cpB B to_ from_ n) (m+2)):=by
 have hh1:=HD (arHas b to_ n w h);have hh2:=HD (arHas b from_ n w h);have hs:=HD (arPost_same (v:=.int .i64 4) h (show m≤m+2 by omega));unfold cpE cpB;rcases has_or B.length to_ n with e|e
 ·rcases has_or B.length from_ n with e2|e2
  ·obtain⟨h0,h1,h2,h3⟩:=has_iff.1 e
   obtain⟨h0',_,h2',h3'⟩:=has_iff.1 e2;obtain⟨i,rfl⟩:∃i:Nat,to_=i:=⟨to_.toNat,by omega⟩
   obtain⟨j,rfl⟩:∃j:Nat,from_=j:=⟨from_.toNat,by omega⟩
   obtain⟨k,rfl⟩:∃k:Nat,n=k:=⟨n.toNat,by omega⟩
   rw [if_pos e,if_pos ⟨e,e2⟩,e2,Int.toNat_natCast,Int.toNat_natCast,Int.toNat_natCast];rw [e] at hh1;rw [e2] at hh2;obtain⟨g,k0,v0,xs,hk,hc⟩:=h;have hgs:=hc.bb.lt;have ht:=HD (arTouch b g j k false w hc (by omega) (by omega));have hfit:i+k≤B.length:=by omega
   have hfit2:j+k≤B.length:=by omega
   clear hc e e2;go_enter Tryz.func131,Tryz.ntmps131
   go_wp2_with fail;go_step3
   go_wp2_with fail;refine SM hh1.out ?_;go_wp2_with fail;refine SM hh2.out ?_;go_wp2_with fail;refine ht.out.mono ?_;rintro e w1 ⟨ad,v',xs',k1,rfl,had,hk1,hC,hF⟩;have ht2:=HD (arTouch b g i k true w1 hC (by omega) (by omega));replace had:=HD had;replace hC:=HD hC;replace hF:=HD hF;go_wp2_with fail;refine ht2.out.mono ?_;rintro e w2 ⟨ad2,v2,xs2,k2,rfl,had2,hk2,hC2,hF2⟩;have hoo:=arPost_trans hF.out hF2;rw [hoo] at hC2 hF2;have hF3:=hF.out.trans hF2;have hl:=sub_len hfit2;have hcp:∀ty,(Builtin.copy_ #[57,57] ty #[.slice (some ad2) k (B.length-i),.slice (some ad) k (B.length-j)]).run Tryz.prog w2=.ok (goInt k) (w2.setCells g i (arB (sub B j k))):=by
    intro ty;by_cases hk0:k=0
    ·subst hk0
     rw [run_copy_none (P:=Tryz.prog) w2 57 57 ty 5 (some ad2) (some ad) 0 (B.length-i) 0 (B.length-j) Tryz.underlying57 infoU8 rfl];have:sub B j 0=[]:=by unfold sub;simp
     rw [this];rfl
    ·rw [had.out (by omega),had2 (by omega)]
     have:=run_copy_cells (P:=Tryz.prog) w2 57 57 ty 5 g i k (B.length-i) ⟨g,j,none⟩ k (B.length-j) (arB (sub B j k)) Tryz.underlying57 infoU8 (by rw [arB_len,hl];simp) (fun q u hu=>by
      have hq:q<k:=by have:=(List.getElem?_eq_some_iff.1 hu).1;rwa [arB_len,hl] at this
      rw [add_pl,hC2.bb.cell (j+q),←hu];have hg:=sub_get (B:=B) (i:=j) hq;unfold arB;simp [hg]) (fun q hq=>by rw [arB_len,hl] at hq;exact arSome hC2 (by omega)) (fun q hq=>hC2.bb.free _) (fun u hu=>by
      unfold arB at hu;obtain⟨x,_,rfl⟩:=List.mem_map.1 hu;rfl)
     rw [arB_len,hl] at this;exact this
   have hC4:=HD (hC2.stored (i:=i) (l:=sub B j k) (by rw [hl];exact hfit));have hF4:=HD (hF3.stored (g:=g) (i:=i) (vs:=arB (sub B j k)) (fun _=>arOwn hC2 hgs));clear had had2 hC hF hl hC2 hF2 hF3 hoo;go_wp2_with fail;go_step3
   go_wp2_with fail;rw [Exit.noGoto_ret];go_ret
   exact⟨rfl,⟨g,k2,v2,xs2,by omega,hC4.out⟩,hF4.out⟩
  ·rw [if_pos e,if_neg (by omega),e2]
   rw [e] at hh1;rw [e2] at hh2;clear h e e2;go_enter Tryz.func131,Tryz.ntmps131
   go_wp2_with fail;refine wp_scope_jumps 0 (fun a' w'=>w'=w∧∃(u0 u1 u2 u3 u4 u5 u6 u7 u8 u9 u11 u12 u13 u14 u15 u16 u17 u18 u19 u20 u21 u22 u23 u24 u25 u26 u27 u28 u29 u30 u31 u32 u33:Value),a'={tmps:=#[u0,u1,u2,u3,u4,u5,u6,u7,u8,u9,.int .i64 4,u11,u12,u13,u14,u15,u16,u17,u18,u19,u20,u21,u22,u23,u24,u25,u26,u27,u28,u29,u30,u31,u32,u33],defers:=[]}) (fun _ _=>0) rfl ?_ ?_
   ·go_wp2_with fail
    refine SM hh1.out ?_;go_wp2_with fail;refine SM hh2.out ?_;go_wp2_with fail;go_step3
    exact⟨rfl,rfl,_,_,_,_,_,_,_,_,_,_,_,_,_,_,_,_,_,_,_,_,_,_,_,_,_,_,_,_,_,_,_,_,_,rfl⟩
   ·rintro a' w' ⟨rfl,u0,u1,u2,u3,u4,u5,u6,u7,u8,u9,u11,u12,u13,u14,u15,u16,u17,u18,u19,u20,u21,u22,u23,u24,u25,u26,u27,u28,u29,u30,u31,u32,u33,rfl⟩
    go_wp2_with fail;simp only [Exit.jump];go_ret
    exact hs.out
 ·rw [if_neg (by omega),if_neg (by omega),e]
  rw [e] at hh1;clear h e hh2;go_enter Tryz.func131,Tryz.ntmps131
  go_wp2_with fail;refine wp_scope_jumps 0 (fun a' w'=>w'=w∧∃(u0 u1 u2 u3 u4 u5 u6 u7 u8 u9 u11 u12 u13 u14 u15 u16 u17 u18 u19 u20 u21 u22 u23 u24 u25 u26 u27 u28 u29 u30 u31 u32 u33:Value),a'={tmps:=#[u0,u1,u2,u3,u4,u5,u6,u7,u8,u9,.int .i64 4,u11,u12,u13,u14,u15,u16,u17,u18,u19,u20,u21,u22,u23,u24,u25,u26,u27,u28,u29,u30,u31,u32,u33],defers:=[]}) (fun _ _=>0) rfl ?_ ?_
  ·go_wp2_with fail
   refine SM hh1.out ?_;go_wp2_with fail;go_step3
   exact⟨rfl,rfl,_,_,_,_,_,_,_,_,_,_,_,_,_,_,_,_,_,_,_,_,_,_,_,_,_,_,_,_,_,_,_,_,_,rfl⟩
  ·rintro a' w' ⟨rfl,u0,u1,u2,u3,u4,u5,u6,u7,u8,u9,u11,u12,u13,u14,u15,u16,u17,u18,u19,u20,u21,u22,u23,u24,u25,u26,u27,u28,u29,u30,u31,u32,u33,rfl⟩
   go_wp2_with fail;simp only [Exit.jump];go_ret
   exact hs.out
end
section
open Go.RowKit
def ldN(l:List UInt8):Nat→Nat
 |0=>0
 |j+1=>ldN l j+(l.getD j 0).toNat*2^(8*j)
theorem ldN_lt(l:List UInt8):∀j,ldN l j<2^(8*j)
 |0=>by simp [ldN]
 |j+1=>by
  have:=ldN_lt l j;have hb:=(l.getD j 0).toNat_lt;have e:2^(8*(j+1))=256*2^(8*j):=by rw [Nat.mul_add,Nat.pow_add];omega
  unfold ldN;rw [e];have h2:(l.getD j 0).toNat*2^(8*j)≤255*2^(8*j):=Nat.mul_le_mul_right _ (by omega);omega
theorem or_word{a x j:Nat}(ha:a<2^(8*j))(hx:x<2^8)(hj:j<8):bits BinOp.or IntKind.u64 (a:Int) (IntKind.u64.wrap ((x:Int)*2^(8*j)))=((a+x*2^(8*j):Nat):Int):=by
 have h1:a<2^64:=Nat.lt_of_lt_of_le ha (Nat.pow_le_pow_right (by omega) (by omega));have h2:x*2^(8*j)<2^64:=by
  have:x*2^(8*j)<2^8*2^(8*j):=Nat.mul_lt_mul_of_pos_right hx (Nat.pow_pos (by omega));rw [←Nat.pow_add] at this;exact Nat.lt_of_lt_of_le this (Nat.pow_le_pow_right (by omega) (by omega))
 have e:IntKind.u64.wrap ((x:Int)*2^(8*j))=((x*2^(8*j):Nat):Int):=by
  have e1:(x:Int)*2^(8*j)=((x*2^(8*j):Nat):Int):=by simp
  rw [e1,IntKind.wrap_u64];generalize x*2^(8*j)=z at *;omega
 rw [e,bits_or_u64_nat _ _ h1 h2];have h3:=Nat.two_pow_add_eq_or_of_lt ha x;rw [Nat.or_comm,Nat.mul_comm x,←h3,Nat.add_comm]
def ldV(B:List UInt8)(at_:Int):Nat:=if hasE B.length at_ 8=0 then ldN (sub B at_.toNat 8) 8 else 0
theorem arLoad(b:Nat)(at_:Int)(w:World){o:Nat→Tag}{t:Tag}{B:List UInt8}{m:Nat}(h:ArAt w o t b B m)(hm:m≤1000000) :
  Calls Tryz.prog 251 #[.pointer (some ⟨b,0,none⟩),.int .i64 at_] w (ArPost w o t b (.tuple #[.int .u64 (ldV B at_:Nat),.int .i64 (hasE B.length at_ 8)]) B (m+1)):=by
 have hh1:=HD (arHas b at_ 8 w h);have hs:=HD (arPost_same (v:=.tuple #[.int .u64 0,.int .i64 4]) h (Nat.le_succ m));unfold ldV;rcases has_or B.length at_ 8 with e|e
 ·obtain⟨h0,h1,h2,h3⟩:=has_iff.1 e
  obtain⟨i,rfl⟩:∃i:Nat,at_=i:=⟨at_.toNat,by omega⟩
  rw [if_pos e,e,Int.toNat_natCast];rw [e] at hh1;obtain⟨g,k0,v0,xs,hk,hc⟩:=h;have ht:=HD (arTouch b g i 8 false w hc (by omega) (by omega));have hfit:i+8≤B.length:=by omega
  clear hc e;go_enter Tryz.func251,Tryz.ntmps251
  go_wp2_with fail;go_step3
  go_wp2_with fail;refine SM hh1.out ?_;go_wp2_with fail;refine ht.out.mono ?_;rintro e w1 ⟨ad,v',xs',k1,rfl,had,hk1,hC,hF⟩;obtain rfl:=had (by omega);have hl:=sub_len hfit;have hcell:Hid (∀j,j<8→w1.cell? ⟨g,i+j,none⟩=some (.int .u8 (((sub B i 8).getD j 0).toNat:Int))):=HD (fun j hj=>by
   rw [hC.bb.cell (i+j)];have hg:=sub_get (B:=B) (i:=i) hj;rw [List.getD_eq_getElem?_getD,hg];have:i+j<B.length:=by omega
   unfold arB;simp [this])
  replace hC:=HD hC;replace hF:=HD hF;clear hl had;generalize sub B i 8=l at *;go_wp2_with fail;go_loopg [4,18] 8 (fun gh v i' wx=>w1=wx∧∃j:Nat,j≤8∧gh=8-j∧i'=.int .i64 j∧v=.int .u64 (ldN l j:Nat))
  case atStart=>exact⟨rfl,0,by omega,rfl,rfl,rfl⟩
  case round =>
   obtain⟨rfl,j,hj,rfl,rfl,rfl⟩:=hrel;by_cases hj8:j<8
   ·have d8:decide ((j:Int)<8)=true:=decide_eq_true (by omega)
    have hx:=hcell.out j hj8;have hlt:=ldN_lt l j;have hsucc:Hid (ldN l (j+1)=ldN l j+(l.getD j 0).toNat*2^(8*j)):=HD rfl;have hb:(l.getD j 0).toNat<2^8:=(l.getD j 0).toNat_lt;generalize (l.getD j 0).toNat=x at *;have h64:8*j≤56:=by omega
    have hjb:(j:Int)≤8:=by omega
    have hX:=or_word hlt hb hj8;rw [←hsucc.out] at hX;go_wp2_with fail;go_roundg (8-(j+1))
    case measure=>omega
    case rel=>exact⟨rfl,j+1,by omega,rfl,by go_num,rfl⟩
   ·obtain rfl:j=8:=by omega
    go_wp2_with fail;go_step3
    go_wp2_with fail;rw [Exit.noGoto_ret];go_ret2
    exact⟨rfl,⟨g,k1,v',xs',by omega,hC.out⟩,hF.out⟩
 ·rw [if_neg (by omega),e]
  rw [e] at hh1;clear h e;go_enter Tryz.func251,Tryz.ntmps251
  go_wp2_with fail;refine wp_scope_jumps 0 (fun a' w'=>w'=w∧∃(u0 u1 u2 u3 u6 u7 u8 u9 u10 u11 u12 u13 u14 u15 u16 u17 u18 u19 u20 u21 u22 u23 u24 u25 u26 u27 u28 u29 u30 u31 u32 u33:Value),a'={tmps:=#[u0,u1,u2,u3,.int .u64 0,.int .i64 4,u6,u7,u8,u9,u10,u11,u12,u13,u14,u15,u16,u17,u18,u19,u20,u21,u22,u23,u24,u25,u26,u27,u28,u29,u30,u31,u32,u33],defers:=[]}) (fun _ _=>0) rfl ?_ ?_
  ·go_wp2_with fail
   refine SM hh1.out ?_;go_wp2_with fail;go_step3
   exact⟨rfl,rfl,_,_,_,_,_,_,_,_,_,_,_,_,_,_,_,_,_,_,_,_,_,_,_,_,_,_,_,_,_,_,_,_,rfl⟩
  ·rintro a' w' ⟨rfl,u0,u1,u2,u3,u6,u7,u8,u9,u10,u11,u12,u13,u14,u15,u16,u17,u18,u19,u20,u21,u22,u23,u24,u25,u26,u27,u28,u29,u30,u31,u32,u33,rfl⟩
   go_wp2_with fail;simp only [Exit.jump];go_ret2
   exact hs.out
def wdB(v:Nat)(j:Nat):List UInt8:=(List.range j).map fun i=>UInt8.ofNat (v/2^(8*i))
theorem wdB_succ(v j:Nat):wdB v (j+1)=wdB v j++[UInt8.ofNat (v/2^(8*j))]:=by unfold wdB;rw [List.range_succ,List.map_append];rfl
theorem wdB_len(v j:Nat):(wdB v j).length=j:=by unfold wdB;simp
def stB(B:List UInt8)(at_:Int)(v:Nat):List UInt8:=if hasE B.length at_ 8=0 then splice B at_.toNat (wdB v 8) else B
theorem splice_snoc{B:List UInt8}{i:Nat}{l:List UInt8}{x:UInt8}(h:i+l.length<B.length):splice (splice B i l) (i+l.length) [x]=splice B i (l++[x]):=by
 unfold splice;have h1:(B.take i).length=i:=by simp;omega
 have t1:(B.take i++(l++B.drop (i+l.length))).take (i+l.length)=B.take i++l:=by
  rw [←List.append_assoc,List.take_left' (by rw [List.length_append,h1])]
 have t2:(B.take i++(l++B.drop (i+l.length))).drop (i+l.length + [x].length)=B.drop (i+(l++[x]).length):=by
  rw [←List.drop_drop,←List.append_assoc,List.drop_left' (by rw [List.length_append,h1]),List.drop_drop];simp [Nat.add_assoc]
 rw [t1,t2];simp
theorem arStore(b:Nat)(at_:Int)(v:Nat)(hv:v<18446744073709551616)(w:World){o:Nat→Tag}{t:Tag}{B:List UInt8}{m:Nat}(h:ArAt w o t b B m)(hm:m≤1000000) :
  Calls Tryz.prog 247 #[.pointer (some ⟨b,0,none⟩),.int .i64 at_,.int .u64 v] w (ArPost w o t b (.int .i64 (hasE B.length at_ 8)) (stB B at_ v) (m+1)):=by
 have hh1:=HD (arHas b at_ 8 w h);have hs:=HD (arPost_same (v:=.int .i64 4) h (Nat.le_succ m));unfold stB;rcases has_or B.length at_ 8 with e|e
 ·obtain⟨h0,h1,h2,h3⟩:=has_iff.1 e
  obtain⟨i,rfl⟩:∃i:Nat,at_=i:=⟨at_.toNat,by omega⟩
  rw [if_pos e,e,Int.toNat_natCast];rw [e] at hh1;obtain⟨g,k0,v0,xs,hk,hc⟩:=h;have hgs:=hc.bb.lt;have ht:=HD (arTouch b g i 8 true w hc (by omega) (by omega));have hfit:i+8≤B.length:=by omega
  clear hc e;go_enter Tryz.func247,Tryz.ntmps247
  go_wp2_with fail;go_step3
  go_wp2_with fail;refine SM hh1.out ?_;go_wp2_with fail;refine ht.out.mono ?_;rintro e w1 ⟨ad,v',xs',k1,rfl,had,hk1,hC,hF⟩;obtain rfl:=had (by omega);have hg:=HD (arOwn hC hgs);have hfit':=HD hfit;have hC0:Hid (ArC w1 (newO o w t) t b g (splice B i (wdB v 0)) k1 v' xs'):=HD (by
   have e:splice B i (wdB v 0)=B:=by unfold splice wdB;simp
   rw [e];exact hC)
  replace hF:=HD hF;have hsz:=hC.sz;clear had hC;go_wp2_with fail;go_loopg [20] 8 (fun gh i' wx=>∃j:Nat,j≤8∧gh=8-j∧i'=.int .i64 j∧ArC wx (newO o w t) t b g (splice B i (wdB v j)) k1 v' xs'∧Fr (Und t) w o wx (newO o w t))
  case atStart=>exact⟨0,by omega,rfl,rfl,hC0.out,hF.out⟩
  case round =>
   clear hC0 hF;obtain⟨j,hj,rfl,rfl,hC,hF⟩:=hrel;have hlen:(splice B i (wdB v j)).length=B.length:=by have:=hfit'.out;unfold splice;simp [wdB_len];omega
   by_cases hj8:j<8
   ·have d8:decide ((j:Int)<8)=true:=decide_eq_true (by omega)
    have c1:=hC.bb.cell (i+j);have c1':wr.cell? ⟨g,i+j,none⟩=some (.int .u8 (((splice B i (wdB v j)).getD (i+j) 0).toNat:Int)):=by
     rw [c1];have:i+j<(splice B i (wdB v j)).length:=by omega
     unfold arB;simp [List.getD_eq_getElem?_getD,this]
    have f1:=hC.bb.free (i+j);have hjb:(j:Int)≤8:=by omega
    have hX:IntKind.u8.wrap ((v:Int)/2^(8*j))=((UInt8.ofNat (v/2^(8*j))).toNat:Int):=by
     rw [show (v:Int)/2^(8*j)=((v/2^(8*j):Nat):Int) by simp];simp [IntKind.wrap,IntKind.signed,IntKind.bits,UInt8.toNat_ofNat']
    have hs2:splice (splice B i (wdB v j)) (i+j) [UInt8.ofNat (v/2^(8*j))]=splice B i (wdB v (j+1)):=by
     have:=splice_snoc (B:=B) (i:=i) (l:=wdB v j) (x:=UInt8.ofNat (v/2^(8*j))) (by rw [wdB_len];omega);rw [wdB_len] at this;rw [this,←wdB_succ]
    have hC2:Hid (ArC (wr.setCell ⟨g,i+j,none⟩ (.int .u8 ((UInt8.ofNat (v/2^(8*j))).toNat:Int))) (newO o w t) t b g (splice B i (wdB v (j+1))) k1 v' xs'):=HD (by
     have:=hC.stored (i:=i+j) (l:=[UInt8.ofNat (v/2^(8*j))]) (by simp;omega);rw [hs2] at this;exact this)
    have hF2:=HD (hF.set' (p:=⟨g,i+j,none⟩) (fun _=>hg.out) (.int .u8 ((UInt8.ofNat (v/2^(8*j))).toNat:Int)));generalize (UInt8.ofNat (v/2^(8*j))).toNat=x at *;generalize ((splice B i (wdB v j)).getD (i+j) 0).toNat=y at *;clear c1 hs2 hlen hC hF hs;go_wp2_with fail;go_roundg (8-(j+1))
    case measure=>omega
    case rel=>exact⟨j+1,by omega,rfl,by go_num,hC2.out,hF2.out⟩
   ·obtain rfl:j=8:=by omega
    replace hC:=HD hC;replace hF:=HD hF;clear hlen;go_wp2_with fail;go_step3
    go_wp2_with fail;rw [Exit.noGoto_ret];go_ret
    exact⟨rfl,⟨g,k1,v',xs',by omega,hC.out⟩,hF.out⟩
 ·rw [if_neg (by omega),e]
  rw [e] at hh1;clear h e;go_enter Tryz.func247,Tryz.ntmps247
  go_wp2_with fail;refine wp_scope_jumps 0 (fun a' w'=>w'=w∧∃(u0 u1 u2 u3 u4 u5 u6 u7 u9 u10 u11 u12 u13 u14 u15 u16 u17 u18 u19 u20 u21 u22 u23 u24 u25 u26 u27 u28 u29 u30 u31 u32:Value),a'={tmps:=#[u0,u1,u2,u3,u4,u5,u6,u7,.int .i64 4,u9,u10,u11,u12,u13,u14,u15,u16,u17,u18,u19,u20,u21,u22,u23,u24,u25,u26,u27,u28,u29,u30,u31,u32],defers:=[]}) (fun _ _=>0) rfl ?_ ?_
  ·go_wp2_with fail
   refine SM hh1.out ?_;go_wp2_with fail;go_step3
   exact⟨rfl,rfl,_,_,_,_,_,_,_,_,_,_,_,_,_,_,_,_,_,_,_,_,_,_,_,_,_,_,_,_,_,_,_,_,rfl⟩
  ·rintro a' w' ⟨rfl,u0,u1,u2,u3,u4,u5,u6,u7,u9,u10,u11,u12,u13,u14,u15,u16,u17,u18,u19,u20,u21,u22,u23,u24,u25,u26,u27,u28,u29,u30,u31,u32,rfl⟩
   go_wp2_with fail;simp only [Exit.jump];go_ret
   exact hs.out
end
section
open Go.RowKit
structure CnS where
 base:Int
 unit:Int
 per:Int
 head:Int
def CnS.ok(s:CnS):Prop:=(0≤s.base∧s.base≤2097152)∧(8≤s.unit∧s.unit≤512)∧(1≤s.per∧s.per≤64)∧-1≤s.head∧s.head<s.per
def CnAt(w:World)(o:Nat→Tag)(t:Tag)(b a:Nat)(s:CnS):Prop :=
 s.ok∧Blk w o t b #[.pointer (some ⟨a,0,none⟩),.int .i64 s.base,.int .i64 s.unit,.int .i64 s.per,.int .i64 s.head] 302
theorem CnAt.fr{S:Tag→Prop}{w w':World}{o o':Nat→Tag}{t:Tag}{b a:Nat}{s:CnS}(h:CnAt w o t b a s)(f:Fr S w o w' o')(hS:¬S t):CnAt w' o' t b a s:=⟨h.1,h.2.fr f hS⟩
theorem cnEmpty(b a:Nat)(w:World){o:Nat→Tag}{t:Tag}{s:CnS}(h:CnAt w o t b a s) :
  Calls Tryz.prog 230 #[.pointer (some ⟨b,0,none⟩)] w fun e w'=>e=.returned (.bool (decide (s.head<0)))∧w'=w:=by
 have c4:w.cell? ⟨b,4,none⟩=some (.int .i64 s.head):=h.2.cell' (i:=4) rfl;clear h;go_enter Tryz.func230,Tryz.ntmps230
 go_wp2_with fail;go_ret
 exact⟨rfl,rfl⟩
theorem mul_b{a b A B:Int}(h0:0≤a)(h1:a≤A)(h2:0≤b)(h3:b≤B):0≤a*b∧a*b≤A*B :=
 ⟨Int.mul_nonneg h0 h2,Int.le_trans (Int.mul_le_mul_of_nonneg_right h1 h2) (Int.mul_le_mul_of_nonneg_left h3 (Int.le_trans h0 h1))⟩
theorem cnAt(b a:Nat)(k:Int)(w:World){o:Nat→Tag}{t:Tag}{s:CnS}(h:CnAt w o t b a s)(hk:0≤k∧k≤64) :
  Calls Tryz.prog 248 #[.pointer (some ⟨b,0,none⟩),.int .i64 k] w fun e w'=>e=.returned (.int .i64 (s.base+k*s.unit))∧w'=w.drew:=by
 have c1:w.cell? ⟨b,1,none⟩=some (.int .i64 s.base):=h.2.cell' (i:=1) rfl;have c2:w.cell? ⟨b,2,none⟩=some (.int .i64 s.unit):=h.2.cell' (i:=2) rfl;obtain⟨⟨h1,h2,_⟩,_⟩:=h;have hb:=mul_b hk.1 hk.2 (show 0≤s.unit by omega) h2.2;have u1:=IntWalk.i64_in (k*s.unit) (by omega);have u2:=IntWalk.i64_in (s.base+k*s.unit) (by omega);generalize s.base=x at *;generalize s.unit=y at *;go_enter Tryz.func248,Tryz.ntmps248
 go_wp2_with fail;go_still (by kernel_rfl)
 go_wp2_with fail;go_ret
 exact⟨rfl,rfl⟩
def liesB(l:Nat)(base unit per:Int):Bool:=decide (0≤base∧base≤l∧unit*per≤l-base)
theorem cnLies(a:Nat)(base unit per:Int)(w:World){o:Nat→Tag}{t:Tag}{B:List UInt8}{m:Nat}(h:ArAt w o t a B m)(hu:0≤unit∧unit≤512)(hp:0≤per∧per≤64) :
  Calls Tryz.prog 243 #[.pointer (some ⟨a,0,none⟩),.int .i64 base,.int .i64 unit,.int .i64 per] w fun e w'=>e=.returned (.bool (liesB B.length base unit per))∧w'=w:=by
 have hs:=HD (arSize a w h);have hsz:=h.sz;have hb:=mul_b hu.1 hu.2 hp.1 hp.2;have u1:=IntWalk.i64_in (unit*per) (by omega);clear h;generalize B.length=l at *;unfold liesB;by_cases h0:0≤base
 ·by_cases h1:base≤l
  ·have u2:=IntWalk.i64_in ((l:Int)-base) (by omega)
   have e:decide (0≤base∧base≤l∧unit*per≤l-base)=decide (unit*per≤l-base):=by simp [h0,h1]
   rw [e];clear e;go_enter Tryz.func243,Tryz.ntmps243
   go_wp2_with fail;refine SM hs.out ?_;go_wp2_with fail;refine SM hs.out ?_;go_wp2_with fail;go_ret
   exact⟨rfl,rfl⟩
  ·have e:decide (0≤base∧base≤l∧unit*per≤l-base)=false:=by simp [h0,h1]
   rw [e];clear e;go_enter Tryz.func243,Tryz.ntmps243
   go_wp2_with fail;refine SM hs.out ?_;go_wp2_with fail;go_ret
   exact⟨rfl,rfl⟩
 ·have e:decide (0≤base∧base≤l∧unit*per≤l-base)=false:=by simp [h0]
  rw [e];clear e;go_enter Tryz.func243,Tryz.ntmps243
  go_wp2_with fail;go_ret
  exact⟨rfl,rfl⟩
end
section
open Go.RowKit
def CnS.new(base unit per:Int):CnS:=⟨base,unit,per,-1⟩
theorem cnNew(a:Nat)(base unit per:Int)(w:World){o:Nat→Tag}{t u:Tag}{B:List UInt8}{m:Nat}(h:ArAt w o t a B m)(hu:8≤unit∧unit≤512)(hp:1≤per∧per≤64)(hl:liesB B.length base unit per=true) :
  Calls Tryz.prog 236 #[.pointer (some ⟨a,0,none⟩),.int .i64 base,.int .i64 unit,.int .i64 per] w fun e w'=>(∃b,e=.returned (.tuple #[.pointer (some ⟨b,0,none⟩),.int .i64 0])∧CnAt w' (newO o w u) u b a (CnS.new base unit per))∧Below w.heap.size w w':=by
 have hs:=HD (cnLies a base unit per w h (by omega) (by omega));have hsz:=h.sz;have hB:=HD ((Below.refl w.heap.size w).alloc (Nat.le_refl _) (.cells #[.pointer (some ⟨a,0,none⟩),.int .i64 base,.int .i64 unit,.int .i64 per,.int .i64 (-1)] 302));have hC:Hid (CnAt (w.alloc (.cells #[.pointer (some ⟨a,0,none⟩),.int .i64 base,.int .i64 unit,.int .i64 per,.int .i64 (-1)] 302)) (newO o w u) u w.heap.size a (CnS.new base unit per)):=HD (by
  have hl':=hl;unfold liesB at hl';simp only [decide_eq_true_eq] at hl';exact⟨⟨⟨hl'.1,show base≤2097152 by omega⟩,hu,hp,Int.le_refl _,show (-1:Int)<per by omega⟩,newO_new (Nat.le_refl _),heap_alloc_new w _⟩)
 rw [hl] at hs;clear h hl;go_enter Tryz.func236,Tryz.ntmps236
 go_wp2_with fail;refine SM hs.out ?_;go_wp2_with fail;go_ret2
 exact⟨⟨_,rfl,hC.out⟩,hB.out⟩
end
section
open Go.RowKit
def CnS.to(s:CnS)(h:Int):CnS:=⟨s.base,s.unit,s.per,h⟩
theorem cnTake(b d a:Nat)(w:World){o:Nat→Tag}{t u:Tag}{s x:CnS}(h:CnAt w o t b a s)(k:CnAt w o u d a x)(h0:¬0≤s.head)(hp:s.per=x.per)(hbd:b≠d) :
  Calls Tryz.prog 249 #[.pointer (some ⟨b,0,none⟩),.pointer (some ⟨d,0,none⟩)] w fun e w'=>e=.returned (.int .i64 0)∧CnAt w' o t b a (s.to x.head)∧CnAt w' o u d a (x.to (-1))∧Fr (fun v=>v=t∨v=u) w o w' o:=by
 have c4:w.cell? ⟨b,4,none⟩=some (.int .i64 s.head):=h.2.cell' (i:=4) rfl;have d4:w.cell? ⟨d,4,none⟩=some (.int .i64 x.head):=k.2.cell' (i:=4) rfl;have f1:=h.2.free 4;have q1:=(h.2.set 4 (.int .i64 x.head))
 have q2:=k.2.set_ne (p:=⟨b,4,none⟩) hbd (.int .i64 x.head);have d4':(w.setCell ⟨b,4,none⟩ (.int .i64 x.head)).cell? ⟨d,4,none⟩=some (.int .i64 x.head):=q2.cell' (i:=4) rfl;have f2:=q2.free 4;have q3:=q1.set_ne (p:=⟨d,4,none⟩) (fun e=>hbd e.symm) (.int .i64 (-1));have q4:=q2.set 4 (.int .i64 (-1));have hF:Fr (fun v=>v=t∨v=u) w o ((w.setCell ⟨b,4,none⟩ (.int .i64 x.head)).setCell ⟨d,4,none⟩ (.int .i64 (-1))) o:=(Fr.setCell (fun _=>.inl h.2.1) _).trans (Fr.setCell (fun _=>.inr k.2.1) _);have hok:=h.1;have kok:=k.1;have hfin:=HD (show CnAt ((w.setCell ⟨b,4,none⟩ (.int .i64 x.head)).setCell ⟨d,4,none⟩ (.int .i64 (-1))) o t b a (s.to x.head)∧CnAt ((w.setCell ⟨b,4,none⟩ (.int .i64 x.head)).setCell ⟨d,4,none⟩ (.int .i64 (-1))) o u d a (x.to (-1))∧Fr (fun v=>v=t∨v=u) w o ((w.setCell ⟨b,4,none⟩ (.int .i64 x.head)).setCell ⟨d,4,none⟩ (.int .i64 (-1))) o from
  ⟨⟨⟨hok.1,hok.2.1,hok.2.2.1,kok.2.2.2.1,show x.head<s.per by have:=kok.2.2.2.2;omega⟩,q3⟩,⟨⟨kok.1,kok.2.1,kok.2.2.1,Int.le_refl _,show (-1:Int)<x.per by have:=kok.2.2.1.1;omega⟩,q4⟩,hF⟩)
 clear h k q1 q2 q3 q4 hF hok kok;generalize s.head=sh at *;go_enter Tryz.func249,Tryz.ntmps249
 go_wp2_with fail;go_ret
 exact⟨rfl,hfin.out⟩
end
section
open Go.RowKit
theorem cnMove(b a:Nat)(base:Int)(w:World){o:Nat→Tag}{t u:Tag}{s:CnS}{B:List UInt8}{m:Nat}(h:CnAt w o t b a s)(ha:ArAt w o u a B m)(hl:liesB B.length base s.unit s.per=true) :
  Calls Tryz.prog 224 #[.pointer (some ⟨b,0,none⟩),.int .i64 base] w fun e w'=>e=.returned (.int .i64 0)∧CnAt w' o t b a ⟨base,s.unit,s.per,s.head⟩∧Fr (· = t) w o w' o:=by
 have c0:w.drew.cell? ⟨b,0,none⟩=some (.pointer (some ⟨a,0,none⟩)):=h.2.cell' (i:=0) rfl;have c1:w.cell? ⟨b,1,none⟩=some (.int .i64 s.base):=h.2.cell' (i:=1) rfl;have c2:w.drew.cell? ⟨b,2,none⟩=some (.int .i64 s.unit):=h.2.cell' (i:=2) rfl;have c3:w.drew.cell? ⟨b,3,none⟩=some (.int .i64 s.per):=h.2.cell' (i:=3) rfl;have f1:=h.2.free 1;have hok:=h.1;have hs:=HD (cnLies a base s.unit s.per w.drew (ha.fr (S:=fun _=>False) Fr.drew ⟨fun _ _ q=>q,fun q=>q⟩) (by have:=hok.2.1;omega) (by have:=hok.2.2.1;omega));rw [hl] at hs;have hsz:=ha.sz;have hl':=hl;unfold liesB at hl';simp only [decide_eq_true_eq] at hl';have hfin:=HD (show CnAt (w.drew.setCell ⟨b,1,none⟩ (.int .i64 base)) o t b a ⟨base,s.unit,s.per,s.head⟩∧Fr (· = t) w o (w.drew.setCell ⟨b,1,none⟩ (.int .i64 base)) o from
  ⟨⟨⟨⟨hl'.1,show base≤2097152 by omega⟩,hok.2⟩,h.2.drew.set 1 _⟩,Fr.drew.trans (Fr.setCell (fun _=>h.2.1) _)⟩)
 clear h ha hl hok hl' hsz;generalize s.unit=y at *;generalize s.per=p at *;go_enter Tryz.func224,Tryz.ntmps224
 go_wp2_with fail;refine wp_region_still_lit (by kernel_rfl) (by kernel_rfl) ?_;repeat still_step
 still_call hs.out
 repeat still_step
 refine wpStill_nil ?_;change Exit.then _ _ _ _ w.drew;go_wp2_with fail;go_ret
 exact⟨rfl,hfin.out⟩
end
section
open Go.RowKit
theorem hnWithin(n a b:Int)(w:World) :
  Calls Tryz.prog 250 #[.int .i64 n,.int .i64 a,.int .i64 b] w fun e w'=>e=.returned (.bool (decide (a≤n)&&decide (n≤b)))∧w'=w:=by
 by_cases h:a≤n
 ·rw [decide_eq_true h,Bool.true_and]
  go_enter Tryz.func250,Tryz.ntmps250
  go_wp2
  go_ret
  exact⟨rfl,rfl⟩
 ·rw [decide_eq_false h,Bool.false_and]
  go_enter Tryz.func250,Tryz.ntmps250
  go_wp2
  go_ret
  exact⟨rfl,rfl⟩
def keyOK(t s r n:Int):Prop:=(0≤t∧t≤7)∧(0≤s∧s≤4159)∧(1≤r∧r≤7)∧(1≤n∧n≤17592186044415)
instance (t s r n:Int):Decidable (keyOK t s r n):=by unfold keyOK;infer_instance
def keyE(t s r n:Int):Int:=if keyOK t s r n then 0 else 12
theorem hnCheck(t s r n:Int)(w:World) :
  Calls Tryz.prog 241 #[.agg #[.int .i64 t,.int .i64 s,.int .i64 r,.int .i64 n]] w fun e w'=>e=.returned (.int .i64 (keyE t s r n))∧Below w.heap.size w w':=by
 have hB:=HD ((Below.refl w.heap.size w).alloc (Nat.le_refl _) (.cells #[.int .i64 t,.int .i64 s,.int .i64 r,.int .i64 n] 269));have hT:=fun w=>hnWithin t 0 7 w
 have hS:=fun w=>hnWithin s 0 4159 w
 have hR:=fun w=>hnWithin r 1 7 w
 have hN:=fun w=>hnWithin n 1 17592186044415 w
 by_cases h1:0≤t∧t≤7
 ·rw [decide_eq_true h1.1,decide_eq_true h1.2,Bool.true_and] at hT
  by_cases h2:0≤s∧s≤4159
  ·rw [decide_eq_true h2.1,decide_eq_true h2.2,Bool.true_and] at hS
   by_cases h3:1≤r∧r≤7
   ·rw [decide_eq_true h3.1,decide_eq_true h3.2,Bool.true_and] at hR
    by_cases h4:1≤n∧n≤17592186044415
    ·rw [decide_eq_true h4.1,decide_eq_true h4.2,Bool.true_and] at hN
     have e:keyE t s r n=0:=if_pos ⟨h1,h2,h3,h4⟩;rw [e];clear e h1 h2 h3 h4;go_enter Tryz.func241,Tryz.ntmps241
     go_wp2_with fail;go_step3
     go_wp2_with fail;refine SM (hT _) ?_;go_wp2_with fail;refine SM (hS _) ?_;go_wp2_with fail;refine SM (hR _) ?_;go_wp2_with fail;refine SM (hN _) ?_;go_wp2_with fail;rw [Exit.noGoto_ret];go_ret
     exact⟨rfl,hB.out⟩
    ·have hb:(decide (1≤n)&&decide (n≤17592186044415))=false:=by
      rw [Bool.and_eq_false_iff];simp only [decide_eq_false_iff_not];omega
     rw [hb] at hN;clear hb;have e:keyE t s r n=12:=if_neg (fun q=>h4 q.2.2.2);rw [e];clear e;go_enter Tryz.func241,Tryz.ntmps241
     go_wp2_with fail;refine wp_scope_jumps 0 (fun a' w'=>w'=w.alloc (.cells #[.int .i64 t,.int .i64 s,.int .i64 r,.int .i64 n] 269)∧∃(u1 u2 u3 u4 u5 u6 u7 u8 u9 u10 u11 u12 u13 u14 u15 u16 u17 u18 u19 u20:Value),a'={tmps:=#[.agg #[.int .i64 t,.int .i64 s,.int .i64 r,.int .i64 n],u1,u2,u3,u4,u5,u6,u7,u8,u9,u10,u11,u12,u13,u14,u15,u16,u17,u18,u19,u20],defers:=[]}) (fun _ _=>0) rfl ?_ ?_
     ·go_wp2_with fail
      refine SM (hT _) ?_;go_wp2_with fail;refine SM (hS _) ?_;go_wp2_with fail;refine SM (hR _) ?_;go_wp2_with fail;refine SM (hN _) ?_;go_wp2_with fail;go_step3
      rename_i K hK;refine hK _ _ ?_;go_wp2_with fail;simp only [Exit.jump];go_ret;exact⟨rfl,hB.out⟩
     ·rintro a' w' ⟨rfl,u1,u2,u3,u4,u5,u6,u7,u8,u9,u10,u11,u12,u13,u14,u15,u16,u17,u18,u19,u20,rfl⟩
      go_wp2_with fail;simp only [Exit.jump];go_ret
      exact⟨rfl,hB.out⟩
   ·have hb:(decide (1≤r)&&decide (r≤7))=false:=by
     rw [Bool.and_eq_false_iff];simp only [decide_eq_false_iff_not];omega
    rw [hb] at hR;clear hb;have e:keyE t s r n=12:=if_neg (fun q=>h3 q.2.2.1);rw [e];clear e;go_enter Tryz.func241,Tryz.ntmps241
    go_wp2_with fail;refine wp_scope_jumps 0 (fun a' w'=>w'=w.alloc (.cells #[.int .i64 t,.int .i64 s,.int .i64 r,.int .i64 n] 269)∧∃(u1 u2 u3 u4 u5 u6 u7 u8 u9 u10 u11 u12 u13 u14 u15 u16 u17 u18 u19 u20:Value),a'={tmps:=#[.agg #[.int .i64 t,.int .i64 s,.int .i64 r,.int .i64 n],u1,u2,u3,u4,u5,u6,u7,u8,u9,u10,u11,u12,u13,u14,u15,u16,u17,u18,u19,u20],defers:=[]}) (fun _ _=>0) rfl ?_ ?_
    ·go_wp2_with fail
     refine SM (hT _) ?_;go_wp2_with fail;refine SM (hS _) ?_;go_wp2_with fail;refine SM (hR _) ?_;go_wp2_with fail;go_step3
     rename_i K hK;refine hK _ _ ?_;go_wp2_with fail;simp only [Exit.jump];go_ret;exact⟨rfl,hB.out⟩
    ·rintro a' w' ⟨rfl,u1,u2,u3,u4,u5,u6,u7,u8,u9,u10,u11,u12,u13,u14,u15,u16,u17,u18,u19,u20,rfl⟩
     go_wp2_with fail;simp only [Exit.jump];go_ret
     exact⟨rfl,hB.out⟩
  ·have hb:(decide (0≤s)&&decide (s≤4159))=false:=by
    rw [Bool.and_eq_false_iff];simp only [decide_eq_false_iff_not];omega
   rw [hb] at hS;clear hb;have e:keyE t s r n=12:=if_neg (fun q=>h2 q.2.1);rw [e];clear e;go_enter Tryz.func241,Tryz.ntmps241
   go_wp2_with fail;refine wp_scope_jumps 0 (fun a' w'=>w'=w.alloc (.cells #[.int .i64 t,.int .i64 s,.int .i64 r,.int .i64 n] 269)∧∃(u1 u2 u3 u4 u5 u6 u7 u8 u9 u10 u11 u12 u13 u14 u15 u16 u17 u18 u19 u20:Value),a'={tmps:=#[.agg #[.int .i64 t,.int .i64 s,.int .i64 r,.int .i64 n],u1,u2,u3,u4,u5,u6,u7,u8,u9,u10,u11,u12,u13,u14,u15,u16,u17,u18,u19,u20],defers:=[]}) (fun _ _=>0) rfl ?_ ?_
   ·go_wp2_with fail
    refine SM (hT _) ?_;go_wp2_with fail;refine SM (hS _) ?_;go_wp2_with fail;go_step3
    exact⟨rfl,rfl,_,_,_,_,_,_,_,_,_,_,_,_,_,_,_,_,_,_,_,_,rfl⟩
   ·rintro a' w' ⟨rfl,u1,u2,u3,u4,u5,u6,u7,u8,u9,u10,u11,u12,u13,u14,u15,u16,u17,u18,u19,u20,rfl⟩
    go_wp2_with fail;simp only [Exit.jump];go_ret
    exact⟨rfl,hB.out⟩
 ·have hb:(decide (0≤t)&&decide (t≤7))=false:=by
   rw [Bool.and_eq_false_iff];simp only [decide_eq_false_iff_not];omega
  rw [hb] at hT;clear hb;have e:keyE t s r n=12:=if_neg (fun q=>h1 q.1);rw [e];clear e;go_enter Tryz.func241,Tryz.ntmps241
  go_wp2_with fail;refine wp_scope_jumps 0 (fun a' w'=>w'=w.alloc (.cells #[.int .i64 t,.int .i64 s,.int .i64 r,.int .i64 n] 269)∧∃(u1 u2 u3 u4 u5 u6 u7 u8 u9 u10 u11 u12 u13 u14 u15 u16 u17 u18 u19 u20:Value),a'={tmps:=#[.agg #[.int .i64 t,.int .i64 s,.int .i64 r,.int .i64 n],u1,u2,u3,u4,u5,u6,u7,u8,u9,u10,u11,u12,u13,u14,u15,u16,u17,u18,u19,u20],defers:=[]}) (fun _ _=>0) rfl ?_ ?_
  ·go_wp2_with fail
   refine SM (hT _) ?_;go_wp2_with fail;go_step3
   exact⟨rfl,rfl,_,_,_,_,_,_,_,_,_,_,_,_,_,_,_,_,_,_,_,_,rfl⟩
  ·rintro a' w' ⟨rfl,u1,u2,u3,u4,u5,u6,u7,u8,u9,u10,u11,u12,u13,u14,u15,u16,u17,u18,u19,u20,rfl⟩
   go_wp2_with fail;simp only [Exit.jump];go_ret
   exact⟨rfl,hB.out⟩
end
end Go.Proofs.YtfliaggjkianpaaGreatDoor
