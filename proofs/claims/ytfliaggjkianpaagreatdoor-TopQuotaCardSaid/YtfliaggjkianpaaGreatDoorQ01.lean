import Derived.Test.YtfliaggjkianpaaGreatDoorK25
set_option linter.unusedVariables false
set_option linter.unusedSimpArgs false
set_option maxRecDepth 100000
namespace Go.Proofs.YtfliaggjkianpaaGreatDoor
section
open Go.RowKit
theorem below_seq{B:Nat}{a w w1:World}(h:Below B a w)(hB:B≤w.heap.size)(k:Below w.heap.size w w1):Below B a w1:=h.trans (k.mono hB)
theorem refUnit_lit(c:Int)(w:World)(h:c=0∨c=1∨c=2∨c=3∨c=4∨c=5∨c=6∨c=7) :
  Calls Tryz.prog 42 #[.int .i64 c] w fun e w'=>e=.returned (.int .i64 (unitT c))∧Below w.heap.size w w':=by
 rcases h with rfl|rfl|rfl|rfl|rfl|rfl|rfl|rfl
 all_goals
  go_enter Tryz.func42,Tryz.ntmps42
  go_wp2
  go_ret
  exact⟨rfl,(Below.refl _ _).alloc (Nat.le_refl _) _⟩
attribute [local irreducible] smallT unitT kindT perT pagesT alignT chargeT
theorem refUnit_any(c:Int)(w:World) :
  Calls Tryz.prog 42 #[.int .i64 c] w fun e w'=>e=.returned (.int .i64 (unitT c))∧Below w.heap.size w w':=by
 by_cases hc:c<0∨23<c
 ·rw [unit_out hc]
  rcases hc with hc|hc
  ·go_enter Tryz.func42,Tryz.ntmps42
   go_wp2
   go_ret
   exact⟨rfl,(Below.refl _ _).alloc (Nat.le_refl _) _⟩
  ·have h0:0≤c:=by omega
   go_enter Tryz.func42,Tryz.ntmps42
   go_wp2
   go_ret
   exact⟨rfl,(Below.refl _ _).alloc (Nat.le_refl _) _⟩
 ·by_cases h7:c≤7
  ·exact refUnit_lit c w (by omega)
  ·rw [unit_run (by omega) (by omega)]
   have h0:0≤c:=by omega
   have h1:c≤23:=by omega
   have h2:¬c<8:=by omega
   clear hc;go_enter Tryz.func42,Tryz.ntmps42
   go_wp2
   go_ret
   exact⟨rfl,(Below.refl _ _).alloc (Nat.le_refl _) _⟩
end
section
open Go.RowKit
attribute [local irreducible] smallT unitT kindT perT pagesT alignT chargeT
theorem refKind_neg(n:Int)(w:World)(h:n<1) :
  Calls Tryz.prog 37 #[.int .i64 n] w fun e w'=>e=.returned (.int .i64 (-1))∧Below w.heap.size w w':=by
 go_enter Tryz.func37,Tryz.ntmps37
 go_wp2
 go_ret
 exact⟨rfl,Below.refl _ _⟩
set_option maxHeartbeats 400000 in
theorem refKind_loop(n k:Int)(w:World)(h:1≤n)(hk:(8192<n∧k=24)∨(0≤k∧k≤23∧n≤unitT k))(hl:∀c,0≤c→c<k→unitT c<n) :
  Calls Tryz.prog 37 #[.int .i64 n] w fun e w'=>e=.returned (.int .i64 (if k=24 then -1 else k))∧Below w.heap.size w w':=by
 have k0:0≤k:=by omega
 have k1:k≤24:=by omega
 have hk:=HD hk;replace hl:=HD hl;go_enter Tryz.func37,Tryz.ntmps37
 go_wp2
 go_loopw [3] (fun c wr=>∃j:Int,0≤j∧j≤k∧c=.int .i64 j∧Below w.heap.size w wr) (fun c _=>(24-intOf c).toNat)
 case atStart=>exact⟨0,by omega,by omega,rfl,Below.refl _ _⟩
 case round =>
  obtain⟨j,j0,jk,rfl,hb⟩:=hrel;by_cases hj:j<k
  ·have h24:j<24:=by omega
   have hu:=hl.out j j0 hj;go_wp2_with fail;refine(refUnit_any _ _).mono ?_;rintro e w1 ⟨rfl,hb1⟩;go_wp2_with fail;go_roundw
   case rel=>exact⟨j+1,by omega,by omega,rfl,below_seq hb hb.size hb1⟩
   case measure=>simp [intOf];omega
  ·obtain rfl:j=k:=by omega
   by_cases he:j=24
   ·subst he
    go_wp2
    go_ret
    exact⟨rfl,hb⟩
   ·have hu:n≤unitT j:=by have:=hk.out;omega
    have h24:j<24:=by omega
    replace he:=HD he;go_wp2_with fail;refine(refUnit_any _ _).mono ?_;rintro e w1 ⟨rfl,hb1⟩;go_wp2_with fail;go_ret
    exact⟨rfl,below_seq hb hb.size hb1⟩
theorem refKind_any(n:Int)(w:World) :
  Calls Tryz.prog 37 #[.int .i64 n] w fun e w'=>e=.returned (.int .i64 (kindT n))∧Below w.heap.size w w':=by
 by_cases h:n<1
 ·rw [kind_out (Or.inl h)];exact refKind_neg n w h
 ·by_cases h':8192<n
  ·rw [kind_out (Or.inr h')]
   have:=refKind_loop n 24 w (by omega) (Or.inl ⟨h',rfl⟩) (fun c _ _=>by have:=unit_bound c;omega)
   rwa [if_pos rfl] at this
  ·obtain⟨a,b,c,d⟩:=unit_kind (n:=n) (by omega) (by omega)
   have:=refKind_loop n (kindT n) w (by omega) (Or.inr ⟨a,b,c⟩) d
   rwa [if_neg (by omega)] at this
theorem refCharge_any(n:Int)(w:World) :
  Calls Tryz.prog 25 #[.int .i64 n] w fun e w'=>e=.returned (.int .i64 (chargeT n))∧Below w.heap.size w w':=by
 by_cases h:n<1∨8192<n
 ·rw [show chargeT n=unitT (kindT n) by unfold chargeT;rfl,kind_out h,unit_out (by omega)]
  have hk:=HD (kind_out h);have hc:∀w,Calls Tryz.prog 37 #[.int .i64 n] w fun e w'=>e=.returned (.int .i64 (-1))∧Below w.heap.size w w':=by
   intro w;have:=refKind_any n w;rwa [hk.out] at this
  replace hc:=HD hc;clear h;go_enter Tryz.func25,Tryz.ntmps25
  go_wp2_with fail;refine(hc.out _).mono ?_;rintro e w1 ⟨rfl,hb1⟩;go_wp2_with fail;go_ret
  exact⟨rfl,hb1⟩
 ·rw [show chargeT n=unitT (kindT n) by unfold chargeT;rfl]
  have hk:0≤kindT n:=(unit_kind (n:=n) (by omega) (by omega)).1;clear h;go_enter Tryz.func25,Tryz.ntmps25
  go_wp2_with fail;refine(refKind_any _ _).mono ?_;rintro e w1 ⟨rfl,hb1⟩;go_wp2_with fail;refine(refKind_any _ _).mono ?_;rintro e w2 ⟨rfl,hb2⟩;go_wp2_with fail;refine(refUnit_any _ _).mono ?_;rintro e w3 ⟨rfl,hb3⟩;go_wp2_with fail;go_ret
  exact⟨rfl,below_seq (below_seq hb1 hb1.size hb2) (Nat.le_trans hb1.size hb2.size) hb3⟩
end
section
open Go.RowKit
attribute [local irreducible] smallT unitT kindT perT pagesT alignT chargeT
@[irreducible] def askN (K N M:Int):Int:=if K=4∨K=7 then N else if K=5∧1≤N∧1≤M∧N*M≤8192 then N*M else 0
@[irreducible] def askT (r:Bool) (n:Int):Int:=if r=true∧1≤n∧n≤8192 then n else 0
theorem askT_no(n:Int):askT false n=0:=by unfold askT;rw [if_neg (by simp)]
theorem askT_in{n:Int}(h0:1≤n)(h1:n≤8192):askT true n=n:=by unfold askT;rw [if_pos ⟨rfl,h0,h1⟩]
theorem askT_out{n:Int}(h:n<1∨8192<n):askT true n=0:=by unfold askT;rw [if_neg (by omega)]
end
section
open Go.RowKit
attribute [local irreducible] smallT unitT kindT perT pagesT alignT chargeT
theorem refRight_any(K T N M H:Int)(s:ByteArray)(w:World)(hs:s.size≤maxLen) :
  Calls Tryz.prog 14 #[.agg #[.int .i64 K,.int .i64 T,.int .i64 N,.int .i64 M,.int .u64 H,.string s]] w fun e w'=>e=.returned (.bool (rightO K T s))∧Below w.heap.size w w':=by
 unfold maxLen at hs;cases h:rightO K T s with
 |true =>
  obtain⟨k0,k1,t0,t1,s1,g⟩:=right_iff.1 h;clear h;by_cases hk:K=10
  ·have e:(K==10)=true:=beq_iff_eq.2 hk
   clear hk g;go_enter Tryz.func14,Tryz.ntmps14
   go_wp2
   go_ret
   exact⟨rfl,(below_alloc (Nat.le_refl _) (Below.refl _ _))⟩
  ·have e:(K==10)=false:=beq_eq_false_iff_ne.2 hk
   obtain⟨z1,z2⟩:=empty_of (s:=s) (by omega);clear hk g;go_enter Tryz.func14,Tryz.ntmps14
   go_wp2
   go_ret
   exact⟨rfl,(below_alloc (Nat.le_refl _) (Below.refl _ _))⟩
 |false =>
  rcases right_not h with h|h|h|h|h|⟨h,g⟩
  ·skip
   go_enter Tryz.func14,Tryz.ntmps14
   go_wp2
   go_ret
   exact⟨rfl,(below_alloc (Nat.le_refl _) (Below.refl _ _))⟩
  ·obtain⟨a,b⟩:=h
   go_enter Tryz.func14,Tryz.ntmps14
   go_wp2
   go_ret
   exact⟨rfl,(below_alloc (Nat.le_refl _) (Below.refl _ _))⟩
  ·obtain⟨⟨a,b⟩,c⟩:=h
   go_enter Tryz.func14,Tryz.ntmps14
   go_wp2
   go_ret
   exact⟨rfl,(below_alloc (Nat.le_refl _) (Below.refl _ _))⟩
  ·obtain⟨⟨a,b⟩,c,d⟩:=h
   go_enter Tryz.func14,Tryz.ntmps14
   go_wp2
   go_ret
   exact⟨rfl,(below_alloc (Nat.le_refl _) (Below.refl _ _))⟩
  ·obtain⟨⟨a,b,c,d⟩,e⟩:=h
   go_enter Tryz.func14,Tryz.ntmps14
   go_wp2
   go_ret
   exact⟨rfl,(below_alloc (Nat.le_refl _) (Below.refl _ _))⟩
  ·obtain⟨a,b,c,d⟩:=h
   obtain⟨e,f,g⟩:=g;have g':(K==10)=false:=beq_eq_false_iff_ne.2 g;obtain⟨z1,z2⟩:=full_of f;clear g f z2;go_enter Tryz.func14,Tryz.ntmps14
   go_wp2
   go_ret
   exact⟨rfl,(below_alloc (Nat.le_refl _) (Below.refl _ _))⟩
theorem refAsks_a(K T N M H:Int)(s:ByteArray)(w:World)(hs:s.size≤maxLen)(e4:(K==4)=true)(e5:(K==5)=false) :
  Calls Tryz.prog 19 #[.agg #[.int .i64 K,.int .i64 T,.int .i64 N,.int .i64 M,.int .u64 H,.string s]] w fun e w'=>e=.returned (.int .i64 (askT (rightO K T s) (N)))∧Below w.heap.size w w':=by
 have refR:=refRight_any K T N M H s (w.alloc (.cells #[.int .i64 K,.int .i64 T,.int .i64 N,.int .i64 M,.int .u64 H,.string s] 32)) hs;cases h:rightO K T s with
 |false =>
  rw [askT_no];rw [h] at refR;replace refR:=HD refR;clear h;go_enter Tryz.func19,Tryz.ntmps19
  go_wp2_with fail;refine refR.out.mono ?_;rintro e w1 ⟨rfl,hb⟩;go_wp2_with fail;go_ret
  exact⟨rfl,below_s (below_alloc (Nat.le_refl _) (Below.refl _ _)) hb⟩
 |true =>
  rw [h] at refR;replace refR:=HD refR;clear h;by_cases g:1≤N∧N≤8192
  ·skip
   have q0:=(unit_kind g.1 g.2).1;have q1:=(unit_kind g.1 g.2).2.1;rw [askT_in g.1 g.2];obtain⟨g0,g1⟩:=g;go_enter Tryz.func19,Tryz.ntmps19
   go_wp2_with fail;refine refR.out.mono ?_;rintro e w1 ⟨rfl,hb⟩;go_wp2_with fail;refine(refKind_any _ _).mono ?_;rintro e w2 ⟨rfl,hb2⟩;go_wp2_with fail;go_ret
   exact⟨rfl,below_s (below_s (below_alloc (Nat.le_refl _) (Below.refl _ _)) hb) hb2⟩
  ·rw [askT_out (by omega)]
   have q0:kindT (N)=-1:=kind_out (by omega);have q0':kindT (N)<0:=by omega
   replace q0:=HD q0;clear g;go_enter Tryz.func19,Tryz.ntmps19
   go_wp2_with fail;refine refR.out.mono ?_;rintro e w1 ⟨rfl,hb⟩;go_wp2_with fail;refine(refKind_any _ _).mono ?_;rintro e w2 ⟨rfl,hb2⟩;go_wp2_with fail;go_ret
   exact⟨rfl,below_s (below_s (below_alloc (Nat.le_refl _) (Below.refl _ _)) hb) hb2⟩
theorem refAsks_b(K T N M H:Int)(s:ByteArray)(w:World)(hs:s.size≤maxLen)(e4:(K==4)=false)(e7:(K==7)=true)(e5:(K==5)=false) :
  Calls Tryz.prog 19 #[.agg #[.int .i64 K,.int .i64 T,.int .i64 N,.int .i64 M,.int .u64 H,.string s]] w fun e w'=>e=.returned (.int .i64 (askT (rightO K T s) (N)))∧Below w.heap.size w w':=by
 have refR:=refRight_any K T N M H s (w.alloc (.cells #[.int .i64 K,.int .i64 T,.int .i64 N,.int .i64 M,.int .u64 H,.string s] 32)) hs;cases h:rightO K T s with
 |false =>
  rw [askT_no];rw [h] at refR;replace refR:=HD refR;clear h;go_enter Tryz.func19,Tryz.ntmps19
  go_wp2_with fail;refine refR.out.mono ?_;rintro e w1 ⟨rfl,hb⟩;go_wp2_with fail;go_ret
  exact⟨rfl,below_s (below_alloc (Nat.le_refl _) (Below.refl _ _)) hb⟩
 |true =>
  rw [h] at refR;replace refR:=HD refR;clear h;by_cases g:1≤N∧N≤8192
  ·skip
   have q0:=(unit_kind g.1 g.2).1;have q1:=(unit_kind g.1 g.2).2.1;rw [askT_in g.1 g.2];obtain⟨g0,g1⟩:=g;go_enter Tryz.func19,Tryz.ntmps19
   go_wp2_with fail;refine refR.out.mono ?_;rintro e w1 ⟨rfl,hb⟩;go_wp2_with fail;refine(refKind_any _ _).mono ?_;rintro e w2 ⟨rfl,hb2⟩;go_wp2_with fail;go_ret
   exact⟨rfl,below_s (below_s (below_alloc (Nat.le_refl _) (Below.refl _ _)) hb) hb2⟩
  ·rw [askT_out (by omega)]
   have q0:kindT (N)=-1:=kind_out (by omega);have q0':kindT (N)<0:=by omega
   replace q0:=HD q0;clear g;go_enter Tryz.func19,Tryz.ntmps19
   go_wp2_with fail;refine refR.out.mono ?_;rintro e w1 ⟨rfl,hb⟩;go_wp2_with fail;refine(refKind_any _ _).mono ?_;rintro e w2 ⟨rfl,hb2⟩;go_wp2_with fail;go_ret
   exact⟨rfl,below_s (below_s (below_alloc (Nat.le_refl _) (Below.refl _ _)) hb) hb2⟩
theorem refAsks_c(K T N M H:Int)(s:ByteArray)(w:World)(hs:s.size≤maxLen)(e4:(K==4)=false)(e7:(K==7)=false)(e5:(K==5)=false) :
  Calls Tryz.prog 19 #[.agg #[.int .i64 K,.int .i64 T,.int .i64 N,.int .i64 M,.int .u64 H,.string s]] w fun e w'=>e=.returned (.int .i64 (askT (rightO K T s) (0)))∧Below w.heap.size w w':=by
 have refR:=refRight_any K T N M H s (w.alloc (.cells #[.int .i64 K,.int .i64 T,.int .i64 N,.int .i64 M,.int .u64 H,.string s] 32)) hs;cases h:rightO K T s with
 |false =>
  rw [askT_no];rw [h] at refR;replace refR:=HD refR;clear h;go_enter Tryz.func19,Tryz.ntmps19
  go_wp2_with fail;refine refR.out.mono ?_;rintro e w1 ⟨rfl,hb⟩;go_wp2_with fail;go_ret
  exact⟨rfl,below_s (below_alloc (Nat.le_refl _) (Below.refl _ _)) hb⟩
 |true =>
  rw [h] at refR;replace refR:=HD refR;clear h;rw [askT_out (n:=0) (by omega)];have q0:kindT 0=-1:=kind_out (by omega);have q0':kindT 0<0:=by omega
  replace q0:=HD q0;go_enter Tryz.func19,Tryz.ntmps19
  go_wp2_with fail;refine refR.out.mono ?_;rintro e w1 ⟨rfl,hb⟩;go_wp2_with fail;refine(refKind_any _ _).mono ?_;rintro e w2 ⟨rfl,hb2⟩;go_wp2_with fail;go_ret
  exact⟨rfl,below_s (below_s (below_alloc (Nat.le_refl _) (Below.refl _ _)) hb) hb2⟩
theorem refAsks_d(K T N M H:Int)(s:ByteArray)(w:World)(hs:s.size≤maxLen)(e4:(K==4)=false)(e7:(K==7)=false)(e5:(K==5)=true)(n0:1≤N)(m0:1≤M)(n1:N≤8192)(m1:M≤8192)(p0:0≤N*M)(p1:N*M≤67108864) :
  Calls Tryz.prog 19 #[.agg #[.int .i64 K,.int .i64 T,.int .i64 N,.int .i64 M,.int .u64 H,.string s]] w fun e w'=>e=.returned (.int .i64 (askT (rightO K T s) (N*M)))∧Below w.heap.size w w':=by
 have refR:=refRight_any K T N M H s (w.alloc (.cells #[.int .i64 K,.int .i64 T,.int .i64 N,.int .i64 M,.int .u64 H,.string s] 32)) hs;cases h:rightO K T s with
 |false =>
  rw [askT_no];rw [h] at refR;replace refR:=HD refR;clear h;go_enter Tryz.func19,Tryz.ntmps19
  go_wp2_with fail;refine refR.out.mono ?_;rintro e w1 ⟨rfl,hb⟩;go_wp2_with fail;go_ret
  exact⟨rfl,below_s (below_alloc (Nat.le_refl _) (Below.refl _ _)) hb⟩
 |true =>
  rw [h] at refR;replace refR:=HD refR;clear h;by_cases g:1≤N*M∧N*M≤8192
  ·skip
   have q0:=(unit_kind g.1 g.2).1;have q1:=(unit_kind g.1 g.2).2.1;rw [askT_in g.1 g.2];obtain⟨g0,g1⟩:=g;go_enter Tryz.func19,Tryz.ntmps19
   go_wp2_with fail;refine refR.out.mono ?_;rintro e w1 ⟨rfl,hb⟩;go_wp2_with fail;refine(refKind_any _ _).mono ?_;rintro e w2 ⟨rfl,hb2⟩;go_wp2_with fail;go_ret
   exact⟨rfl,below_s (below_s (below_alloc (Nat.le_refl _) (Below.refl _ _)) hb) hb2⟩
  ·rw [askT_out (by omega)]
   have q0:kindT (N*M)=-1:=kind_out (by omega);have q0':kindT (N*M)<0:=by omega
   replace q0:=HD q0;clear g;go_enter Tryz.func19,Tryz.ntmps19
   go_wp2_with fail;refine refR.out.mono ?_;rintro e w1 ⟨rfl,hb⟩;go_wp2_with fail;refine(refKind_any _ _).mono ?_;rintro e w2 ⟨rfl,hb2⟩;go_wp2_with fail;go_ret
   exact⟨rfl,below_s (below_s (below_alloc (Nat.le_refl _) (Below.refl _ _)) hb) hb2⟩
theorem refAsks_e(K T N M H:Int)(s:ByteArray)(w:World)(hs:s.size≤maxLen)(e4:(K==4)=false)(e7:(K==7)=false)(e5:(K==5)=true)(n0:N<1) :
  Calls Tryz.prog 19 #[.agg #[.int .i64 K,.int .i64 T,.int .i64 N,.int .i64 M,.int .u64 H,.string s]] w fun e w'=>e=.returned (.int .i64 (askT (rightO K T s) (0)))∧Below w.heap.size w w':=by
 have refR:=refRight_any K T N M H s (w.alloc (.cells #[.int .i64 K,.int .i64 T,.int .i64 N,.int .i64 M,.int .u64 H,.string s] 32)) hs;cases h:rightO K T s with
 |false =>
  rw [askT_no];rw [h] at refR;replace refR:=HD refR;clear h;go_enter Tryz.func19,Tryz.ntmps19
  go_wp2_with fail;refine refR.out.mono ?_;rintro e w1 ⟨rfl,hb⟩;go_wp2_with fail;go_ret
  exact⟨rfl,below_s (below_alloc (Nat.le_refl _) (Below.refl _ _)) hb⟩
 |true =>
  rw [h] at refR;replace refR:=HD refR;clear h;rw [askT_out (n:=0) (by omega)];have q0:kindT 0=-1:=kind_out (by omega);have q0':kindT 0<0:=by omega
  replace q0:=HD q0;go_enter Tryz.func19,Tryz.ntmps19
  go_wp2_with fail;refine refR.out.mono ?_;rintro e w1 ⟨rfl,hb⟩;go_wp2_with fail;refine(refKind_any _ _).mono ?_;rintro e w2 ⟨rfl,hb2⟩;go_wp2_with fail;go_ret
  exact⟨rfl,below_s (below_s (below_alloc (Nat.le_refl _) (Below.refl _ _)) hb) hb2⟩
theorem refAsks_f(K T N M H:Int)(s:ByteArray)(w:World)(hs:s.size≤maxLen)(e4:(K==4)=false)(e7:(K==7)=false)(e5:(K==5)=true)(n0:1≤N)(m0:M<1) :
  Calls Tryz.prog 19 #[.agg #[.int .i64 K,.int .i64 T,.int .i64 N,.int .i64 M,.int .u64 H,.string s]] w fun e w'=>e=.returned (.int .i64 (askT (rightO K T s) (0)))∧Below w.heap.size w w':=by
 have refR:=refRight_any K T N M H s (w.alloc (.cells #[.int .i64 K,.int .i64 T,.int .i64 N,.int .i64 M,.int .u64 H,.string s] 32)) hs;cases h:rightO K T s with
 |false =>
  rw [askT_no];rw [h] at refR;replace refR:=HD refR;clear h;go_enter Tryz.func19,Tryz.ntmps19
  go_wp2_with fail;refine refR.out.mono ?_;rintro e w1 ⟨rfl,hb⟩;go_wp2_with fail;go_ret
  exact⟨rfl,below_s (below_alloc (Nat.le_refl _) (Below.refl _ _)) hb⟩
 |true =>
  rw [h] at refR;replace refR:=HD refR;clear h;rw [askT_out (n:=0) (by omega)];have q0:kindT 0=-1:=kind_out (by omega);have q0':kindT 0<0:=by omega
  replace q0:=HD q0;go_enter Tryz.func19,Tryz.ntmps19
  go_wp2_with fail;refine refR.out.mono ?_;rintro e w1 ⟨rfl,hb⟩;go_wp2_with fail;refine(refKind_any _ _).mono ?_;rintro e w2 ⟨rfl,hb2⟩;go_wp2_with fail;go_ret
  exact⟨rfl,below_s (below_s (below_alloc (Nat.le_refl _) (Below.refl _ _)) hb) hb2⟩
theorem refAsks_g(K T N M H:Int)(s:ByteArray)(w:World)(hs:s.size≤maxLen)(e4:(K==4)=false)(e7:(K==7)=false)(e5:(K==5)=true)(n0:1≤N)(m0:1≤M)(n1:8192<N) :
  Calls Tryz.prog 19 #[.agg #[.int .i64 K,.int .i64 T,.int .i64 N,.int .i64 M,.int .u64 H,.string s]] w fun e w'=>e=.returned (.int .i64 (askT (rightO K T s) (0)))∧Below w.heap.size w w':=by
 have refR:=refRight_any K T N M H s (w.alloc (.cells #[.int .i64 K,.int .i64 T,.int .i64 N,.int .i64 M,.int .u64 H,.string s] 32)) hs;cases h:rightO K T s with
 |false =>
  rw [askT_no];rw [h] at refR;replace refR:=HD refR;clear h;go_enter Tryz.func19,Tryz.ntmps19
  go_wp2_with fail;refine refR.out.mono ?_;rintro e w1 ⟨rfl,hb⟩;go_wp2_with fail;go_ret
  exact⟨rfl,below_s (below_alloc (Nat.le_refl _) (Below.refl _ _)) hb⟩
 |true =>
  rw [h] at refR;replace refR:=HD refR;clear h;rw [askT_out (n:=0) (by omega)];have q0:kindT 0=-1:=kind_out (by omega);have q0':kindT 0<0:=by omega
  replace q0:=HD q0;go_enter Tryz.func19,Tryz.ntmps19
  go_wp2_with fail;refine refR.out.mono ?_;rintro e w1 ⟨rfl,hb⟩;go_wp2_with fail;refine(refKind_any _ _).mono ?_;rintro e w2 ⟨rfl,hb2⟩;go_wp2_with fail;go_ret
  exact⟨rfl,below_s (below_s (below_alloc (Nat.le_refl _) (Below.refl _ _)) hb) hb2⟩
theorem refAsks_i(K T N M H:Int)(s:ByteArray)(w:World)(hs:s.size≤maxLen)(e4:(K==4)=false)(e7:(K==7)=false)(e5:(K==5)=true)(n0:1≤N)(m0:1≤M)(n1:N≤8192)(m1:8192<M) :
  Calls Tryz.prog 19 #[.agg #[.int .i64 K,.int .i64 T,.int .i64 N,.int .i64 M,.int .u64 H,.string s]] w fun e w'=>e=.returned (.int .i64 (askT (rightO K T s) (0)))∧Below w.heap.size w w':=by
 have refR:=refRight_any K T N M H s (w.alloc (.cells #[.int .i64 K,.int .i64 T,.int .i64 N,.int .i64 M,.int .u64 H,.string s] 32)) hs;cases h:rightO K T s with
 |false =>
  rw [askT_no];rw [h] at refR;replace refR:=HD refR;clear h;go_enter Tryz.func19,Tryz.ntmps19
  go_wp2_with fail;refine refR.out.mono ?_;rintro e w1 ⟨rfl,hb⟩;go_wp2_with fail;go_ret
  exact⟨rfl,below_s (below_alloc (Nat.le_refl _) (Below.refl _ _)) hb⟩
 |true =>
  rw [h] at refR;replace refR:=HD refR;clear h;rw [askT_out (n:=0) (by omega)];have q0:kindT 0=-1:=kind_out (by omega);have q0':kindT 0<0:=by omega
  replace q0:=HD q0;go_enter Tryz.func19,Tryz.ntmps19
  go_wp2_with fail;refine refR.out.mono ?_;rintro e w1 ⟨rfl,hb⟩;go_wp2_with fail;refine(refKind_any _ _).mono ?_;rintro e w2 ⟨rfl,hb2⟩;go_wp2_with fail;go_ret
  exact⟨rfl,below_s (below_s (below_alloc (Nat.le_refl _) (Below.refl _ _)) hb) hb2⟩
theorem askT_over{r:Bool}{n:Int}(h:8192<n):askT r n=askT r 0:=by
 cases r
 ·rw [askT_no,askT_no]
 ·rw [askT_out (.inr h),askT_out (.inl (by omega))]
theorem refAsks_any(K T N M H:Int)(s:ByteArray)(w:World)(hs:s.size≤maxLen) :
  Calls Tryz.prog 19 #[.agg #[.int .i64 K,.int .i64 T,.int .i64 N,.int .i64 M,.int .u64 H,.string s]] w fun e w'=>e=.returned (.int .i64 (askT (rightO K T s) (askN K N M)))∧Below w.heap.size w w':=by
 unfold askN;cases e4:K==4 with
 |true =>
  have k4:=eq_of_beq e4;rw [if_pos (.inl k4)];exact refAsks_a K T N M H s w hs e4 (beq_eq_false_iff_ne.2 (by omega))
 |false =>
  have k4:K≠4:=beq_eq_false_iff_ne.1 e4;cases e7:K==7 with
  |true =>
   have k7:=eq_of_beq e7;rw [if_pos (.inr k7)];exact refAsks_b K T N M H s w hs e4 e7 (beq_eq_false_iff_ne.2 (by omega))
  |false =>
   have k7:K≠7:=beq_eq_false_iff_ne.1 e7;rw [if_neg (by omega)];cases e5:K==5 with
   |false =>
    rw [if_neg (fun q=>by rw [q.1] at e5;cases e5)];exact refAsks_c K T N M H s w hs e4 e7 e5
   |true =>
    have k5:K=5:=eq_of_beq e5;by_cases n0:1≤N
    ·by_cases m0:1≤M
     ·have p0:=Int.mul_nonneg (show 0≤N by omega) (show 0≤M by omega)
      have hN:N*1≤N*M:=Int.mul_le_mul_of_nonneg_left m0 (by omega);have hM:1*M≤N*M:=Int.mul_le_mul_of_nonneg_right n0 (by omega);by_cases n1:N≤8192
      ·by_cases m1:M≤8192
       ·have p1:N*M≤8192*8192:=Int.mul_le_mul n1 m1 (by omega) (by omega)
        have hd:=refAsks_d K T N M H s w hs e4 e7 e5 n0 m0 n1 m1 p0 p1;by_cases p2:N*M≤8192
        ·rw [if_pos ⟨k5,n0,m0,p2⟩];exact hd
        ·rw [if_neg (fun q=>p2 q.2.2.2),←askT_over (by omega:8192<N*M)];exact hd
       ·rw [if_neg (by omega)]
        exact refAsks_i K T N M H s w hs e4 e7 e5 n0 m0 n1 (by omega)
      ·rw [if_neg (by omega)]
       exact refAsks_g K T N M H s w hs e4 e7 e5 n0 m0 (by omega)
     ·rw [if_neg (by omega)]
      exact refAsks_f K T N M H s w hs e4 e7 e5 n0 (by omega)
    ·rw [if_neg (by omega)]
     exact refAsks_e K T N M H s w hs e4 e7 e5 (by omega)
end
section
open Go.RowKit Flt
attribute [local irreducible] CpS.rv smallT unitT kindT perT pagesT alignT
section
variable{B:List UInt8}{cm:CmS}{win:List Int}{tb:TbS}{t:TnS}
theorem find_err(cp:CpS)(h:Nat)(r:Int):(cp.findF h r).2=0∨(cp.findF h r).2=5:=by
 unfold CpS.findF;cases cp.look h with
 |none=>exact .inr rfl
 |some x =>
  simp only
  split
  ·exact .inl rfl
  ·exact .inr rfl
theorem may_zero(a:Int):mayR a 0=true:=by
 unfold mayR;have:bits BinOp.and IntKind.i64 a 0=0:=by
  unfold bits;simp
  rfl
 rw [this];rfl
theorem find_zero{cp:CpS}{h:Nat}{r:Int}(e:(cp.findF h r).2=0):cp.findF h 0=((cp.findF h r).1,0):=by
 unfold CpS.findF at e ⊢;cases hl:cp.look h with
 |none=>rw [hl] at e;simp at e
 |some x =>
  rw [hl] at e;simp only at e ⊢;rw [if_pos ⟨by decide,may_zero _⟩]
  split at e
  ·rename_i q;rw [if_pos q]
  ·simp at e
theorem unit_pos(c:Int):0≤unitT c:=by
 by_cases h:0≤c∧c≤23
 ·have:=kind_facts h.1 h.2;omega
 ·have:unitT c=0:=by unfold unitT;rw [if_pos (by omega)]
  omega
theorem kind_no{n:Int}:kindT n<0↔n<1∨8192<n:=by
 constructor
 ·intro h
  by_cases c:n<1∨8192<n
  ·exact c
  ·have:=unit_kind (n:=n) (by omega) (by omega);omega
 ·intro h;rw [kind_out h];decide
theorem mul_fits{k n:Int}:(1≤k∧1≤n∧k≤(8192:Int).tdiv n)↔(1≤k∧1≤n∧k*n≤8192):=by
 refine and_congr_right fun hk=>and_congr_right fun hn=>?_
 rw [Int.tdiv_eq_ediv_of_nonneg (by decide)];exact Int.le_ediv_iff_mul_le (by omega)
theorem getR_quota(ok:t.cb≤t.qb)(n:Int):((t.getR n).1.err=3↔0<askT true n∧t.qb<t.cb+chargeT (askT true n))∧(t.getR n).1.err≠10∧(t.getR n).2.cb≤t.qb:=by
 unfold TnS.getR;by_cases h:kindT n<0
 ·rw [if_pos h]
  rw [askT_out (kind_no.1 h)];exact⟨⟨fun q=>absurd q (by simp),fun q=>absurd q.1 (by decide)⟩,by simp,ok⟩
 ·rw [if_neg h]
  have hn:1≤n∧n≤8192:=by
   have:=mt kind_no.2 h;omega
  rw [askT_in hn.1 hn.2];by_cases c:t.qb<t.cb+chargeT n
  ·rw [if_pos c]
   exact⟨⟨fun _=>⟨by omega,c⟩,fun _=>rfl⟩,by simp,ok⟩
  ·rw [if_neg c]
   refine⟨⟨fun q=>absurd q (by simp),fun q=>absurd q.2 c⟩,by simp,?_⟩;have:=unit_kind hn.1 hn.2;show t.cb+unitT ((kindT n).toNat:Int)≤t.qb;rw [Int.toNat_of_nonneg this.1];unfold chargeT at c;omega
theorem put_le(t:TnS)(a:Int):(t.put a).cb≤t.cb:=by
 show t.cb-unitT (kdT a)≤t.cb;have:=unit_pos (kdT a);omega
theorem quota_ask(ok:t.cb≤t.qb){x:OpS}(hK:4≤x.K∧x.K≤11) :
  ((t.ask x).1.err=3↔0<askT true (askN x.K x.N x.M)∧(x.K=7→(t.ask x).1.err≠5∧(t.usable x.H).1.n<chargeT (askT true (askN x.K x.N x.M)))∧t.qb<t.cb+chargeT (askT true (askN x.K x.N x.M)))∧((t.ask x).1.err=10→x.K=11)∧(t.ask x).2.cb≤t.qb:=by
 obtain⟨k,T,N,M,H,sd⟩:=x;simp only at hK ⊢;have hz:askT true 0=0:=askT_out (.inl (by decide));have hno:∀{e:Int},e≠3→k≠7→askN k N M=0→(e=3↔0<askT true (askN k N M)∧(k=7→e≠5∧(t.usable H).1.n<chargeT (askT true (askN k N M)))∧t.qb<t.cb+chargeT (askT true (askN k N M))):=fun h1 _ h2=>by
  rw [h2,hz];exact⟨fun q=>absurd q h1,fun q=>absurd q.1 (by decide)⟩
 obtain rfl|rfl|rfl|rfl|rfl|rfl|rfl|rfl:k=4∨k=5∨k=6∨k=7∨k=8∨k=9∨k=10∨k=11:=by omega
 ·have e:t.ask ⟨4,T,N,M,H,sd⟩=t.malloc N:=rfl
  rw [e];have hn:askN 4 N M=N:=by unfold askN;rw [if_pos (.inl rfl)]
  rw [hn];obtain⟨h1,h2,h3⟩:=getR_quota ok N;exact⟨⟨fun q=>⟨(h1.1 q).1,fun q=>absurd q (by decide),(h1.1 q).2⟩,fun q=>h1.2 ⟨q.1,q.2.2⟩⟩,fun q=>absurd q h2,h3⟩
 ·have e:t.ask ⟨5,T,N,M,H,sd⟩=t.calloc N M:=rfl
  rw [e];unfold TnS.calloc;by_cases c:1≤N∧1≤M∧N≤(8192:Int).tdiv M
  ·rw [if_pos c]
   have hn:askN 5 N M=N*M:=by unfold askN;rw [if_neg (by decide),if_pos ⟨rfl,mul_fits.1 c⟩]
   rw [hn];obtain⟨h1,h2,h3⟩:=getR_quota ok (N*M);exact⟨⟨fun q=>⟨(h1.1 q).1,fun q=>absurd q (by decide),(h1.1 q).2⟩,fun q=>h1.2 ⟨q.1,q.2.2⟩⟩,fun q=>absurd q h2,h3⟩
  ·rw [if_neg c]
   have hn:askN 5 N M=0:=by
    unfold askN;rw [if_neg (by decide),if_neg (fun q=>c (mul_fits.2 q.2))]
   exact⟨hno (by simp) (by decide) hn,fun q=>absurd q (by simp),ok⟩
 ·have e:t.ask ⟨6,T,N,M,H,sd⟩=t.free H:=rfl
  rw [e];have hn:askN 6 N M=0:=by unfold askN;rw [if_neg (by decide),if_neg (fun q=>absurd q.1 (by decide))]
  unfold TnS.free;rcases find_err t.cp H 4 with q|q
  ·rw [if_pos q]
   exact⟨hno (by simp) (by decide) hn,fun q=>absurd q (by simp),by have:=put_le t (t.cp.findF H 4).1;simp only;omega⟩
  ·rw [if_neg (by rw [q];decide)]
   exact⟨hno (by simp only;omega) (by decide) hn,fun q2=>absurd q2 (by simp only;omega),ok⟩
 ·have e:t.ask ⟨7,T,N,M,H,sd⟩=t.realloc H N:=rfl
  rw [e];have hn:askN 7 N M=N:=by unfold askN;rw [if_pos (.inr rfl)]
  rw [hn];unfold TnS.realloc;rcases find_err t.cp H 4 with q|q
  ·have hu:(t.usable H).1.n=unitT (kdT (t.cp.findF H 4).1):=by
    unfold TnS.usable;rw [find_zero q,if_pos rfl]
   rw [hu];rw [if_neg (by rw [q];decide)];by_cases h:kindT N<0
   ·rw [if_pos h,askT_out (kind_no.1 h)]
    exact⟨⟨fun q=>absurd q (by simp),fun q=>absurd q.1 (by decide)⟩,fun q=>absurd q (by simp),ok⟩
   ·rw [if_neg h]
    have hb:1≤N∧N≤8192:=by
     have:=mt kind_no.2 h;omega
    rw [askT_in hb.1 hb.2];by_cases c:chargeT N≤unitT (kdT (t.cp.findF H 4).1)
    ·rw [if_pos c]
     exact⟨⟨fun q=>absurd q (by simp),fun q=>absurd (q.2.1 rfl).2 (by omega)⟩,fun q=>absurd q (by simp),ok⟩
    ·rw [if_neg c]
     by_cases d:t.qb<t.cb+chargeT N
     ·rw [if_pos d]
      exact⟨⟨fun _=>⟨by omega,fun _=>⟨by simp,by omega⟩,d⟩,fun _=>rfl⟩,fun q=>absurd q (by simp),ok⟩
     ·rw [if_neg d]
      refine⟨⟨fun q=>absurd q (by simp),fun q=>absurd q.2.2 d⟩,fun q=>absurd q (by simp),?_⟩;refine Int.le_trans (put_le _ _) ?_;show t.cb+unitT ((kindT N).toNat:Int)≤t.qb;rw [Int.toNat_of_nonneg (unit_kind hb.1 hb.2).1];unfold chargeT at d;omega
  ·rw [if_pos (by rw [q];decide),q]
   exact⟨⟨fun q=>absurd q (by simp),fun q=>absurd rfl (q.2.1 rfl).1⟩,fun q=>absurd q (by simp),ok⟩
 ·have e:t.ask ⟨8,T,N,M,H,sd⟩=t.usable H:=rfl
  rw [e];have hn:askN 8 N M=0:=by unfold askN;rw [if_neg (by decide),if_neg (fun q=>absurd q.1 (by decide))]
  have hu:((t.usable H).1.err=0∨(t.usable H).1.err=5)∧(t.usable H).2=t:=by
   unfold TnS.usable;rcases find_err t.cp H 0 with q|q
   ·rw [if_pos q];exact⟨.inl rfl,rfl⟩
   ·rw [if_neg (by rw [q];decide)];exact⟨.inr q,rfl⟩
  refine⟨hno (by omega) (by decide) hn,fun q=>by omega,?_⟩;rw [hu.2];exact ok
 ·have e:t.ask ⟨9,T,N,M,H,sd⟩=t.read H N M:=rfl
  rw [e];have hn:askN 9 N M=0:=by unfold askN;rw [if_neg (by decide),if_neg (fun q=>absurd q.1 (by decide))]
  have hs:(t.spanR H 1 N M).2≠3∧(t.spanR H 1 N M).2≠10:=by
   unfold TnS.spanR;rcases find_err t.cp H 1 with q|q
   ·rw [if_pos q];split<;>simp
   ·rw [if_neg (by rw [q];decide),q];simp
  unfold TnS.read
  split
  ·exact⟨hno (by simp) (by decide) hn,fun q=>absurd q (by simp),ok⟩
  ·exact⟨hno hs.1 (by decide) hn,fun q2=>absurd q2 hs.2,ok⟩
 ·have e:t.ask ⟨10,T,N,M,H,sd⟩=t.write H N sd:=rfl
  rw [e];have hn:askN 10 N M=0:=by unfold askN;rw [if_neg (by decide),if_neg (fun q=>absurd q.1 (by decide))]
  have hs:(t.spanR H 2 N sd.size).2≠3∧(t.spanR H 2 N sd.size).2≠10:=by
   unfold TnS.spanR;rcases find_err t.cp H 2 with q|q
   ·rw [if_pos q];split<;>simp
   ·rw [if_neg (by rw [q];decide),q];simp
  unfold TnS.write
  split
  ·exact⟨hno (by simp) (by decide) hn,fun q=>absurd q (by simp),ok⟩
  ·exact⟨hno hs.1 (by decide) hn,fun q2=>absurd q2 hs.2,ok⟩
 ·have e:t.ask ⟨11,T,N,M,H,sd⟩=t.restrict H N:=rfl
  rw [e];have hn:askN 11 N M=0:=by unfold askN;rw [if_neg (by decide),if_neg (fun q=>absurd q.1 (by decide))]
  refine⟨hno ?_ (by decide) hn,fun _=>rfl,ok⟩;show (t.cp.restA H N).2≠3;unfold CpS.restA
  split
  ·simp
  ·split
   ·simp
   ·split
    ·unfold CpS.putA
     split
     ·simp
     ·split<;>simp
    ·simp
end
structure QuoOk(s:AdS)(x:OpS)(i:Nat):Prop where
 refused:(s.do_ x).1.err=3↔0<askT true (askN x.K x.N x.M)∧(x.K=7→(s.do_ x).1.err≠5∧(s.do_ ⟨8,x.T,0,0,x.H,ByteArray.empty⟩).1.n<chargeT (askT true (askN x.K x.N x.M)))∧s.quo i<s.chg i+chargeT (askT true (askN x.K x.N x.M))
 many:(s.do_ x).1.err=10→x.K=11
 fits:(s.do_ x).1.ch≤s.quo i
theorem right_usable{K T:Int}{s:ByteArray}(h:rightO K T s=true):rightO 8 T ByteArray.empty=true:=by
 have:=right_iff.1 h;exact right_iff.2 ⟨by decide,by decide,this.2.2.1,this.2.2.2.1,by decide,.inr rfl⟩
theorem do_usable{s:AdS}{K T:Int}{H:Nat}{sd:ByteArray}(h:rightO K T sd=true):s.do_ ⟨8,T,0,0,H,ByteArray.empty⟩=(match s.ts T.toNat with
   |none=>⟨6,0,0,0,ByteArray.empty,0⟩
   |some t=>{(t.usable H).1 with ch:=t.cb},s):=by
 unfold AdS.do_;rw [if_pos (right_usable h),if_neg (by simp),if_neg (by simp),if_neg (by simp)];simp only;cases e:s.ts T.toNat with
 |none=>rfl
 |some t =>
  have h2:t.ask ⟨8,T,0,0,H,ByteArray.empty⟩=t.usable H:=rfl;have h3:(t.usable H).2=t:=by unfold TnS.usable;split<;>rfl
  simp only;rw [h2,h3];have h4:s.set T.toNat t=s:=by unfold AdS.set;rw [up1_fun e]
  rw [h4]
theorem quota_do{B:List UInt8}{cm:CmS}{p:PoS}{tbs:Nat→TbS}{s:AdS}(hok:AdOk B cm p tbs s){x:OpS}{i:Nat}(hr:rightO x.K x.T x.s=true)(hi:x.T=i)(hk:3≤x.K)(hl:(s.ts i).isSome=true):QuoOk s x i:=by
 have hb:=right_iff.1 hr;have hT:x.T.toNat=i:=by omega
 cases e:s.ts i with
 |none=>rw [e] at hl;cases hl
 |some t =>
  obtain⟨ok,_,_⟩:=hok.tn i t (by omega) e;have hq:s.quo i=t.qb:=by unfold AdS.quo;rw [e]
  have hc:s.chg i=t.cb:=by unfold AdS.chg;rw [e]
  by_cases k3:x.K=3
  ·have hd:(s.do_ x).1=⟨0,0,0,0,ByteArray.empty,0⟩:=by
    unfold AdS.do_;rw [if_pos hr,if_neg (by omega),if_neg (by omega),if_pos k3,hT];simp only;unfold AdS.destroy;rw [e];simp only;unfold AdS.chg;simp only [up1_same]
   have hn:askN x.K x.N x.M=0:=by rw [k3];unfold askN;rw [if_neg (by decide),if_neg (fun q=>absurd q.1 (by decide))]
   refine⟨?_,?_,?_⟩
   ·rw [hd,hn,askT_out (.inl (by decide))]
    exact⟨fun q=>absurd q (by simp),fun q=>absurd q.1 (by decide)⟩
   ·rw [hd];intro q;simp at q
   ·rw [hd,hq]
    have:=may_iff.1 ok.may;simp only;omega
  ·have h4:4≤x.K∧x.K≤11:=by omega
   have hd:(s.do_ x).1={(t.ask x).1 with ch:=(t.ask x).2.cb}:=by
    unfold AdS.do_;rw [if_pos hr,if_neg (by omega),if_neg (by omega),if_neg k3,hT,e]
   have hu:(s.do_ ⟨8,x.T,0,0,x.H,ByteArray.empty⟩).1.n=(t.usable x.H).1.n:=by
    rw [do_usable hr,hT,e]
   obtain⟨a1,a2,a3⟩:=quota_ask ok.quo.1 h4 (t:=t);refine⟨?_,?_,?_⟩
   ·rw [hd,hu,hq,hc];exact a1
   ·rw [hd];exact a2
   ·rw [hd,hq];exact a3
end
end Go.Proofs.YtfliaggjkianpaaGreatDoor
