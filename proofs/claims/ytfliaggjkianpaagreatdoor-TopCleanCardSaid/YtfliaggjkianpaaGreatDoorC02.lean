import Derived.Test.YtfliaggjkianpaaGreatDoorC01
set_option linter.unusedVariables false
set_option linter.unusedSimpArgs false
set_option maxRecDepth 100000
namespace Go.Proofs.YtfliaggjkianpaaGreatDoor
section
open Go.RowKit
theorem below_seq{B:Nat}{a w w1:World}(h:Below B a w)(hB:B≤w.heap.size)(k:Below w.heap.size w w1):Below B a w1:=h.trans (k.mono hB)
theorem refUnit_lit(c:Int)(w:World)(h:c=0∨c=1∨c=2∨c=3∨c=4∨c=5∨c=6∨c=7) :
  Calls Tryz.prog 42 #[.int .i64 c] w fun e w'=>e=.returned (.int .i64 (unitT c))∧Below w.heap.size w w':=by
 rcases h with rfl|rfl|rfl|rfl|rfl|rfl|rfl|rfl
 all_goals
  go_enter Tryz.func42,Tryz.ntmps42
  go_wp2
  go_ret
  exact⟨rfl,(Below.refl _ _).alloc (Nat.le_refl _) _⟩
attribute [local irreducible] smallT unitT kindT perT pagesT alignT chargeT
theorem refUnit_any(c:Int)(w:World) :
  Calls Tryz.prog 42 #[.int .i64 c] w fun e w'=>e=.returned (.int .i64 (unitT c))∧Below w.heap.size w w':=by
 by_cases hc:c<0∨23<c
 ·rw [unit_out hc]
  rcases hc with hc|hc
  ·go_enter Tryz.func42,Tryz.ntmps42
   go_wp2
   go_ret
   exact⟨rfl,(Below.refl _ _).alloc (Nat.le_refl _) _⟩
  ·have h0:0≤c:=by omega
   go_enter Tryz.func42,Tryz.ntmps42
   go_wp2
   go_ret
   exact⟨rfl,(Below.refl _ _).alloc (Nat.le_refl _) _⟩
 ·by_cases h7:c≤7
  ·exact refUnit_lit c w (by omega)
  ·rw [unit_run (by omega) (by omega)]
   have h0:0≤c:=by omega
   have h1:c≤23:=by omega
   have h2:¬c<8:=by omega
   clear hc;go_enter Tryz.func42,Tryz.ntmps42
   go_wp2
   go_ret
   exact⟨rfl,(Below.refl _ _).alloc (Nat.le_refl _) _⟩
end
section
open Go.RowKit
attribute [local irreducible] smallT unitT kindT perT pagesT alignT chargeT
theorem refKind_neg(n:Int)(w:World)(h:n<1) :
  Calls Tryz.prog 37 #[.int .i64 n] w fun e w'=>e=.returned (.int .i64 (-1))∧Below w.heap.size w w':=by
 go_enter Tryz.func37,Tryz.ntmps37
 go_wp2
 go_ret
 exact⟨rfl,Below.refl _ _⟩
set_option maxHeartbeats 400000 in
theorem refKind_loop(n k:Int)(w:World)(h:1≤n)(hk:(8192<n∧k=24)∨(0≤k∧k≤23∧n≤unitT k))(hl:∀c,0≤c→c<k→unitT c<n) :
  Calls Tryz.prog 37 #[.int .i64 n] w fun e w'=>e=.returned (.int .i64 (if k=24 then -1 else k))∧Below w.heap.size w w':=by
 have k0:0≤k:=by omega
 have k1:k≤24:=by omega
 have hk:=HD hk;replace hl:=HD hl;go_enter Tryz.func37,Tryz.ntmps37
 go_wp2
 go_loopw [3] (fun c wr=>∃j:Int,0≤j∧j≤k∧c=.int .i64 j∧Below w.heap.size w wr) (fun c _=>(24-intOf c).toNat)
 case atStart=>exact⟨0,by omega,by omega,rfl,Below.refl _ _⟩
 case round =>
  obtain⟨j,j0,jk,rfl,hb⟩:=hrel;by_cases hj:j<k
  ·have h24:j<24:=by omega
   have hu:=hl.out j j0 hj;go_wp2_with fail;refine(refUnit_any _ _).mono ?_;rintro e w1 ⟨rfl,hb1⟩;go_wp2_with fail;go_roundw
   case rel=>exact⟨j+1,by omega,by omega,rfl,below_seq hb hb.size hb1⟩
   case measure=>simp [intOf];omega
  ·obtain rfl:j=k:=by omega
   by_cases he:j=24
   ·subst he
    go_wp2
    go_ret
    exact⟨rfl,hb⟩
   ·have hu:n≤unitT j:=by have:=hk.out;omega
    have h24:j<24:=by omega
    replace he:=HD he;go_wp2_with fail;refine(refUnit_any _ _).mono ?_;rintro e w1 ⟨rfl,hb1⟩;go_wp2_with fail;go_ret
    exact⟨rfl,below_seq hb hb.size hb1⟩
theorem refKind_any(n:Int)(w:World) :
  Calls Tryz.prog 37 #[.int .i64 n] w fun e w'=>e=.returned (.int .i64 (kindT n))∧Below w.heap.size w w':=by
 by_cases h:n<1
 ·rw [kind_out (Or.inl h)];exact refKind_neg n w h
 ·by_cases h':8192<n
  ·rw [kind_out (Or.inr h')]
   have:=refKind_loop n 24 w (by omega) (Or.inl ⟨h',rfl⟩) (fun c _ _=>by have:=unit_bound c;omega)
   rwa [if_pos rfl] at this
  ·obtain⟨a,b,c,d⟩:=unit_kind (n:=n) (by omega) (by omega)
   have:=refKind_loop n (kindT n) w (by omega) (Or.inr ⟨a,b,c⟩) d
   rwa [if_neg (by omega)] at this
end
section
open Go.RowKit
attribute [local irreducible] smallT unitT kindT perT pagesT alignT chargeT
theorem refRight_any(K T N M H:Int)(s:ByteArray)(w:World)(hs:s.size≤maxLen) :
  Calls Tryz.prog 14 #[.agg #[.int .i64 K,.int .i64 T,.int .i64 N,.int .i64 M,.int .u64 H,.string s]] w fun e w'=>e=.returned (.bool (rightO K T s))∧Below w.heap.size w w':=by
 unfold maxLen at hs;cases h:rightO K T s with
 |true =>
  obtain⟨k0,k1,t0,t1,s1,g⟩:=right_iff.1 h;clear h;by_cases hk:K=10
  ·have e:(K==10)=true:=beq_iff_eq.2 hk
   clear hk g;go_enter Tryz.func14,Tryz.ntmps14
   go_wp2
   go_ret
   exact⟨rfl,(below_alloc (Nat.le_refl _) (Below.refl _ _))⟩
  ·have e:(K==10)=false:=beq_eq_false_iff_ne.2 hk
   obtain⟨z1,z2⟩:=empty_of (s:=s) (by omega);clear hk g;go_enter Tryz.func14,Tryz.ntmps14
   go_wp2
   go_ret
   exact⟨rfl,(below_alloc (Nat.le_refl _) (Below.refl _ _))⟩
 |false =>
  rcases right_not h with h|h|h|h|h|⟨h,g⟩
  ·skip
   go_enter Tryz.func14,Tryz.ntmps14
   go_wp2
   go_ret
   exact⟨rfl,(below_alloc (Nat.le_refl _) (Below.refl _ _))⟩
  ·obtain⟨a,b⟩:=h
   go_enter Tryz.func14,Tryz.ntmps14
   go_wp2
   go_ret
   exact⟨rfl,(below_alloc (Nat.le_refl _) (Below.refl _ _))⟩
  ·obtain⟨⟨a,b⟩,c⟩:=h
   go_enter Tryz.func14,Tryz.ntmps14
   go_wp2
   go_ret
   exact⟨rfl,(below_alloc (Nat.le_refl _) (Below.refl _ _))⟩
  ·obtain⟨⟨a,b⟩,c,d⟩:=h
   go_enter Tryz.func14,Tryz.ntmps14
   go_wp2
   go_ret
   exact⟨rfl,(below_alloc (Nat.le_refl _) (Below.refl _ _))⟩
  ·obtain⟨⟨a,b,c,d⟩,e⟩:=h
   go_enter Tryz.func14,Tryz.ntmps14
   go_wp2
   go_ret
   exact⟨rfl,(below_alloc (Nat.le_refl _) (Below.refl _ _))⟩
  ·obtain⟨a,b,c,d⟩:=h
   obtain⟨e,f,g⟩:=g;have g':(K==10)=false:=beq_eq_false_iff_ne.2 g;obtain⟨z1,z2⟩:=full_of f;clear g f z2;go_enter Tryz.func14,Tryz.ntmps14
   go_wp2
   go_ret
   exact⟨rfl,(below_alloc (Nat.le_refl _) (Below.refl _ _))⟩
theorem refAsks_a(K T N M H:Int)(s:ByteArray)(w:World)(hs:s.size≤maxLen)(e4:(K==4)=true)(e5:(K==5)=false) :
  Calls Tryz.prog 19 #[.agg #[.int .i64 K,.int .i64 T,.int .i64 N,.int .i64 M,.int .u64 H,.string s]] w fun e w'=>e=.returned (.int .i64 (askT (rightO K T s) (N)))∧Below w.heap.size w w':=by
 have refR:=refRight_any K T N M H s (w.alloc (.cells #[.int .i64 K,.int .i64 T,.int .i64 N,.int .i64 M,.int .u64 H,.string s] 32)) hs;cases h:rightO K T s with
 |false =>
  rw [askT_no];rw [h] at refR;replace refR:=HD refR;clear h;go_enter Tryz.func19,Tryz.ntmps19
  go_wp2_with fail;refine refR.out.mono ?_;rintro e w1 ⟨rfl,hb⟩;go_wp2_with fail;go_ret
  exact⟨rfl,below_s (below_alloc (Nat.le_refl _) (Below.refl _ _)) hb⟩
 |true =>
  rw [h] at refR;replace refR:=HD refR;clear h;by_cases g:1≤N∧N≤8192
  ·skip
   have q0:=(unit_kind g.1 g.2).1;have q1:=(unit_kind g.1 g.2).2.1;rw [askT_in g.1 g.2];obtain⟨g0,g1⟩:=g;go_enter Tryz.func19,Tryz.ntmps19
   go_wp2_with fail;refine refR.out.mono ?_;rintro e w1 ⟨rfl,hb⟩;go_wp2_with fail;refine(refKind_any _ _).mono ?_;rintro e w2 ⟨rfl,hb2⟩;go_wp2_with fail;go_ret
   exact⟨rfl,below_s (below_s (below_alloc (Nat.le_refl _) (Below.refl _ _)) hb) hb2⟩
  ·rw [askT_out (by omega)]
   have q0:kindT (N)=-1:=kind_out (by omega);have q0':kindT (N)<0:=by omega
   replace q0:=HD q0;clear g;go_enter Tryz.func19,Tryz.ntmps19
   go_wp2_with fail;refine refR.out.mono ?_;rintro e w1 ⟨rfl,hb⟩;go_wp2_with fail;refine(refKind_any _ _).mono ?_;rintro e w2 ⟨rfl,hb2⟩;go_wp2_with fail;go_ret
   exact⟨rfl,below_s (below_s (below_alloc (Nat.le_refl _) (Below.refl _ _)) hb) hb2⟩
theorem refAsks_b(K T N M H:Int)(s:ByteArray)(w:World)(hs:s.size≤maxLen)(e4:(K==4)=false)(e7:(K==7)=true)(e5:(K==5)=false) :
  Calls Tryz.prog 19 #[.agg #[.int .i64 K,.int .i64 T,.int .i64 N,.int .i64 M,.int .u64 H,.string s]] w fun e w'=>e=.returned (.int .i64 (askT (rightO K T s) (N)))∧Below w.heap.size w w':=by
 have refR:=refRight_any K T N M H s (w.alloc (.cells #[.int .i64 K,.int .i64 T,.int .i64 N,.int .i64 M,.int .u64 H,.string s] 32)) hs;cases h:rightO K T s with
 |false =>
  rw [askT_no];rw [h] at refR;replace refR:=HD refR;clear h;go_enter Tryz.func19,Tryz.ntmps19
  go_wp2_with fail;refine refR.out.mono ?_;rintro e w1 ⟨rfl,hb⟩;go_wp2_with fail;go_ret
  exact⟨rfl,below_s (below_alloc (Nat.le_refl _) (Below.refl _ _)) hb⟩
 |true =>
  rw [h] at refR;replace refR:=HD refR;clear h;by_cases g:1≤N∧N≤8192
  ·skip
   have q0:=(unit_kind g.1 g.2).1;have q1:=(unit_kind g.1 g.2).2.1;rw [askT_in g.1 g.2];obtain⟨g0,g1⟩:=g;go_enter Tryz.func19,Tryz.ntmps19
   go_wp2_with fail;refine refR.out.mono ?_;rintro e w1 ⟨rfl,hb⟩;go_wp2_with fail;refine(refKind_any _ _).mono ?_;rintro e w2 ⟨rfl,hb2⟩;go_wp2_with fail;go_ret
   exact⟨rfl,below_s (below_s (below_alloc (Nat.le_refl _) (Below.refl _ _)) hb) hb2⟩
  ·rw [askT_out (by omega)]
   have q0:kindT (N)=-1:=kind_out (by omega);have q0':kindT (N)<0:=by omega
   replace q0:=HD q0;clear g;go_enter Tryz.func19,Tryz.ntmps19
   go_wp2_with fail;refine refR.out.mono ?_;rintro e w1 ⟨rfl,hb⟩;go_wp2_with fail;refine(refKind_any _ _).mono ?_;rintro e w2 ⟨rfl,hb2⟩;go_wp2_with fail;go_ret
   exact⟨rfl,below_s (below_s (below_alloc (Nat.le_refl _) (Below.refl _ _)) hb) hb2⟩
theorem refAsks_c(K T N M H:Int)(s:ByteArray)(w:World)(hs:s.size≤maxLen)(e4:(K==4)=false)(e7:(K==7)=false)(e5:(K==5)=false) :
  Calls Tryz.prog 19 #[.agg #[.int .i64 K,.int .i64 T,.int .i64 N,.int .i64 M,.int .u64 H,.string s]] w fun e w'=>e=.returned (.int .i64 (askT (rightO K T s) (0)))∧Below w.heap.size w w':=by
 have refR:=refRight_any K T N M H s (w.alloc (.cells #[.int .i64 K,.int .i64 T,.int .i64 N,.int .i64 M,.int .u64 H,.string s] 32)) hs;cases h:rightO K T s with
 |false =>
  rw [askT_no];rw [h] at refR;replace refR:=HD refR;clear h;go_enter Tryz.func19,Tryz.ntmps19
  go_wp2_with fail;refine refR.out.mono ?_;rintro e w1 ⟨rfl,hb⟩;go_wp2_with fail;go_ret
  exact⟨rfl,below_s (below_alloc (Nat.le_refl _) (Below.refl _ _)) hb⟩
 |true =>
  rw [h] at refR;replace refR:=HD refR;clear h;rw [askT_out (n:=0) (by omega)];have q0:kindT 0=-1:=kind_out (by omega);have q0':kindT 0<0:=by omega
  replace q0:=HD q0;go_enter Tryz.func19,Tryz.ntmps19
  go_wp2_with fail;refine refR.out.mono ?_;rintro e w1 ⟨rfl,hb⟩;go_wp2_with fail;refine(refKind_any _ _).mono ?_;rintro e w2 ⟨rfl,hb2⟩;go_wp2_with fail;go_ret
  exact⟨rfl,below_s (below_s (below_alloc (Nat.le_refl _) (Below.refl _ _)) hb) hb2⟩
theorem refAsks_d(K T N M H:Int)(s:ByteArray)(w:World)(hs:s.size≤maxLen)(e4:(K==4)=false)(e7:(K==7)=false)(e5:(K==5)=true)(n0:1≤N)(m0:1≤M)(n1:N≤8192)(m1:M≤8192)(p0:0≤N*M)(p1:N*M≤67108864) :
  Calls Tryz.prog 19 #[.agg #[.int .i64 K,.int .i64 T,.int .i64 N,.int .i64 M,.int .u64 H,.string s]] w fun e w'=>e=.returned (.int .i64 (askT (rightO K T s) (N*M)))∧Below w.heap.size w w':=by
 have refR:=refRight_any K T N M H s (w.alloc (.cells #[.int .i64 K,.int .i64 T,.int .i64 N,.int .i64 M,.int .u64 H,.string s] 32)) hs;cases h:rightO K T s with
 |false =>
  rw [askT_no];rw [h] at refR;replace refR:=HD refR;clear h;go_enter Tryz.func19,Tryz.ntmps19
  go_wp2_with fail;refine refR.out.mono ?_;rintro e w1 ⟨rfl,hb⟩;go_wp2_with fail;go_ret
  exact⟨rfl,below_s (below_alloc (Nat.le_refl _) (Below.refl _ _)) hb⟩
 |true =>
  rw [h] at refR;replace refR:=HD refR;clear h;by_cases g:1≤N*M∧N*M≤8192
  ·skip
   have q0:=(unit_kind g.1 g.2).1;have q1:=(unit_kind g.1 g.2).2.1;rw [askT_in g.1 g.2];obtain⟨g0,g1⟩:=g;go_enter Tryz.func19,Tryz.ntmps19
   go_wp2_with fail;refine refR.out.mono ?_;rintro e w1 ⟨rfl,hb⟩;go_wp2_with fail;refine(refKind_any _ _).mono ?_;rintro e w2 ⟨rfl,hb2⟩;go_wp2_with fail;go_ret
   exact⟨rfl,below_s (below_s (below_alloc (Nat.le_refl _) (Below.refl _ _)) hb) hb2⟩
  ·rw [askT_out (by omega)]
   have q0:kindT (N*M)=-1:=kind_out (by omega);have q0':kindT (N*M)<0:=by omega
   replace q0:=HD q0;clear g;go_enter Tryz.func19,Tryz.ntmps19
   go_wp2_with fail;refine refR.out.mono ?_;rintro e w1 ⟨rfl,hb⟩;go_wp2_with fail;refine(refKind_any _ _).mono ?_;rintro e w2 ⟨rfl,hb2⟩;go_wp2_with fail;go_ret
   exact⟨rfl,below_s (below_s (below_alloc (Nat.le_refl _) (Below.refl _ _)) hb) hb2⟩
theorem refAsks_e(K T N M H:Int)(s:ByteArray)(w:World)(hs:s.size≤maxLen)(e4:(K==4)=false)(e7:(K==7)=false)(e5:(K==5)=true)(n0:N<1) :
  Calls Tryz.prog 19 #[.agg #[.int .i64 K,.int .i64 T,.int .i64 N,.int .i64 M,.int .u64 H,.string s]] w fun e w'=>e=.returned (.int .i64 (askT (rightO K T s) (0)))∧Below w.heap.size w w':=by
 have refR:=refRight_any K T N M H s (w.alloc (.cells #[.int .i64 K,.int .i64 T,.int .i64 N,.int .i64 M,.int .u64 H,.string s] 32)) hs;cases h:rightO K T s with
 |false =>
  rw [askT_no];rw [h] at refR;replace refR:=HD refR;clear h;go_enter Tryz.func19,Tryz.ntmps19
  go_wp2_with fail;refine refR.out.mono ?_;rintro e w1 ⟨rfl,hb⟩;go_wp2_with fail;go_ret
  exact⟨rfl,below_s (below_alloc (Nat.le_refl _) (Below.refl _ _)) hb⟩
 |true =>
  rw [h] at refR;replace refR:=HD refR;clear h;rw [askT_out (n:=0) (by omega)];have q0:kindT 0=-1:=kind_out (by omega);have q0':kindT 0<0:=by omega
  replace q0:=HD q0;go_enter Tryz.func19,Tryz.ntmps19
  go_wp2_with fail;refine refR.out.mono ?_;rintro e w1 ⟨rfl,hb⟩;go_wp2_with fail;refine(refKind_any _ _).mono ?_;rintro e w2 ⟨rfl,hb2⟩;go_wp2_with fail;go_ret
  exact⟨rfl,below_s (below_s (below_alloc (Nat.le_refl _) (Below.refl _ _)) hb) hb2⟩
theorem refAsks_f(K T N M H:Int)(s:ByteArray)(w:World)(hs:s.size≤maxLen)(e4:(K==4)=false)(e7:(K==7)=false)(e5:(K==5)=true)(n0:1≤N)(m0:M<1) :
  Calls Tryz.prog 19 #[.agg #[.int .i64 K,.int .i64 T,.int .i64 N,.int .i64 M,.int .u64 H,.string s]] w fun e w'=>e=.returned (.int .i64 (askT (rightO K T s) (0)))∧Below w.heap.size w w':=by
 have refR:=refRight_any K T N M H s (w.alloc (.cells #[.int .i64 K,.int .i64 T,.int .i64 N,.int .i64 M,.int .u64 H,.string s] 32)) hs;cases h:rightO K T s with
 |false =>
  rw [askT_no];rw [h] at refR;replace refR:=HD refR;clear h;go_enter Tryz.func19,Tryz.ntmps19
  go_wp2_with fail;refine refR.out.mono ?_;rintro e w1 ⟨rfl,hb⟩;go_wp2_with fail;go_ret
  exact⟨rfl,below_s (below_alloc (Nat.le_refl _) (Below.refl _ _)) hb⟩
 |true =>
  rw [h] at refR;replace refR:=HD refR;clear h;rw [askT_out (n:=0) (by omega)];have q0:kindT 0=-1:=kind_out (by omega);have q0':kindT 0<0:=by omega
  replace q0:=HD q0;go_enter Tryz.func19,Tryz.ntmps19
  go_wp2_with fail;refine refR.out.mono ?_;rintro e w1 ⟨rfl,hb⟩;go_wp2_with fail;refine(refKind_any _ _).mono ?_;rintro e w2 ⟨rfl,hb2⟩;go_wp2_with fail;go_ret
  exact⟨rfl,below_s (below_s (below_alloc (Nat.le_refl _) (Below.refl _ _)) hb) hb2⟩
theorem refAsks_g(K T N M H:Int)(s:ByteArray)(w:World)(hs:s.size≤maxLen)(e4:(K==4)=false)(e7:(K==7)=false)(e5:(K==5)=true)(n0:1≤N)(m0:1≤M)(n1:8192<N) :
  Calls Tryz.prog 19 #[.agg #[.int .i64 K,.int .i64 T,.int .i64 N,.int .i64 M,.int .u64 H,.string s]] w fun e w'=>e=.returned (.int .i64 (askT (rightO K T s) (0)))∧Below w.heap.size w w':=by
 have refR:=refRight_any K T N M H s (w.alloc (.cells #[.int .i64 K,.int .i64 T,.int .i64 N,.int .i64 M,.int .u64 H,.string s] 32)) hs;cases h:rightO K T s with
 |false =>
  rw [askT_no];rw [h] at refR;replace refR:=HD refR;clear h;go_enter Tryz.func19,Tryz.ntmps19
  go_wp2_with fail;refine refR.out.mono ?_;rintro e w1 ⟨rfl,hb⟩;go_wp2_with fail;go_ret
  exact⟨rfl,below_s (below_alloc (Nat.le_refl _) (Below.refl _ _)) hb⟩
 |true =>
  rw [h] at refR;replace refR:=HD refR;clear h;rw [askT_out (n:=0) (by omega)];have q0:kindT 0=-1:=kind_out (by omega);have q0':kindT 0<0:=by omega
  replace q0:=HD q0;go_enter Tryz.func19,Tryz.ntmps19
  go_wp2_with fail;refine refR.out.mono ?_;rintro e w1 ⟨rfl,hb⟩;go_wp2_with fail;refine(refKind_any _ _).mono ?_;rintro e w2 ⟨rfl,hb2⟩;go_wp2_with fail;go_ret
  exact⟨rfl,below_s (below_s (below_alloc (Nat.le_refl _) (Below.refl _ _)) hb) hb2⟩
theorem refAsks_i(K T N M H:Int)(s:ByteArray)(w:World)(hs:s.size≤maxLen)(e4:(K==4)=false)(e7:(K==7)=false)(e5:(K==5)=true)(n0:1≤N)(m0:1≤M)(n1:N≤8192)(m1:8192<M) :
  Calls Tryz.prog 19 #[.agg #[.int .i64 K,.int .i64 T,.int .i64 N,.int .i64 M,.int .u64 H,.string s]] w fun e w'=>e=.returned (.int .i64 (askT (rightO K T s) (0)))∧Below w.heap.size w w':=by
 have refR:=refRight_any K T N M H s (w.alloc (.cells #[.int .i64 K,.int .i64 T,.int .i64 N,.int .i64 M,.int .u64 H,.string s] 32)) hs;cases h:rightO K T s with
 |false =>
  rw [askT_no];rw [h] at refR;replace refR:=HD refR;clear h;go_enter Tryz.func19,Tryz.ntmps19
  go_wp2_with fail;refine refR.out.mono ?_;rintro e w1 ⟨rfl,hb⟩;go_wp2_with fail;go_ret
  exact⟨rfl,below_s (below_alloc (Nat.le_refl _) (Below.refl _ _)) hb⟩
 |true =>
  rw [h] at refR;replace refR:=HD refR;clear h;rw [askT_out (n:=0) (by omega)];have q0:kindT 0=-1:=kind_out (by omega);have q0':kindT 0<0:=by omega
  replace q0:=HD q0;go_enter Tryz.func19,Tryz.ntmps19
  go_wp2_with fail;refine refR.out.mono ?_;rintro e w1 ⟨rfl,hb⟩;go_wp2_with fail;refine(refKind_any _ _).mono ?_;rintro e w2 ⟨rfl,hb2⟩;go_wp2_with fail;go_ret
  exact⟨rfl,below_s (below_s (below_alloc (Nat.le_refl _) (Below.refl _ _)) hb) hb2⟩
theorem askT_over{r:Bool}{n:Int}(h:8192<n):askT r n=askT r 0:=by
 cases r
 ·rw [askT_no,askT_no]
 ·rw [askT_out (.inr h),askT_out (.inl (by omega))]
theorem refAsks_any(K T N M H:Int)(s:ByteArray)(w:World)(hs:s.size≤maxLen) :
  Calls Tryz.prog 19 #[.agg #[.int .i64 K,.int .i64 T,.int .i64 N,.int .i64 M,.int .u64 H,.string s]] w fun e w'=>e=.returned (.int .i64 (askT (rightO K T s) (askN K N M)))∧Below w.heap.size w w':=by
 unfold askN;cases e4:K==4 with
 |true =>
  have k4:=eq_of_beq e4;rw [if_pos (.inl k4)];exact refAsks_a K T N M H s w hs e4 (beq_eq_false_iff_ne.2 (by omega))
 |false =>
  have k4:K≠4:=beq_eq_false_iff_ne.1 e4;cases e7:K==7 with
  |true =>
   have k7:=eq_of_beq e7;rw [if_pos (.inr k7)];exact refAsks_b K T N M H s w hs e4 e7 (beq_eq_false_iff_ne.2 (by omega))
  |false =>
   have k7:K≠7:=beq_eq_false_iff_ne.1 e7;rw [if_neg (by omega)];cases e5:K==5 with
   |false =>
    rw [if_neg (fun q=>by rw [q.1] at e5;cases e5)];exact refAsks_c K T N M H s w hs e4 e7 e5
   |true =>
    have k5:K=5:=eq_of_beq e5;by_cases n0:1≤N
    ·by_cases m0:1≤M
     ·have p0:=Int.mul_nonneg (show 0≤N by omega) (show 0≤M by omega)
      have hN:N*1≤N*M:=Int.mul_le_mul_of_nonneg_left m0 (by omega);have hM:1*M≤N*M:=Int.mul_le_mul_of_nonneg_right n0 (by omega);by_cases n1:N≤8192
      ·by_cases m1:M≤8192
       ·have p1:N*M≤8192*8192:=Int.mul_le_mul n1 m1 (by omega) (by omega)
        have hd:=refAsks_d K T N M H s w hs e4 e7 e5 n0 m0 n1 m1 p0 p1;by_cases p2:N*M≤8192
        ·rw [if_pos ⟨k5,n0,m0,p2⟩];exact hd
        ·rw [if_neg (fun q=>p2 q.2.2.2),←askT_over (by omega:8192<N*M)];exact hd
       ·rw [if_neg (by omega)]
        exact refAsks_i K T N M H s w hs e4 e7 e5 n0 m0 n1 (by omega)
      ·rw [if_neg (by omega)]
       exact refAsks_g K T N M H s w hs e4 e7 e5 n0 m0 (by omega)
     ·rw [if_neg (by omega)]
      exact refAsks_f K T N M H s w hs e4 e7 e5 n0 (by omega)
    ·rw [if_neg (by omega)]
     exact refAsks_e K T N M H s w hs e4 e7 e5 (by omega)
end
section
open Go.RowKit Flt
theorem aft_succC(l:List OpS)(s:AdS)(j:Nat)(h:j<l.length):s.aft (l.take (j+1))=((s.aft (l.take j)).do_ l[j]).2:=by
 rw [List.take_succ_eq_append_getElem h,aft_snoc]
structure CW(w1 W:World)(o:Nat→Tag)(b pb mb:Nat)(B:List UInt8)(K:Nat)(s:AdS)(M:List (Int×Int)):Prop where
 sy:SyT w1 W o [2] b B K s
 pb:Blk W o [7] pb #[eP b] 35
 mp:MpAt W o [13] mb .u64 (Value.int .i64) M
section
variable{w1 W W':World}{o o':Nat→Tag}{b pb mb K K':Nat}{B B':List UInt8}{s s':AdS}{M M':List (Int×Int)}
theorem u13:¬UndS [2] [13]:=fun q=>q.elim (fun q=>absurd (List.cons_prefix_cons.1 q).1 (by decide)) (fun q=>absurd (List.cons_prefix_cons.1 q).1 (by decide))
theorem CW.step(h:CW w1 W o b pb mb B K s M)(g:SyT w1 W' o' [2] b B' K' s')(f:Fr (UndS [2]) W o W' o'):CW w1 W' o' b pb mb B' K' s' M:=⟨g,h.pb.fr f (unds7 rt2),h.mp.fr f u13⟩
theorem CW.still(h:CW w1 W o b pb mb B K s M)(hb:Below W.heap.size W W'):CW w1 W' o b pb mb B K s M:=h.step (h.sy.still hb) (Fr.below hb)
theorem CW.alloc(h:CW w1 W o b pb mb B K s M)(x:Obj):CW w1 (W.alloc x) (setO o W.heap.size [7]) b pb mb B K s M:=h.step (h.sy.alloc x) (Fr.alloc x [7])
theorem off13{n:Nat}(h:n≠13):Off (fun v=>v=[13]) [n]:=⟨fun u hu e=>by subst e;exact h (List.cons_prefix_cons.1 hu).1,fun e=>by simp at e⟩
theorem off13s:Off (fun v=>v=[13]) (sg [2]):=⟨fun u hu e=>by subst e;exact absurd (List.cons_prefix_cons.1 hu).1 (by decide),fun e=>by simp at e⟩
theorem CW.map(h:CW w1 W o b pb mb B K s M)(p:MpPost W W' o [13] mb .u64 (Value.int .i64) M'):CW w1 W' o b pb mb B K s M' :=
 ⟨⟨h.sy.fr.trans (p.2.1.mono fun v e=>by subst e;exact fun q=>by simp at q),h.sy.sv.fr p.2.1 (off13 (by decide)) off13s⟩,h.pb.fr p.2.1 (fun e=>by simp at e),p.1⟩
theorem zeroInt(w:World):(zeroValue 3).run Tryz.prog w=.ok (.int .i64 0) w:=by kernel_rfl
theorem CW.get0(h:CW w1 W o b pb mb B K s M)(k:Nat):(Instr.lookup 55 (.map (some mb)) (.int .u64 k) false).run Tryz.prog W=.ok (.int .i64 ((mGet M k).getD 0)) W:=by
 rw [mp_lookup h.mp Tryz.underlying55 Tryz.underlying30 zeroInt (k:Int) false];cases mGet M (k:Int)<;>rfl
theorem CW.get1(h:CW w1 W o b pb mb B K s M)(k:Nat):(Instr.lookup 55 (.map (some mb)) (.int .u64 k) true).run Tryz.prog W=.ok (.tuple #[.int .i64 ((mGet M k).getD 0),.bool (mGet M k).isSome]) W:=by
 rw [mp_lookup h.mp Tryz.underlying55 Tryz.underlying30 zeroInt (k:Int) true];cases mGet M (k:Int)<;>rfl
theorem CW.put(h:CW w1 W o b pb mb B K s M)(k:Nat)(v:Int)(hl:M.length≤1000):∃W',(Instr.mapUpdate 55 (.map (some mb)) (.int .u64 k) (.int .i64 v)).run Tryz.prog W=.ok () W'∧CW w1 W' o b pb mb B K s (mIns k v M)∧Fr (fun v=>v=[13]) W o W' o:=by
 obtain⟨W',h1,h2⟩:=mp_store h.mp (P:=Tryz.prog) Tryz.underlying55 Tryz.underlying30 (k:Int) v (by omega);exact⟨W',h1,h.map h2,h2.2.1⟩
theorem CW.del(h:CW w1 W o b pb mb B K s M)(k:Nat)(ty:TypeId):∃W',(Builtin.delete_ #[55,30] ty #[.map (some mb),.int .u64 k]).run Tryz.prog W=.ok (.tuple #[]) W'∧CW w1 W' o b pb mb B K s (mDel k M)∧Fr (fun v=>v=[13]) W o W' o:=by
 obtain⟨W',h1,h2⟩:=mp_delete h.mp (P:=Tryz.prog) (ty:=ty) Tryz.underlying55 Tryz.underlying30 (k:Int);exact⟨W',h1,h.map h2,h2.2.1⟩
theorem del_len(k:Int):∀M:List (Int×Int),(mDel k M).length≤M.length
 |[]=>Nat.le_refl _
 |(a,u) :: M=>by
  unfold mDel
  split
  ·simp
  ·have:=del_len k M;simp;omega
theorem CW.read(h:CW w1 W o b pb mb B K s M)(x:OpS)(hd:Nat)(fr n:Int)(hR:Reads s x.T hd fr n)(hK:K≤900000)(hH:hd<18446744073709551616)(hn:0≤n∧n≤100000) :
  Calls Tryz.prog 17 #[x.v,.int .u64 hd,.int .i64 fr,.int .i64 n,.pointer (some ⟨pb,0,none⟩)] W fun e W'=>e=.returned (.bool true)∧∃o' B',CW w1 W' o' b pb mb B' (K+1) s M∧Fr (UndS [2]) W o W' o':=by
 refine(cleanRead x hd fr n pb h.sy h.pb hR hK hH hn).mono ?_;rintro e W' ⟨rfl,o',B',g,f⟩;exact⟨rfl,o',B',h.step g f,f⟩
end
def ClnI(w1:World)(P C b pb mb:Nat)(ops:List OpS)(j:Nat)(W:World):Prop:=∃o B K M,CW w1 W o b pb mb B K ((AdS.new P C).aft (ops.take j)) M∧K≤10*j∧M.length≤j∧CleanI ((AdS.new P C).aft (ops.take j)) M
set_option maxHeartbeats 4000000 in
theorem topClean_walk(P C:Int)(s:ByteArray)(w:World)(hs:s.size≤maxLen)(hT:TabW w) :
  Calls Tryz.prog 4 #[.agg #[.int .i64 P,.int .i64 C],.string s] w fun e w'=>e=.returned (.bool true)∧Below w.heap.size w w':=by
 have hB0:Hid (Below w.heap.size w (w.alloc (.cells #[.int .i64 P,.int .i64 C] 23))):=HD (below_alloc (Nat.le_refl _) (Below.refl _ _));have hpl:=HD (toPlayed P C s 150 (w.alloc (.cells #[.int .i64 P,.int .i64 C] 23)) hs (hT.alloc _));have hT0:=HD (hT.alloc (.cells #[.int .i64 P,.int .i64 C] 23));clear hs hT;have z0:(w.alloc (.cells #[.int .i64 P,.int .i64 C] 23)).cell? ⟨w.heap.size,0,none⟩=some (.int .i64 P):=new_cell rfl;have z1:(w.alloc (.cells #[.int .i64 P,.int .i64 C] 23)).cell? ⟨w.heap.size,1,none⟩=some (.int .i64 C):=new_cell rfl;go_enter Tryz.func4,Tryz.ntmps4
 go_wp2_with fail;refine hpl.out.mono ?_;rintro e w1 ⟨xv,AO,cO,AA,cA,ops,said,rfl,hR,hq⟩;have c0:=below_cell hR.below z0;have c1:=below_cell hR.below z1;have hT1:=HD (hT0.out.below hR.below);have hB1:=HD (hB0.out.trans (hR.below.mono hB0.out.size));obtain⟨_,hro,_,_,hle,hok⟩:=hR;have hro:=HD hro;clear z0 z1 hT0 hB0 hpl hq;have aw:=HD (fun w hT=>toAwake w hT);cases hc:cfgB P C with
 |false =>
  have hno:=HD (svNew_no P C w1 hc);clear hro hle hok hc;go_wp2_with fail;refine hno.out.mono ?_;rintro e w3 ⟨rfl,hb3⟩;have hb4:Below w1.heap.size w1 (w3.alloc (.cells #[.pointer none] 35)):=hb3.alloc hb3.size _;have hB3:=HD (hB1.out.trans (hb4.mono hB1.out.size));have hT3:=HD (hT1.out.below hb4);clear hno hb3 hb4;go_wp2_with fail;refine(aw.out _ hT3.out).mono ?_;rintro e w4 ⟨rfl,hb4⟩;have hB4:=HD (hB3.out.trans (hb4.mono hB3.out.size));go_wp2_with fail;go_ret
  exact⟨rfl,hB4.out⟩
 |true =>
 have hcc:=cfg_iff.1 hc;obtain⟨P',rfl⟩:∃P':Nat,P=P':=⟨P.toNat,by omega⟩
 obtain⟨C',rfl⟩:∃C':Nat,C=C':=⟨C.toNat,by omega⟩
 have hnw:=HD (SyT.new P' C' w1 hT1.out rt2 hc);have hmk:∀w,(Instr.makeMap 55 none).run Tryz.prog w=.ok (.map (some w.heap.size)) (w.alloc (.map #[] 0)):=fun w=>run_makeMap _ w
 clear hc hcc hT1;go_wp2_with fail;refine hnw.out.mono ?_;rintro e w3 ⟨b,rfl,o3,g3⟩;have hI:Hid (ClnI w1 P' C' b w3.heap.size (w3.heap.size+1) ops 0 ((w3.alloc (.cells #[eP b] 35)).alloc (.map #[] 0))):=by
  have g4:=g3.alloc (.cells #[eP b] 35);have p4:=Blk.made w3 o3 [7] #[eP b] 35;have hsz:(w3.alloc (.cells #[eP b] 35)).heap.size=w3.heap.size+1:=World.size_alloc ..;have f5:Fr (fun _=>False) (w3.alloc (.cells #[eP b] 35)) (setO o3 w3.heap.size [7]) ((w3.alloc (.cells #[eP b] 35)).alloc (.map #[] 0)) (setO (setO o3 w3.heap.size [7]) (w3.heap.size+1) [13]):=by
   have:=Fr.alloc (S:=fun _=>False) (w:=w3.alloc (.cells #[eP b] 35)) (o:=setO o3 w3.heap.size [7]) (.map #[] 0) [13]
   rwa [hsz] at this
  have mp:=MpAt.made (w3.alloc (.cells #[eP b] 35)) (setO o3 w3.heap.size [7]) [13] .u64 (Value.int .i64);rw [hsz] at mp;refine HD ⟨_,_,0,[],⟨⟨g4.fr.trans (f5.mono fun v q=>q.elim),g4.sv.fr f5 off_no off_no⟩,p4.fr f5 (fun q=>q),mp⟩,by omega,Nat.le_refl _,CleanI.new P' C'⟩
 clear hnw g3;go_wp2_with fail;generalize (w3.alloc (.cells #[eP b] 35)).alloc (.map #[] 0)=W0 at *;generalize w3.heap.size=pb at *;go_loopg [37] ops.length (fun gh i wx=>∃j:Nat,j≤ops.length∧gh=ops.length-j∧i=.int .i64 j∧Hid (ClnI w1 P' C' b pb (pb+1) ops j wx))
 case atStart=>exact⟨0,Nat.zero_le _,rfl,rfl,hI⟩
 case round =>
  clear hI hmk;obtain⟨j,hj,rfl,rfl,hR⟩:=hrel;by_cases hlt:j<ops.length
  ·have d0:decide ((j:Int)<(ops.length:Int))=true:=decide_eq_true (by omega)
   obtain⟨o4,B4,K4,M,g4,hK4,hM4,hC4⟩:=hR.out;obtain⟨go,offo,rfl,ho1⟩:=hro.out (by omega);have hx3:=(ho1 j hlt).fr (fun i v hc=>below_cell g4.sy.below hc);have hnx:∀W o B K M,CW w1 W o b pb (pb+1) B K (((AdS.new P' C').aft (ops.take j)).do_ ops[j]).2 M→K≤10*(j+1)→M.length≤j+1→CleanI (((AdS.new P' C').aft (ops.take j)).do_ ops[j]).2 M→ClnI w1 P' C' b pb (pb+1) ops (j+1) W:=fun W o B K M g hk hm hcl=>⟨o,B,K,M,by rw [aft_succC _ _ _ hlt];exact g,hk,hm,by rw [aft_succC _ _ _ hlt];exact hcl⟩
   have hox:=hok _ (List.getElem_mem hlt);replace hnx:=HD hnx;generalize (AdS.new P' C').aft (ops.take j)=sj at *;generalize ops[j]=x at *;have hox:=HD hox;clear ho1 hR;obtain⟨xK,xT,xN,xM,xH,xs_⟩:=x;obtain⟨x0,x1,x2,x3,x4,x5⟩:=hx3;simp only at x0 x1 x2 x3 x4 x5;have g5:=g4.alloc (.cells #[.int .i64 xK,.int .i64 xT,.int .i64 xN,.int .i64 xM,.int .u64 xH,.string xs_] 32);have b5:=Blk.made wr o4 [7] #[.int .i64 xK,.int .i64 xT,.int .i64 xN,.int .i64 xM,.int .u64 xH,.string xs_] 32;generalize setO o4 wr.heap.size [7]=o5 at *;have hxs:xs_.size≤maxLen:=Nat.le_trans hox.out.2 (by decide);have pp:=g5.pb.cell' (i:=0) (v:=eP b) rfl;have hdo:=HD (g5.sy.doF ⟨xK,xT,xN,xM,xH,xs_⟩ rt2 (by omega) hox.out.1 hxs);have hhb:=do_h ⟨xK,xT,xN,xM,xH,xs_⟩ g5.sy.sv (by omega) hox.out.1;have hnx0:=g5.sy.nx;obtain⟨cm0,p0,tb0,had0⟩:=g5.sy.adok;clear g4;replace g5:=HD g5;replace b5:=HD b5;replace hnx0:=HD hnx0;replace had0:=HD had0;replace hC4:=HD hC4;go_wp2_with fail;refine hdo.out.mono ?_;rintro e w6 ⟨rfl,o6,B6,g6,f6⟩;obtain⟨cm1,p1,tb1,had1⟩:=g6.adok;have g7:=(g5.out.step g6 f6)
   have b7:=b5.out.fr f6 (unds7 rt2);have hres:=fun he=>clean_do hC4.out had0.out hnx0.out (by omega) (x:=⟨xK,xT,xN,xM,xH,xs_⟩) he had1
   have href:=fun he=>do_refused (s:=sj) (x:=⟨xK,xT,xN,xM,xH,xs_⟩) he
   clear g5 b5 hdo g6 f6 had0 had1 hnx0 x0 x1 x2 x3 x4 x5 pp;have hrr:(sj.do_ ⟨xK,xT,xN,xM,xH,xs_⟩).1.err=0→rightO xK xT xs_=true:=fun he=>by
    cases h:rightO xK xT xs_ with
    |true=>rfl
    |false=>rw [do_bad (x:=⟨xK,xT,xN,xM,xH,xs_⟩) h] at he;simp at he
   generalize hsn:(sj.do_ ⟨xK,xT,xN,xM,xH,xs_⟩).2=sn at *;generalize (sj.do_ ⟨xK,xT,xN,xM,xH,xs_⟩).1=y at *;obtain⟨ye,yh,ya,yn,yd,yc⟩:=y;simp only at hres href hhb hrr;have g8:=g7.alloc (.cells #[.int .i64 ye,.int .u64 yh,.int .i64 ya,.int .i64 yn,.string yd,.int .i64 yc] 47);have b8:=own7_alloc (W:=w6) (o:=o6) (.cells #[.int .i64 ye,.int .u64 yh,.int .i64 ya,.int .i64 yn,.string yd,.int .i64 yc] 47) _ _ _ b7;have q8:=Blk.made w6 o6 [7] #[.int .i64 ye,.int .u64 yh,.int .i64 ya,.int .i64 yn,.string yd,.int .i64 yc] 47;generalize setO o6 w6.heap.size [7]=o8 at *;clear g7 b7;simp only [ansV];have kk:=b8.cell' (i:=0) (v:=.int .i64 xK) rfl;have kh:=b8.cell' (i:=4) (v:=.int .u64 xH) rfl;replace g8:=HD g8;replace b8:=HD b8;replace q8:=HD q8;by_cases he:ye=0
   ·subst he
    replace hres:=hres rfl;clear href;replace hrr:=hrr rfl;have ne0:((0:Int) != 0)=false:=rfl;have py1:=q8.out.cell' (i:=1) (v:=.int .u64 yh) rfl;have kN:=b8.out.cell' (i:=2) (v:=.int .i64 xN) rfl;by_cases h45:xK=4∨xK=5
    ·obtain⟨hm1,hm2,hm3⟩:=hres.mal h45
     have hak:∀w,Calls Tryz.prog 19 #[.agg #[.int .i64 xK,.int .i64 xT,.int .i64 xN,.int .i64 xM,.int .u64 xH,.string xs_]] w (fun e w'=>e=.returned (.int .i64 (askT true (askN xK xN xM)))∧Below w.heap.size w w'):=fun w=>by
      have:=refAsks_any xK xT xN xM xH xs_ w hxs
      rwa [hrr] at this
     replace hak:=HD hak;have hnb:=askT_bound true (askN xK xN xM);generalize askT true (askN xK xN xM)=nn at *;have k1:=b8.out.cell' (i:=1) (v:=.int .i64 xT) rfl;have k3:=b8.out.cell' (i:=3) (v:=.int .i64 xM) rfl;have k5:=b8.out.cell' (i:=5) (v:=.string xs_) rfl;clear hres;rcases h45 with h|h
     case' inl =>
      have e4:(xK==4)=true:=beq_iff_eq.2 h;clear h
     case' inr =>
      have e4:(xK==4)=false:=by rw [h];rfl
      have e5:(xK==5)=true:=beq_iff_eq.2 h;clear h
     all_goals
      go_wp2_with fail;refine(hak.out _).mono ?_;rintro e w9 ⟨rfl,hb9⟩;have g9:=g8.out.still hb9;have b9:=own7_below hb9 _ _ _ b8.out;have q9:=own7_below hb9 _ _ _ q8.out;clear hb9 hak py1 kN k1 k3 k5 kk kh g8 b8 q8;have py1:=q9.cell' (i:=1) (v:=.int .u64 yh) rfl;have k0:=b9.cell' (i:=0) (v:=.int .i64 xK) rfl;have k1:=b9.cell' (i:=1) (v:=.int .i64 xT) rfl;have k2:=b9.cell' (i:=2) (v:=.int .i64 xN) rfl;have k3:=b9.cell' (i:=3) (v:=.int .i64 xM) rfl;have k4:=b9.cell' (i:=4) (v:=.int .u64 xH) rfl;have k5:=b9.cell' (i:=5) (v:=.string xs_) rfl;have hlk:=g9.get0 yh;rw [hm1] at hlk;simp only [Option.getD_none] at hlk;have hcr:=HD (g9.read ⟨xK,xT,xN,xM,xH,xs_⟩ yh 0 nn hm2 (by omega) hhb (by omega));replace q9:=HD q9;clear g9 b9 hm1 hm2;go_wp2_with fail;refine hcr.out.mono ?_;rintro e w10 ⟨rfl,o10,B10,g10,f10⟩;have q10:=q9.out.fr f10 (unds7 rt2);obtain⟨w11,hup,g11,_⟩:=g10.put yh nn (by omega);have py2:=q10.cell' (i:=1) (v:=.int .u64 yh) rfl;have hz:=HD (hnx.out _ _ _ _ _ g11 (by omega) (by have:=mIns_len hC4.out.rise (yh:Int) nn;omega) hm3);clear hcr f10 q10 q9 g10 g11 hnx hC4 hm3 hlk k0 k1 k2 k3 k4 k5 py1;go_wp2_with fail;go_roundg (ops.length-(j+1))
      case measure=>omega
      case rel=>exact⟨j+1,by omega,rfl,by go_num,hz⟩
    have e4:(xK==4)=false:=beq_eq_false_iff_ne.2 (fun h=>h45 (.inl h));have e5:(xK==5)=false:=beq_eq_false_iff_ne.2 (fun h=>h45 (.inr h));by_cases h7:xK=7
    ·obtain⟨r1,r2⟩:=hres.rea h7
     have e7:(xK==7)=true:=beq_iff_eq.2 h7;have hlk:=g8.out.get1 xH;clear hres h45 h7;cases hm:mGet M (xH:Int) with
     |none =>
      rw [hm] at hlk;simp only [Option.getD_none,Option.isSome_none] at hlk;obtain⟨w11,hup,g11,_⟩:=g8.out.del xH 0;have hz:=HD (hnx.out _ _ _ _ _ g11 (by omega) (by have:=del_len (xH:Int) M;omega) (r2 hm));clear g8 b8 q8 g11 hnx hC4 r1 r2 hm;go_wp2_with fail;go_roundg (ops.length-(j+1))
      case measure=>omega
      case rel=>exact⟨j+1,by omega,rfl,by go_num,hz⟩
     |some was =>
      obtain⟨rw0,rw1,r3,r4⟩:=r1 was hm;replace rw1:xN≤8192:=rw1;replace r3:was<xN→_:=r3;rw [hm] at hlk;simp only [Option.getD_some,Option.isSome_some] at hlk;clear r1 r2;have k1:=b8.out.cell' (i:=1) (v:=.int .i64 xT) rfl;have k3:=b8.out.cell' (i:=3) (v:=.int .i64 xM) rfl;have k5:=b8.out.cell' (i:=5) (v:=.string xs_) rfl;by_cases hgt:was<xN
      ·have dg:decide (was<xN)=true:=decide_eq_true hgt
       have hws:IntKind.i64.wrap (xN-was)=xN-was:=IntWalk.i64_in _ (by omega);have hcr:=HD (g8.out.read ⟨xK,xT,xN,xM,xH,xs_⟩ yh was (xN-was) (r3 hgt) (by omega) hhb (by omega));clear r3 hm g8;go_wp2_with fail;refine hcr.out.mono ?_;rintro e w10 ⟨rfl,o10,B10,g10,f10⟩;have q10:=q8.out.fr f10 (unds7 rt2);have b10:=b8.out.fr f10 (unds7 rt2);clear hcr f10 q8 b8 py1 kN k1 k3 k5 kk kh hlk;obtain⟨w11,hup1,g11,fm⟩:=g10.del xH 0;obtain⟨w12,hup2,g12,_⟩:=g11.put yh xN (by have:=del_len (xH:Int) M;omega);have k4:=b10.cell' (i:=4) (v:=.int .u64 xH) rfl;have b11:=b10.fr fm (fun e=>by simp at e);have q11:=q10.fr fm (fun e=>by simp at e);have j1:=q11.cell' (i:=1) (v:=.int .u64 yh) rfl;have j2:=b11.cell' (i:=2) (v:=.int .i64 xN) rfl;have hz:=HD (hnx.out _ _ _ _ _ g12 (by omega) (by have:=del_len (xH:Int) M;have:=mIns_len (mDel_rise hC4.out.rise (xH:Int)) (yh:Int) xN;omega) r4);clear g10 g11 g12 fm b10 q10 b11 q11 hnx hC4 r4;go_wp2_with fail;go_roundg (ops.length-(j+1))
       case measure=>omega
       case rel=>exact⟨j+1,by omega,rfl,by go_num,hz⟩
      ·have dg:decide (was<xN)=false:=decide_eq_false hgt
       have g10:=g8.out;have b10:=b8.out;have q10:=q8.out;clear g8 b8 q8 r3 hm;obtain⟨w11,hup1,g11,fm⟩:=g10.del xH 0;obtain⟨w12,hup2,g12,_⟩:=g11.put yh xN (by have:=del_len (xH:Int) M;omega);have k4:=b10.cell' (i:=4) (v:=.int .u64 xH) rfl;have b11:=b10.fr fm (fun e=>by simp at e);have q11:=q10.fr fm (fun e=>by simp at e);have j1:=q11.cell' (i:=1) (v:=.int .u64 yh) rfl;have j2:=b11.cell' (i:=2) (v:=.int .i64 xN) rfl;have hz:=HD (hnx.out _ _ _ _ _ g12 (by omega) (by have:=del_len (xH:Int) M;have:=mIns_len (mDel_rise hC4.out.rise (xH:Int)) (yh:Int) xN;omega) r4);clear g10 g11 g12 fm b10 q10 b11 q11 hnx hC4 r4;go_wp2_with fail;go_roundg (ops.length-(j+1))
       case measure=>omega
       case rel=>exact⟨j+1,by omega,rfl,by go_num,hz⟩
    have e7:(xK==7)=false:=beq_eq_false_iff_ne.2 h7;by_cases h6:xK=6
    ·have e6:(xK==6)=true:=beq_iff_eq.2 h6
     obtain⟨w11,hup,g11,fm⟩:=g8.out.del xH 0;have hz:=HD (hnx.out _ _ _ _ _ g11 (by omega) (by have:=del_len (xH:Int) M;omega) (hres.fre h6));have e11:(xK==11)=false:=by rw [h6];rfl
     have kk2:=(b8.out.fr fm (fun e=>by simp at e)).cell' (i:=0) (v:=.int .i64 xK) rfl;clear g8 b8 q8 g11 fm hnx hC4 hres h6 h7 h45;go_wp2_with fail;go_roundg (ops.length-(j+1))
     case measure=>omega
     case rel=>exact⟨j+1,by omega,rfl,by go_num,hz⟩
    have e6:(xK==6)=false:=beq_eq_false_iff_ne.2 h6;by_cases h11:xK=11
    ·have e11:(xK==11)=true:=beq_iff_eq.2 h11
     have e3:(xK==3)=false:=by rw [h11];rfl
     have hT9:=HD g8.out.sy.tabw;have hB9:=HD (hB1.out.trans (g8.out.sy.below.mono hB1.out.size));clear g8 b8 q8 hnx hC4 hres h6 h7 h45 h11;go_wp2_with fail;refine(aw.out _ hT9.out).mono ?_;rintro e w12 ⟨rfl,hb12⟩;have hB12:=HD (hB9.out.trans (hb12.mono hB9.out.size));go_wp2_with fail;go_ret
     exact⟨rfl,hB12.out⟩
    have e11:(xK==11)=false:=beq_eq_false_iff_ne.2 h11;have hz:=HD (hnx.out _ _ _ _ _ g8.out (by omega) (by omega) (hres.oth (fun h=>h45 (.inl h)) (fun h=>h45 (.inr h)) h6 h7 h11));by_cases h3:xK=3
    case' pos=>have e3:(xK==3)=true:=beq_iff_eq.2 h3
    case' neg=>have e3:(xK==3)=false:=beq_eq_false_iff_ne.2 h3
    all_goals
     clear g8 b8 q8 hnx hC4 hres h6 h7 h45 h11 h3;go_wp2_with fail;go_roundg (ops.length-(j+1))
     case measure=>omega
     case rel=>exact⟨j+1,by omega,rfl,by go_num,hz⟩
   ·have ne0:(ye != 0)=true:=bne_iff_ne.2 he
    have hz:=HD (hnx.out _ _ _ _ _ g8.out (by omega) (by omega) (by rw [href he];exact hC4.out));clear hres href hnx hC4 g8 b8 q8;go_wp2_with fail;go_roundg (ops.length-(j+1))
    case measure=>omega
    case rel=>exact⟨j+1,by omega,rfl,by go_num,hz⟩
  ·have d0:decide ((j:Int)<(ops.length:Int))=false:=decide_eq_false (by omega)
   obtain⟨o4,B4,K4,M4,g4,_⟩:=hR.out;have hT4:=HD g4.sy.tabw;have hB4:=HD (hB1.out.trans (g4.sy.below.mono hB1.out.size));clear g4 hR hro hle hok hB1;go_wp2_with fail;refine(aw.out _ hT4.out).mono ?_;rintro e w5 ⟨rfl,hb5⟩;have hB5:=HD (hB4.out.trans (hb5.mono hB4.out.size));go_wp2_with fail;go_ret
   exact⟨rfl,hB5.out⟩
end
end Go.Proofs.YtfliaggjkianpaaGreatDoor
