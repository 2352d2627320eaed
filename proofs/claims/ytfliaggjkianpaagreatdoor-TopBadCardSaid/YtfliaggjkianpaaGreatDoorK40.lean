import Derived.Test.YtfliaggjkianpaaGreatDoorK00
import Derived.Test.YtfliaggjkianpaaGreatDoorK05
import Derived.Test.YtfliaggjkianpaaGreatDoorK01
import Derived.Test.YtfliaggjkianpaaGreatDoorProg
import Derived.WalkKit
import Derived.WalkSpells
import Derived.WalkLawsBesides
import Derived.Lib.Hide
import Derived.KernelRfl
import Derived.LoopTactic
set_option linter.unusedVariables false
set_option linter.unusedSimpArgs false
set_option maxRecDepth 100000
namespace Go.Proofs.YtfliaggjkianpaaGreatDoor
section
open Go.RowKit
theorem below_seq{B:Nat}{a w w1:World}(h:Below B a w)(hB:B≤w.heap.size)(k:Below w.heap.size w w1):Below B a w1:=h.trans (k.mono hB)
theorem refUnit_lit(c:Int)(w:World)(h:c=0∨c=1∨c=2∨c=3∨c=4∨c=5∨c=6∨c=7) :
  Calls Tryz.prog 42 #[.int .i64 c] w fun e w'=>e=.returned (.int .i64 (unitT c))∧Below w.heap.size w w':=by
 rcases h with rfl|rfl|rfl|rfl|rfl|rfl|rfl|rfl
 all_goals
  go_enter Tryz.func42,Tryz.ntmps42
  go_wp2
  go_ret
  exact⟨rfl,(Below.refl _ _).alloc (Nat.le_refl _) _⟩
attribute [local irreducible] smallT unitT kindT perT pagesT alignT chargeT
theorem refUnit_any(c:Int)(w:World) :
  Calls Tryz.prog 42 #[.int .i64 c] w fun e w'=>e=.returned (.int .i64 (unitT c))∧Below w.heap.size w w':=by
 by_cases hc:c<0∨23<c
 ·rw [unit_out hc]
  rcases hc with hc|hc
  ·go_enter Tryz.func42,Tryz.ntmps42
   go_wp2
   go_ret
   exact⟨rfl,(Below.refl _ _).alloc (Nat.le_refl _) _⟩
  ·have h0:0≤c:=by omega
   go_enter Tryz.func42,Tryz.ntmps42
   go_wp2
   go_ret
   exact⟨rfl,(Below.refl _ _).alloc (Nat.le_refl _) _⟩
 ·by_cases h7:c≤7
  ·exact refUnit_lit c w (by omega)
  ·rw [unit_run (by omega) (by omega)]
   have h0:0≤c:=by omega
   have h1:c≤23:=by omega
   have h2:¬c<8:=by omega
   clear hc;go_enter Tryz.func42,Tryz.ntmps42
   go_wp2
   go_ret
   exact⟨rfl,(Below.refl _ _).alloc (Nat.le_refl _) _⟩
end
section
open Go.RowKit
attribute [local irreducible] smallT unitT kindT perT pagesT alignT chargeT
theorem refKind_neg(n:Int)(w:World)(h:n<1) :
  Calls Tryz.prog 37 #[.int .i64 n] w fun e w'=>e=.returned (.int .i64 (-1))∧Below w.heap.size w w':=by
 go_enter Tryz.func37,Tryz.ntmps37
 go_wp2
 go_ret
 exact⟨rfl,Below.refl _ _⟩
set_option maxHeartbeats 400000 in
theorem refKind_loop(n k:Int)(w:World)(h:1≤n)(hk:(8192<n∧k=24)∨(0≤k∧k≤23∧n≤unitT k))(hl:∀c,0≤c→c<k→unitT c<n) :
  Calls Tryz.prog 37 #[.int .i64 n] w fun e w'=>e=.returned (.int .i64 (if k=24 then -1 else k))∧Below w.heap.size w w':=by
 have k0:0≤k:=by omega
 have k1:k≤24:=by omega
 have hk:=HD hk;replace hl:=HD hl;go_enter Tryz.func37,Tryz.ntmps37
 go_wp2
 go_loopw [3] (fun c wr=>∃j:Int,0≤j∧j≤k∧c=.int .i64 j∧Below w.heap.size w wr) (fun c _=>(24-intOf c).toNat)
 case atStart=>exact⟨0,by omega,by omega,rfl,Below.refl _ _⟩
 case round =>
  obtain⟨j,j0,jk,rfl,hb⟩:=hrel;by_cases hj:j<k
  ·have h24:j<24:=by omega
   have hu:=hl.out j j0 hj;go_wp2_with fail;refine(refUnit_any _ _).mono ?_;rintro e w1 ⟨rfl,hb1⟩;go_wp2_with fail;go_roundw
   case rel=>exact⟨j+1,by omega,by omega,rfl,below_seq hb hb.size hb1⟩
   case measure=>simp [intOf];omega
  ·obtain rfl:j=k:=by omega
   by_cases he:j=24
   ·subst he
    go_wp2
    go_ret
    exact⟨rfl,hb⟩
   ·have hu:n≤unitT j:=by have:=hk.out;omega
    have h24:j<24:=by omega
    replace he:=HD he;go_wp2_with fail;refine(refUnit_any _ _).mono ?_;rintro e w1 ⟨rfl,hb1⟩;go_wp2_with fail;go_ret
    exact⟨rfl,below_seq hb hb.size hb1⟩
theorem refKind_any(n:Int)(w:World) :
  Calls Tryz.prog 37 #[.int .i64 n] w fun e w'=>e=.returned (.int .i64 (kindT n))∧Below w.heap.size w w':=by
 by_cases h:n<1
 ·rw [kind_out (Or.inl h)];exact refKind_neg n w h
 ·by_cases h':8192<n
  ·rw [kind_out (Or.inr h')]
   have:=refKind_loop n 24 w (by omega) (Or.inl ⟨h',rfl⟩) (fun c _ _=>by have:=unit_bound c;omega)
   rwa [if_pos rfl] at this
  ·obtain⟨a,b,c,d⟩:=unit_kind (n:=n) (by omega) (by omega)
   have:=refKind_loop n (kindT n) w (by omega) (Or.inr ⟨a,b,c⟩) d
   rwa [if_neg (by omega)] at this
end
section
open Go.RowKit
attribute [local irreducible] smallT unitT kindT perT pagesT alignT chargeT
theorem refRight_any(K T N M H:Int)(s:ByteArray)(w:World)(hs:s.size≤maxLen) :
  Calls Tryz.prog 14 #[.agg #[.int .i64 K,.int .i64 T,.int .i64 N,.int .i64 M,.int .u64 H,.string s]] w fun e w'=>e=.returned (.bool (rightO K T s))∧Below w.heap.size w w':=by
 unfold maxLen at hs;cases h:rightO K T s with
 |true =>
  obtain⟨k0,k1,t0,t1,s1,g⟩:=right_iff.1 h;clear h;by_cases hk:K=10
  ·have e:(K==10)=true:=beq_iff_eq.2 hk
   clear hk g;go_enter Tryz.func14,Tryz.ntmps14
   go_wp2
   go_ret
   exact⟨rfl,(below_alloc (Nat.le_refl _) (Below.refl _ _))⟩
  ·have e:(K==10)=false:=beq_eq_false_iff_ne.2 hk
   obtain⟨z1,z2⟩:=empty_of (s:=s) (by omega);clear hk g;go_enter Tryz.func14,Tryz.ntmps14
   go_wp2
   go_ret
   exact⟨rfl,(below_alloc (Nat.le_refl _) (Below.refl _ _))⟩
 |false =>
  rcases right_not h with h|h|h|h|h|⟨h,g⟩
  ·skip
   go_enter Tryz.func14,Tryz.ntmps14
   go_wp2
   go_ret
   exact⟨rfl,(below_alloc (Nat.le_refl _) (Below.refl _ _))⟩
  ·obtain⟨a,b⟩:=h
   go_enter Tryz.func14,Tryz.ntmps14
   go_wp2
   go_ret
   exact⟨rfl,(below_alloc (Nat.le_refl _) (Below.refl _ _))⟩
  ·obtain⟨⟨a,b⟩,c⟩:=h
   go_enter Tryz.func14,Tryz.ntmps14
   go_wp2
   go_ret
   exact⟨rfl,(below_alloc (Nat.le_refl _) (Below.refl _ _))⟩
  ·obtain⟨⟨a,b⟩,c,d⟩:=h
   go_enter Tryz.func14,Tryz.ntmps14
   go_wp2
   go_ret
   exact⟨rfl,(below_alloc (Nat.le_refl _) (Below.refl _ _))⟩
  ·obtain⟨⟨a,b,c,d⟩,e⟩:=h
   go_enter Tryz.func14,Tryz.ntmps14
   go_wp2
   go_ret
   exact⟨rfl,(below_alloc (Nat.le_refl _) (Below.refl _ _))⟩
  ·obtain⟨a,b,c,d⟩:=h
   obtain⟨e,f,g⟩:=g;have g':(K==10)=false:=beq_eq_false_iff_ne.2 g;obtain⟨z1,z2⟩:=full_of f;clear g f z2;go_enter Tryz.func14,Tryz.ntmps14
   go_wp2
   go_ret
   exact⟨rfl,(below_alloc (Nat.le_refl _) (Below.refl _ _))⟩
theorem refAsks_a(K T N M H:Int)(s:ByteArray)(w:World)(hs:s.size≤maxLen)(e4:(K==4)=true)(e5:(K==5)=false) :
  Calls Tryz.prog 19 #[.agg #[.int .i64 K,.int .i64 T,.int .i64 N,.int .i64 M,.int .u64 H,.string s]] w fun e w'=>e=.returned (.int .i64 (askT (rightO K T s) (N)))∧Below w.heap.size w w':=by
 have refR:=refRight_any K T N M H s (w.alloc (.cells #[.int .i64 K,.int .i64 T,.int .i64 N,.int .i64 M,.int .u64 H,.string s] 32)) hs;cases h:rightO K T s with
 |false =>
  rw [askT_no];rw [h] at refR;replace refR:=HD refR;clear h;go_enter Tryz.func19,Tryz.ntmps19
  go_wp2_with fail;refine refR.out.mono ?_;rintro e w1 ⟨rfl,hb⟩;go_wp2_with fail;go_ret
  exact⟨rfl,below_s (below_alloc (Nat.le_refl _) (Below.refl _ _)) hb⟩
 |true =>
  rw [h] at refR;replace refR:=HD refR;clear h;by_cases g:1≤N∧N≤8192
  ·skip
   have q0:=(unit_kind g.1 g.2).1;have q1:=(unit_kind g.1 g.2).2.1;rw [askT_in g.1 g.2];obtain⟨g0,g1⟩:=g;go_enter Tryz.func19,Tryz.ntmps19
   go_wp2_with fail;refine refR.out.mono ?_;rintro e w1 ⟨rfl,hb⟩;go_wp2_with fail;refine(refKind_any _ _).mono ?_;rintro e w2 ⟨rfl,hb2⟩;go_wp2_with fail;go_ret
   exact⟨rfl,below_s (below_s (below_alloc (Nat.le_refl _) (Below.refl _ _)) hb) hb2⟩
  ·rw [askT_out (by omega)]
   have q0:kindT (N)=-1:=kind_out (by omega);have q0':kindT (N)<0:=by omega
   replace q0:=HD q0;clear g;go_enter Tryz.func19,Tryz.ntmps19
   go_wp2_with fail;refine refR.out.mono ?_;rintro e w1 ⟨rfl,hb⟩;go_wp2_with fail;refine(refKind_any _ _).mono ?_;rintro e w2 ⟨rfl,hb2⟩;go_wp2_with fail;go_ret
   exact⟨rfl,below_s (below_s (below_alloc (Nat.le_refl _) (Below.refl _ _)) hb) hb2⟩
theorem refAsks_b(K T N M H:Int)(s:ByteArray)(w:World)(hs:s.size≤maxLen)(e4:(K==4)=false)(e7:(K==7)=true)(e5:(K==5)=false) :
  Calls Tryz.prog 19 #[.agg #[.int .i64 K,.int .i64 T,.int .i64 N,.int .i64 M,.int .u64 H,.string s]] w fun e w'=>e=.returned (.int .i64 (askT (rightO K T s) (N)))∧Below w.heap.size w w':=by
 have refR:=refRight_any K T N M H s (w.alloc (.cells #[.int .i64 K,.int .i64 T,.int .i64 N,.int .i64 M,.int .u64 H,.string s] 32)) hs;cases h:rightO K T s with
 |false =>
  rw [askT_no];rw [h] at refR;replace refR:=HD refR;clear h;go_enter Tryz.func19,Tryz.ntmps19
  go_wp2_with fail;refine refR.out.mono ?_;rintro e w1 ⟨rfl,hb⟩;go_wp2_with fail;go_ret
  exact⟨rfl,below_s (below_alloc (Nat.le_refl _) (Below.refl _ _)) hb⟩
 |true =>
  rw [h] at refR;replace refR:=HD refR;clear h;by_cases g:1≤N∧N≤8192
  ·skip
   have q0:=(unit_kind g.1 g.2).1;have q1:=(unit_kind g.1 g.2).2.1;rw [askT_in g.1 g.2];obtain⟨g0,g1⟩:=g;go_enter Tryz.func19,Tryz.ntmps19
   go_wp2_with fail;refine refR.out.mono ?_;rintro e w1 ⟨rfl,hb⟩;go_wp2_with fail;refine(refKind_any _ _).mono ?_;rintro e w2 ⟨rfl,hb2⟩;go_wp2_with fail;go_ret
   exact⟨rfl,below_s (below_s (below_alloc (Nat.le_refl _) (Below.refl _ _)) hb) hb2⟩
  ·rw [askT_out (by omega)]
   have q0:kindT (N)=-1:=kind_out (by omega);have q0':kindT (N)<0:=by omega
   replace q0:=HD q0;clear g;go_enter Tryz.func19,Tryz.ntmps19
   go_wp2_with fail;refine refR.out.mono ?_;rintro e w1 ⟨rfl,hb⟩;go_wp2_with fail;refine(refKind_any _ _).mono ?_;rintro e w2 ⟨rfl,hb2⟩;go_wp2_with fail;go_ret
   exact⟨rfl,below_s (below_s (below_alloc (Nat.le_refl _) (Below.refl _ _)) hb) hb2⟩
theorem refAsks_c(K T N M H:Int)(s:ByteArray)(w:World)(hs:s.size≤maxLen)(e4:(K==4)=false)(e7:(K==7)=false)(e5:(K==5)=false) :
  Calls Tryz.prog 19 #[.agg #[.int .i64 K,.int .i64 T,.int .i64 N,.int .i64 M,.int .u64 H,.string s]] w fun e w'=>e=.returned (.int .i64 (askT (rightO K T s) (0)))∧Below w.heap.size w w':=by
 have refR:=refRight_any K T N M H s (w.alloc (.cells #[.int .i64 K,.int .i64 T,.int .i64 N,.int .i64 M,.int .u64 H,.string s] 32)) hs;cases h:rightO K T s with
 |false =>
  rw [askT_no];rw [h] at refR;replace refR:=HD refR;clear h;go_enter Tryz.func19,Tryz.ntmps19
  go_wp2_with fail;refine refR.out.mono ?_;rintro e w1 ⟨rfl,hb⟩;go_wp2_with fail;go_ret
  exact⟨rfl,below_s (below_alloc (Nat.le_refl _) (Below.refl _ _)) hb⟩
 |true =>
  rw [h] at refR;replace refR:=HD refR;clear h;rw [askT_out (n:=0) (by omega)];have q0:kindT 0=-1:=kind_out (by omega);have q0':kindT 0<0:=by omega
  replace q0:=HD q0;go_enter Tryz.func19,Tryz.ntmps19
  go_wp2_with fail;refine refR.out.mono ?_;rintro e w1 ⟨rfl,hb⟩;go_wp2_with fail;refine(refKind_any _ _).mono ?_;rintro e w2 ⟨rfl,hb2⟩;go_wp2_with fail;go_ret
  exact⟨rfl,below_s (below_s (below_alloc (Nat.le_refl _) (Below.refl _ _)) hb) hb2⟩
theorem refAsks_d(K T N M H:Int)(s:ByteArray)(w:World)(hs:s.size≤maxLen)(e4:(K==4)=false)(e7:(K==7)=false)(e5:(K==5)=true)(n0:1≤N)(m0:1≤M)(n1:N≤8192)(m1:M≤8192)(p0:0≤N*M)(p1:N*M≤67108864) :
  Calls Tryz.prog 19 #[.agg #[.int .i64 K,.int .i64 T,.int .i64 N,.int .i64 M,.int .u64 H,.string s]] w fun e w'=>e=.returned (.int .i64 (askT (rightO K T s) (N*M)))∧Below w.heap.size w w':=by
 have refR:=refRight_any K T N M H s (w.alloc (.cells #[.int .i64 K,.int .i64 T,.int .i64 N,.int .i64 M,.int .u64 H,.string s] 32)) hs;cases h:rightO K T s with
 |false =>
  rw [askT_no];rw [h] at refR;replace refR:=HD refR;clear h;go_enter Tryz.func19,Tryz.ntmps19
  go_wp2_with fail;refine refR.out.mono ?_;rintro e w1 ⟨rfl,hb⟩;go_wp2_with fail;go_ret
  exact⟨rfl,below_s (below_alloc (Nat.le_refl _) (Below.refl _ _)) hb⟩
 |true =>
  rw [h] at refR;replace refR:=HD refR;clear h;by_cases g:1≤N*M∧N*M≤8192
  ·skip
   have q0:=(unit_kind g.1 g.2).1;have q1:=(unit_kind g.1 g.2).2.1;rw [askT_in g.1 g.2];obtain⟨g0,g1⟩:=g;go_enter Tryz.func19,Tryz.ntmps19
   go_wp2_with fail;refine refR.out.mono ?_;rintro e w1 ⟨rfl,hb⟩;go_wp2_with fail;refine(refKind_any _ _).mono ?_;rintro e w2 ⟨rfl,hb2⟩;go_wp2_with fail;go_ret
   exact⟨rfl,below_s (below_s (below_alloc (Nat.le_refl _) (Below.refl _ _)) hb) hb2⟩
  ·rw [askT_out (by omega)]
   have q0:kindT (N*M)=-1:=kind_out (by omega);have q0':kindT (N*M)<0:=by omega
   replace q0:=HD q0;clear g;go_enter Tryz.func19,Tryz.ntmps19
   go_wp2_with fail;refine refR.out.mono ?_;rintro e w1 ⟨rfl,hb⟩;go_wp2_with fail;refine(refKind_any _ _).mono ?_;rintro e w2 ⟨rfl,hb2⟩;go_wp2_with fail;go_ret
   exact⟨rfl,below_s (below_s (below_alloc (Nat.le_refl _) (Below.refl _ _)) hb) hb2⟩
theorem refAsks_e(K T N M H:Int)(s:ByteArray)(w:World)(hs:s.size≤maxLen)(e4:(K==4)=false)(e7:(K==7)=false)(e5:(K==5)=true)(n0:N<1) :
  Calls Tryz.prog 19 #[.agg #[.int .i64 K,.int .i64 T,.int .i64 N,.int .i64 M,.int .u64 H,.string s]] w fun e w'=>e=.returned (.int .i64 (askT (rightO K T s) (0)))∧Below w.heap.size w w':=by
 have refR:=refRight_any K T N M H s (w.alloc (.cells #[.int .i64 K,.int .i64 T,.int .i64 N,.int .i64 M,.int .u64 H,.string s] 32)) hs;cases h:rightO K T s with
 |false =>
  rw [askT_no];rw [h] at refR;replace refR:=HD refR;clear h;go_enter Tryz.func19,Tryz.ntmps19
  go_wp2_with fail;refine refR.out.mono ?_;rintro e w1 ⟨rfl,hb⟩;go_wp2_with fail;go_ret
  exact⟨rfl,below_s (below_alloc (Nat.le_refl _) (Below.refl _ _)) hb⟩
 |true =>
  rw [h] at refR;replace refR:=HD refR;clear h;rw [askT_out (n:=0) (by omega)];have q0:kindT 0=-1:=kind_out (by omega);have q0':kindT 0<0:=by omega
  replace q0:=HD q0;go_enter Tryz.func19,Tryz.ntmps19
  go_wp2_with fail;refine refR.out.mono ?_;rintro e w1 ⟨rfl,hb⟩;go_wp2_with fail;refine(refKind_any _ _).mono ?_;rintro e w2 ⟨rfl,hb2⟩;go_wp2_with fail;go_ret
  exact⟨rfl,below_s (below_s (below_alloc (Nat.le_refl _) (Below.refl _ _)) hb) hb2⟩
theorem refAsks_f(K T N M H:Int)(s:ByteArray)(w:World)(hs:s.size≤maxLen)(e4:(K==4)=false)(e7:(K==7)=false)(e5:(K==5)=true)(n0:1≤N)(m0:M<1) :
  Calls Tryz.prog 19 #[.agg #[.int .i64 K,.int .i64 T,.int .i64 N,.int .i64 M,.int .u64 H,.string s]] w fun e w'=>e=.returned (.int .i64 (askT (rightO K T s) (0)))∧Below w.heap.size w w':=by
 have refR:=refRight_any K T N M H s (w.alloc (.cells #[.int .i64 K,.int .i64 T,.int .i64 N,.int .i64 M,.int .u64 H,.string s] 32)) hs;cases h:rightO K T s with
 |false =>
  rw [askT_no];rw [h] at refR;replace refR:=HD refR;clear h;go_enter Tryz.func19,Tryz.ntmps19
  go_wp2_with fail;refine refR.out.mono ?_;rintro e w1 ⟨rfl,hb⟩;go_wp2_with fail;go_ret
  exact⟨rfl,below_s (below_alloc (Nat.le_refl _) (Below.refl _ _)) hb⟩
 |true =>
  rw [h] at refR;replace refR:=HD refR;clear h;rw [askT_out (n:=0) (by omega)];have q0:kindT 0=-1:=kind_out (by omega);have q0':kindT 0<0:=by omega
  replace q0:=HD q0;go_enter Tryz.func19,Tryz.ntmps19
  go_wp2_with fail;refine refR.out.mono ?_;rintro e w1 ⟨rfl,hb⟩;go_wp2_with fail;refine(refKind_any _ _).mono ?_;rintro e w2 ⟨rfl,hb2⟩;go_wp2_with fail;go_ret
  exact⟨rfl,below_s (below_s (below_alloc (Nat.le_refl _) (Below.refl _ _)) hb) hb2⟩
theorem refAsks_g(K T N M H:Int)(s:ByteArray)(w:World)(hs:s.size≤maxLen)(e4:(K==4)=false)(e7:(K==7)=false)(e5:(K==5)=true)(n0:1≤N)(m0:1≤M)(n1:8192<N) :
  Calls Tryz.prog 19 #[.agg #[.int .i64 K,.int .i64 T,.int .i64 N,.int .i64 M,.int .u64 H,.string s]] w fun e w'=>e=.returned (.int .i64 (askT (rightO K T s) (0)))∧Below w.heap.size w w':=by
 have refR:=refRight_any K T N M H s (w.alloc (.cells #[.int .i64 K,.int .i64 T,.int .i64 N,.int .i64 M,.int .u64 H,.string s] 32)) hs;cases h:rightO K T s with
 |false =>
  rw [askT_no];rw [h] at refR;replace refR:=HD refR;clear h;go_enter Tryz.func19,Tryz.ntmps19
  go_wp2_with fail;refine refR.out.mono ?_;rintro e w1 ⟨rfl,hb⟩;go_wp2_with fail;go_ret
  exact⟨rfl,below_s (below_alloc (Nat.le_refl _) (Below.refl _ _)) hb⟩
 |true =>
  rw [h] at refR;replace refR:=HD refR;clear h;rw [askT_out (n:=0) (by omega)];have q0:kindT 0=-1:=kind_out (by omega);have q0':kindT 0<0:=by omega
  replace q0:=HD q0;go_enter Tryz.func19,Tryz.ntmps19
  go_wp2_with fail;refine refR.out.mono ?_;rintro e w1 ⟨rfl,hb⟩;go_wp2_with fail;refine(refKind_any _ _).mono ?_;rintro e w2 ⟨rfl,hb2⟩;go_wp2_with fail;go_ret
  exact⟨rfl,below_s (below_s (below_alloc (Nat.le_refl _) (Below.refl _ _)) hb) hb2⟩
theorem refAsks_i(K T N M H:Int)(s:ByteArray)(w:World)(hs:s.size≤maxLen)(e4:(K==4)=false)(e7:(K==7)=false)(e5:(K==5)=true)(n0:1≤N)(m0:1≤M)(n1:N≤8192)(m1:8192<M) :
  Calls Tryz.prog 19 #[.agg #[.int .i64 K,.int .i64 T,.int .i64 N,.int .i64 M,.int .u64 H,.string s]] w fun e w'=>e=.returned (.int .i64 (askT (rightO K T s) (0)))∧Below w.heap.size w w':=by
 have refR:=refRight_any K T N M H s (w.alloc (.cells #[.int .i64 K,.int .i64 T,.int .i64 N,.int .i64 M,.int .u64 H,.string s] 32)) hs;cases h:rightO K T s with
 |false =>
  rw [askT_no];rw [h] at refR;replace refR:=HD refR;clear h;go_enter Tryz.func19,Tryz.ntmps19
  go_wp2_with fail;refine refR.out.mono ?_;rintro e w1 ⟨rfl,hb⟩;go_wp2_with fail;go_ret
  exact⟨rfl,below_s (below_alloc (Nat.le_refl _) (Below.refl _ _)) hb⟩
 |true =>
  rw [h] at refR;replace refR:=HD refR;clear h;rw [askT_out (n:=0) (by omega)];have q0:kindT 0=-1:=kind_out (by omega);have q0':kindT 0<0:=by omega
  replace q0:=HD q0;go_enter Tryz.func19,Tryz.ntmps19
  go_wp2_with fail;refine refR.out.mono ?_;rintro e w1 ⟨rfl,hb⟩;go_wp2_with fail;refine(refKind_any _ _).mono ?_;rintro e w2 ⟨rfl,hb2⟩;go_wp2_with fail;go_ret
  exact⟨rfl,below_s (below_s (below_alloc (Nat.le_refl _) (Below.refl _ _)) hb) hb2⟩
theorem askT_over{r:Bool}{n:Int}(h:8192<n):askT r n=askT r 0:=by
 cases r
 ·rw [askT_no,askT_no]
 ·rw [askT_out (.inr h),askT_out (.inl (by omega))]
theorem refAsks_any(K T N M H:Int)(s:ByteArray)(w:World)(hs:s.size≤maxLen) :
  Calls Tryz.prog 19 #[.agg #[.int .i64 K,.int .i64 T,.int .i64 N,.int .i64 M,.int .u64 H,.string s]] w fun e w'=>e=.returned (.int .i64 (askT (rightO K T s) (askN K N M)))∧Below w.heap.size w w':=by
 unfold askN;cases e4:K==4 with
 |true =>
  have k4:=eq_of_beq e4;rw [if_pos (.inl k4)];exact refAsks_a K T N M H s w hs e4 (beq_eq_false_iff_ne.2 (by omega))
 |false =>
  have k4:K≠4:=beq_eq_false_iff_ne.1 e4;cases e7:K==7 with
  |true =>
   have k7:=eq_of_beq e7;rw [if_pos (.inr k7)];exact refAsks_b K T N M H s w hs e4 e7 (beq_eq_false_iff_ne.2 (by omega))
  |false =>
   have k7:K≠7:=beq_eq_false_iff_ne.1 e7;rw [if_neg (by omega)];cases e5:K==5 with
   |false =>
    rw [if_neg (fun q=>by rw [q.1] at e5;cases e5)];exact refAsks_c K T N M H s w hs e4 e7 e5
   |true =>
    have k5:K=5:=eq_of_beq e5;by_cases n0:1≤N
    ·by_cases m0:1≤M
     ·have p0:=Int.mul_nonneg (show 0≤N by omega) (show 0≤M by omega)
      have hN:N*1≤N*M:=Int.mul_le_mul_of_nonneg_left m0 (by omega);have hM:1*M≤N*M:=Int.mul_le_mul_of_nonneg_right n0 (by omega);by_cases n1:N≤8192
      ·by_cases m1:M≤8192
       ·have p1:N*M≤8192*8192:=Int.mul_le_mul n1 m1 (by omega) (by omega)
        have hd:=refAsks_d K T N M H s w hs e4 e7 e5 n0 m0 n1 m1 p0 p1;by_cases p2:N*M≤8192
        ·rw [if_pos ⟨k5,n0,m0,p2⟩];exact hd
        ·rw [if_neg (fun q=>p2 q.2.2.2),←askT_over (by omega:8192<N*M)];exact hd
       ·rw [if_neg (by omega)]
        exact refAsks_i K T N M H s w hs e4 e7 e5 n0 m0 n1 (by omega)
      ·rw [if_neg (by omega)]
       exact refAsks_g K T N M H s w hs e4 e7 e5 n0 m0 (by omega)
     ·rw [if_neg (by omega)]
      exact refAsks_f K T N M H s w hs e4 e7 e5 n0 (by omega)
    ·rw [if_neg (by omega)]
     exact refAsks_e K T N M H s w hs e4 e7 e5 (by omega)
end
end Go.Proofs.YtfliaggjkianpaaGreatDoor
