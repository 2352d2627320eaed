import Derived.Test.YtfliaggjkianpaaGreatDoorK03
import GoSem.Core.Float
import Derived.LoopTactic
set_option linter.unusedVariables false
set_option linter.unusedSimpArgs false
set_option maxRecDepth 100000
namespace Go.Proofs.YtfliaggjkianpaaGreatDoor
section
namespace Flt
open Ieee
@[irreducible] def K:Nat:=1074
theorem K_eq:K=1074:=by unfold K;rfl
def F(n:Int):Nat:=FloatKind.f64.nearest n
theorem F_def(n:Int):F n=double.nearest (n<0) n.natAbs 0:=rfl
theorem log2_of{n k:Nat}(h0:2^k≤n)(h1:n<2^(k+1)):n.log2=k:=by
 have hn:n≠0:=by have:=Nat.two_pow_pos k;omega
 exact(Nat.log2_eq_iff hn).2 ⟨h0,h1⟩
theorem log2_le{n:Nat}(hn:n≠0):2^n.log2≤n:=(Nat.log2_eq_iff hn).1 rfl |>.1
theorem lt_log2{n:Nat}(hn:n≠0):n<2^(n.log2+1):=(Nat.log2_eq_iff hn).1 rfl |>.2
theorem log2_shift{m q N J:Nat}(hN:N≠0)(e:m*2^q=N*2^J):m≠0∧m.log2+q=N.log2+J:=by
 have hm:m≠0:=by
  rintro rfl;have:=Nat.two_pow_pos J;have:N*2^J=0:=by omega
  rcases Nat.mul_eq_zero.1 this with h|h<;>omega
 refine⟨hm,?_⟩;have up {x r:Nat} (hx:x≠0):(x*2^r).log2=x.log2+r:=by
  refine log2_of ?_ ?_
  ·rw [Nat.pow_add];exact Nat.mul_le_mul_right _ (log2_le hx)
  ·rw [show x.log2+r+1=x.log2+1+r by omega,Nat.pow_add]
   exact Nat.mul_lt_mul_of_pos_right (lt_log2 hx) (Nat.two_pow_pos r)
 rw [←up hm,←up hN,e]
theorem log2_lt53{N:Nat}(h:N<2^53):N.log2≤52:=by
 by_cases h0:N=0
 ·subst h0;decide
 ·have:=log2_le h0
  have:2^N.log2<2^53:=Nat.lt_of_le_of_lt this h;have:=(Nat.pow_lt_pow_iff_right (a:=2) (by decide)).1 this;omega
def rung(N:Nat):Nat:=(N.log2+1022)*2^52+N*2^(52-N.log2)
theorem mant{N:Nat}(h0:N≠0)(h:N<2^53):2^52≤N*2^(52-N.log2)∧N*2^(52-N.log2)<2^53:=by
 have hl:=log2_lt53 h;have a:=Nat.mul_le_mul_right (2^(52-N.log2)) (log2_le h0);have b:=Nat.mul_lt_mul_of_pos_right (lt_log2 h0) (Nat.two_pow_pos (52-N.log2));rw [←Nat.pow_add] at a b;rw [show N.log2+(52-N.log2)=52 by omega] at a;rw [show N.log2+1+(52-N.log2)=53 by omega] at b;exact⟨a,b⟩
theorem cut_exact(way:Toward)(neg:Bool)(k b:Nat)(hk:k≠0):way.cut neg (k*2^b) b=k:=by
 have hl:=log2_shift (m:=k*2^b) (q:=0) (N:=k) (J:=b) hk (by simp);have e:min b ((k*2^b).log2+2)=b:=by omega
 have hp:=Nat.two_pow_pos b;unfold Toward.cut;rw [e];simp only [Nat.one_shiftLeft,Nat.mul_div_cancel _ hp,Nat.mul_mod_left];have n1:¬(2^b<2*0):=by omega
 have n2:¬(2^b=0):=by omega
 cases way<;>simp
theorem nearest_of(neg:Bool){m N:Nat}{p:Int}(h0:N≠0)(h:N<2^53)(hp:-1074≤p)(e:m*2^(p+1074).toNat=N*2^K) :
  double.nearest neg m p=double.word neg (rung N):=by
 have hK:=K_eq;obtain⟨hm,hl⟩:=log2_shift h0 e;have hN:=log2_lt53 h;obtain⟨m1,m2⟩:=mant h0 h;obtain⟨q,hq⟩:∃q:Nat,p=(q:Int)-1074:=⟨(p+1074).toNat,by omega⟩
 subst hq;rw [show ((q:Int)-1074+1074).toNat=q by omega] at e hl;have lp:double.leastPlace=-1074:=by decide
 have fb:double.fractionBits=52:=rfl;have bn:double.binade=2^52:=rfl;have ir:double.infRung=2047*2^52:=rfl;unfold Format.nearest;rw [if_neg hm,lp,fb,bn,ir];have hlast:max ((q:Int)-1074+(m.log2:Nat)-(52:Nat)) (-1074)=(N.log2:Int)-52:=by omega
 have hkept:Toward.even.cut neg (m <<< ((q:Int)-1074-((N.log2:Int)-52)).toNat) (((N.log2:Int)-52)-((q:Int)-1074)).toNat=N*2^(52-N.log2):=by
  have hne:N*2^(52-N.log2)≠0:=by have:=Nat.two_pow_pos 52;omega
  have pw:N*2^K=N*2^(52-N.log2)*2^(N.log2+1022):=by
   rw [Nat.mul_assoc,←Nat.pow_add,show 52-N.log2+(N.log2+1022)=K by omega]
  by_cases hc:N.log2+1022≤q
  ·rw [show ((N.log2:Int)-52-((q:Int)-1074)).toNat=0 by omega,show ((q:Int)-1074-((N.log2:Int)-52)).toNat=q-(N.log2+1022) by omega,Nat.shiftLeft_eq]
   have:m*2^(q-(N.log2+1022))=N*2^(52-N.log2):=by
    refine Nat.eq_of_mul_eq_mul_right (Nat.two_pow_pos (N.log2+1022)) ?_;rw [←pw,←e,Nat.mul_assoc,←Nat.pow_add,show q-(N.log2+1022)+(N.log2+1022)=q by omega]
   rw [this];simpa using cut_exact .even neg _ 0 hne
  ·rw [show ((q:Int)-1074-((N.log2:Int)-52)).toNat=0 by omega,show ((N.log2:Int)-52-((q:Int)-1074)).toNat=N.log2+1022-q by omega,Nat.shiftLeft_zero]
   have:m=N*2^(52-N.log2)*2^(N.log2+1022-q):=by
    refine Nat.eq_of_mul_eq_mul_right (Nat.two_pow_pos q) ?_;rw [e,pw,Nat.mul_assoc _ _ (2^q),←Nat.pow_add,show N.log2+1022-q+q=N.log2+1022 by omega]
   rw [this];exact cut_exact .even neg _ _ hne
 simp only [hlast];rw [hkept,show ((N.log2:Int)-52 - -1074).toNat=N.log2+1022 by omega,Nat.min_eq_left (by omega)];rfl
theorem F_of{n:Int}(h0:n≠0)(h:n.natAbs<2^53):F n=double.word (n<0) (rung n.natAbs):=by
 rw [F_def];exact nearest_of _ (by omega) h (by decide) (by rw [show ((0:Int)+1074).toNat=K by rw [K_eq];decide])
theorem F_zero:F 0=0:=by decide
theorem read_word{neg:Bool}{N:Nat}(h0:N≠0)(h:N<2^53) :
  double.read (double.word neg (rung N))=.number neg (N*2^(52-N.log2)) ((N.log2:Int)-52):=by
 obtain⟨m1,m2⟩:=mant h0 h;have hN:=log2_lt53 h;generalize hk:N*2^(52-N.log2)=k at *;generalize hL:N.log2=L at *;have hr:rung N=(L+1022)*2^52+k:=by unfold rung;rw [hL,hk]
 rw [hr];have sw:double.signWeight=2^63:=rfl;have lp:double.leastPlace=-1074:=by decide
 have bn:double.binade=2^52:=rfl;have ir:double.infRung=2047*2^52:=rfl;unfold Format.read Format.word;rw [sw,lp,bn,ir];have r1:(if neg=true then 2^63+((L+1022)*2^52+k) else (L+1022)*2^52+k)%2^63=(L+1022)*2^52+k:=by cases neg<;>simp<;>omega
 have r2:((if neg=true then 2^63+((L+1022)*2^52+k) else (L+1022)*2^52+k)/2^63%2==1)=neg:=by cases neg<;>simp<;>omega
 simp only [r1,r2];rw [if_neg (by omega),if_pos (by omega)];have d:((L+1022)*2^52+k)/2^52=L+1023:=by omega
 have q:((L+1022)*2^52+k)%2^52=k-2^52:=by omega
 rw [d,q,show 2^52+(k-2^52)=k by omega,show (-1074:Int)+((L+1023-1:Nat):Int)=(L:Int)-52 by omega]
def Val(x:Nat)(n:Int):Prop:=∃m p,-1074≤p∧double.read x=.number (n<0) m p∧m*2^(p+1074).toNat=n.natAbs*2^K
theorem val_F{n:Int}(h:n.natAbs<2^53):Val (F n) n:=by
 by_cases h0:n=0
 ·subst h0
  exact⟨0,-1074,by decide,by rw [F_zero];rfl,by rw [Nat.zero_mul,Int.natAbs_zero,Nat.zero_mul]⟩
 ·refine⟨n.natAbs*2^(52-n.natAbs.log2),(n.natAbs.log2:Int)-52,by omega,?_,?_⟩
  ·rw [F_of h0 h];exact read_word (by omega) h
  ·have:=log2_lt53 h
   have hK:=K_eq;rw [Nat.mul_assoc,←Nat.pow_add,show 52-n.natAbs.log2+((n.natAbs.log2:Int)-52+1074).toNat=K by omega]
theorem signed_up(s:Bool)(m k r:Nat):signed s m k*2^r=signed s m (k+r):=by
 unfold signed;rw [Nat.shiftLeft_eq,Nat.shiftLeft_eq,Nat.pow_add];cases s<;>simp [Int.mul_assoc,Int.neg_mul]
theorem cast_pow(r:Nat):((2^r:Nat):Int)=2^r:=by rw [Int.natCast_pow];rfl
theorem signed_val{s:Bool}{n:Int}{m:Nat}{p base:Int}(hs:s=decide (n<0))(hb:-1074≤base)(hp:base≤p)(e:m*2^(p+1074).toNat=n.natAbs*2^K) :
  signed s m (p-base).toNat*2^(base+1074).toNat=n*2^K:=by
 rw [signed_up,show (p-base).toNat+(base+1074).toNat=(p+1074).toNat by omega];unfold signed;rw [Nat.shiftLeft_eq,e,hs];by_cases h:n<0
 ·simp only [h,decide_true,if_true]
  rw [Int.natCast_mul,show ((n.natAbs:Nat):Int)=-n by omega,Int.neg_mul,Int.neg_neg,cast_pow]
 ·simp only [h,decide_false,Bool.false_eq_true,if_false]
  rw [Int.natCast_mul,show ((n.natAbs:Nat):Int)=n by omega,cast_pow]
theorem pow_pos'(r:Nat):(0:Int)<2^r:=by
 have:=Nat.two_pow_pos r
 exact_mod_cast this
theorem zero_iff{t:Int}{r:Nat}{n:Int}{J:Nat}(e:t*2^r=n*2^J):(t=0↔n=0)∧(t<0↔n<0):=by
 have hr:=pow_pos' r;have hK:=pow_pos' J;constructor
 ·constructor
  ·rintro rfl
   rw [Int.zero_mul] at e;rcases Int.mul_eq_zero.1 e.symm with h|h<;>omega
  ·rintro rfl
   rw [Int.zero_mul] at e;rcases Int.mul_eq_zero.1 e with h|h<;>omega
 ·constructor
  ·intro h
   have:n*2^J<0:=by rw [←e];exact Int.mul_neg_of_neg_of_pos h hr
   apply Int.not_le.1
   intro h0;have:=Int.mul_nonneg h0 (Int.le_of_lt hK);omega
  ·intro h
   have:t*2^r<0:=by rw [e];exact Int.mul_neg_of_neg_of_pos h hK
   apply Int.not_le.1
   intro h0;have:=Int.mul_nonneg h0 (Int.le_of_lt hr);omega
theorem natAbs_up{t:Int}{r:Nat}{n:Int}{J:Nat}(e:t*2^r=n*2^J):t.natAbs*2^r=n.natAbs*2^J:=by
 have:=congrArg Int.natAbs e;rw [Int.natAbs_mul,Int.natAbs_mul] at this;simpa using this
theorem write_total{s:Bool}{t:Int}{base n:Int}(hb:-1074≤base)(e:t*2^(base+1074).toNat=n*2^K)(hn:n.natAbs<2^53)(hs:n=0→s=false) :
  double.write (.number (if t=0 then s else decide (t<0)) t.natAbs base)=F n:=by
 obtain⟨z,l⟩:=zero_iff e;have en:=natAbs_up e;by_cases h0:n=0
 ·have:=z.2 h0
  subst this;rw [h0,F_zero];simp [hs h0,Format.write,Format.nearest,Format.word]
 ·have ht:¬t=0:=fun h=>h0 (z.1 h)
  rw [if_neg ht,F_of h0 hn,show decide (t<0)=decide (n<0) by simp [l]];exact nearest_of _ (by omega) hn hb en
theorem add_val{x y:Nat}{a b:Int}(hx:Val x a)(hy:Val y b)(h:(a+b).natAbs<2^53):double.add x y=some (F (a+b)):=by
 obtain⟨m,p,hp,rx,ex⟩:=hx;obtain⟨n,q,hq,ry,ey⟩:=hy;unfold Format.add;rw [rx,ry];simp only [Datum.sum,Option.map_some]
 congr 1
 refine write_total (n:=a+b) (by omega) ?_ h ?_
 ·rw [Int.add_mul,Int.add_mul,signed_val rfl (by omega) (by omega) ex,signed_val rfl (by omega) (by omega) ey]
 ·intro e;simp;omega
theorem sub_val{x y:Nat}{a b:Int}(hx:Val x a)(hy:Val y b)(h:(a-b).natAbs<2^53):double.sub x y=some (F (a-b)):=by
 obtain⟨m,p,hp,rx,ex⟩:=hx;obtain⟨n,q,hq,ry,ey⟩:=hy;unfold Format.sub;rw [rx,ry];simp only [Datum.sum,Datum.opposite,Option.map_some]
 congr 1
 refine write_total (n:=a-b) (by omega) ?_ h ?_
 ·have neg:∀k,signed (!decide (b<0)) n k=-signed (decide (b<0)) n k:=by intro k;unfold signed;cases decide (b<0)<;>simp
  rw [neg,Int.add_mul,Int.neg_mul,Int.sub_mul,signed_val rfl (by omega) (by omega) ex,signed_val rfl (by omega) (by omega) ey];rfl
 ·intro e;simp;omega
theorem compare_up{s t x y:Int}{r:Nat}{J:Nat}(e:s*2^r=x*2^J)(e':t*2^r=y*2^J):compare s t=compare x y:=by
 have hr:=pow_pos' r;have d:(s-t)*2^r=(x-y)*2^J:=by rw [Int.sub_mul,Int.sub_mul,e,e']
 obtain⟨z,l⟩:=zero_iff d;rcases Int.lt_trichotomy x y with h|h|h
 ·have:s<t:=by have:=l.2 (by omega);omega
  rw [Int.compare_eq_lt.2 this,Int.compare_eq_lt.2 h]
 ·have:s=t:=by have:=z.2 (by omega);omega
  rw [Int.compare_eq_eq.2 this,Int.compare_eq_eq.2 h]
 ·have:t<s:=by
   have h1:¬s-t<0:=fun q=>by have:=l.1 q;omega
   have h2:¬s-t=0:=fun q=>by have:=z.1 q;omega
   omega
  rw [Int.compare_eq_gt.2 this,Int.compare_eq_gt.2 h]
theorem order_val{x y:Nat}{a b:Int}(hx:Val x a)(hy:Val y b):double.order x y=some (compare a b):=by
 obtain⟨m,p,hp,rx,ex⟩:=hx;obtain⟨n,q,hq,ry,ey⟩:=hy;unfold Format.order;rw [rx,ry];simp only [Datum.order]
 congr 1
 exact compare_up (signed_val rfl (by omega) (by omega) ex) (signed_val rfl (by omega) (by omega) ey)
theorem toInt_F{n:Int}(h:n.natAbs<2^53):(double.read (F n)).toInt .zero=some n:=by
 by_cases h0:n=0
 ·subst h0;rw [F_zero];decide
 ·rw [F_of h0 h,read_word (by omega) h]
  have hl:=log2_lt53 h;simp only [Datum.toInt,Datum.integral];rw [show ((n.natAbs.log2:Int)-52).toNat=0 by omega,show (-((n.natAbs.log2:Int)-52)).toNat=52-n.natAbs.log2 by omega,Nat.shiftLeft_zero,
   cut_exact .zero _ _ _ (by omega)]
  unfold signed;by_cases hn:n<0<;>simp [hn]<;>omega
theorem order_num{x:Nat}{s:Bool}{m:Nat}{p:Int}(rx:double.read x=.number s m p){n:Int}(h:n.natAbs<2^53) :
  ∃m' p' base,double.read (F n)=.number (decide (n<0)) m' p'∧base≤p∧base≤p'∧m'*2^(p'+1074).toNat=n.natAbs*2^K∧base=min p p'∧-1074≤p' ∧
   double.order x (F n)=some (compare (signed s m (p-base).toNat) (signed (decide (n<0)) m' (p'-base).toNat)):=by
 obtain⟨m',p',hp',ry,ey⟩:=val_F h;refine⟨m',p',min p p',ry,by omega,by omega,ey,rfl,hp',?_⟩;unfold Format.order;rw [rx,ry];rfl
theorem read_place{x:Nat}{s:Bool}{m:Nat}{p:Int}(rx:double.read x=.number s m p):-1074≤p:=by
 have lp:double.leastPlace=-1074:=by decide
 unfold Format.read at rx;rw [lp] at rx;simp only at rx
 split at rx
 ·injection rx with _ _ h;omega
 ·split at rx
  ·injection rx with _ _ h;omega
  ·split at rx<;>cases rx
def ge0(x:Nat):Bool:=double.order x 0==some .gt||double.order x 0==some .eq
def le40(x:Nat):Bool:=double.order x 4787326403894837248==some .lt||double.order x 4787326403894837248==some .eq
theorem F40:F 1099511627776=4787326403894837248:=by decide +kernel
theorem signed_nonneg_iff{s:Bool}{m k:Nat}:0≤signed s m k↔(s=false∨m=0):=by
 have:=Nat.two_pow_pos k;unfold signed;rw [Nat.shiftLeft_eq];cases s
 ·simp only [Bool.false_eq_true,if_false,true_or,iff_true];exact Int.natCast_nonneg _
 ·simp only [if_true,Bool.true_eq_false,false_or]
  constructor
  ·intro h
   have:m*2^k=0:=by omega
   rcases Nat.mul_eq_zero.1 this with h|h<;>omega
  ·rintro rfl;simp
theorem toInt_within{x:Nat}(h0:ge0 x=true)(h1:le40 x=true):∃n:Int,(double.read x).toInt .zero=some n∧0≤n∧n≤1099511627776:=by
 cases hr:double.read x with
 |nan s t =>
  exfalso
  unfold ge0 Format.order at h0;rw [hr] at h0;simp [Datum.order] at h0
 |infinity s =>
  exfalso
  unfold ge0 at h0;unfold le40 at h1;rw [←F_zero] at h0;rw [←F40] at h1;unfold Format.order at h0 h1;obtain⟨m,p,hp,r0,e0⟩:=val_F (n:=0) (by decide);obtain⟨m',p',hp',r1,e1⟩:=val_F (n:=1099511627776) (by decide);rw [hr,r0] at h0;rw [hr,r1] at h1;cases s<;>simp [Datum.order] at h0 h1
 |number s m p =>
  have hp:=read_place hr;obtain⟨m0,p0,b0,r0,hb0,hb0',e0,hb0m,hp0,o0⟩:=order_num hr (n:=0) (by decide);obtain⟨m1,p1,b1,r1,hb1,hb1',e1,hb1m,hp1,o1⟩:=order_num hr (n:=1099511627776) (by decide);unfold ge0 at h0;rw [←F_zero,o0] at h0;unfold le40 at h1;rw [←F40,o1] at h1;have a0:0≤signed s m (p-b0).toNat:=by
   have hz:signed (decide ((0:Int)<0)) m0 (p0-b0).toNat=0:=by
    have:m0=0:=by
     have z:m0*2^(p0+1074).toNat=0:=by rw [e0];exact Nat.zero_mul _
     rcases Nat.mul_eq_zero.1 z with h|h
     ·exact h
     ·have:=Nat.two_pow_pos (p0+1074).toNat;omega
    subst this;simp [signed]
   rw [hz] at h0;rcases Int.lt_trichotomy (signed s m (p-b0).toNat) 0 with h|h|h
   ·rw [Int.compare_eq_lt.2 h] at h0;simp at h0
   ·omega
   ·omega
  have a1:signed s m (p-b1).toNat*2^(b1+1074).toNat≤1099511627776*2^K:=by
   have e:signed (decide ((1099511627776:Int)<0)) m1 (p1-b1).toNat*2^(b1+1074).toNat=1099511627776*2^K:=signed_val rfl (by omega) hb1' e1;rw [←e];refine Int.mul_le_mul_of_nonneg_right ?_ (Int.le_of_lt (pow_pos' _))
   rcases Int.lt_trichotomy (signed s m (p-b1).toNat) (signed (decide ((1099511627776:Int)<0)) m1 (p1-b1).toNat) with h|h|h
   ·omega
   ·omega
   ·rw [Int.compare_eq_gt.2 h] at h1;simp at h1
  rw [signed_up,show (p-b1).toNat+(b1+1074).toNat=(p+1074).toNat by omega] at a1;have sg:=signed_nonneg_iff.1 a0;simp only [Datum.toInt,Datum.integral];refine⟨_,rfl,?_⟩;have hm:signed s (Toward.zero.cut s (m <<< p.toNat) (-p).toNat) 0=(Toward.zero.cut s (m <<< p.toNat) (-p).toNat:Nat):=by
   rcases sg with h|h
   ·subst h;simp [signed]
   ·subst h
    have:Toward.zero.cut s (0 <<< p.toNat) (-p).toNat=0:=by simp [Toward.cut]
    rw [this];cases s<;>simp [signed]
  rw [hm];refine⟨by omega,?_⟩;have hle:m*2^(p+1074).toNat≤1099511627776*2^K:=by
   rcases sg with h|h
   ·subst h
    have e:signed false m (p+1074).toNat=((m*2^(p+1074).toNat:Nat):Int):=by
     unfold signed;rw [if_neg Bool.false_ne_true,Nat.shiftLeft_eq]
    rw [e,←cast_pow K] at a1;generalize 2^(p+1074).toNat=u at *;generalize 2^K=v at *;have:((m*u:Nat):Int)≤((1099511627776*v:Nat):Int):=by rw [Int.natCast_mul 1099511627776];exact a1
    exact Int.ofNat_le.1 this
   ·subst h;rw [Nat.zero_mul];exact Nat.zero_le _
  have hK:=K_eq;by_cases hpos:0≤p
  ·have e:(m <<< p.toNat)*2^K=m*2^(p+1074).toNat:=by
    rw [Nat.shiftLeft_eq,Nat.mul_assoc,←Nat.pow_add,show p.toNat+K=(p+1074).toNat by omega]
   have:m <<< p.toNat≤1099511627776:=by
    refine Nat.le_of_mul_le_mul_right (c:=2^K) ?_ (Nat.two_pow_pos _)
    rw [e];exact hle
   have hc:Toward.zero.cut s (m <<< p.toNat) (-p).toNat≤m <<< p.toNat:=by
    unfold Toward.cut;simp only [Bool.toNat_false,Nat.add_zero];exact Nat.div_le_self _ _
   omega
  ·have hp0:p.toNat=0:=by omega
   rw [hp0,Nat.shiftLeft_zero];unfold Toward.cut;simp only [Bool.toNat_false,Nat.add_zero,Nat.one_shiftLeft];by_cases hmin:(-p).toNat≤m.log2+2
   ·rw [Nat.min_eq_left hmin]
    have:m/2^(-p).toNat≤1099511627776:=by
     refine Nat.le_of_mul_le_mul_right (c:=2^K) ?_ (Nat.two_pow_pos _)
     refine Nat.le_trans ?_ hle;rw [show K=(-p).toNat+(p+1074).toNat by omega,Nat.pow_add,←Nat.mul_assoc];exact Nat.mul_le_mul_right _ (Nat.div_mul_le_self _ _)
    omega
   ·rw [Nat.min_eq_right (by omega)]
    by_cases hm0:m=0
    ·subst hm0;simp
    ·have:m/2^(m.log2+2)=0:=by
      refine Nat.div_eq_of_lt (Nat.lt_trans (lt_log2 hm0) ?_);exact Nat.pow_lt_pow_right (by decide) (by omega)
     rw [this];simp
def intOfF(x:Nat):Int:=((double.read x).toInt .zero).getD 0
theorem intOfF_within{x:Nat}(h0:ge0 x=true)(h1:le40 x=true):(double.read x).toInt .zero=some (intOfF x)∧0≤intOfF x∧intOfF x≤1099511627776:=by
 obtain⟨n,e,a,b⟩:=toInt_within h0 h1;unfold intOfF;rw [e];exact⟨rfl,a,b⟩
theorem intOfF_F{n:Int}(h:n.natAbs<2^53):intOfF (F n)=n:=by
 unfold intOfF;rw [toInt_F h];rfl
theorem ge0_F{n:Int}(h:n.natAbs<2^53):ge0 (F n)=decide (0≤n):=by
 unfold ge0;rw [←F_zero,order_val (val_F h) (val_F (by decide))];rcases Int.lt_trichotomy n 0 with g|g|g
 ·rw [Int.compare_eq_lt.2 g];simp;omega
 ·rw [Int.compare_eq_eq.2 g];simp;omega
 ·rw [Int.compare_eq_gt.2 g];simp;omega
theorem le_F{a b:Int}(h:a.natAbs<2^53)(h':b.natAbs<2^53):(double.order (F a) (F b)==some .lt||double.order (F a) (F b)==some .eq)=decide (a≤b):=by
 rw [order_val (val_F h) (val_F h')];rcases Int.lt_trichotomy a b with g|g|g
 ·rw [Int.compare_eq_lt.2 g];simp;omega
 ·rw [Int.compare_eq_eq.2 g];simp;omega
 ·rw [Int.compare_eq_gt.2 g];simp;omega
theorem eq_F{a b:Int}(h:a.natAbs<2^53)(h':b.natAbs<2^53):(double.order (F a) (F b)==some .eq)=decide (a=b):=by
 rw [order_val (val_F h) (val_F h')];rcases Int.lt_trichotomy a b with g|g|g
 ·rw [Int.compare_eq_lt.2 g];simp;omega
 ·rw [Int.compare_eq_eq.2 g];simp;omega
 ·rw [Int.compare_eq_gt.2 g];simp;omega
theorem le40_F{n:Int}(h:n.natAbs<2^53):le40 (F n)=decide (n≤1099511627776):=by
 unfold le40;rw [←F40];exact le_F h (by decide)
def wholeB(x:Nat):Bool:=ge0 x&&(le40 x&&double.order x (F (intOfF x))==some .eq)
theorem wholeB_F{n:Int}(h:n.natAbs<2^53):wholeB (F n)=decide (0≤n∧n≤1099511627776):=by
 unfold wholeB;rw [ge0_F h,le40_F h,intOfF_F h,eq_F h h];by_cases a:0≤n<;>by_cases b:n≤1099511627776<;>simp [a,b]
end Flt
end
section
open Go.RowKit Flt
theorem conv_fi(x:Nat)(n:Int)(w:World)(h:floatToIntVal .f64 x .i64=some n) :
  (convert 183 2 (.float .f64 x)).run Tryz.prog w=.ok (.int .i64 n) w :=
 run_convert_float_int w 183 2 .f64 .i64 x n (by rw [Tryz.underlying183];rfl) Tryz.underlying2 h
theorem conv_fn(x:Nat)(n:Int)(w:World)(h:floatToIntVal .f64 x .i64=some n) :
  (convert 183 3 (.float .f64 x)).run Tryz.prog w=.ok (.int .i64 n) w :=
 run_convert_float_int w 183 3 .f64 .i64 x n (by rw [Tryz.underlying183];rfl) Tryz.underlying3 h
theorem toIntVal{x:Nat}(h0:ge0 x=true)(h1:le40 x=true):floatToIntVal .f64 x .i64=some (intOfF x):=by
 obtain⟨e,a,b⟩:=intOfF_within h0 h1;unfold floatToIntVal;rw [show FloatKind.f64.decode x=Ieee.double.read x from rfl,e];simp only;rw [if_pos];exact⟨Int.le_trans (by decide) a,Int.le_trans b (by decide)⟩
set_option maxHeartbeats 400000 in
theorem whole_any(x:Nat)(w:World) :
  Calls Tryz.prog 165 #[.float .f64 x] w fun e w'=>e=.returned (.bool (wholeB x))∧w'=w:=by
 by_cases h0:ge0 x=true
 ·have h0':(FloatKind.f64.format.order x 0==some .gt||FloatKind.f64.format.order x 0==some .eq)=true:=h0
  by_cases h1:le40 x=true
  ·have hi:=toIntVal h0 h1
   have h1':(FloatKind.f64.format.order x 4787326403894837248==some .lt||FloatKind.f64.format.order x 4787326403894837248==some .eq)=true:=h1;have hc:=conv_fi x _ w hi;have e:wholeB x=(FloatKind.f64.format.order x (floatOfInt .f64 (intOfF x))==some .eq):=by
    unfold wholeB;rw [h0,h1];rfl
   rw [e];clear e hi h0 h1;generalize intOfF x=n at *;go_enter Tryz.func165,Tryz.ntmps165
   go_wp2
   go_ret
   exact⟨rfl,rfl⟩
  ·have h1':(FloatKind.f64.format.order x 4787326403894837248==some .lt||FloatKind.f64.format.order x 4787326403894837248==some .eq)=false:=(by simpa using h1:le40 x=false)
   have e:wholeB x=false:=by unfold wholeB;simp [h1]
   rw [e];clear e h0 h1;go_enter Tryz.func165,Tryz.ntmps165
   go_wp2
   go_ret
   exact⟨rfl,rfl⟩
 ·have h0':(FloatKind.f64.format.order x 0==some .gt||FloatKind.f64.format.order x 0==some .eq)=false:=(by simpa using h0:ge0 x=false)
  have e:wholeB x=false:=by unfold wholeB;simp [h0]
  rw [e];clear e h0;go_enter Tryz.func165,Tryz.ntmps165
  go_wp2
  go_ret
  exact⟨rfl,rfl⟩
def rightB(x y:Nat):Bool:=wholeB x&&wholeB y
set_option maxHeartbeats 400000 in
theorem right_any(x y:Nat)(w:World) :
  Calls Tryz.prog 114 #[.complex .f64 x y] w fun e w'=>e=.returned (.bool (rightB x y))∧w'=w:=by
 cases h:wholeB x with
 |true =>
  have e:rightB x y=wholeB y:=by unfold rightB;rw [h];rfl
  rw [e];clear e;go_enter Tryz.func114,Tryz.ntmps114
  go_wp2_with (go_at_call 165;refine(whole_any _ _).mono ?_;rintro e w' ⟨rfl,rfl⟩)
  go_ret
  exact⟨rfl,rfl⟩
 |false =>
  have e:rightB x y=false:=by unfold rightB;rw [h];rfl
  rw [e];clear e;go_enter Tryz.func114,Tryz.ntmps114
  go_wp2_with (go_at_call 165;refine(whole_any _ _).mono ?_;rintro e w' ⟨rfl,rfl⟩)
  go_ret
  exact⟨rfl,rfl⟩
set_option maxRecDepth 20000 in
set_option maxHeartbeats 400000 in
theorem sumBytes_any(x y:Nat)(w:World) :
  Calls Tryz.prog 70 #[.complex .f64 x y] w fun e w'=>e=.returned (.int .i64 (if rightB x y then intOfF x else 0))∧w'=w:=by
 cases h:rightB x y with
 |true =>
  have hw:wholeB x=true:=by unfold rightB at h;simp at h;exact h.1
  have h0:ge0 x=true:=by unfold wholeB at hw;simp at hw;exact hw.1
  have h1:le40 x=true:=by unfold wholeB at hw;simp at hw;exact hw.2.1
  have hc:=conv_fn x _ w (toIntVal h0 h1);clear hw h0 h1;generalize intOfF x=n at *;go_enter Tryz.func70,Tryz.ntmps70
  go_wp2_with (go_at_call 114;refine(right_any _ _ _).mono ?_;rintro e w' ⟨rfl,rfl⟩)
  go_ret
  exact⟨rfl,rfl⟩
 |false =>
  go_enter Tryz.func70,Tryz.ntmps70
  go_wp2_with (go_at_call 114;refine(right_any _ _ _).mono ?_;rintro e w' ⟨rfl,rfl⟩)
  go_ret
  exact⟨rfl,rfl⟩
set_option maxRecDepth 20000 in
set_option maxHeartbeats 400000 in
theorem sumPages_any(x y:Nat)(w:World) :
  Calls Tryz.prog 79 #[.complex .f64 x y] w fun e w'=>e=.returned (.int .i64 (if rightB x y then intOfF y else 0))∧w'=w:=by
 cases h:rightB x y with
 |true =>
  have hw:wholeB y=true:=by unfold rightB at h;simp at h;exact h.2
  have h0:ge0 y=true:=by unfold wholeB at hw;simp at hw;exact hw.1
  have h1:le40 y=true:=by unfold wholeB at hw;simp at hw;exact hw.2.1
  have hc:=conv_fn y _ w (toIntVal h0 h1);clear hw h0 h1;generalize intOfF y=n at *;go_enter Tryz.func79,Tryz.ntmps79
  go_wp2_with (go_at_call 114;refine(right_any _ _ _).mono ?_;rintro e w' ⟨rfl,rfl⟩)
  go_ret
  exact⟨rfl,rfl⟩
 |false =>
  go_enter Tryz.func79,Tryz.ntmps79
  go_wp2_with (go_at_call 114;refine(right_any _ _ _).mono ?_;rintro e w' ⟨rfl,rfl⟩)
  go_ret
  exact⟨rfl,rfl⟩
@[irreducible] def cX (ok:Bool) (x y:Nat):Nat:=if ok&&rightB x y then x else 0
@[irreducible] def cY (ok:Bool) (x y:Nat):Nat:=if ok&&rightB x y then y else 0
@[irreducible] def cE (ok:Bool) (x y:Nat):Int:=if ok&&rightB x y then 0 else 12
theorem c_yes{x y:Nat}(h:rightB x y=true):cX true x y=x∧cY true x y=y∧cE true x y=0:=by unfold cX cY cE;simp [h]
theorem c_no{x y:Nat}(h:rightB x y=false):cX true x y=0∧cY true x y=0∧cE true x y=12:=by unfold cX cY cE;simp [h]
theorem c_false(x y:Nat):cX false x y=0∧cY false x y=0∧cE false x y=12:=by unfold cX cY cE;simp
set_option maxRecDepth 20000 in
set_option maxHeartbeats 400000 in
theorem checked_any(ok:Bool)(x y:Nat)(w:World) :
  Calls Tryz.prog 245 #[.complex .f64 x y,.bool ok] w fun e w'=>e=.returned (.tuple #[.complex .f64 (cX ok x y) (cY ok x y),.int .i64 (cE ok x y)])∧w'=w:=by
 cases ok with
 |false =>
  obtain⟨e1,e2,e3⟩:=c_false x y;rw [e1,e2,e3];clear e1 e2 e3;go_enter Tryz.func245,Tryz.ntmps245
  go_wp2_with (go_at_call 114;refine(right_any _ _ _).mono ?_;rintro e w' ⟨rfl,rfl⟩)
  go_ret2
  exact⟨rfl,rfl⟩
 |true =>
  cases h:rightB x y with
  |false =>
   obtain⟨e1,e2,e3⟩:=c_no h;rw [e1,e2,e3];clear e1 e2 e3;go_enter Tryz.func245,Tryz.ntmps245
   go_wp2_with (go_at_call 114;refine(right_any _ _ _).mono ?_;rintro e w' ⟨rfl,rfl⟩)
   go_ret2
   exact⟨rfl,rfl⟩
  |true =>
   obtain⟨e1,e2,e3⟩:=c_yes h;rw [e1,e2,e3];clear e1 e2 e3;go_enter Tryz.func245,Tryz.ntmps245
   go_wp2_with (go_at_call 114;refine(right_any _ _ _).mono ?_;rintro e w' ⟨rfl,rfl⟩)
   go_ret2
   exact⟨rfl,rfl⟩
end
section
open Go.RowKit Flt
@[irreducible] def okS (a b:Int):Bool:=decide (0≤a∧a≤1099511627776∧0≤b∧b≤1099511627776)
@[irreducible] def rE (a b:Int):Int:=if okS a b then 0 else 12
@[irreducible] def rB (a b:Int):Int:=if okS a b then a else 0
@[irreducible] def rP (a b:Int):Int:=if okS a b then b else 0
theorem okS_iff{a b:Int}:okS a b=true↔0≤a∧a≤1099511627776∧0≤b∧b≤1099511627776:=by unfold okS;exact decide_eq_true_iff
theorem r_yes{a b:Int}(h:okS a b=true):rB a b=a∧rP a b=b∧rE a b=0:=by unfold rB rP rE;simp [h]
theorem r_no{a b:Int}(h:okS a b=false):rB a b=0∧rP a b=0∧rE a b=12:=by unfold rB rP rE;simp [h]
theorem right_F{a b:Int}(ha:a.natAbs<2^53)(hb:b.natAbs<2^53):rightB (F a) (F b)=okS a b:=by
 unfold rightB okS;rw [wholeB_F ha,wholeB_F hb];by_cases h:0≤a∧a≤1099511627776<;>by_cases h':0≤b∧b≤1099511627776<;>simp [h]<;>omega
theorem right_ok{a b:Int}(h:okS a b=true):rightB (F a) (F b)=true:=by
 have:=okS_iff.1 h;rw [right_F (by omega) (by omega)];exact h
theorem chk_F{a b:Int}(ha:a.natAbs<2^53)(hb:b.natAbs<2^53):F (rB a b)=cX true (F a) (F b)∧F (rP a b)=cY true (F a) (F b)∧rE a b=cE true (F a) (F b):=by
 have g:=right_F ha hb;cases h:okS a b with
 |true=>obtain⟨e1,e2,e3⟩:=r_yes h;obtain⟨f1,f2,f3⟩:=c_yes (g.trans h);rw [e1,e2,e3,f1,f2,f3];exact⟨rfl,rfl,rfl⟩
 |false=>obtain⟨e1,e2,e3⟩:=r_no h;obtain⟨f1,f2,f3⟩:=c_no (g.trans h);rw [e1,e2,e3,f1,f2,f3,F_zero];exact⟨rfl,rfl,rfl⟩
set_option maxHeartbeats 400000 in
theorem plus_F(a b c d:Int)(w:World)(h1:okS a b=true)(h2:okS c d=true) :
  Calls Tryz.prog 227 #[.complex .f64 (F a) (F b),.complex .f64 (F c) (F d)] w fun e w' =>
   e=.returned (.tuple #[.complex .f64 (F (rB (a+c) (b+d))) (F (rP (a+c) (b+d))),.int .i64 (rE (a+c) (b+d))])∧w'=w:=by
 have g1:=okS_iff.1 h1;have g2:=okS_iff.1 h2;have r1:=right_ok h1;have r2:=right_ok h2;have hs:=fun t=>run_complex_sum (P:=Tryz.prog) w .add (Or.inl rfl) t .f64 (F a) (F b) (F c) (F d) (F (a+c)) (F (b+d))
  (by unfold cSumBits floatBits;simp only [show FloatKind.f64.format=Ieee.double from rfl,add_val (val_F (n:=a) (by omega)) (val_F (n:=c) (by omega)) (by omega),add_val (val_F (n:=b) (by omega)) (val_F (n:=d) (by omega)) (by omega),Option.bind_some])
 obtain⟨e1,e2,e3⟩:=chk_F (a:=a+c) (b:=b+d) (by omega) (by omega);rw [e1,e2,e3];clear h1 h2 g1 g2 e1 e2 e3;generalize F a=fa at *;generalize F b=fb at *;generalize F c=fc at *;generalize F d=fd at *;generalize F (a+c)=fe at *;generalize F (b+d)=ff at *;go_enter Tryz.func227,Tryz.ntmps227
 go_wp2_with (first|(go_at_call 114;refine(right_any _ _ _).mono ?_;rintro e w' ⟨rfl,rfl⟩)|(go_at_call 245;refine(checked_any _ _ _ _).mono ?_;rintro e w' ⟨rfl,rfl⟩))
 go_ret2
 exact⟨rfl,rfl⟩
@[irreducible] def fitsB (a b c d:Int):Bool:=decide (a≤c∧b≤d)
theorem fitsB_iff{a b c d:Int}:fitsB a b c d=true↔a≤c∧b≤d:=by unfold fitsB;exact decide_eq_true_iff
set_option maxHeartbeats 400000 in
theorem fits_F(a b c d:Int)(w:World)(h1:okS a b=true)(h2:okS c d=true) :
  Calls Tryz.prog 136 #[.complex .f64 (F a) (F b),.complex .f64 (F c) (F d)] w fun e w'=>e=.returned (.bool (fitsB a b c d))∧w'=w:=by
 have g1:=okS_iff.1 h1;have g2:=okS_iff.1 h2;have r1:=right_ok h1;have r2:=right_ok h2;have o1:(FloatKind.f64.format.order (F a) (F c)==some .lt||FloatKind.f64.format.order (F a) (F c)==some .eq)=decide (a≤c):=le_F (by omega) (by omega);have o2:(FloatKind.f64.format.order (F b) (F d)==some .lt||FloatKind.f64.format.order (F b) (F d)==some .eq)=decide (b≤d):=le_F (by omega) (by omega);have e:fitsB a b c d=(decide (a≤c)&&decide (b≤d)):=by unfold fitsB;simp
 rw [e];clear h1 h2 g1 g2 e;generalize F a=fa at *;generalize F b=fb at *;generalize F c=fc at *;generalize F d=fd at *;generalize hx:decide (a≤c)=x at *;generalize hy:decide (b≤d)=y at *;clear hx hy;cases x<;>cases y
 all_goals
  go_enter Tryz.func136,Tryz.ntmps136
  go_wp2_with (go_at_call 114;refine(right_any _ _ _).mono ?_;rintro e w' ⟨rfl,rfl⟩)
  go_ret
  exact⟨rfl,rfl⟩
theorem bytes_F(a b:Int)(w:World)(h:okS a b=true) :
  Calls Tryz.prog 70 #[.complex .f64 (F a) (F b)] w fun e w'=>e=.returned (.int .i64 a)∧w'=w:=by
 have g:=okS_iff.1 h;refine(sumBytes_any _ _ w).mono ?_;rintro e w' ⟨rfl,rfl⟩;rw [right_ok h,intOfF_F (by omega)];exact⟨rfl,rfl⟩
theorem pages_F(a b:Int)(w:World)(h:okS a b=true) :
  Calls Tryz.prog 79 #[.complex .f64 (F a) (F b)] w fun e w'=>e=.returned (.int .i64 b)∧w'=w:=by
 have g:=okS_iff.1 h;refine(sumPages_any _ _ w).mono ?_;rintro e w' ⟨rfl,rfl⟩;rw [right_ok h,intOfF_F (n:=b) (by omega)];exact⟨rfl,rfl⟩
end
section
open Go.RowKit Flt
theorem fits_yes(a b c d:Int)(w:World)(h1:okS a b=true)(h2:okS c d=true)(h:a≤c∧b≤d) :
  Calls Tryz.prog 136 #[.complex .f64 (F a) (F b),.complex .f64 (F c) (F d)] w fun e w'=>e=.returned (.bool true)∧w'=w:=by
 have:=fits_F a b c d w h1 h2
 rwa [fitsB_iff.2 h] at this
theorem fits_no(a b c d:Int)(w:World)(h1:okS a b=true)(h2:okS c d=true)(h:¬(a≤c∧b≤d)) :
  Calls Tryz.prog 136 #[.complex .f64 (F a) (F b),.complex .f64 (F c) (F d)] w fun e w'=>e=.returned (.bool false)∧w'=w:=by
 have:=fits_F a b c d w h1 h2
 rwa [show fitsB a b c d=false by rw [←Bool.not_eq_true,fitsB_iff];exact h] at this
theorem ok_lit{a b:Int}(h:0≤a∧a≤1099511627776∧0≤b∧b≤1099511627776):okS a b=true:=okS_iff.2 h
end
section
open Go.RowKit Flt
def sumA:List (Int×Int)→Int
 |[]=>0
 |x :: r=>x.1+sumA r
def sumC:List (Int×Int)→Int
 |[]=>0
 |x :: r=>x.2+sumC r
theorem take_succ{xs:List (Int×Int)}{k:Nat}(h:k<xs.length):sumA (xs.take (k+1))=sumA (xs.take k)+(xs[k]).1∧sumC (xs.take (k+1))=sumC (xs.take k)+(xs[k]).2:=by
 induction xs generalizing k with
 |nil=>simp at h
 |cons x r ih =>
  cases k with
  |zero=>simp [sumA,sumC]
  |succ k =>
   have:=ih (k:=k) (by simpa using h);simp only [List.take_succ_cons,sumA,sumC,List.getElem_cons_succ];rw [this.1,this.2];exact⟨by omega,by omega⟩
theorem sum_nonneg{xs:List (Int×Int)}(hok:∀x∈xs,okS x.1 x.2=true):0≤sumA xs∧0≤sumC xs:=by
 induction xs with
 |nil=>exact⟨Int.le_refl _,Int.le_refl _⟩
 |cons x r ih =>
  have h:=okS_iff.1 (hok x (List.mem_cons_self ..));have:=ih (fun y hy=>hok y (List.mem_cons_of_mem _ hy));simp only [sumA,sumC];exact⟨by omega,by omega⟩
theorem sum_take_le{xs:List (Int×Int)}(hok:∀x∈xs,okS x.1 x.2=true)(k:Nat):sumA (xs.take k)≤sumA xs∧sumC (xs.take k)≤sumC xs:=by
 induction xs generalizing k with
 |nil=>simp
 |cons x r ih =>
  cases k with
  |zero=>have:=sum_nonneg hok;simpa [sumA,sumC] using this
  |succ k =>
   have:=ih (fun y hy=>hok y (List.mem_cons_of_mem _ hy)) k;simp only [List.take_succ_cons,sumA,sumC];exact⟨by omega,by omega⟩
theorem total_over{xs:List (Int×Int)}(hok:∀x∈xs,okS x.1 x.2=true){k:Nat}(h:okS (sumA (xs.take k)) (sumC (xs.take k))=false):okS (sumA xs) (sumC xs)=false:=by
 have h0:=sum_nonneg (xs:=xs.take k) (fun x hx=>hok x (List.mem_of_mem_take hx));have h1:=sum_take_le hok k;rw [←Bool.not_eq_true,okS_iff] at h ⊢;intro g;exact h ⟨by omega,by omega,by omega,by omega⟩
theorem plus_at{xs:List (Int×Int)}{k:Nat}(h:k<xs.length)(hok:okS (xs[k]).1 (xs[k]).2=true)(hk:okS (sumA (xs.take k)) (sumC (xs.take k))=true)(w:World) :
  Calls Tryz.prog 227 #[.complex .f64 (F (sumA (xs.take k))) (F (sumC (xs.take k))),.complex .f64 (F (xs[k]).1) (F (xs[k]).2)] w fun e w' =>
   e=.returned (.tuple #[.complex .f64 (F (rB (sumA (xs.take (k+1))) (sumC (xs.take (k+1))))) (F (rP (sumA (xs.take (k+1))) (sumC (xs.take (k+1))))),.int .i64 (rE (sumA (xs.take (k+1))) (sumC (xs.take (k+1))))])∧w'=w:=by
 rw [(take_succ h).1,(take_succ h).2];exact plus_F _ _ _ _ w hk hok
theorem plus_at_yes{xs:List (Int×Int)}{k:Nat}(h:k<xs.length)(hok:okS (xs[k]).1 (xs[k]).2=true)(hk:okS (sumA (xs.take k)) (sumC (xs.take k))=true)(h':okS (sumA (xs.take (k+1))) (sumC (xs.take (k+1)))=true)(w:World) :
  Calls Tryz.prog 227 #[.complex .f64 (F (sumA (xs.take k))) (F (sumC (xs.take k))),.complex .f64 (F (xs[k]).1) (F (xs[k]).2)] w fun e w' =>
   e=.returned (.tuple #[.complex .f64 (F (sumA (xs.take (k+1)))) (F (sumC (xs.take (k+1)))),.int .i64 0])∧w'=w:=by
 have:=plus_at h hok hk w;obtain⟨e1,e2,e3⟩:=r_yes h'
 rwa [e1,e2,e3] at this
theorem plus_at_no{xs:List (Int×Int)}{k:Nat}(h:k<xs.length)(hok:okS (xs[k]).1 (xs[k]).2=true)(hk:okS (sumA (xs.take k)) (sumC (xs.take k))=true)(h':okS (sumA (xs.take (k+1))) (sumC (xs.take (k+1)))=false)(w:World) :
  Calls Tryz.prog 227 #[.complex .f64 (F (sumA (xs.take k))) (F (sumC (xs.take k))),.complex .f64 (F (xs[k]).1) (F (xs[k]).2)] w fun e w' =>
   e=.returned (.tuple #[.complex .f64 0 0,.int .i64 12])∧w'=w:=by
 have:=plus_at h hok hk w;obtain⟨e1,e2,e3⟩:=r_no h'
 rwa [e1,e2,e3,F_zero] at this
set_option maxHeartbeats 1000000 in
theorem total_F(b off n c:Nat)(xs:List (Int×Int))(w:World)(hn:xs.length=n)(hmax:n≤1000000)
  (hok:∀x∈xs,okS x.1 x.2=true)
  (hcell:∀i (h:i<xs.length),w.cell? ⟨b,off+i,none⟩=some (.complex .f64 (F (xs[i]).1) (F (xs[i]).2))) :
  Calls Tryz.prog 194 #[.slice (some ⟨b,off,none⟩) n c] w fun e w'=>e=.returned (.tuple #[.complex .f64 (F (rB (sumA xs) (sumC xs))) (F (rP (sumA xs) (sumC xs))),.int .i64 (rE (sumA xs) (sumC xs))])∧w'=w:=by
 subst hn;replace hcell:=HD hcell;replace hok:=HD hok;go_enter Tryz.func194,Tryz.ntmps194
 go_wp2
 go_loop [4,11] (fun s i=>∃k:Nat,k≤xs.length∧i=.int .i64 k∧s=.complex .f64 (F (sumA (xs.take k))) (F (sumC (xs.take k)))∧okS (sumA (xs.take k)) (sumC (xs.take k))=true) (fun _ i=>xs.length-(intOf i).toNat)
 case atStart=>exact⟨0,Nat.zero_le _,rfl,by simp [sumA,sumC,F_zero],by simp [sumA,sumC];exact ok_lit (by omega)⟩
 case round =>
  obtain⟨k,hk,rfl,rfl,hs⟩:=hrel;by_cases hlt:k<xs.length
  ·have hc:=hcell.out k hlt
   have hx:=HD (hok.out xs[k] (List.getElem_mem hlt));cases h':okS (sumA (xs.take (k+1))) (sumC (xs.take (k+1))) with
   |true =>
    have hp:=HD (fun w=>plus_at_yes hlt hx.out hs h' w);replace hs:=HD hs;replace h':=HD h';go_wp2_with fail;refine(hp.out _).mono ?_;rintro e w' ⟨rfl,hw⟩;obtain rfl:=hw.symm;go_wp2_with fail;go_round
    case rel=>exact⟨k+1,by omega,by go_num,rfl,h'.out⟩
    case measure=>simp [intOf];omega
   |false =>
    have hp:=HD (fun w=>plus_at_no hlt hx.out hs h' w);have hfin:=total_over hok.out h';obtain⟨e1,e2,e3⟩:=r_no hfin;have E:=HD (And.intro e1 (And.intro e2 e3));clear e1 e2 e3 hfin;replace hs:=HD hs;replace h':=HD h';go_wp2_with fail;refine(hp.out _).mono ?_;rintro e w' ⟨rfl,hw⟩;obtain rfl:=hw.symm;go_wp2_with fail;go_ret2
    rw [E.out.1,E.out.2.1,E.out.2.2,F_zero];exact⟨rfl,rfl⟩
  ·obtain rfl:k=xs.length:=by omega
   rw [List.take_length] at hs ⊢;obtain⟨e1,e2,e3⟩:=r_yes hs;have E:=HD (And.intro e1 (And.intro e2 e3));clear e1 e2 e3 hs;go_wp2
   go_ret2
   rw [E.out.1,E.out.2.1,E.out.2.2];exact⟨rfl,rfl⟩
end
section
structure QS where
 (lB lP cB cP rB rP:Int)
def QS.wf(q:QS):Prop:=0≤q.lB∧q.lB≤1099511627776∧0≤q.lP∧q.lP≤1099511627776∧0≤q.cB∧0≤q.cP∧0≤q.rB∧0≤q.rP∧q.cB+q.rB≤q.lB∧q.cP+q.rP≤q.lP
def QS.resE(q:QS)(b p:Int):Int:=if q.cB+q.rB+b≤q.lB∧q.cP+q.rP+p≤q.lP then 0 else 3
def QS.res(q:QS)(b p:Int):QS:=if q.cB+q.rB+b≤q.lB∧q.cP+q.rP+p≤q.lP then {q with rB:=q.rB+b,rP:=q.rP+p} else q
def QS.canE(q:QS)(b p:Int):Int:=if b≤q.rB∧p≤q.rP then 0 else 12
def QS.can(q:QS)(b p:Int):QS:=if b≤q.rB∧p≤q.rP then {q with rB:=q.rB-b,rP:=q.rP-p} else q
def QS.com(q:QS)(b p:Int):QS:=if b≤q.rB∧p≤q.rP then {q with rB:=q.rB-b,rP:=q.rP-p,cB:=q.cB+b,cP:=q.cP+p} else q
def QS.refE(q:QS)(b p:Int):Int:=if b≤q.cB∧p≤q.cP then 0 else 12
def QS.ref(q:QS)(b p:Int):QS:=if b≤q.cB∧p≤q.cP then {q with cB:=q.cB-b,cP:=q.cP-p} else q
def QS.siz(q:QS)(b p:Int):QS:=if q.cB+q.rB≤b∧q.cP+q.rP≤p then {q with lB:=b,lP:=p} else q
def QS.sizE(q:QS)(b p:Int):Int:=if q.cB+q.rB≤b∧q.cP+q.rP≤p then 0 else 3
def QS.op(q:QS)(k b p:Int):QS:=if k=1 then q.res b p else if k=2 then q.com b p else if k=3 then q.can b p else if k=4 then q.ref b p else q.siz b p
theorem QS.ok{q:QS}(h:q.wf):okS q.lB q.lP=true∧okS q.cB q.cP=true∧okS q.rB q.rP=true∧okS (q.cB+q.rB) (q.cP+q.rP)=true:=by
 obtain⟨h0,h1,h2,h3,h4,h5,h6,h7,h8,h9⟩:=h;exact⟨okS_iff.2 (by omega),okS_iff.2 (by omega),okS_iff.2 (by omega),okS_iff.2 (by omega)⟩
end
section
namespace Flt
open Ieee
end Flt
end
section
open Go.RowKit Flt
attribute [local irreducible] smallT unitT kindT perT pagesT alignT chargeT
theorem may_any(q:Int)(w:World) :
  Calls Tryz.prog 116 #[.int .i64 q] w fun e w'=>e=.returned (.bool (mayB q))∧w'=w:=by
 unfold mayB;by_cases h:1≤q
 ·rw [decide_eq_true h,Bool.true_and]
  go_enter Tryz.func116,Tryz.ntmps116
  go_wp2
  go_ret
  exact⟨rfl,rfl⟩
 ·rw [decide_eq_false h,Bool.false_and]
  have h':q<1:=by omega
  clear h;go_enter Tryz.func116,Tryz.ntmps116
  go_wp2
  go_ret
  exact⟨rfl,rfl⟩
theorem runs_any(q:Int)(w:World) :
  Calls Tryz.prog 117 #[.int .i64 q] w fun e w'=>e=.returned (.int .i64 (runsT q))∧w'=w:=by
 cases h:mayB q with
 |true =>
  rw [runs_in h];obtain⟨a,b⟩:=may_iff.1 h;go_enter Tryz.func117,Tryz.ntmps117
  go_wp2_with fail;refine(may_any _ _).mono ?_;rintro e w' ⟨rfl,hw⟩;obtain rfl:=hw.symm;clear hw;go_wp2_with fail;go_ret
  exact⟨rfl,rfl⟩
 |false =>
  rw [runs_out h];go_enter Tryz.func117,Tryz.ntmps117
  go_wp2_with fail;refine(may_any _ _).mono ?_;rintro e w' ⟨rfl,hw⟩;obtain rfl:=hw.symm;clear hw;go_wp2_with fail;go_ret
  exact⟨rfl,rfl⟩
theorem by_any(c q:Int)(w:World) :
  Calls Tryz.prog 118 #[.int .i64 c,.int .i64 q] w fun e w'=>e=.returned (.int .i64 (byT c q))∧w'=w:=by
 by_cases hc:0≤c∧c≤7
 ·obtain⟨h0,h1⟩:=hc
  obtain⟨p0,p1⟩:=per_pos h0 h1;cases h:mayB q with
  |true =>
   rw [by_in h0 h1 h];obtain⟨a,b⟩:=may_iff.1 h;obtain⟨u0,u1⟩:=unit_bound c;have u2:16≤unitT c:=by have:=per_unit h0 h1;omega
   have d0:0≤q/unitT c:=Int.ediv_nonneg (by omega) (by omega);have d1:q/unitT c≤65536:=Int.le_trans (Int.ediv_le_self _ (by omega)) b;go_enter Tryz.func118,Tryz.ntmps118
   go_wp2_with fail;refine(per_any _ _).mono ?_;rintro e w' ⟨rfl,hw⟩;obtain rfl:=hw.symm;clear hw;go_wp2_with fail;refine(may_any _ _).mono ?_;rintro e w' ⟨rfl,hw⟩;obtain rfl:=hw.symm;clear hw;go_wp2_with fail;refine(unit_any _ _).mono ?_;rintro e w' ⟨rfl,hw⟩;obtain rfl:=hw.symm;clear hw;go_wp2_with fail;go_ret
   exact⟨rfl,rfl⟩
  |false =>
   rw [by_zero (.inr h)];go_enter Tryz.func118,Tryz.ntmps118
   go_wp2_with fail;refine(per_any _ _).mono ?_;rintro e w' ⟨rfl,hw⟩;obtain rfl:=hw.symm;clear hw;go_wp2_with fail;refine(may_any _ _).mono ?_;rintro e w' ⟨rfl,hw⟩;obtain rfl:=hw.symm;clear hw;go_wp2_with fail;go_ret
   exact⟨rfl,rfl⟩
 ·have e:=per_out (c:=c) (by omega)
  rw [by_zero (.inl e)];have hp:∀w,Calls Tryz.prog 166 #[.int .i64 c] w fun e w'=>e=.returned (.int .i64 0)∧w'=w:=by
   intro w;have:=per_any c w;rwa [e] at this
  replace hp:=HD hp;clear e hc;go_enter Tryz.func118,Tryz.ntmps118
  go_wp2_with fail;refine(hp.out _).mono ?_;rintro e w' ⟨rfl,hw⟩;obtain rfl:=hw.symm;clear hw;go_wp2_with fail;go_ret
  exact⟨rfl,rfl⟩
theorem complex_addD{a b c d:Int}(h1:(a+c).natAbs<2^53)(h2:(b+d).natAbs<2^53)(ha:a.natAbs<2^53)(hb:b.natAbs<2^53)(hc:c.natAbs<2^53)(hd:d.natAbs<2^53)(w:World)(t:TypeId) :
  (binOp .add t (.complex .f64 (F a) (F b)) (.complex .f64 (F c) (F d))).run Tryz.prog w=.ok (.complex .f64 (F (a+c)) (F (b+d))) w :=
 run_complex_sum (P:=Tryz.prog) w .add (Or.inl rfl) t .f64 (F a) (F b) (F c) (F d) (F (a+c)) (F (b+d))
  (by unfold cSumBits floatBits;simp only [show FloatKind.f64.format=Ieee.double from rfl,add_val (val_F (n:=a) (by omega)) (val_F (n:=c) (by omega)) (by omega),add_val (val_F (n:=b) (by omega)) (val_F (n:=d) (by omega)) (by omega),Option.bind_some])
theorem demOf_yes(q:Int)(w:World)(h:mayB q=true) :
  Calls Tryz.prog 78 #[.int .i64 q] w fun e w'=>e=.returned (.tuple #[.complex .f64 (F q) (F (demT q)),.int .i64 0])∧w'=w:=by
 obtain⟨a,b⟩:=may_iff.1 h;obtain⟨r0,r1⟩:=runs_bound q;have H:=HD h;go_enter Tryz.func78,Tryz.ntmps78
 go_wp2_with fail;refine(may_any _ _).mono ?_;rintro e w' ⟨rfl,hw⟩;obtain rfl:=hw.symm;clear hw;go_wp2_with fail;refine(runs_any _ _).mono ?_;rintro e w' ⟨rfl,hw⟩;obtain rfl:=hw.symm;clear hw;go_wp2_with fail;go_loop [4,15] (fun x i=>∃k:Nat,k≤8∧i=.int .i64 k∧x=.complex .f64 (F q) (F (sumBy q k+runsT q))) (fun _ i=>8-(intOf i).toNat)
 case atStart=>exact⟨0,by omega,rfl,by unfold sumBy;rw [Int.zero_add];rfl⟩
 case round =>
  obtain⟨k,hk,rfl,rfl⟩:=hrel;obtain⟨s0,s1⟩:=sumBy_bound q k hk;by_cases hlt:k<8
  ·obtain⟨y0,y1⟩:=by_bound k q
   have hc:∀t,(binOp .add t (.complex .f64 (F q) (F (sumBy q k+runsT q))) (.complex .f64 0 (floatOfInt .f64 (byT k q)))).run Tryz.prog w=.ok (.complex .f64 (F q) (F (sumBy q (k+1)+runsT q))) w:=fun t=>by
    have hc:=complex_addD (a:=q) (b:=sumBy q k+runsT q) (c:=0) (d:=byT k q) (by omega) (by omega) (by omega) (by omega) (by omega) (by omega) w t;rw [show F 0=0 from F_zero,Int.add_zero,show sumBy q k+runsT q+byT k q=sumBy q (k+1)+runsT q by show _=sumBy q k+byT k q+runsT q;omega] at hc;exact hc
   generalize F (sumBy q k+runsT q)=fa at *;obtain⟨fb,hfb⟩:∃fb,fb=F (sumBy q (k+1)+runsT q):=⟨_,rfl⟩
   rw [←hfb] at hc;replace hfb:=HD hfb;go_wp2_with fail;refine(by_any _ _ _).mono ?_;rintro e w'' ⟨rfl,hw⟩;obtain rfl:=hw.symm;clear hw;go_wp2_with fail;go_round
   case rel=>exact⟨k+1,by omega,by go_num,by rw [hfb.out]⟩
   case measure=>simp [intOf];omega
  ·obtain rfl:k=8:=by omega
   go_wp2_with fail;go_ret2
   exact⟨rfl,rfl⟩
theorem demOf_no(q:Int)(w:World)(h:mayB q=false) :
  Calls Tryz.prog 78 #[.int .i64 q] w fun e w'=>e=.returned (.tuple #[.complex .f64 0 0,.int .i64 12])∧w'=w:=by
 go_enter Tryz.func78,Tryz.ntmps78
 go_wp2_with fail;refine(may_any _ _).mono ?_;rintro e w' ⟨rfl,hw⟩;obtain rfl:=hw.symm;clear hw;go_wp2_with fail;go_ret2
 exact⟨rfl,rfl⟩
theorem dem_ok{q:Int}(h:mayB q=true):okS q (demT q)=true:=by
 obtain⟨a,b⟩:=may_iff.1 h;have:=dem_bound q;exact okS_iff.2 (by omega)
theorem demFits_any(q p:Int)(w:World) :
  Calls Tryz.prog 49 #[.int .i64 q,.int .i64 p] w fun e w'=>e=.returned (.bool (mayB q&&decide (demT q≤p)))∧w'=w:=by
 cases h:mayB q with
 |true =>
  rw [Bool.true_and];have hk:=HD (dem_ok h);replace h:=HD h;go_enter Tryz.func49,Tryz.ntmps49
  go_wp2_with fail;refine(demOf_yes _ _ h.out).mono ?_;rintro e w' ⟨rfl,hw⟩;obtain rfl:=hw.symm;clear hw;go_wp2_with fail;refine(pages_F _ _ _ hk.out).mono ?_;rintro e w' ⟨rfl,hw⟩;obtain rfl:=hw.symm;clear hw;go_wp2_with fail;go_ret
  exact⟨rfl,rfl⟩
 |false =>
  rw [Bool.false_and];replace h:=HD h;go_enter Tryz.func49,Tryz.ntmps49
  go_wp2_with fail;refine(demOf_no _ _ h.out).mono ?_;rintro e w' ⟨rfl,hw⟩;obtain rfl:=hw.symm;clear hw;go_wp2_with fail;go_ret
  exact⟨rfl,rfl⟩
end
end Go.Proofs.YtfliaggjkianpaaGreatDoor
