import Derived.Test.YtfliaggjkianpaaGreatDoorK00
import Derived.Test.YtfliaggjkianpaaGreatDoorK05
import Derived.Deep.QuietTactic
import Derived.BigQuiet
import Derived.Test.YtfliaggjkianpaaGreatDoorK09
import Derived.Test.YtfliaggjkianpaaGreatDoorK01
import Derived.Test.YtfliaggjkianpaaGreatDoorK11
import Derived.WalkLawsBesides
import Derived.Test.YtfliaggjkianpaaGreatDoorK02
import Derived.Shelf.Abstract
set_option linter.unusedVariables false
set_option linter.unusedSimpArgs false
set_option maxRecDepth 100000
namespace Go.Proofs.YtfliaggjkianpaaGreatDoor
section
open Go.RowKit
attribute [local irreducible] smallT unitT kindT perT pagesT alignT chargeT
theorem slots_any(c:Int)(w:World) :
  Calls Tryz.prog 180 #[.int .i64 c] w fun e w'=>e=.returned (.int .i64 (slotsT c))∧w'=w:=by
 by_cases hc:c<0∨23<c
 ·rw [slots_out hc]
  have hp:=pages_out hc;clear hc;go_enter Tryz.func180,Tryz.ntmps180
  go_wp2_with (go_at_call 210;refine(pages_any _ _).mono ?_;rintro e w' ⟨rfl,hw⟩;obtain rfl:=hw.symm)
  go_ret
  exact⟨rfl,rfl⟩
 ·rw [slots_in (by omega) (by omega)]
  obtain⟨_,_,p0,p1,_⟩:=kind_facts (c:=c) (by omega) (by omega);clear hc;go_enter Tryz.func180,Tryz.ntmps180
  go_wp2_with (go_at_call 210;refine(pages_any _ _).mono ?_;rintro e w' ⟨rfl,hw⟩;obtain rfl:=hw.symm)
  go_ret
  exact⟨rfl,rfl⟩
theorem pages_bound(c:Int):0≤pagesT c∧pagesT c≤16:=by
 by_cases hc:c<0∨23<c
 ·rw [pages_out hc];omega
 ·have:=kind_facts (c:=c) (by omega) (by omega);omega
theorem step_any(c:Int)(w:World) :
  Calls Tryz.prog 229 #[.int .i64 c] w fun e w'=>e=.returned (.int .i64 (pagesT c*512))∧w'=w:=by
 obtain⟨p0,p1⟩:=pages_bound c;go_enter Tryz.func229,Tryz.ntmps229
 go_wp2_with (go_at_call 210;refine(pages_any _ _).mono ?_;rintro e w' ⟨rfl,hw⟩;obtain rfl:=hw.symm)
 go_ret
 exact⟨rfl,rfl⟩
theorem placeOf_yes(c s k:Int)(w:World)(h:thereT c s k=true) :
  Calls Tryz.prog 196 #[.int .i64 c,.int .i64 s,.int .i64 k] w fun e w'=>e=.returned (.tuple #[.int .i64 (posT c s k),.int .i64 0])∧w'=w:=by
 obtain⟨c0,c1⟩:=there_kind h;obtain⟨s0,s1,k0,k1⟩:=there_iff.1 h;obtain⟨b0,b1,b2,b3⟩:=pos_bounds h;obtain⟨u0,u1,p0,p1,n0,n1,_,r0,r1,_⟩:=kind_facts c0 c1;by_cases hr:1≤perT c
 ·rw [room_per hr] at k1 r1
  unfold posT;clear h;go_enter Tryz.func196,Tryz.ntmps196
  go_wp2_with (first|(go_at_call 180;refine(slots_any _ _).mono ?_;rintro e w' ⟨rfl,hw⟩;obtain rfl:=hw.symm)|(go_at_call 166;refine(per_any _ _).mono ?_;rintro e w' ⟨rfl,hw⟩;obtain rfl:=hw.symm)|(go_at_call 229;refine(step_any _ _).mono ?_;rintro e w' ⟨rfl,hw⟩;obtain rfl:=hw.symm)|(go_at_call 153;refine(unit_any _ _).mono ?_;rintro e w' ⟨rfl,hw⟩;obtain rfl:=hw.symm))
  all_goals
   go_ret2
   exact⟨rfl,rfl⟩
 ·rw [room_one (by omega)] at k1 r1
  unfold posT;clear h;go_enter Tryz.func196,Tryz.ntmps196
  go_wp2_with (first|(go_at_call 180;refine(slots_any _ _).mono ?_;rintro e w' ⟨rfl,hw⟩;obtain rfl:=hw.symm)|(go_at_call 166;refine(per_any _ _).mono ?_;rintro e w' ⟨rfl,hw⟩;obtain rfl:=hw.symm)|(go_at_call 229;refine(step_any _ _).mono ?_;rintro e w' ⟨rfl,hw⟩;obtain rfl:=hw.symm)|(go_at_call 153;refine(unit_any _ _).mono ?_;rintro e w' ⟨rfl,hw⟩;obtain rfl:=hw.symm))
  all_goals
   go_ret2
   exact⟨rfl,rfl⟩
theorem find_yes(a:Int)(w:World)(h:foundB a=true) :
  Calls Tryz.prog 207 #[.int .i64 a] w fun e w'=>e=.returned (.tuple #[.int .i64 (kdT a),.int .i64 (slT a),.int .i64 (nrT a),.int .i64 0])∧∃n,w'=w.drewN n:=by
 obtain⟨a0,a1,ht,hp⟩:=found_iff.1 h;clear h;obtain⟨c0,c1⟩:=kd_bound a0 a1;obtain⟨u0,u1,p0,p1,_⟩:=kind_facts c0 c1;have e0:a/131072-1=kdT a:=rfl;have g0:0≤a%131072%(pagesT (kdT a)*512):=Int.emod_nonneg _ (by omega);have g1:a%131072%(pagesT (kdT a)*512)<pagesT (kdT a)*512:=Int.emod_lt_of_pos _ (by omega);have e1:a%131072/(pagesT (kdT a)*512)=slT a:=rfl;have e2:a%131072%(pagesT (kdT a)*512)/unitT (kdT a)=nrT a:=rfl;have hq:(posT (kdT a) (slT a) (nrT a) != a)=false:=by simp [hp]
 clear hp;go_enter Tryz.func207,Tryz.ntmps207
 go_wp2_with (first|(go_at_call 229;refine(step_any _ _).mono ?_;rintro e w' ⟨rfl,hw⟩;obtain rfl:=hw.symm))
 go_quiet ((first|(go_at_call 229;exact Calls.quiet_of_same (step_any _ _))|(go_at_call 153;exact Calls.quiet_of_same (unit_any _ _))))
 go_wp2_with (go_at_call 196;refine(placeOf_yes _ _ _ _ ht).mono ?_;rintro e w' ⟨rfl,hw⟩;obtain rfl:=hw.symm)
 exact bodyPost_ret (v:=.tuple #[.int .i64 (kdT a),.int .i64 (slT a),.int .i64 (nrT a),.int .i64 0]) (by simp [results,Tryz.results207,go_sem]) rfl ⟨rfl,nq,rfl⟩
def insideB(a n:Int):Bool:=decide (0≤n)&&decide (131072≤a)&&decide (a≤3276800)&&decide (n≤3276800-a)
theorem inside_no{a n:Int}(h:n<0∨a<131072∨3276800<a):insideB a n=false:=by
 unfold insideB;rcases h with h|h|h
 ·rw [decide_eq_false (by omega:¬0≤n)];rfl
 ·rw [decide_eq_false (by omega:¬131072≤a)];simp
 ·rw [decide_eq_false (by omega:¬a≤3276800)];simp
theorem inside_in{a n:Int}(h0:0≤n)(h1:131072≤a)(h2:a≤3276800):insideB a n=decide (n≤3276800-a):=by
 unfold insideB;rw [decide_eq_true h0,decide_eq_true h1,decide_eq_true h2];simp
theorem within2_any(a n:Int)(w:World) :
  Calls Tryz.prog 238 #[.int .i64 a,.int .i64 n] w fun e w'=>e=.returned (.bool (insideB a n))∧w'=w:=by
 by_cases h0:n<0
 ·rw [inside_no (.inl h0)]
  go_enter Tryz.func238,Tryz.ntmps238
  go_wp2
  go_ret
  exact⟨rfl,rfl⟩
 by_cases h1:a<131072
 ·rw [inside_no (.inr (.inl h1))]
  have h0':0≤n:=by omega
  go_enter Tryz.func238,Tryz.ntmps238
  go_wp2
  go_ret
  exact⟨rfl,rfl⟩
 have h0':0≤n:=by omega
 have h1':131072≤a:=by omega
 by_cases h2:3276800<a
 ·rw [inside_no (.inr (.inr h2))]
  go_enter Tryz.func238,Tryz.ntmps238
  go_wp2
  go_ret
  exact⟨rfl,rfl⟩
 have h2':a≤3276800:=by omega
 rw [inside_in h0' h1' h2'];clear h0 h1 h2;go_enter Tryz.func238,Tryz.ntmps238
 go_wp2
 go_ret
 exact⟨rfl,rfl⟩
end
section
open Go.RowKit Flt
def spans(T:List (Int×Int)):List Value:=T.flatMap fun x=>[.int .i64 x.1,.int .i64 x.2,.bool false]
theorem spans_append(A B:List (Int×Int)):spans (A++B)=spans A++spans B:=by unfold spans;simp
def Spn(w:World)(base:Nat)(v:Value)(T:List (Int×Int)):Prop:=w.ownsRow base 217 3 v T.length (spans T)
theorem ptIn(a:Int)(w:World)(h0:131072≤a)(h1:a<3276800) :
  Calls Tryz.prog 239 #[.int .i64 a] w fun e w'=>e=.returned (.tuple #[.complex .f64 (F (a/512)) (F (a%512)),.int .i64 0])∧w'=w:=by
 go_enter Tryz.func239,Tryz.ntmps239
 go_wp2
 go_ret2
 exact⟨rfl,rfl⟩
theorem conv_F(n:Int)(h:n.natAbs<2^53)(w:World):(convert 183 3 (.float .f64 (F n))).run Tryz.prog w=.ok (.int .i64 n) w:=by
 refine run_convert_float_int w 183 3 .f64 .i64 (F n) n (by rw [Tryz.underlying183];rfl) Tryz.underlying3 ?_;unfold floatToIntVal;rw [show FloatKind.f64.decode (F n)=Ieee.double.read (F n) from rfl,toInt_F h];simp only;rw [if_pos];have:(2:Nat)^53=9007199254740992:=by decide
 simp [IntKind.min,IntKind.max,IntKind.signed,IntKind.bits];omega
def pcL(pg:List (Int×Int)):Nat→Int→Int→Option (List (Int×Int))
 |0,_,_=>some []
 |f+1,a,n=>if n≤0 then some [] else if lookV pg (a/512)<0 then none else
  (pcL pg f (a+min n (512-a%512)) (n-min n (512-a%512))).map (fun r=>(lookV pg (a/512)*512+a%512,min n (512-a%512)) :: r)
def pcErr:Option (List (Int×Int))→Int
 |none=>4
 |some _=>0
def TbS.pcE(s:TbS)(a n:Int):Int:=if insideB a n=true then pcErr (pcL s.pg n.toNat a n) else 4
def TbS.pcs(s:TbS)(a n:Int):List (Int×Int):=if insideB a n=true then (pcL s.pg n.toNat a n).getD [] else []
theorem inside_iff{a n:Int}:insideB a n=true↔0≤n∧131072≤a∧a≤3276800∧n≤3276800-a:=by
 unfold insideB;simp only [Bool.and_eq_true,decide_eq_true_eq,and_assoc]
theorem lookV_bound{M:List (Int×Int)}(hv:∀p∈M,0≤p.2∧p.2<1048577)(k:Int):-1≤lookV M k∧lookV M k<1048577:=by
 by_cases h:lookV M k<0
 ·unfold lookV at *
  cases hg:mGet M k with
  |none=>simp
  |some v=>rw [hg] at h;have:=hv _ (mGet_mem hg);simp at h this;omega
 ·have:=hv _ (lookV_mem h);simp at this;omega
theorem pcL_out{pg:List (Int×Int)}:∀(f:Nat) (a n:Int),n≤0→pcL pg f a n=some []
 |0,_,_,_=>rfl
 |f+1,a,n,h=>by unfold pcL;rw [if_pos h]
set_option maxHeartbeats 1000000 in
theorem tbPieces(b:Nat)(a0 n0:Int)(w:World){o:Nat→Tag}{t:Tag}{s:TbS}(h:TbAt w o t b s)(hv:∀p∈s.pg,0≤p.2∧p.2<1048577) :
  Calls Tryz.prog 211 #[.pointer (some ⟨b,0,none⟩),.int .i64 a0,.int .i64 n0] w fun e w'=>∃v,e=.returned (.tuple #[v,.int .i64 (s.pcE a0 n0)])∧Spn w' w.heap.size v (s.pcs a0 n0)∧Below w.heap.size w w':=by
 have hs:=HD h;have hin:=within2_any a0 n0;obtain⟨i0,hi,hz0,hz1,hz2⟩:=info_parts infoSpan;by_cases h1:insideB a0 n0=true
 ·obtain⟨q1,q2,q3,q4⟩:=inside_iff.1 h1
  have hpE:s.pcE a0 n0=pcErr (pcL s.pg n0.toNat a0 n0):=if_pos h1;have hpL:s.pcs a0 n0=(pcL s.pg n0.toNat a0 n0).getD []:=if_pos h1;rw [hpE,hpL];rw [h1] at hin;replace hv:=HD hv;clear hpL hpE h1 h;generalize hR:pcL s.pg n0.toNat a0 n0=R at *;replace hR:=HD hR;go_enter Tryz.func211,Tryz.ntmps211
  go_wp2_with fail;refine SM (hin _) ?_;go_wp2_with fail;go_loopg [1,2,6] n0.toNat (fun gh ai ni v wx=>∃(a n:Int) (A:List (Int×Int)),ai=.int .i64 a∧ni=.int .i64 n∧n.toNat≤gh∧131072≤a∧0≤n∧n≤3276800-a∧Hid (R=(pcL s.pg gh a n).map (A++·))∧A.length≤n0-n∧Spn wx w.heap.size v A∧Below w.heap.size w wx)
  case atStart=>exact⟨a0,n0,[],rfl,rfl,Nat.le_refl _,q2,q1,q4,HD (by rw [hR.out];simp),by simp,⟨rfl,.inl ⟨rfl,rfl⟩⟩,Below.refl _ _⟩
  case round =>
   obtain⟨a,n,A,rfl,rfl,hgh,r1,r2,r3,hL,hA,hS,hB⟩:=hrel;replace hS:=HD hS;replace hB:=HD hB;by_cases hn:0<n
   ·have hT:TbAt wr o t b s:=hs.out.fr (Fr.below (S:=fun _=>False) hB.out) ⟨fun _ _ q=>q,fun q=>q⟩
    have hat:=HD (ptIn a wr r1 (by omega));have hf:=HD (tbFind b (a/512) wr hT);have hlb:=lookV_bound hv.out (a/512);have c1:=fun w=>conv_F (a/512) (by omega) w
    have c2:=fun w=>conv_F (a%512) (by omega) w
    have hL2:=hL.out;obtain⟨f,rfl⟩:∃f:Nat,gk=f+1:=⟨gk-1,by omega⟩
    unfold pcL at hL2;rw [if_neg (by omega)] at hL2;have ho1:0≤a%512:=by omega
    have ho2:a%512<512:=by omega
    have hqb:0≤a/512∧a/512≤6400:=by omega
    clear hT;generalize a/512=q at *;generalize a%512=y at *;generalize lookV s.pg q=z at *;generalize F q=fq at *;generalize F y=fy at *;by_cases hz:z<0
    ·rw [if_pos hz] at hL2
     replace hL2:=HD hL2;go_wp2_with fail;refine SM hat.out ?_;go_wp2_with fail;refine SM hf.out ?_;go_wp2_with fail;go_ret2
     have hR0:R=none:=hL2.out;rw [hR0];exact⟨_,rfl,⟨rfl,.inl ⟨rfl,rfl⟩⟩,hB.out⟩
    ·rw [if_neg hz] at hL2
     replace hL2:=HD hL2;have hm:Hid (1≤min n (512-y)∧min n (512-y)≤n∧min n (512-y)≤512-y):=HD (by omega);have hbs:=HD hB.out.size;have hB2:=HD (hB.out.alloc hB.out.size (.cells #[.int .i64 (z*512+y),.int .i64 (min n (512-y)),.bool false] 217));go_wp2_with fail;refine SM hat.out ?_;go_wp2_with fail;refine SM hf.out ?_;go_wp2_with (at_builtin;refine wpList_append_own _ rfl _ _ 74 rfl w.heap.size 217 i0 (.agg #[.int .i64 0,.int .i64 0,.bool false]) 3 24 Tryz.underlying74 hi hz0 hz1 hz2 rfl (by decide) _ _ _ rfl (hS.out.alloc _) _ 1 1 [.int .i64 (z*512+y),.int .i64 (min n (512-y)),.bool false] rfl rfl ?c1 ?c2 ?c3 ?c4 ?c5 ?_)
     case c1 =>
      intro q u hq;match q,hq with
      |0,hq=>simp at hq;subst hq;simp [Addr.add]
      |1,hq=>simp at hq;subst hq;simp [Addr.add]
      |2,hq=>simp at hq;subst hq;simp [Addr.add]
     case c2=>intro u hu;simp at hu;rcases hu with rfl|rfl|rfl<;>rfl
     case c3=>unfold maxLen;omega
     case c4=>omega
     case c5=>simp;have:=hbs.out;omega
     intro v2 w2 hr2 hg2 _;have hr3:Spn w2 w.heap.size v2 (A++[(z*512+y,min n (512-y))]):=by
      unfold Spn;rw [spans_append,List.length_append];exact hr2
     have hB3:Below w.heap.size w w2:=hB2.out.grown hg2 (by simp;have:=hbs.out;omega) (fun k hk=>(hS.out.lt k hk).1);have hm1:=hm.out;have hlen:((A++[(z*512+y,min n (512-y))]).length:Int)=A.length+1:=by simp
     have hL3:R=(pcL s.pg f (a+min n (512-y)) (n-min n (512-y))).map ((A++[(z*512+y,min n (512-y))])++·):=by
      rw [hL2.out,Option.map_map]
      congr 1
      funext r
      simp
     replace hL3:=HD hL3;generalize A++[(z*512+y,min n (512-y))]=A2 at *;replace hr3:=HD hr3;replace hB3:=HD hB3;clear hr2 hg2 hL2 hL hm hB2;generalize min n (512-y)=m at *;go_wp2_with fail;go_roundg f
     case measure=>omega
     case rel=>exact⟨a+m,n-m,A2,by go_num,by go_num,by omega,by omega,by omega,by omega,hL3,by omega,hr3.out,hB3.out⟩
   ·obtain rfl:n=0:=by omega
    go_wp2_with fail;go_ret2
    have hR0:R=some A:=by rw [hL.out,pcL_out _ _ _ (Int.le_refl 0)];simp
    rw [hR0];exact⟨_,rfl,hS.out,hB.out⟩
 ·have h1':insideB a0 n0=false:=by simpa using h1
  have hpE:s.pcE a0 n0=4:=if_neg h1;have hpL:s.pcs a0 n0=[]:=if_neg h1;rw [hpE,hpL];rw [h1'] at hin;clear hpL hpE h1 h hv;go_enter Tryz.func211,Tryz.ntmps211
  go_wp2_with fail;refine SM (hin _) ?_;go_wp2_with fail;go_ret2
  exact⟨_,rfl,⟨rfl,.inl ⟨rfl,rfl⟩⟩,Below.refl _ _⟩
end
section
open Go.RowKit
def dones(T:List (Int×Int))(i:Nat):Int:=((T.take i).map (·.2)).sum
theorem dones_succ{T:List (Int×Int)}{i:Nat}{x:Int×Int}(h:T[i]? = some x):dones T (i+1)=dones T i+x.2:=by
 unfold dones;obtain⟨hi,e⟩:=List.getElem?_eq_some_iff.1 h;rw [List.take_succ_eq_append_getElem hi,e];simp
def spanV(x:Int×Int):Value:=.agg #[.int .i64 x.1,.int .i64 x.2,.bool false]
theorem each_any(F:Nat)(hF:Enters Tryz.prog F)(caps:Array Value)(g c:Nat)(p:Option Addr)(T:List (Int×Int))(Inv:Nat→World→Prop)(w:World)
  (hp:T≠[]→p=some ⟨g,0,none⟩) (hT:T.length≤100000) (hd:∀i,i≤T.length→0≤dones T i∧dones T i≤1000000000)
  (hcell:∀i w1,Inv i w1→∀j x,T[j]? = some x→w1.cell? ⟨g,j*3,none⟩=some (.int .i64 x.1)∧w1.cell? ⟨g,j*3+1,none⟩=some (.int .i64 x.2)∧w1.cell? ⟨g,j*3+2,none⟩=some (.bool false))
  (hstep:∀i w1 x,T[i]? = some x→Inv i w1→Calls Tryz.prog F (#[spanV x,.int .i64 (dones T i)]++caps) w1 fun e w2=>e=.returned (.tuple #[])∧Inv (i+1) w2) (h0:Inv 0 w) :
  Calls Tryz.prog 155 #[.slice p T.length c,.func (.func F) #[] caps] w fun e w'=>e=.returned (.tuple #[])∧Inv T.length w':=by
 replace hF:=hF;unfold Enters at hF;replace hcell:=HD hcell;replace hstep:=HD hstep;replace hd:=HD hd;replace hp:=HD hp;go_enter Tryz.func155,Tryz.ntmps155
 go_wp2_with fail;refine wp_scope_round 0 (fun a' w'=>∃(k:Nat) (u2 u3 u6 u7 u8 u9 u10 u11 u12 u13 u14 u15 u16 u17 u18 u19 u20 u21 u22 u23 u24 u25:Value),a'={tmps:=#[.slice p T.length c,.func (.func F) #[] caps,u2,u3,.int .i64 k,.int .i64 (dones T k),u6,u7,u8,u9,u10,u11,u12,u13,u14,u15,u16,u17,u18,u19,u20,u21,u22,u23,u24,u25],defers:=[]}∧k≤T.length∧Hid (Inv k w')) (fun a' _=>T.length-(intOf (a'.tmps.getD 4 undef)).toNat) rfl ?_ ?_
 ·rintro a' w1 ⟨k,u2,u3,u6,u7,u8,u9,u10,u11,u12,u13,u14,u15,u16,u17,u18,u19,u20,u21,u22,u23,u24,u25,rfl,hk,hg⟩
  by_cases hlt:k<T.length
  ·have hdec:decide ((k:Int)<(T.length:Int))=true:=decide_eq_true (by omega)
   have hx:T[k]? = some T[k]:=List.getElem?_eq_getElem hlt;obtain⟨a1,a2,a3⟩:=hcell.out k w1 hg.out k _ hx;have hcall:=HD (hstep.out k w1 _ hx hg.out);obtain rfl:=hp.out (fun e=>by rw [e] at hlt;simp at hlt);have hds:=dones_succ hx;have hd1:=hd.out k hk;have hd2:=hd.out (k+1) (by omega);unfold spanV at hcall;generalize T[k]=x at *;have u1:IntKind.i64.wrap (dones T k+x.2)=dones T (k+1):=by rw [hds];exact IntWalk.i64_in _ (by omega)
   have u2':=IntWalk.i64_in ((k:Int)+1) (by omega);have hcell2:=HD (fun w2 (q:Inv (k+1) w2)=>(hcell.out (k+1) w2 q k x hx).2.1);clear hp hcell hstep hd hds hd1 hd2 hx;go_wp2_with fail;refine hcall.out.mono ?_;rintro e w2 ⟨rfl,hI⟩;have b2:=hcell2.out w2 hI;replace hI:=HD hI;go_wp2_with fail;go_step3
   rw [show ((k:Int)+1)=((k+1:Nat):Int) from rfl];refine⟨rfl,⟨k+1,_,_,_,_,_,_,_,_,_,_,_,_,_,_,_,_,_,_,_,_,_,_,rfl,by omega,hI⟩,?_⟩;simp [intOf]
   omega
  ·obtain rfl:k=T.length:=by omega
   have hdec:decide ((T.length:Int)<(T.length:Int))=false:=decide_eq_false (by omega);go_wp2_with fail;simp only [Exit.jump];exact bodyPost_end (results_none (by kernel_rfl) _ _ _) rfl ⟨rfl,hg.out⟩
 ·intro H
  go_wp2_with fail;go_step3
  rename_i K hK;exact hK _ _ <| H _ _ ⟨0,_,_,_,_,_,_,_,_,_,_,_,_,_,_,_,_,_,_,_,_,_,_,rfl,Nat.zero_le _,HD h0⟩
end
end Go.Proofs.YtfliaggjkianpaaGreatDoor
