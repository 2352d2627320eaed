import Derived.Test.YtfliaggjkianpaaGreatDoorK00
import Derived.Test.YtfliaggjkianpaaGreatDoorK35
import Derived.Test.YtfliaggjkianpaaGreatDoorK34
set_option linter.unusedVariables false
set_option linter.unusedSimpArgs false
set_option maxRecDepth 100000
namespace Go.Proofs.YtfliaggjkianpaaGreatDoor
section
open Go.RowKit Flt
section
variable{w:World}{g:Nat}{rest:ByteArray}{sh:Bool}
set_option maxHeartbeats 4000000 in
theorem tpStep_some(h:TpAt w g rest sh)(hr:rest.size≤100000)(h0:rest≠⟨#[]⟩) :
  Calls Tryz.prog 43 #[eP g] w (StPost w g):=by
 have hlt:=h.lt;have d0:rest.toList.isEmpty=false:=by
  rw [←decide_eq_emptyBytes];exact decide_eq_false h0
 have c0:(w.alloc (.cells #[.int .i64 0,.int .i64 0,.int .i64 0,.int .i64 0,.int .u64 0,.string ⟨#[]⟩,.int .i64 0] 34)).cell? ⟨g,0,none⟩=some (.string rest):=(h.blk.alloc _).cell' (i:=0) rfl;have hS:StAt (w.alloc (.cells #[.int .i64 0,.int .i64 0,.int .i64 0,.int .i64 0,.int .u64 0,.string ⟨#[]⟩,.int .i64 0] 34)) w.heap.size st0:=heap_alloc_new w _;have hT:TpS w g w.heap.size st0 (w.alloc (.cells #[.int .i64 0,.int .i64 0,.int .i64 0,.int .i64 0,.int .u64 0,.string ⟨#[]⟩,.int .i64 0] 34)):=⟨hS,⟨_,_,(h.blk.alloc _).2,hr⟩,(Only.refl _ _).alloc _⟩
 have hn:w.heap.size≤w.heap.size:=Nat.le_refl _;have hne:w.heap.size≠g:=by omega
 have h1:=HD (hT.one hn hne);clear h hS hT hr h0;go_enter Tryz.func43,Tryz.ntmps43
 go_wp2_with fail;generalize w.alloc (.cells #[.int .i64 0,.int .i64 0,.int .i64 0,.int .i64 0,.int .u64 0,.string ⟨#[]⟩,.int .i64 0] 34)=W at *;generalize hnn:w.heap.size=n at hne hlt c0 h1 ⊢;replace hn:w.heap.size≤n:=by omega
 clear hnn;go_step3
 go_wp2_with fail;refine h1.out.mono ?_;rintro e w1 ⟨v,hv,rfl,t1⟩;obtain⟨K,hK,hKr⟩:∃K,v.tmod 16=K∧0≤K∧K≤15:=⟨v.tmod 16,rfl,by rw [Int.tmod_eq_emod_of_nonneg hv.1];omega,by rw [Int.tmod_eq_emod_of_nonneg hv.1];omega⟩
 have t2:=t1.set hn hne (i:=0) (v:=.int .i64 K) (y:=⟨⟨K,0,0,0,0,⟨#[]⟩⟩,0⟩) rfl;obtain⟨k0,k1,k2,k3,k4,k5,k6,f0,f1,f2,f3,f4,f5,f6⟩:=t1.st.k;have h2:=HD (t2.one hn hne);clear h1 t1 t2 c0 d0;go_wp2_with fail;refine h2.out.mono ?_;rintro e w2 ⟨T,hT,rfl,t3⟩;clear k0 k1 k2 k3 k4 k5 k6 f0 f1 f2 f3 f4 f5 f6 h2 hv hK;have s3:=t3.set hn hne (i:=1) (v:=.int .i64 T) (y:=⟨⟨K,T,0,0,0,⟨#[]⟩⟩,0⟩) rfl;obtain⟨k0,k1,k2,k3,k4,k5,k6,f0,f1,f2,f3,f4,f5,f6⟩:=t3.st.k;clear t3;rcases(by omega:K=0∨K=1∨K=2∨K=3∨K=4∨K=5∨K=6∨K=7∨K=8∨K=9∨K=10∨K=11∨K=12∨K=13∨K=14∨K=15) with rfl|rfl|rfl|rfl|rfl|rfl|rfl|rfl|rfl|rfl|rfl|rfl|rfl|rfl|rfl|rfl
 ·have hdone:=trivial
  obtain⟨r,sh,t1,t2⟩:=s3.tp;have c1:=t1.blk.cell' (i:=1) (v:=.bool sh) rfl;clear t1 t2;cases sh
  ·have z:=HD (s3.store hn hne ⟨⟨0,T,0,0,0,⟨#[]⟩⟩,0⟩)
   clear s3;go_wp2_with fail;refine bodyPost_ret (v:=.tuple #[stpV ⟨⟨0,T,0,0,0,⟨#[]⟩⟩,0⟩,.bool true]) ?_ rfl ⟨⟨⟨0,T,0,0,0,⟨#[]⟩⟩,0⟩,true,⟨(by show (0:Int)≤0∧(0:Int)≤15;decide),hT,(by show (-32768:Int)≤0∧(0:Int)≤32767;decide),(by show (-32768:Int)≤0∧(0:Int)≤32767;decide),(by show (0:Nat)<18446744073709551616;decide),Nat.zero_le _,(by show (0:Int)≤0∧(0:Int)≤254;decide)⟩,rfl,z.out.post⟩;exact step_results (by kernel_rfl) _ _ rfl rfl z.out.st
  ·have z:=HD (s3.store hn hne ⟨⟨0,0,0,0,0,⟨#[]⟩⟩,0⟩)
   clear s3;go_wp2_with fail;go_step3
   go_wp2_with fail;rw [Exit.noGoto_ret];refine bodyPost_ret (v:=.tuple #[stpV ⟨⟨0,0,0,0,0,⟨#[]⟩⟩,0⟩,.bool false]) ?_ rfl ⟨⟨⟨0,0,0,0,0,⟨#[]⟩⟩,0⟩,false,⟨(by show (0:Int)≤0∧(0:Int)≤15;decide),(by show (0:Int)≤0∧(0:Int)≤255;decide),(by show (-32768:Int)≤0∧(0:Int)≤32767;decide),(by show (-32768:Int)≤0∧(0:Int)≤32767;decide),(by show (0:Nat)<18446744073709551616;decide),Nat.zero_le _,(by show (0:Int)≤0∧(0:Int)≤254;decide)⟩,rfl,z.out.post⟩;exact step_results (by kernel_rfl) _ _ rfl rfl z.out.st
 ·have hdone:=trivial
  have hh:=HD (s3.num hn hne);clear s3;go_wp2_with fail;refine hh.out.mono ?_;rintro e w3 ⟨N,hN,rfl,s5⟩;clear k0 k1 k2 k3 k4 k5 k6 f0 f1 f2 f3 f4 f5 f6 hh;obtain⟨k0,k1,k2,k3,k4,k5,k6,f0,f1,f2,f3,f4,f5,f6⟩:=s5.st.k;have hh:=HD (s5.num hn hne);clear s5;go_wp2_with fail;refine hh.out.mono ?_;rintro e w3 ⟨M,hM,rfl,s6⟩;clear k0 k1 k2 k3 k4 k5 k6 f0 f1 f2 f3 f4 f5 f6 hh;obtain⟨k0,k1,k2,k3,k4,k5,k6,f0,f1,f2,f3,f4,f5,f6⟩:=s6.st.k;have s7:=s6.set hn hne (i:=2) (v:=.int .i64 N) (y:=⟨⟨1,T,N,0,0,⟨#[]⟩⟩,0⟩) rfl;replace s7:=s7.set hn hne (i:=3) (v:=.int .i64 M) (y:=⟨⟨1,T,N,M,0,⟨#[]⟩⟩,0⟩) rfl;clear s6;obtain⟨r,sh,t1,t2⟩:=s7.tp;have c1:=t1.blk.cell' (i:=1) (v:=.bool sh) rfl;clear t1 t2;cases sh
  ·have z:=HD (s7.store hn hne ⟨⟨1,T,N,M,0,⟨#[]⟩⟩,0⟩)
   clear s7;go_wp2_with fail;refine bodyPost_ret (v:=.tuple #[stpV ⟨⟨1,T,N,M,0,⟨#[]⟩⟩,0⟩,.bool true]) ?_ rfl ⟨⟨⟨1,T,N,M,0,⟨#[]⟩⟩,0⟩,true,⟨(by show (0:Int)≤1∧(1:Int)≤15;decide),hT,hN,hM,(by show (0:Nat)<18446744073709551616;decide),Nat.zero_le _,(by show (0:Int)≤0∧(0:Int)≤254;decide)⟩,rfl,z.out.post⟩;exact step_results (by kernel_rfl) _ _ rfl rfl z.out.st
  ·have z:=HD (s7.store hn hne ⟨⟨0,0,0,0,0,⟨#[]⟩⟩,0⟩)
   clear s7;go_wp2_with fail;go_step3
   go_wp2_with fail;rw [Exit.noGoto_ret];refine bodyPost_ret (v:=.tuple #[stpV ⟨⟨0,0,0,0,0,⟨#[]⟩⟩,0⟩,.bool false]) ?_ rfl ⟨⟨⟨0,0,0,0,0,⟨#[]⟩⟩,0⟩,false,⟨(by show (0:Int)≤0∧(0:Int)≤15;decide),(by show (0:Int)≤0∧(0:Int)≤255;decide),(by show (-32768:Int)≤0∧(0:Int)≤32767;decide),(by show (-32768:Int)≤0∧(0:Int)≤32767;decide),(by show (0:Nat)<18446744073709551616;decide),Nat.zero_le _,(by show (0:Int)≤0∧(0:Int)≤254;decide)⟩,rfl,z.out.post⟩;exact step_results (by kernel_rfl) _ _ rfl rfl z.out.st
 ·have hdone:=trivial
  have hh:=HD (s3.num hn hne);clear s3;go_wp2_with fail;refine hh.out.mono ?_;rintro e w3 ⟨N,hN,rfl,s5⟩;clear k0 k1 k2 k3 k4 k5 k6 f0 f1 f2 f3 f4 f5 f6 hh;obtain⟨k0,k1,k2,k3,k4,k5,k6,f0,f1,f2,f3,f4,f5,f6⟩:=s5.st.k;have hh:=HD (s5.num hn hne);clear s5;go_wp2_with fail;refine hh.out.mono ?_;rintro e w3 ⟨M,hM,rfl,s6⟩;clear k0 k1 k2 k3 k4 k5 k6 f0 f1 f2 f3 f4 f5 f6 hh;obtain⟨k0,k1,k2,k3,k4,k5,k6,f0,f1,f2,f3,f4,f5,f6⟩:=s6.st.k;have s7:=s6.set hn hne (i:=2) (v:=.int .i64 N) (y:=⟨⟨2,T,N,0,0,⟨#[]⟩⟩,0⟩) rfl;replace s7:=s7.set hn hne (i:=3) (v:=.int .i64 M) (y:=⟨⟨2,T,N,M,0,⟨#[]⟩⟩,0⟩) rfl;clear s6;obtain⟨r,sh,t1,t2⟩:=s7.tp;have c1:=t1.blk.cell' (i:=1) (v:=.bool sh) rfl;clear t1 t2;cases sh
  ·have z:=HD (s7.store hn hne ⟨⟨2,T,N,M,0,⟨#[]⟩⟩,0⟩)
   clear s7;go_wp2_with fail;refine bodyPost_ret (v:=.tuple #[stpV ⟨⟨2,T,N,M,0,⟨#[]⟩⟩,0⟩,.bool true]) ?_ rfl ⟨⟨⟨2,T,N,M,0,⟨#[]⟩⟩,0⟩,true,⟨(by show (0:Int)≤2∧(2:Int)≤15;decide),hT,hN,hM,(by show (0:Nat)<18446744073709551616;decide),Nat.zero_le _,(by show (0:Int)≤0∧(0:Int)≤254;decide)⟩,rfl,z.out.post⟩;exact step_results (by kernel_rfl) _ _ rfl rfl z.out.st
  ·have z:=HD (s7.store hn hne ⟨⟨0,0,0,0,0,⟨#[]⟩⟩,0⟩)
   clear s7;go_wp2_with fail;go_step3
   go_wp2_with fail;rw [Exit.noGoto_ret];refine bodyPost_ret (v:=.tuple #[stpV ⟨⟨0,0,0,0,0,⟨#[]⟩⟩,0⟩,.bool false]) ?_ rfl ⟨⟨⟨0,0,0,0,0,⟨#[]⟩⟩,0⟩,false,⟨(by show (0:Int)≤0∧(0:Int)≤15;decide),(by show (0:Int)≤0∧(0:Int)≤255;decide),(by show (-32768:Int)≤0∧(0:Int)≤32767;decide),(by show (-32768:Int)≤0∧(0:Int)≤32767;decide),(by show (0:Nat)<18446744073709551616;decide),Nat.zero_le _,(by show (0:Int)≤0∧(0:Int)≤254;decide)⟩,rfl,z.out.post⟩;exact step_results (by kernel_rfl) _ _ rfl rfl z.out.st
 ·have hdone:=trivial
  obtain⟨r,sh,t1,t2⟩:=s3.tp;have c1:=t1.blk.cell' (i:=1) (v:=.bool sh) rfl;clear t1 t2;cases sh
  ·have z:=HD (s3.store hn hne ⟨⟨3,T,0,0,0,⟨#[]⟩⟩,0⟩)
   clear s3;go_wp2_with fail;refine bodyPost_ret (v:=.tuple #[stpV ⟨⟨3,T,0,0,0,⟨#[]⟩⟩,0⟩,.bool true]) ?_ rfl ⟨⟨⟨3,T,0,0,0,⟨#[]⟩⟩,0⟩,true,⟨(by show (0:Int)≤3∧(3:Int)≤15;decide),hT,(by show (-32768:Int)≤0∧(0:Int)≤32767;decide),(by show (-32768:Int)≤0∧(0:Int)≤32767;decide),(by show (0:Nat)<18446744073709551616;decide),Nat.zero_le _,(by show (0:Int)≤0∧(0:Int)≤254;decide)⟩,rfl,z.out.post⟩;exact step_results (by kernel_rfl) _ _ rfl rfl z.out.st
  ·have z:=HD (s3.store hn hne ⟨⟨0,0,0,0,0,⟨#[]⟩⟩,0⟩)
   clear s3;go_wp2_with fail;go_step3
   go_wp2_with fail;rw [Exit.noGoto_ret];refine bodyPost_ret (v:=.tuple #[stpV ⟨⟨0,0,0,0,0,⟨#[]⟩⟩,0⟩,.bool false]) ?_ rfl ⟨⟨⟨0,0,0,0,0,⟨#[]⟩⟩,0⟩,false,⟨(by show (0:Int)≤0∧(0:Int)≤15;decide),(by show (0:Int)≤0∧(0:Int)≤255;decide),(by show (-32768:Int)≤0∧(0:Int)≤32767;decide),(by show (-32768:Int)≤0∧(0:Int)≤32767;decide),(by show (0:Nat)<18446744073709551616;decide),Nat.zero_le _,(by show (0:Int)≤0∧(0:Int)≤254;decide)⟩,rfl,z.out.post⟩;exact step_results (by kernel_rfl) _ _ rfl rfl z.out.st
 ·have hdone:=trivial
  have hh:=HD (s3.num hn hne);clear s3;go_wp2_with fail;refine hh.out.mono ?_;rintro e w3 ⟨N,hN,rfl,s5⟩;clear k0 k1 k2 k3 k4 k5 k6 f0 f1 f2 f3 f4 f5 f6 hh;obtain⟨k0,k1,k2,k3,k4,k5,k6,f0,f1,f2,f3,f4,f5,f6⟩:=s5.st.k;have s7:=s5.set hn hne (i:=2) (v:=.int .i64 N) (y:=⟨⟨4,T,N,0,0,⟨#[]⟩⟩,0⟩) rfl;clear s5;obtain⟨r,sh,t1,t2⟩:=s7.tp;have c1:=t1.blk.cell' (i:=1) (v:=.bool sh) rfl;clear t1 t2;cases sh
  ·have z:=HD (s7.store hn hne ⟨⟨4,T,N,0,0,⟨#[]⟩⟩,0⟩)
   clear s7;go_wp2_with fail;refine bodyPost_ret (v:=.tuple #[stpV ⟨⟨4,T,N,0,0,⟨#[]⟩⟩,0⟩,.bool true]) ?_ rfl ⟨⟨⟨4,T,N,0,0,⟨#[]⟩⟩,0⟩,true,⟨(by show (0:Int)≤4∧(4:Int)≤15;decide),hT,hN,(by show (-32768:Int)≤0∧(0:Int)≤32767;decide),(by show (0:Nat)<18446744073709551616;decide),Nat.zero_le _,(by show (0:Int)≤0∧(0:Int)≤254;decide)⟩,rfl,z.out.post⟩;exact step_results (by kernel_rfl) _ _ rfl rfl z.out.st
  ·have z:=HD (s7.store hn hne ⟨⟨0,0,0,0,0,⟨#[]⟩⟩,0⟩)
   clear s7;go_wp2_with fail;go_step3
   go_wp2_with fail;rw [Exit.noGoto_ret];refine bodyPost_ret (v:=.tuple #[stpV ⟨⟨0,0,0,0,0,⟨#[]⟩⟩,0⟩,.bool false]) ?_ rfl ⟨⟨⟨0,0,0,0,0,⟨#[]⟩⟩,0⟩,false,⟨(by show (0:Int)≤0∧(0:Int)≤15;decide),(by show (0:Int)≤0∧(0:Int)≤255;decide),(by show (-32768:Int)≤0∧(0:Int)≤32767;decide),(by show (-32768:Int)≤0∧(0:Int)≤32767;decide),(by show (0:Nat)<18446744073709551616;decide),Nat.zero_le _,(by show (0:Int)≤0∧(0:Int)≤254;decide)⟩,rfl,z.out.post⟩;exact step_results (by kernel_rfl) _ _ rfl rfl z.out.st
 ·have hdone:=trivial
  have hh:=HD (s3.num hn hne);clear s3;go_wp2_with fail;refine hh.out.mono ?_;rintro e w3 ⟨N,hN,rfl,s5⟩;clear k0 k1 k2 k3 k4 k5 k6 f0 f1 f2 f3 f4 f5 f6 hh;obtain⟨k0,k1,k2,k3,k4,k5,k6,f0,f1,f2,f3,f4,f5,f6⟩:=s5.st.k;have hh:=HD (s5.num hn hne);clear s5;go_wp2_with fail;refine hh.out.mono ?_;rintro e w3 ⟨M,hM,rfl,s6⟩;clear k0 k1 k2 k3 k4 k5 k6 f0 f1 f2 f3 f4 f5 f6 hh;obtain⟨k0,k1,k2,k3,k4,k5,k6,f0,f1,f2,f3,f4,f5,f6⟩:=s6.st.k;have s7:=s6.set hn hne (i:=2) (v:=.int .i64 N) (y:=⟨⟨5,T,N,0,0,⟨#[]⟩⟩,0⟩) rfl;replace s7:=s7.set hn hne (i:=3) (v:=.int .i64 M) (y:=⟨⟨5,T,N,M,0,⟨#[]⟩⟩,0⟩) rfl;clear s6;obtain⟨r,sh,t1,t2⟩:=s7.tp;have c1:=t1.blk.cell' (i:=1) (v:=.bool sh) rfl;clear t1 t2;cases sh
  ·have z:=HD (s7.store hn hne ⟨⟨5,T,N,M,0,⟨#[]⟩⟩,0⟩)
   clear s7;go_wp2_with fail;refine bodyPost_ret (v:=.tuple #[stpV ⟨⟨5,T,N,M,0,⟨#[]⟩⟩,0⟩,.bool true]) ?_ rfl ⟨⟨⟨5,T,N,M,0,⟨#[]⟩⟩,0⟩,true,⟨(by show (0:Int)≤5∧(5:Int)≤15;decide),hT,hN,hM,(by show (0:Nat)<18446744073709551616;decide),Nat.zero_le _,(by show (0:Int)≤0∧(0:Int)≤254;decide)⟩,rfl,z.out.post⟩;exact step_results (by kernel_rfl) _ _ rfl rfl z.out.st
  ·have z:=HD (s7.store hn hne ⟨⟨0,0,0,0,0,⟨#[]⟩⟩,0⟩)
   clear s7;go_wp2_with fail;go_step3
   go_wp2_with fail;rw [Exit.noGoto_ret];refine bodyPost_ret (v:=.tuple #[stpV ⟨⟨0,0,0,0,0,⟨#[]⟩⟩,0⟩,.bool false]) ?_ rfl ⟨⟨⟨0,0,0,0,0,⟨#[]⟩⟩,0⟩,false,⟨(by show (0:Int)≤0∧(0:Int)≤15;decide),(by show (0:Int)≤0∧(0:Int)≤255;decide),(by show (-32768:Int)≤0∧(0:Int)≤32767;decide),(by show (-32768:Int)≤0∧(0:Int)≤32767;decide),(by show (0:Nat)<18446744073709551616;decide),Nat.zero_le _,(by show (0:Int)≤0∧(0:Int)≤254;decide)⟩,rfl,z.out.post⟩;exact step_results (by kernel_rfl) _ _ rfl rfl z.out.st
 ·have hdone:=trivial
  have hh:=HD (s3.handle hn hne rfl);clear s3;go_wp2_with fail;refine hh.out.mono ?_;rintro e w3 ⟨H,bk,hH,hbk,rfl,s4⟩;clear k0 k1 k2 k3 k4 k5 k6 f0 f1 f2 f3 f4 f5 f6 hh;replace s4:TpS w g n ⟨⟨6,T,0,0,H,⟨#[]⟩⟩,bk⟩ w3:=s4;obtain⟨k0,k1,k2,k3,k4,k5,k6,f0,f1,f2,f3,f4,f5,f6⟩:=s4.st.k;obtain⟨r,sh,t1,t2⟩:=s4.tp;have c1:=t1.blk.cell' (i:=1) (v:=.bool sh) rfl;clear t1 t2;cases sh
  ·have z:=HD (s4.store hn hne ⟨⟨6,T,0,0,H,⟨#[]⟩⟩,bk⟩)
   clear s4;go_wp2_with fail;refine bodyPost_ret (v:=.tuple #[stpV ⟨⟨6,T,0,0,H,⟨#[]⟩⟩,bk⟩,.bool true]) ?_ rfl ⟨⟨⟨6,T,0,0,H,⟨#[]⟩⟩,bk⟩,true,⟨(by show (0:Int)≤6∧(6:Int)≤15;decide),hT,(by show (-32768:Int)≤0∧(0:Int)≤32767;decide),(by show (-32768:Int)≤0∧(0:Int)≤32767;decide),hH,Nat.zero_le _,hbk⟩,rfl,z.out.post⟩;exact step_results (by kernel_rfl) _ _ rfl rfl z.out.st
  ·have z:=HD (s4.store hn hne ⟨⟨0,0,0,0,0,⟨#[]⟩⟩,0⟩)
   clear s4;go_wp2_with fail;go_step3
   go_wp2_with fail;rw [Exit.noGoto_ret];refine bodyPost_ret (v:=.tuple #[stpV ⟨⟨0,0,0,0,0,⟨#[]⟩⟩,0⟩,.bool false]) ?_ rfl ⟨⟨⟨0,0,0,0,0,⟨#[]⟩⟩,0⟩,false,⟨(by show (0:Int)≤0∧(0:Int)≤15;decide),(by show (0:Int)≤0∧(0:Int)≤255;decide),(by show (-32768:Int)≤0∧(0:Int)≤32767;decide),(by show (-32768:Int)≤0∧(0:Int)≤32767;decide),(by show (0:Nat)<18446744073709551616;decide),Nat.zero_le _,(by show (0:Int)≤0∧(0:Int)≤254;decide)⟩,rfl,z.out.post⟩;exact step_results (by kernel_rfl) _ _ rfl rfl z.out.st
 ·have hdone:=trivial
  have hh:=HD (s3.handle hn hne rfl);clear s3;go_wp2_with fail;refine hh.out.mono ?_;rintro e w3 ⟨H,bk,hH,hbk,rfl,s4⟩;clear k0 k1 k2 k3 k4 k5 k6 f0 f1 f2 f3 f4 f5 f6 hh;replace s4:TpS w g n ⟨⟨7,T,0,0,H,⟨#[]⟩⟩,bk⟩ w3:=s4;obtain⟨k0,k1,k2,k3,k4,k5,k6,f0,f1,f2,f3,f4,f5,f6⟩:=s4.st.k;have hh:=HD (s4.num hn hne);clear s4;go_wp2_with fail;refine hh.out.mono ?_;rintro e w3 ⟨N,hN,rfl,s5⟩;clear k0 k1 k2 k3 k4 k5 k6 f0 f1 f2 f3 f4 f5 f6 hh;obtain⟨k0,k1,k2,k3,k4,k5,k6,f0,f1,f2,f3,f4,f5,f6⟩:=s5.st.k;have s7:=s5.set hn hne (i:=2) (v:=.int .i64 N) (y:=⟨⟨7,T,N,0,H,⟨#[]⟩⟩,bk⟩) rfl;clear s5;obtain⟨r,sh,t1,t2⟩:=s7.tp;have c1:=t1.blk.cell' (i:=1) (v:=.bool sh) rfl;clear t1 t2;cases sh
  ·have z:=HD (s7.store hn hne ⟨⟨7,T,N,0,H,⟨#[]⟩⟩,bk⟩)
   clear s7;go_wp2_with fail;refine bodyPost_ret (v:=.tuple #[stpV ⟨⟨7,T,N,0,H,⟨#[]⟩⟩,bk⟩,.bool true]) ?_ rfl ⟨⟨⟨7,T,N,0,H,⟨#[]⟩⟩,bk⟩,true,⟨(by show (0:Int)≤7∧(7:Int)≤15;decide),hT,hN,(by show (-32768:Int)≤0∧(0:Int)≤32767;decide),hH,Nat.zero_le _,hbk⟩,rfl,z.out.post⟩;exact step_results (by kernel_rfl) _ _ rfl rfl z.out.st
  ·have z:=HD (s7.store hn hne ⟨⟨0,0,0,0,0,⟨#[]⟩⟩,0⟩)
   clear s7;go_wp2_with fail;go_step3
   go_wp2_with fail;rw [Exit.noGoto_ret];refine bodyPost_ret (v:=.tuple #[stpV ⟨⟨0,0,0,0,0,⟨#[]⟩⟩,0⟩,.bool false]) ?_ rfl ⟨⟨⟨0,0,0,0,0,⟨#[]⟩⟩,0⟩,false,⟨(by show (0:Int)≤0∧(0:Int)≤15;decide),(by show (0:Int)≤0∧(0:Int)≤255;decide),(by show (-32768:Int)≤0∧(0:Int)≤32767;decide),(by show (-32768:Int)≤0∧(0:Int)≤32767;decide),(by show (0:Nat)<18446744073709551616;decide),Nat.zero_le _,(by show (0:Int)≤0∧(0:Int)≤254;decide)⟩,rfl,z.out.post⟩;exact step_results (by kernel_rfl) _ _ rfl rfl z.out.st
 ·have hdone:=trivial
  have hh:=HD (s3.handle hn hne rfl);clear s3;go_wp2_with fail;refine hh.out.mono ?_;rintro e w3 ⟨H,bk,hH,hbk,rfl,s4⟩;clear k0 k1 k2 k3 k4 k5 k6 f0 f1 f2 f3 f4 f5 f6 hh;replace s4:TpS w g n ⟨⟨8,T,0,0,H,⟨#[]⟩⟩,bk⟩ w3:=s4;obtain⟨k0,k1,k2,k3,k4,k5,k6,f0,f1,f2,f3,f4,f5,f6⟩:=s4.st.k;obtain⟨r,sh,t1,t2⟩:=s4.tp;have c1:=t1.blk.cell' (i:=1) (v:=.bool sh) rfl;clear t1 t2;cases sh
  ·have z:=HD (s4.store hn hne ⟨⟨8,T,0,0,H,⟨#[]⟩⟩,bk⟩)
   clear s4;go_wp2_with fail;refine bodyPost_ret (v:=.tuple #[stpV ⟨⟨8,T,0,0,H,⟨#[]⟩⟩,bk⟩,.bool true]) ?_ rfl ⟨⟨⟨8,T,0,0,H,⟨#[]⟩⟩,bk⟩,true,⟨(by show (0:Int)≤8∧(8:Int)≤15;decide),hT,(by show (-32768:Int)≤0∧(0:Int)≤32767;decide),(by show (-32768:Int)≤0∧(0:Int)≤32767;decide),hH,Nat.zero_le _,hbk⟩,rfl,z.out.post⟩;exact step_results (by kernel_rfl) _ _ rfl rfl z.out.st
  ·have z:=HD (s4.store hn hne ⟨⟨0,0,0,0,0,⟨#[]⟩⟩,0⟩)
   clear s4;go_wp2_with fail;go_step3
   go_wp2_with fail;rw [Exit.noGoto_ret];refine bodyPost_ret (v:=.tuple #[stpV ⟨⟨0,0,0,0,0,⟨#[]⟩⟩,0⟩,.bool false]) ?_ rfl ⟨⟨⟨0,0,0,0,0,⟨#[]⟩⟩,0⟩,false,⟨(by show (0:Int)≤0∧(0:Int)≤15;decide),(by show (0:Int)≤0∧(0:Int)≤255;decide),(by show (-32768:Int)≤0∧(0:Int)≤32767;decide),(by show (-32768:Int)≤0∧(0:Int)≤32767;decide),(by show (0:Nat)<18446744073709551616;decide),Nat.zero_le _,(by show (0:Int)≤0∧(0:Int)≤254;decide)⟩,rfl,z.out.post⟩;exact step_results (by kernel_rfl) _ _ rfl rfl z.out.st
 ·have hdone:=trivial
  have hh:=HD (s3.handle hn hne rfl);clear s3;go_wp2_with fail;refine hh.out.mono ?_;rintro e w3 ⟨H,bk,hH,hbk,rfl,s4⟩;clear k0 k1 k2 k3 k4 k5 k6 f0 f1 f2 f3 f4 f5 f6 hh;replace s4:TpS w g n ⟨⟨9,T,0,0,H,⟨#[]⟩⟩,bk⟩ w3:=s4;obtain⟨k0,k1,k2,k3,k4,k5,k6,f0,f1,f2,f3,f4,f5,f6⟩:=s4.st.k;have hh:=HD (s4.num hn hne);clear s4;go_wp2_with fail;refine hh.out.mono ?_;rintro e w3 ⟨N,hN,rfl,s5⟩;clear k0 k1 k2 k3 k4 k5 k6 f0 f1 f2 f3 f4 f5 f6 hh;obtain⟨k0,k1,k2,k3,k4,k5,k6,f0,f1,f2,f3,f4,f5,f6⟩:=s5.st.k;have hh:=HD (s5.num hn hne);clear s5;go_wp2_with fail;refine hh.out.mono ?_;rintro e w3 ⟨M,hM,rfl,s6⟩;clear k0 k1 k2 k3 k4 k5 k6 f0 f1 f2 f3 f4 f5 f6 hh;obtain⟨k0,k1,k2,k3,k4,k5,k6,f0,f1,f2,f3,f4,f5,f6⟩:=s6.st.k;have s7:=s6.set hn hne (i:=2) (v:=.int .i64 N) (y:=⟨⟨9,T,N,0,H,⟨#[]⟩⟩,bk⟩) rfl;replace s7:=s7.set hn hne (i:=3) (v:=.int .i64 M) (y:=⟨⟨9,T,N,M,H,⟨#[]⟩⟩,bk⟩) rfl;clear s6;obtain⟨r,sh,t1,t2⟩:=s7.tp;have c1:=t1.blk.cell' (i:=1) (v:=.bool sh) rfl;clear t1 t2;cases sh
  ·have z:=HD (s7.store hn hne ⟨⟨9,T,N,M,H,⟨#[]⟩⟩,bk⟩)
   clear s7;go_wp2_with fail;refine bodyPost_ret (v:=.tuple #[stpV ⟨⟨9,T,N,M,H,⟨#[]⟩⟩,bk⟩,.bool true]) ?_ rfl ⟨⟨⟨9,T,N,M,H,⟨#[]⟩⟩,bk⟩,true,⟨(by show (0:Int)≤9∧(9:Int)≤15;decide),hT,hN,hM,hH,Nat.zero_le _,hbk⟩,rfl,z.out.post⟩;exact step_results (by kernel_rfl) _ _ rfl rfl z.out.st
  ·have z:=HD (s7.store hn hne ⟨⟨0,0,0,0,0,⟨#[]⟩⟩,0⟩)
   clear s7;go_wp2_with fail;go_step3
   go_wp2_with fail;rw [Exit.noGoto_ret];refine bodyPost_ret (v:=.tuple #[stpV ⟨⟨0,0,0,0,0,⟨#[]⟩⟩,0⟩,.bool false]) ?_ rfl ⟨⟨⟨0,0,0,0,0,⟨#[]⟩⟩,0⟩,false,⟨(by show (0:Int)≤0∧(0:Int)≤15;decide),(by show (0:Int)≤0∧(0:Int)≤255;decide),(by show (-32768:Int)≤0∧(0:Int)≤32767;decide),(by show (-32768:Int)≤0∧(0:Int)≤32767;decide),(by show (0:Nat)<18446744073709551616;decide),Nat.zero_le _,(by show (0:Int)≤0∧(0:Int)≤254;decide)⟩,rfl,z.out.post⟩;exact step_results (by kernel_rfl) _ _ rfl rfl z.out.st
 ·have hdone:=trivial
  have hh:=HD (s3.handle hn hne rfl);clear s3;go_wp2_with fail;refine hh.out.mono ?_;rintro e w3 ⟨H,bk,hH,hbk,rfl,s4⟩;clear k0 k1 k2 k3 k4 k5 k6 f0 f1 f2 f3 f4 f5 f6 hh;replace s4:TpS w g n ⟨⟨10,T,0,0,H,⟨#[]⟩⟩,bk⟩ w3:=s4;obtain⟨k0,k1,k2,k3,k4,k5,k6,f0,f1,f2,f3,f4,f5,f6⟩:=s4.st.k;have hh:=HD (s4.num hn hne);clear s4;go_wp2_with fail;refine hh.out.mono ?_;rintro e w3 ⟨N,hN,rfl,s5⟩;clear k0 k1 k2 k3 k4 k5 k6 f0 f1 f2 f3 f4 f5 f6 hh;obtain⟨k0,k1,k2,k3,k4,k5,k6,f0,f1,f2,f3,f4,f5,f6⟩:=s5.st.k;have s7:=s5.set hn hne (i:=2) (v:=.int .i64 N) (y:=⟨⟨10,T,N,0,H,⟨#[]⟩⟩,bk⟩) rfl;clear s5;have hh:=HD (s7.text hn hne);clear s7;go_wp2_with fail;refine hh.out.mono ?_;rintro e w3 ⟨D,hD,rfl,s8⟩;clear k0 k1 k2 k3 k4 k5 k6 f0 f1 f2 f3 f4 f5 f6 hh;obtain⟨k0,k1,k2,k3,k4,k5,k6,f0,f1,f2,f3,f4,f5,f6⟩:=s8.st.k;have s9:=s8.set hn hne (i:=5) (v:=.string D) (y:=⟨⟨10,T,N,0,H,D⟩,bk⟩) rfl;clear s8;obtain⟨r,sh,t1,t2⟩:=s9.tp;have c1:=t1.blk.cell' (i:=1) (v:=.bool sh) rfl;clear t1 t2;cases sh
  ·have z:=HD (s9.store hn hne ⟨⟨10,T,N,0,H,D⟩,bk⟩)
   clear s9;go_wp2_with fail;refine bodyPost_ret (v:=.tuple #[stpV ⟨⟨10,T,N,0,H,D⟩,bk⟩,.bool true]) ?_ rfl ⟨⟨⟨10,T,N,0,H,D⟩,bk⟩,true,⟨(by show (0:Int)≤10∧(10:Int)≤15;decide),hT,hN,(by show (-32768:Int)≤0∧(0:Int)≤32767;decide),hH,hD,hbk⟩,rfl,z.out.post⟩;exact step_results (by kernel_rfl) _ _ rfl rfl z.out.st
  ·have z:=HD (s9.store hn hne ⟨⟨0,0,0,0,0,⟨#[]⟩⟩,0⟩)
   clear s9;go_wp2_with fail;go_step3
   go_wp2_with fail;rw [Exit.noGoto_ret];refine bodyPost_ret (v:=.tuple #[stpV ⟨⟨0,0,0,0,0,⟨#[]⟩⟩,0⟩,.bool false]) ?_ rfl ⟨⟨⟨0,0,0,0,0,⟨#[]⟩⟩,0⟩,false,⟨(by show (0:Int)≤0∧(0:Int)≤15;decide),(by show (0:Int)≤0∧(0:Int)≤255;decide),(by show (-32768:Int)≤0∧(0:Int)≤32767;decide),(by show (-32768:Int)≤0∧(0:Int)≤32767;decide),(by show (0:Nat)<18446744073709551616;decide),Nat.zero_le _,(by show (0:Int)≤0∧(0:Int)≤254;decide)⟩,rfl,z.out.post⟩;exact step_results (by kernel_rfl) _ _ rfl rfl z.out.st
 ·have hdone:=trivial
  have hh:=HD (s3.handle hn hne rfl);clear s3;go_wp2_with fail;refine hh.out.mono ?_;rintro e w3 ⟨H,bk,hH,hbk,rfl,s4⟩;clear k0 k1 k2 k3 k4 k5 k6 f0 f1 f2 f3 f4 f5 f6 hh;replace s4:TpS w g n ⟨⟨11,T,0,0,H,⟨#[]⟩⟩,bk⟩ w3:=s4;obtain⟨k0,k1,k2,k3,k4,k5,k6,f0,f1,f2,f3,f4,f5,f6⟩:=s4.st.k;have hh:=HD (s4.num hn hne);clear s4;go_wp2_with fail;refine hh.out.mono ?_;rintro e w3 ⟨N,hN,rfl,s5⟩;clear k0 k1 k2 k3 k4 k5 k6 f0 f1 f2 f3 f4 f5 f6 hh;obtain⟨k0,k1,k2,k3,k4,k5,k6,f0,f1,f2,f3,f4,f5,f6⟩:=s5.st.k;have s7:=s5.set hn hne (i:=2) (v:=.int .i64 N) (y:=⟨⟨11,T,N,0,H,⟨#[]⟩⟩,bk⟩) rfl;clear s5;obtain⟨r,sh,t1,t2⟩:=s7.tp;have c1:=t1.blk.cell' (i:=1) (v:=.bool sh) rfl;clear t1 t2;cases sh
  ·have z:=HD (s7.store hn hne ⟨⟨11,T,N,0,H,⟨#[]⟩⟩,bk⟩)
   clear s7;go_wp2_with fail;refine bodyPost_ret (v:=.tuple #[stpV ⟨⟨11,T,N,0,H,⟨#[]⟩⟩,bk⟩,.bool true]) ?_ rfl ⟨⟨⟨11,T,N,0,H,⟨#[]⟩⟩,bk⟩,true,⟨(by show (0:Int)≤11∧(11:Int)≤15;decide),hT,hN,(by show (-32768:Int)≤0∧(0:Int)≤32767;decide),hH,Nat.zero_le _,hbk⟩,rfl,z.out.post⟩;exact step_results (by kernel_rfl) _ _ rfl rfl z.out.st
  ·have z:=HD (s7.store hn hne ⟨⟨0,0,0,0,0,⟨#[]⟩⟩,0⟩)
   clear s7;go_wp2_with fail;go_step3
   go_wp2_with fail;rw [Exit.noGoto_ret];refine bodyPost_ret (v:=.tuple #[stpV ⟨⟨0,0,0,0,0,⟨#[]⟩⟩,0⟩,.bool false]) ?_ rfl ⟨⟨⟨0,0,0,0,0,⟨#[]⟩⟩,0⟩,false,⟨(by show (0:Int)≤0∧(0:Int)≤15;decide),(by show (0:Int)≤0∧(0:Int)≤255;decide),(by show (-32768:Int)≤0∧(0:Int)≤32767;decide),(by show (-32768:Int)≤0∧(0:Int)≤32767;decide),(by show (0:Nat)<18446744073709551616;decide),Nat.zero_le _,(by show (0:Int)≤0∧(0:Int)≤254;decide)⟩,rfl,z.out.post⟩;exact step_results (by kernel_rfl) _ _ rfl rfl z.out.st
 ·have hdone:=trivial
  obtain⟨r,sh,t1,t2⟩:=s3.tp;have c1:=t1.blk.cell' (i:=1) (v:=.bool sh) rfl;clear t1 t2;cases sh
  ·have z:=HD (s3.store hn hne ⟨⟨12,T,0,0,0,⟨#[]⟩⟩,0⟩)
   clear s3;go_wp2_with fail;refine bodyPost_ret (v:=.tuple #[stpV ⟨⟨12,T,0,0,0,⟨#[]⟩⟩,0⟩,.bool true]) ?_ rfl ⟨⟨⟨12,T,0,0,0,⟨#[]⟩⟩,0⟩,true,⟨(by show (0:Int)≤12∧(12:Int)≤15;decide),hT,(by show (-32768:Int)≤0∧(0:Int)≤32767;decide),(by show (-32768:Int)≤0∧(0:Int)≤32767;decide),(by show (0:Nat)<18446744073709551616;decide),Nat.zero_le _,(by show (0:Int)≤0∧(0:Int)≤254;decide)⟩,rfl,z.out.post⟩;exact step_results (by kernel_rfl) _ _ rfl rfl z.out.st
  ·have z:=HD (s3.store hn hne ⟨⟨0,0,0,0,0,⟨#[]⟩⟩,0⟩)
   clear s3;go_wp2_with fail;go_step3
   go_wp2_with fail;rw [Exit.noGoto_ret];refine bodyPost_ret (v:=.tuple #[stpV ⟨⟨0,0,0,0,0,⟨#[]⟩⟩,0⟩,.bool false]) ?_ rfl ⟨⟨⟨0,0,0,0,0,⟨#[]⟩⟩,0⟩,false,⟨(by show (0:Int)≤0∧(0:Int)≤15;decide),(by show (0:Int)≤0∧(0:Int)≤255;decide),(by show (-32768:Int)≤0∧(0:Int)≤32767;decide),(by show (-32768:Int)≤0∧(0:Int)≤32767;decide),(by show (0:Nat)<18446744073709551616;decide),Nat.zero_le _,(by show (0:Int)≤0∧(0:Int)≤254;decide)⟩,rfl,z.out.post⟩;exact step_results (by kernel_rfl) _ _ rfl rfl z.out.st
 ·have hdone:=trivial
  obtain⟨r,sh,t1,t2⟩:=s3.tp;have c1:=t1.blk.cell' (i:=1) (v:=.bool sh) rfl;clear t1 t2;cases sh
  ·have z:=HD (s3.store hn hne ⟨⟨13,T,0,0,0,⟨#[]⟩⟩,0⟩)
   clear s3;go_wp2_with fail;refine bodyPost_ret (v:=.tuple #[stpV ⟨⟨13,T,0,0,0,⟨#[]⟩⟩,0⟩,.bool true]) ?_ rfl ⟨⟨⟨13,T,0,0,0,⟨#[]⟩⟩,0⟩,true,⟨(by show (0:Int)≤13∧(13:Int)≤15;decide),hT,(by show (-32768:Int)≤0∧(0:Int)≤32767;decide),(by show (-32768:Int)≤0∧(0:Int)≤32767;decide),(by show (0:Nat)<18446744073709551616;decide),Nat.zero_le _,(by show (0:Int)≤0∧(0:Int)≤254;decide)⟩,rfl,z.out.post⟩;exact step_results (by kernel_rfl) _ _ rfl rfl z.out.st
  ·have z:=HD (s3.store hn hne ⟨⟨0,0,0,0,0,⟨#[]⟩⟩,0⟩)
   clear s3;go_wp2_with fail;go_step3
   go_wp2_with fail;rw [Exit.noGoto_ret];refine bodyPost_ret (v:=.tuple #[stpV ⟨⟨0,0,0,0,0,⟨#[]⟩⟩,0⟩,.bool false]) ?_ rfl ⟨⟨⟨0,0,0,0,0,⟨#[]⟩⟩,0⟩,false,⟨(by show (0:Int)≤0∧(0:Int)≤15;decide),(by show (0:Int)≤0∧(0:Int)≤255;decide),(by show (-32768:Int)≤0∧(0:Int)≤32767;decide),(by show (-32768:Int)≤0∧(0:Int)≤32767;decide),(by show (0:Nat)<18446744073709551616;decide),Nat.zero_le _,(by show (0:Int)≤0∧(0:Int)≤254;decide)⟩,rfl,z.out.post⟩;exact step_results (by kernel_rfl) _ _ rfl rfl z.out.st
 ·have hdone:=trivial
  obtain⟨r,sh,t1,t2⟩:=s3.tp;have c1:=t1.blk.cell' (i:=1) (v:=.bool sh) rfl;clear t1 t2;cases sh
  ·have z:=HD (s3.store hn hne ⟨⟨14,T,0,0,0,⟨#[]⟩⟩,0⟩)
   clear s3;go_wp2_with fail;refine bodyPost_ret (v:=.tuple #[stpV ⟨⟨14,T,0,0,0,⟨#[]⟩⟩,0⟩,.bool true]) ?_ rfl ⟨⟨⟨14,T,0,0,0,⟨#[]⟩⟩,0⟩,true,⟨(by show (0:Int)≤14∧(14:Int)≤15;decide),hT,(by show (-32768:Int)≤0∧(0:Int)≤32767;decide),(by show (-32768:Int)≤0∧(0:Int)≤32767;decide),(by show (0:Nat)<18446744073709551616;decide),Nat.zero_le _,(by show (0:Int)≤0∧(0:Int)≤254;decide)⟩,rfl,z.out.post⟩;exact step_results (by kernel_rfl) _ _ rfl rfl z.out.st
  ·have z:=HD (s3.store hn hne ⟨⟨0,0,0,0,0,⟨#[]⟩⟩,0⟩)
   clear s3;go_wp2_with fail;go_step3
   go_wp2_with fail;rw [Exit.noGoto_ret];refine bodyPost_ret (v:=.tuple #[stpV ⟨⟨0,0,0,0,0,⟨#[]⟩⟩,0⟩,.bool false]) ?_ rfl ⟨⟨⟨0,0,0,0,0,⟨#[]⟩⟩,0⟩,false,⟨(by show (0:Int)≤0∧(0:Int)≤15;decide),(by show (0:Int)≤0∧(0:Int)≤255;decide),(by show (-32768:Int)≤0∧(0:Int)≤32767;decide),(by show (-32768:Int)≤0∧(0:Int)≤32767;decide),(by show (0:Nat)<18446744073709551616;decide),Nat.zero_le _,(by show (0:Int)≤0∧(0:Int)≤254;decide)⟩,rfl,z.out.post⟩;exact step_results (by kernel_rfl) _ _ rfl rfl z.out.st
 ·have hdone:=trivial
  obtain⟨r,sh,t1,t2⟩:=s3.tp;have c1:=t1.blk.cell' (i:=1) (v:=.bool sh) rfl;clear t1 t2;cases sh
  ·have z:=HD (s3.store hn hne ⟨⟨15,T,0,0,0,⟨#[]⟩⟩,0⟩)
   clear s3;go_wp2_with fail;refine bodyPost_ret (v:=.tuple #[stpV ⟨⟨15,T,0,0,0,⟨#[]⟩⟩,0⟩,.bool true]) ?_ rfl ⟨⟨⟨15,T,0,0,0,⟨#[]⟩⟩,0⟩,true,⟨(by show (0:Int)≤15∧(15:Int)≤15;decide),hT,(by show (-32768:Int)≤0∧(0:Int)≤32767;decide),(by show (-32768:Int)≤0∧(0:Int)≤32767;decide),(by show (0:Nat)<18446744073709551616;decide),Nat.zero_le _,(by show (0:Int)≤0∧(0:Int)≤254;decide)⟩,rfl,z.out.post⟩;exact step_results (by kernel_rfl) _ _ rfl rfl z.out.st
  ·have z:=HD (s3.store hn hne ⟨⟨0,0,0,0,0,⟨#[]⟩⟩,0⟩)
   clear s3;go_wp2_with fail;go_step3
   go_wp2_with fail;rw [Exit.noGoto_ret];refine bodyPost_ret (v:=.tuple #[stpV ⟨⟨0,0,0,0,0,⟨#[]⟩⟩,0⟩,.bool false]) ?_ rfl ⟨⟨⟨0,0,0,0,0,⟨#[]⟩⟩,0⟩,false,⟨(by show (0:Int)≤0∧(0:Int)≤15;decide),(by show (0:Int)≤0∧(0:Int)≤255;decide),(by show (-32768:Int)≤0∧(0:Int)≤32767;decide),(by show (-32768:Int)≤0∧(0:Int)≤32767;decide),(by show (0:Nat)<18446744073709551616;decide),Nat.zero_le _,(by show (0:Int)≤0∧(0:Int)≤254;decide)⟩,rfl,z.out.post⟩;exact step_results (by kernel_rfl) _ _ rfl rfl z.out.st
end
end
section
open Go.RowKit Flt
abbrev stL(x:StS):List Value:=[.int .i64 x.o.K,.int .i64 x.o.T,.int .i64 x.o.N,.int .i64 x.o.M,.int .u64 x.o.H,.string x.o.s,.int .i64 x.bk]
theorem infoStp:(Tryz.prog.info? 34).map (fun i=>(i.zero,i.size,i.bytes))=some (some (.agg #[.int .i64 0,.int .i64 0,.int .i64 0,.int .i64 0,.int .u64 0,.string ⟨#[]⟩,.int .i64 0]),7,64):=by kernel_rfl
def StpRow(w:World)(base:Nat)(v:Value)(l:List StS):Prop:=w.ownsRow base 34 7 v l.length (l.flatMap stL)
theorem own_slice{w:World}{base:Nat}{e:TypeId}{size:Nat}{v:Value}{n:Nat}{xs:List Value}(h:w.ownsRow base e size v n xs):∃a c,v=.slice a n c:=by
 rcases h.2 with ⟨h1,h2⟩|⟨g,cap,cur,rfl,_⟩
 ·subst h1;subst h2;exact⟨_,_,rfl⟩
 ·exact⟨_,_,rfl⟩
section
variable{w w':World}{g:Nat}{rest:ByteArray}{sh:Bool}
theorem tpStep(h:TpAt w g rest sh)(hr:rest.size≤100000):Calls Tryz.prog 43 #[eP g] w (StPost w g):=by
 by_cases c:rest=⟨#[]⟩
 ·subst c
  refine(tpStep_none h).mono ?_;rintro e w' ⟨rfl,k⟩;exact⟨st0,false,⟨by decide,by decide,by decide,by decide,by decide,by decide,by decide⟩,rfl,k⟩
 ·exact tpStep_some h hr c
structure RdS(w:World)(g:Nat)(v:Value)(l:List StS)(wx:World):Prop where
 tp:∃rest sh,TpAt wx g rest sh∧rest.size≤100000
 row:StpRow wx (g+1) v l
 ok:∀x∈l,StOk x
 bl:Below g w wx
 lt:g<wx.heap.size
theorem RdS.alloc{v:Value}{l:List StS}{wx:World}(h:RdS w g v l wx)(o:Obj):RdS w g v l (wx.alloc o):=by
 obtain⟨⟨r,s,h1,h2⟩,h3,h4,h5,h6⟩:=h;exact⟨⟨r,s,(h1.blk.alloc o).2,h2⟩,World.ownsRow.alloc h3 o,h4,h5.alloc (Nat.le_of_lt h6) o,by simp;omega⟩
theorem RdS.append{v v2:Value}{l:List StS}{wx w2:World}{o1 o2:Obj}(h:RdS w g v l wx)(x:StS)(hx:StOk x)(hg:((wx.alloc o1).alloc o2).grownBy w2 v.ownBlock)(hr:w2.ownsRow (g+1) 34 7 v2 (l.length+1) (l.flatMap stL++stL x)):RdS w g v2 (l++[x]) w2:=by
 have h2:=(h.alloc o1).alloc o2;obtain⟨⟨r,s,h1,h2⟩,h3,h4,h5,h6⟩:=h2;have hb:∀k,v.ownBlock=some k→g+1≤k:=fun k hk=>(World.ownsRow.lt h3 k hk).1
 refine⟨⟨r,s,(hg.block g h6 (fun e=>?_)).trans h1,h2⟩,?_,fun y hy=>?_,h5.grown hg (Nat.le_of_lt h6) (fun k hk=>by have:=hb k hk;omega),Nat.lt_of_lt_of_le h6 hg.size⟩
 ·have:=hb g e.symm;omega
 ·unfold StpRow
  rw [List.length_append,List.flatMap_append];simpa using hr
 ·rcases List.mem_append.1 hy with q|q
  ·exact h4 y q
  ·rw [List.mem_singleton.1 q];exact hx
end
set_option maxHeartbeats 4000000 in
theorem scRead(s:ByteArray)(w:World)(hs:s.size≤8192) :
  Calls Tryz.prog 26 #[.string s] w fun e w'=>∃v l,l.length≤4000∧(∀x∈l,StOk x)∧e=.returned v∧StpRow w' (w.heap.size+1) v l∧Below w.heap.size w w':=by
 obtain⟨i0,hi,hz0,hz1,hz2⟩:=info_parts infoStp;have hmin:min (s.size:Int) 16384=s.size:=by omega
 have hmn:min s.size 16384=s.size:=by omega
 go_enter Tryz.func26,Tryz.ntmps26
 go_wp2_with fail;have hT:TpAt (w.alloc (.cells #[.string s,.bool false] 93)) w.heap.size s false:=heap_alloc_new w _;have h0:Hid (RdS w w.heap.size (.slice none 0 0) [] (w.alloc (.cells #[.string s,.bool false] 93))):=HD ⟨⟨_,_,hT,by omega⟩,World.ownsRow_nil _ _ _ _,fun x hx=>(by cases hx),(Below.refl _ _).alloc (Nat.le_refl _) _,by simp⟩;have hsz:(w.alloc (.cells #[.string s,.bool false] 93)).heap.size=w.heap.size+1:=by simp
 clear hT hmin hmn;generalize w.alloc (.cells #[.string s,.bool false] 93)=W0 at *;generalize hg:w.heap.size=g at *;have hstep:=HD (show ∀wx v l,RdS w g v l wx→Calls Tryz.prog 43 #[eP g] wx (fun e w1=>∃x ok,StOk x∧e=.returned (.tuple #[stpV x,.bool ok])∧RdS w g v l w1) from fun wx v l hR=>by
  obtain⟨⟨r,sh,h1,h2⟩,h3,h4,h5,h6⟩:=hR;refine(tpStep h1 h2).mono ?_;rintro e w1 ⟨x,ok,k1,rfl,r2,s2,k2,k3,k4⟩;exact⟨x,ok,k1,rfl,⟨r2,s2,k2,k3⟩,k4.owns h3 (fun q hq=>by have:=(h3.lt q hq).1;omega),h4,h5.trans (k4.below (by have:=h5.size;omega) (fun k hk=>by omega)),Nat.lt_of_lt_of_le h6 k4.size⟩)
 go_loopg [2] 4000 (fun gh v wx=>∃l:List StS,l.length≤4000∧gh=4000-l.length∧Hid (RdS w g v l wx))
 case atStart=>exact⟨[],by simp,rfl,h0⟩
 case round =>
  clear h0;obtain⟨l,hl,rfl,hR⟩:=hrel;obtain⟨a,c,rfl⟩:=own_slice hR.out.row;by_cases hlt:l.length<4000
  ·have d0:decide ((l.length:Int)<4000)=true:=decide_eq_true (by omega)
   have hst:=HD (hstep.out _ _ _ hR.out);clear hstep hR;go_wp2_with fail;refine hst.out.mono ?_;rintro e w1 ⟨x,ok,hx,rfl,hR1⟩;clear hst;have hbl:=hR1.bl.size;obtain⟨⟨K,T,N,M,H,sd⟩,bk⟩:=x;unfold stpV stC;simp only;cases ok with
   |false =>
    have hfin:=HD (show RdS w g (.slice a l.length c) l (w1.alloc (.cells #[.int .i64 K,.int .i64 T,.int .i64 N,.int .i64 M,.int .u64 H,.string sd,.int .i64 bk] 34)) from hR1.alloc _);clear hR1;go_wp2_with fail;go_ret
    exact⟨.slice a l.length c,l,hl,hfin.out.ok,rfl,by rw [hg];exact hfin.out.row,by rw [hg];exact hfin.out.bl⟩
   |true =>
    have hrow:World.ownsRow w1 (g+1) 34 7 (.slice a l.length c) l.length (l.flatMap stL):=hR1.row;have hlt2:=hR1.lt;replace hR1:=HD hR1;go_wp2_with (at_builtin;refine wpList_append_own _ rfl _ _ 26 rfl (g+1) 34 i0 (.agg #[.int .i64 0,.int .i64 0,.int .i64 0,.int .i64 0,.int .u64 0,.string ⟨#[]⟩,.int .i64 0]) 7 64 Tryz.underlying26 hi hz0 hz1 hz2 rfl (by decide) _ _ _ rfl ((hrow.alloc _).alloc _) _ 1 1 [.int .i64 K,.int .i64 T,.int .i64 N,.int .i64 M,.int .u64 H,.string sd,.int .i64 bk] rfl rfl ?c1 ?c2 ?c3 ?c4 ?c5 ?_)
    case c1 =>
     intro q u hq;match q,hq with
     |0,hq=>simp at hq;subst hq;simp [Addr.add]
     |1,hq=>simp at hq;subst hq;simp [Addr.add]
     |2,hq=>simp at hq;subst hq;simp [Addr.add]
     |3,hq=>simp at hq;subst hq;simp [Addr.add]
     |4,hq=>simp at hq;subst hq;simp [Addr.add]
     |5,hq=>simp at hq;subst hq;simp [Addr.add]
     |6,hq=>simp at hq;subst hq;simp [Addr.add]
    case c2=>intro u hu;simp at hu;rcases hu with rfl|rfl|rfl|rfl|rfl|rfl|rfl<;>rfl
    case c3=>unfold maxLen;omega
    case c4=>omega
    case c5=>simp;omega
    intro v2 w2 hr2 hg2 _;have hR2:=HD (hR1.out.append ⟨⟨K,T,N,M,H,sd⟩,bk⟩ hx hg2 hr2);clear hr2 hg2 hR1 hrow;go_wp2_with fail;go_roundg (4000-(l.length+1))
    case measure=>omega
    case rel=>exact⟨l++[⟨⟨K,T,N,M,H,sd⟩,bk⟩],by simp;omega,by simp,hR2⟩
  ·have d0:decide ((l.length:Int)<4000)=false:=decide_eq_false (by omega)
   clear hstep;go_wp2_with fail;go_ret
   exact⟨.slice a l.length c,l,hl,hR.out.ok,rfl,by rw [hg];exact hR.out.row,by rw [hg];exact hR.out.bl⟩
end
section
open Go.RowKit Flt
structure RowT(w:World)(o:Nat→Tag)(t:Tag)(base:Nat)(e:TypeId)(size:Nat)(v:Value)(n:Nat)(xs:List Value):Prop where
 own:w.ownsRow base e size v n xs
 tag:∀q,v.ownBlock=some q→o q=t
section
variable{S:Tag→Prop}{w w':World}{o o':Nat→Tag}{t:Tag}{base:Nat}{e:TypeId}{size:Nat}{v:Value}{n:Nat}{xs:List Value}
theorem RowT.fr(h:RowT w o t base e size v n xs)(f:Fr S w o w' o')(hS:¬S t):RowT w' o' t base e size v n xs :=
 ⟨f.only.owns h.own (fun q hq hs=>hS (by have:=h.tag q hq;rwa [this] at hs)),fun q hq=>(f.ext q (h.own.lt q hq).2).trans (h.tag q hq)⟩
theorem RowT.nil(w:World)(o:Nat→Tag)(t:Tag)(base:Nat)(e:TypeId)(size:Nat):RowT w o t base e size (.slice none 0 0) 0 []:=⟨World.ownsRow_nil _ _ _ _,fun q hq=>(by cases hq)⟩
theorem RowT.slice(h:RowT w o t base e size v n xs):∃a c,v=.slice a n c:=own_slice h.own
theorem RowT.app{T ty:TypeId}{i:TypeInfo}{z:Value}{bytes p:Nat}{C:Array Value}(h:RowT w o t base e size v n xs)(hT:Tryz.prog.underlying T=some (.slice e))(hi:Tryz.prog.info? e=some i)(hz:i.zero=some z)
  (hsize:i.size=size) (hby:i.bytes=bytes) (hzs:z.cells.size=size) (hsz:0<size) (hp:w.heap[p]? = some (.cells C e (0,0))) (hC:C.size=size) (h1:∀u∈C.toList,u.oneCell'=true)
  (hn:n≤1000000) (hb:bytes≤100) (hbase:base≤w.heap.size) :
  ∃A k c w',(Builtin.append_ #[T,T] ty #[v,.slice (some ⟨p,0,none⟩) 1 1]).run Tryz.prog w=.ok (.slice A k c) w'∧RowT w' (newO o w t) t base e size (.slice A k c) (n+1) (xs++C.toList)∧Fr (fun u=>u=t) w o w' (newO o w t):=by
 have hc:∀(j:Nat) u,C.toList[j]? = some u→w.cell? ((⟨p,0,none⟩:Addr).add j)=some u:=fun j u hu=>by
  rw [add_pl,Nat.zero_add,cell_of_row _ p j C e (0,0) hp];simpa using hu
 have hb2:(n+1)*bytes≤140737488355328:=by
  have:(n+1)*bytes≤1000001*100:=Nat.mul_le_mul (by omega) hb;omega
 obtain⟨v',w1,hr,q2,q3,_,q5⟩:=run_append_own_at (P:=Tryz.prog) w base T ty e i z size bytes hT hi hz hsize hby hzs hsz v n xs h.own ⟨p,0,none⟩ 1 1 C.toList (by rw [Array.length_toList,hC];omega) hc h1 (by unfold maxLen;omega) hb2 hbase;have hO:Only (fun k=>o k=t) w w1:=(Only.refl _ _).grown q3 (fun k hk hlt=>h.tag k hk);have htag:∀q,v'.ownBlock=some q→newO o w t q=t:=fun q hq=>by
  rcases q5 with q5|q5
  ·rw [q5] at hq
   exact(newO_old (h.own.lt q hq).2).trans (h.tag q hq)
  ·rw [q5] at hq
   obtain rfl:=Option.some.inj hq;exact newO_new (Nat.le_refl _)
 obtain⟨a,c,rfl⟩:=own_slice q2;exact⟨a,n+1,c,w1,hr,⟨q2,htag⟩,Fr.of_new hO _⟩
end
abbrev opL(x:OpS):List Value:=[.int .i64 x.K,.int .i64 x.T,.int .i64 x.N,.int .i64 x.M,.int .u64 x.H,.string x.s]
abbrev ansL(x:Ans):List Value:=[.int .i64 x.err,.int .u64 x.h,.int .i64 x.addr,.int .i64 x.n,.string x.data,.int .i64 x.ch]
theorem infoAn:(Tryz.prog.info? 47).map (fun i=>(i.zero,i.size,i.bytes))=some (some (.agg #[.int .i64 0,.int .u64 0,.int .i64 0,.int .i64 0,.string ⟨#[]⟩,.int .i64 0]),6,56):=by kernel_rfl
structure RnS where
 s:AdS
 G:List (Int×List Nat)
 ops:List OpS
 said:List Ans
def gvn(G:List (Int×List Nat))(k:Int):List Nat:=(mGet G k).getD []
def hnd(G:List (Int×List Nat))(x:StS):Nat:=if 0<x.bk then (if x.bk≤(gvn G x.o.T).length then (gvn G x.o.T).getD ((gvn G x.o.T).length-x.bk.toNat) 0 else 0) else x.o.H
def opOf(G:List (Int×List Nat))(x:StS):OpS:={x.o with H:=hnd G x}
def giv(G:List (Int×List Nat))(k:Int)(h:Nat):List (Int×List Nat):=if h=0 then G else mIns k (gvn G k++[h]) G
def RnS.step(R:RnS)(x:StS):RnS :=
 ⟨(R.s.do_ (opOf R.G x)).2,giv R.G x.o.T (R.s.do_ (opOf R.G x)).1.h,R.ops++[opOf R.G x],R.said++[(R.s.do_ (opOf R.G x)).1]⟩
def RnS.new(P C:Nat):RnS:=⟨AdS.new P C,[],[],[]⟩
def runAll(P C:Nat)(l:List StS):RnS:=l.foldl RnS.step (RnS.new P C)
end
end Go.Proofs.YtfliaggjkianpaaGreatDoor
