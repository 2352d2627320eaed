import Derived.Test.YtfliaggjkianpaaGreatDoorK00
import Derived.Test.YtfliaggjkianpaaGreatDoorK03
import Derived.Test.YtfliaggjkianpaaGreatDoorK33
set_option linter.unusedVariables false
set_option linter.unusedSimpArgs false
set_option maxRecDepth 100000
namespace Go.Proofs.YtfliaggjkianpaaGreatDoor
section
open Go.RowKit Flt
attribute [local irreducible] CpS.rv
section
variable{w:World}{o:Nat→Tag}{r:Tag}{b ba:Nat}{dv tv:Value}{n kk:Nat}{B:List UInt8}{m:Nat}{s:AdS}{K T N M:Int}{H:Nat}{sd:ByteArray}
set_option maxHeartbeats 4000000 in
theorem svDo_ask{i:Nat}(hi:i<8)(hv:SvG w o r b ba dv n tv B m s)(hr:Root r)(hs:sd.size≤maxLen)(hn:n≤1000000)(hrt:rightO K (i:Int) sd=true)(hk:4≤K)(hx:s.nx kk)(hkk:kk≤1000000)(hH:H<18446744073709551616){t:TnS}(ht:s.ts i=some t) :
  Calls Tryz.prog 18 #[eP b,.agg #[.int .i64 K,.int .i64 i,.int .i64 N,.int .i64 M,.int .u64 H,.string sd]] w fun e w'=>e=.returned (ansV {(t.ask ⟨K,i,N,M,H,sd⟩).1 with ch:=(t.ask ⟨K,i,N,M,H,sd⟩).2.cb})∧∃O B' dv' tv',SvG w' O r b ba dv' (n+1) tv' B' 30000 (s.set i (t.ask ⟨K,i,N,M,H,sd⟩).2)∧Fr (UndS r) w o w' O:=by
 obtain⟨g1,g2,g3,g4,g5,g6⟩:=right_iff.1 hrt;have M0:=SvM.start hv ⟨K,i,N,M,H,sd⟩;obtain⟨a0,ha,hfo⟩:=M0.ph1 hr;have c0:((w.alloc (.cells #[.int .i64 K,.int .i64 i,.int .i64 N,.int .i64 M,.int .u64 H,.string sd] 32)).alloc (.cells #[.int .i64 0,.int .u64 0,.int .i64 0,.int .i64 0,.string {data:=#[]},.int .i64 0] 47)).cell? ⟨b,0,none⟩=some (eP ba):=M0.c0;replace ha:=HD ha;replace hfo:=HD hfo;have hp2:=HD (fun W O (M1:SvM w o r b ba ⟨K,i,N,M,H,sd⟩ W O dv n (.slice none 0 0) B 0 s ans0)=>M1.ph2 hr hs);rw [if_pos hrt] at hp2;have d1:(K==1)=false:=by simp;omega
 have d2:(K==2)=false:=by simp;omega
 have d3:(K==3)=false:=by simp;omega
 have hak:=HD (fun W O dv n (M7:SvM w o r b ba ⟨K,i,N,M,H,sd⟩ W O dv n (.slice none 0 0) B 0 s ans0)=>M7.ask hr hi rfl hx hkk (by omega) hH g5 ⟨hk,g2⟩ ht);have hcg:(s.set i (t.ask ⟨K,i,N,M,H,sd⟩).2).chg i=(t.ask ⟨K,i,N,M,H,sd⟩).2.cb:=by
  unfold AdS.chg;rw [show (s.set i (t.ask ⟨K,i,N,M,H,sd⟩).2).ts i=some (t.ask ⟨K,i,N,M,H,sd⟩).2 from up1_same]
 clear hv M0 hrt hs hk hx hkk hH ht g1 g2 g3 g4 g5 g6;rw [←hcg];generalize s.set i (t.ask ⟨K,i,N,M,H,sd⟩).2=s' at *;generalize (t.ask ⟨K,i,N,M,H,sd⟩).1=an at *;clear hcg;obtain⟨re,rh,ra,rn,rd,rc⟩:=an;go_enter Tryz.func18,Tryz.ntmps18
 go_wp2_with fail;go_step3
 go_wp2_with fail;refine SM ha.out ?_;go_wp2_with fail;refine hfo.out.mono ?_;rintro e w1 ⟨rfl,z1,z2,O1,M1⟩;obtain⟨⟨k0,k1,k2,k3,k4,k5⟩,hck⟩:=hp2.out _ _ M1;simp only [OpS.v,opV] at hck k0 k1 k2 k3 k4 k5;replace hck:=HD hck;clear hp2 ha hfo c0 M1;go_wp2_with fail;refine hck.out.mono ?_;rintro e w3 ⟨rfl,⟨l0,l1,l2,l3,l4,l5,f0,f1,f2,f3,f4,f5⟩,hset⟩;obtain⟨M4,rc4⟩:=hset 0;replace M4:=HD M4;clear hset hck z1 z2;obtain⟨q0,q1,q2,q3,q4,q5,y0,y1,y2,y3,y4,y5⟩:=rc4;simp only [ans0] at q0 q1 q2 q3 q4 q5;simp only [ans0] at l0 l1 l2 l3 l4 l5;go_wp2_with fail;generalize (w3.setCell ⟨w.heap.size+1,0,none⟩ (Value.int .i64 0))=W4 at *;have hp3:=HD (M4.out.ph3 hr hn);obtain⟨n1,n2,A,kc,cc,w5,hap,n3,z3,O6,M6⟩:=hp3.out;replace n1:=HD n1;replace n2:=HD n2;replace n3:=HD n3;replace M6:=HD M6;have e3:=n3.out.d;clear hp3 M4;refine wp_region_noPanic ?_;refine wp_region_T (S:=(fun W'=>W'.cell? ⟨b,3,none⟩=some dv∧W'.cell? ⟨w.heap.size,0,none⟩=some (.int .i64 K)∧W'.cell? ⟨w.heap.size,1,none⟩=some (.int .i64 i)∧W'.cell? ⟨w.heap.size,2,none⟩=some (.int .i64 N)∧W'.cell? ⟨w.heap.size,3,none⟩=some (.int .i64 M)∧W'.cell? ⟨w.heap.size,4,none⟩=some (.int .u64 H)∧W'.cell? ⟨w.heap.size,5,none⟩=some (.string sd))) 12 (by kernel_rfl) ?_ (fun hHeld=>?_)
 ·(try dsimp only)
  (first|exact⟨n1.out.d,n1.out.k.k0,n1.out.k.k1,n1.out.k.k2,n1.out.k.k3,n1.out.k.k4,n1.out.k.k5⟩|exact⟨n2.out.d,n2.out.k.k0,n2.out.k.k1,n2.out.k.k2,n2.out.k.k3,n2.out.k.k4,n2.out.k.k5⟩|exact⟨n3.out.d,n3.out.k.k0,n3.out.k.k1,n3.out.k.k2,n3.out.k.k3,n3.out.k.k4,n3.out.k.k5⟩)
 refine tkY 0 (h:=?_);refine tkY 1 (h:=?_);refine tkY 2 (h:=?_);refine tkY 3 (h:=?_);refine tkY 4 (h:=?_);refine tkT 5 (h:=?_);refine tkT 6 (h:=?_);refine onT 7 (h:=fun K hK=>?_);go_simp;refine hK.out _ _ ?_ (fun hHeld=>?_)
 ·(try dsimp only)
  (first|exact⟨n1.out.d,n1.out.k.k0,n1.out.k.k1,n1.out.k.k2,n1.out.k.k3,n1.out.k.k4,n1.out.k.k5⟩|exact⟨n2.out.d,n2.out.k.k0,n2.out.k.k1,n2.out.k.k2,n2.out.k.k3,n2.out.k.k4,n2.out.k.k5⟩|exact⟨n3.out.d,n3.out.k.k0,n3.out.k.k1,n3.out.k.k2,n3.out.k.k3,n3.out.k.k4,n3.out.k.k5⟩)
 clear hK;refine nmT (h:=?_);refine onT 8 (h:=fun K hK=>?_);refine step_append_is _ rfl _ _ 36 rfl rfl rfl hap ?_;refine hK.out _ _ ?_ (fun hHeld=>?_)
 ·(try dsimp only)
  (first|exact⟨n1.out.d,n1.out.k.k0,n1.out.k.k1,n1.out.k.k2,n1.out.k.k3,n1.out.k.k4,n1.out.k.k5⟩|exact⟨n2.out.d,n2.out.k.k0,n2.out.k.k1,n2.out.k.k2,n2.out.k.k3,n2.out.k.k4,n2.out.k.k5⟩|exact⟨n3.out.d,n3.out.k.k0,n3.out.k.k1,n3.out.k.k2,n3.out.k.k3,n3.out.k.k4,n3.out.k.k5⟩)
 clear hK;refine nmT (h:=?_);refine tkY 9 (h:=?_);refine tkY 10 (h:=?_);refine tkY 11 (h:=?_);refine laT (h:=fun K hK=>?_);go_simp;refine hK.out _ _ ?_;clear hK;refine NoPanic.normal ?_;clear hap n1 n2 n3 z3 e3 k0 k1 k2 k3 k4 k5 l0 l1 l2 l3 l4 l5 f0 f1 f2 f3 f4 f5 q0 q1 q2 q3 q4 q5 y0 y1 y2 y3 y4 y5;generalize (w5.setCell ⟨b,3,none⟩ (Value.slice A kc cc))=W6 at *;obtain⟨k0,k1,k2,k3,k4,k5⟩:=M6.out.op.cells;simp only at k0 k1 k2 k3 k4 k5;have M7:=HD (M6.out.still Fr.drew);have hA1:=HD M7.out.adc;obtain⟨bt,hte,hcl⟩:=hak.out _ _ _ _ M7.out;simp only [OpS.v,opV] at hcl;replace hte:=HD hte;replace hcl:=HD hcl;have k7:=M7.out.op.cells;obtain⟨p0,p1,p2,p3,p4,p5⟩:=k7;simp only at p0 p1 p2 p3 p4 p5;clear M6 M7 hak;go_wp2_with fail;refine wp_region_noPanic ?_;refine wp_region_held_drew (S:=(fun W'=>W'.cell? ⟨b,0,none⟩=some (eP ba)∧W'.cell? ⟨w.heap.size,1,none⟩=some (.int .i64 i))) (by kernel_rfl) ?_ (fun hHeld=>?_)
 ·(try dsimp only)
  exact⟨hA1.out.c,hA1.out.k1⟩
 refine tkH 0 (h:=?_);refine tkH 1 (h:=?_);refine tkH 2 (h:=?_);refine tkH 3 (h:=?_);refine tkH 4 (h:=?_);refine tkH 5 (h:=?_);refine tkH 6 (h:=?_);refine onH 7 (h:=fun K hK=>?_);go_simp;refine SM hte.out ?_;go_wp2_with fail;refine hK.out _ _ ?_ (fun hHeld=>?_)
 ·(try dsimp only)
  exact⟨hA1.out.c,hA1.out.k1⟩
 clear hK;refine nmH (h:=?_);refine tkH 8 (h:=?_);refine wpAnyH_done (by kernel_rfl) ?_ _;refine NoPanic.normal ?_;clear hA1 hte;generalize W6.drew=W7 at *;go_wp2_with fail;refine hcl.out.mono ?_;rintro e w8 ⟨rfl,⟨l0,l1,l2,l3,l4,l5,f0,f1,f2,f3,f4,f5⟩,O8,B8,M8⟩;simp only [ans0] at l0 l1 l2 l3 l4 l5;replace M8:=HD M8;clear hcl k0 k1 k2 k3 k4 k5 p0 p1 p2 p3 p4 p5;have hm8:0+30000≤1000000:=by omega
 simp only [ansV];go_wp2_with fail;go_step3
 clear l0 l1 l2 l3 l4 l5 f0 f1 f2 f3 f4 f5;obtain⟨k1',hch,⟨l0,l1,l2,l3,l4,l5,f0,f1,f2,f3,f4,f5⟩,c0,a8,ha8,hto⟩:=M8.out.ph8 hr hi rfl hm8;simp only at k1' l0 l1 l2 l3 l4 l5;replace hch:=HD hch;replace ha8:=HD ha8;replace hto:=HD hto;clear M8;go_wp2_with fail;refine SM hch.out ?_;go_wp2_with fail;refine SM ha8.out ?_;clear ha8 hch;go_wp2_with fail;refine hto.out.mono ?_;rintro e w10 ⟨A1,kc1,cc1,rfl,z1,z2,⟨q0,q1,q2,q3,q4,q5,y0,y1,y2,y3,y4,y5⟩,M11,R11⟩;simp only at q0 q1 q2 q3 q4 q5 M11 R11;replace M11:=HD M11;replace R11:=HD R11;clear hto c0 l0 l1 l2 l3 l4 l5 f0 f1 f2 f3 f4 f5;go_wp2_with fail;rw [Exit.noGoto_ret];refine bodyPost_ret (v:=ansV ⟨re,rh,ra,rn,rd,s'.chg i⟩) ?_ rfl ⟨rfl,O8,B8,_,_,M11.out.sv,M11.out.fr⟩;exact ans_results_at 4 (by kernel_rfl) _ _ _ rfl (R11.out.store ⟨re,rh,ra,rn,rd,s'.chg i⟩)
end
end
section
open Go.RowKit Flt
attribute [local irreducible] CpS.rv
section
variable{w:World}{o:Nat→Tag}{r:Tag}{b ba:Nat}{dv tv:Value}{n kk:Nat}{B:List UInt8}{m:Nat}{s:AdS}{K T N M:Int}{H:Nat}{sd:ByteArray}
theorem SvG.mono(h:SvG w o r b ba dv n tv B m s){m':Nat}(hm:m≤m'):SvG w o r b ba dv n tv B m' s:=⟨h.blk,h.ad.mono hm,h.dn,h.dt⟩
set_option maxHeartbeats 4000000 in
theorem svDo_create{i:Nat}(hi:i<8)(hv:SvG w o r b ba dv n tv B m s)(hr:Root r)(hs:sd.size≤maxLen)(hn:n≤1000000)(hrt:rightO 1 (i:Int) sd=true)(hx:s.nx kk)(hkk:kk≤1000000) :
  Calls Tryz.prog 18 #[eP b,.agg #[.int .i64 1,.int .i64 i,.int .i64 N,.int .i64 M,.int .u64 H,.string sd]] w fun e w'=>e=.returned (ansV ⟨(s.create i M N).1,0,0,0,ByteArray.empty,(s.create i M N).2.chg i⟩)∧∃O B' dv' tv',SvG w' O r b ba dv' (n+1) tv' B' 30000 (s.create i M N).2∧Fr (UndS r) w o w' O:=by
 have M0:=SvM.start hv ⟨1,i,N,M,H,sd⟩;obtain⟨a0,ha,hfo⟩:=M0.ph1 hr;have c0:((w.alloc (.cells #[.int .i64 1,.int .i64 i,.int .i64 N,.int .i64 M,.int .u64 H,.string sd] 32)).alloc (.cells #[.int .i64 0,.int .u64 0,.int .i64 0,.int .i64 0,.string {data:=#[]},.int .i64 0] 47)).cell? ⟨b,0,none⟩=some (eP ba):=M0.c0;replace ha:=HD ha;replace hfo:=HD hfo;have hp2:=HD (fun W O (M1:SvM w o r b ba ⟨1,i,N,M,H,sd⟩ W O dv n (.slice none 0 0) B 0 s ans0)=>M1.ph2 hr hs);rw [if_pos hrt] at hp2;have hak:=HD (fun W O dv n (M7:SvM w o r b ba ⟨1,i,N,M,H,sd⟩ W O dv n (.slice none 0 0) B 0 s ans0)=>M7.create hr hi rfl hx hkk);clear hv M0 hrt hs hx hkk;generalize s.create i M N=rs at *;obtain⟨re,s'⟩:=rs;simp only at hak ⊢;go_enter Tryz.func18,Tryz.ntmps18
 go_wp2_with fail;refine wp_scope_jumps 0 (fun a' w'=>(∃O' B' dv' tv' m',m'≤30000∧SvM w o r b ba ⟨1,i,N,M,H,sd⟩ w' O' dv' (n+1) tv' B' m' s' ⟨re,0,0,0,ByteArray.empty,0⟩)∧∃fv:Nat→Value,a'={tmps:=#[eP b,fv 1,fv 2,eP w.heap.size,eP (w.heap.size+1),fv 5,fv 6,fv 7,fv 8,fv 9,fv 10,fv 11,fv 12,fv 13,fv 14,fv 15,fv 16,fv 17,fv 18,fv 19,fv 20,fv 21,fv 22,fv 23,fv 24,fv 25,fv 26,fv 27,fv 28,fv 29,fv 30,fv 31,fv 32,fv 33,fv 34,fv 35,fv 36,fv 37,fv 38,fv 39,fv 40,fv 41,fv 42,fv 43,fv 44,fv 45,fv 46,fv 47,fv 48,fv 49,fv 50,fv 51,fv 52,fv 53,fv 54,fv 55,fv 56,fv 57,fv 58,fv 59,fv 60,fv 61,fv 62,fv 63,fv 64,fv 65,fv 66,fv 67,fv 68,fv 69,fv 70,fv 71,fv 72,fv 73,fv 74,fv 75,fv 76,fv 77,fv 78,fv 79,fv 80,fv 81,fv 82,fv 83,fv 84,fv 85,fv 86,fv 87,fv 88,fv 89,fv 90,fv 91,fv 92,fv 93,fv 94,fv 95,fv 96,fv 97,fv 98,fv 99,fv 100,fv 101,fv 102,fv 103,fv 104,fv 105,fv 106,fv 107,fv 108,fv 109,fv 110,fv 111,fv 112],defers:=[]}) (fun _ _=>0) rfl ?_ ?_;rotate_left
 ·rintro a' W8 ⟨⟨O8,B8,dv8,tv8,m8,hm0,M8⟩,fv,rfl⟩
  replace M8:=HD M8;have hm8:m8≤1000000:=by omega
  clear ha hfo hp2 c0 hak;obtain⟨k1',hch,⟨l0,l1,l2,l3,l4,l5,f0,f1,f2,f3,f4,f5⟩,c0,a8,ha8,hto⟩:=M8.out.ph8 hr hi rfl hm8;simp only at k1' l0 l1 l2 l3 l4 l5;replace hch:=HD hch;replace ha8:=HD ha8;replace hto:=HD hto;clear M8;go_wp2_with fail;refine SM hch.out ?_;go_wp2_with fail;refine SM ha8.out ?_;clear ha8 hch;go_wp2_with fail;refine hto.out.mono ?_;rintro e w10 ⟨A1,kc1,cc1,rfl,z1,z2,⟨q0,q1,q2,q3,q4,q5,y0,y1,y2,y3,y4,y5⟩,M11,R11⟩;simp only at q0 q1 q2 q3 q4 q5 M11 R11;replace M11:=HD M11;replace R11:=HD R11;clear hto c0 l0 l1 l2 l3 l4 l5 f0 f1 f2 f3 f4 f5;go_wp2_with fail;simp only [Exit.jump];have hfin:=HD (M11.out.sv.mono hm0);refine bodyPost_ret (v:=ansV ⟨re,0,0,0,ByteArray.empty,s'.chg i⟩) ?_ rfl ⟨rfl,O8,B8,_,_,hfin.out,M11.out.fr⟩;exact ans_results_at 4 (by kernel_rfl) _ _ _ rfl (R11.out.store ⟨re,0,0,0,ByteArray.empty,s'.chg i⟩)
 go_wp2_with fail;refine SM ha.out ?_;go_wp2_with fail;refine hfo.out.mono ?_;rintro e w1 ⟨rfl,z1,z2,O1,M1⟩;obtain⟨⟨k0,k1,k2,k3,k4,k5⟩,hck⟩:=hp2.out _ _ M1;simp only [OpS.v,opV] at hck k0 k1 k2 k3 k4 k5;replace hck:=HD hck;clear hp2 ha hfo c0 M1;go_wp2_with fail;refine hck.out.mono ?_;rintro e w3 ⟨rfl,⟨l0,l1,l2,l3,l4,l5,f0,f1,f2,f3,f4,f5⟩,hset⟩;obtain⟨M4,rc4⟩:=hset 0;replace M4:=HD M4;clear hset hck z1 z2;obtain⟨q0,q1,q2,q3,q4,q5,y0,y1,y2,y3,y4,y5⟩:=rc4;simp only [ans0] at q0 q1 q2 q3 q4 q5;simp only [ans0] at l0 l1 l2 l3 l4 l5;go_wp2_with fail;generalize (w3.setCell ⟨w.heap.size+1,0,none⟩ (Value.int .i64 0))=W4 at *;have hp3:=HD (M4.out.ph3 hr hn);obtain⟨n1,n2,A,kc,cc,w5,hap,n3,z3,O6,M6⟩:=hp3.out;replace n1:=HD n1;replace n2:=HD n2;replace n3:=HD n3;replace M6:=HD M6;have e3:=n3.out.d;clear hp3 M4;refine wp_region_noPanic ?_;refine wp_region_T (S:=(fun W'=>W'.cell? ⟨b,3,none⟩=some dv∧W'.cell? ⟨w.heap.size,0,none⟩=some (.int .i64 1)∧W'.cell? ⟨w.heap.size,1,none⟩=some (.int .i64 i)∧W'.cell? ⟨w.heap.size,2,none⟩=some (.int .i64 N)∧W'.cell? ⟨w.heap.size,3,none⟩=some (.int .i64 M)∧W'.cell? ⟨w.heap.size,4,none⟩=some (.int .u64 H)∧W'.cell? ⟨w.heap.size,5,none⟩=some (.string sd))) 12 (by kernel_rfl) ?_ (fun hHeld=>?_)
 ·(try dsimp only)
  (first|exact⟨n1.out.d,n1.out.k.k0,n1.out.k.k1,n1.out.k.k2,n1.out.k.k3,n1.out.k.k4,n1.out.k.k5⟩|exact⟨n2.out.d,n2.out.k.k0,n2.out.k.k1,n2.out.k.k2,n2.out.k.k3,n2.out.k.k4,n2.out.k.k5⟩|exact⟨n3.out.d,n3.out.k.k0,n3.out.k.k1,n3.out.k.k2,n3.out.k.k3,n3.out.k.k4,n3.out.k.k5⟩)
 refine tkY 0 (h:=?_);refine tkY 1 (h:=?_);refine tkY 2 (h:=?_);refine tkY 3 (h:=?_);refine tkY 4 (h:=?_);refine tkT 5 (h:=?_);refine tkT 6 (h:=?_);refine onT 7 (h:=fun K hK=>?_);go_simp;refine hK.out _ _ ?_ (fun hHeld=>?_)
 ·(try dsimp only)
  (first|exact⟨n1.out.d,n1.out.k.k0,n1.out.k.k1,n1.out.k.k2,n1.out.k.k3,n1.out.k.k4,n1.out.k.k5⟩|exact⟨n2.out.d,n2.out.k.k0,n2.out.k.k1,n2.out.k.k2,n2.out.k.k3,n2.out.k.k4,n2.out.k.k5⟩|exact⟨n3.out.d,n3.out.k.k0,n3.out.k.k1,n3.out.k.k2,n3.out.k.k3,n3.out.k.k4,n3.out.k.k5⟩)
 clear hK;refine nmT (h:=?_);refine onT 8 (h:=fun K hK=>?_);refine step_append_is _ rfl _ _ 36 rfl rfl rfl hap ?_;refine hK.out _ _ ?_ (fun hHeld=>?_)
 ·(try dsimp only)
  (first|exact⟨n1.out.d,n1.out.k.k0,n1.out.k.k1,n1.out.k.k2,n1.out.k.k3,n1.out.k.k4,n1.out.k.k5⟩|exact⟨n2.out.d,n2.out.k.k0,n2.out.k.k1,n2.out.k.k2,n2.out.k.k3,n2.out.k.k4,n2.out.k.k5⟩|exact⟨n3.out.d,n3.out.k.k0,n3.out.k.k1,n3.out.k.k2,n3.out.k.k3,n3.out.k.k4,n3.out.k.k5⟩)
 clear hK;refine nmT (h:=?_);refine tkY 9 (h:=?_);refine tkY 10 (h:=?_);refine tkY 11 (h:=?_);refine laT (h:=fun K hK=>?_);go_simp;refine hK.out _ _ ?_;clear hK;refine NoPanic.normal ?_;clear hap n1 n2 n3 z3 e3 k0 k1 k2 k3 k4 k5 l0 l1 l2 l3 l4 l5 f0 f1 f2 f3 f4 f5 q0 q1 q2 q3 q4 q5 y0 y1 y2 y3 y4 y5;generalize (w5.setCell ⟨b,3,none⟩ (Value.slice A kc cc))=W6 at *;obtain⟨k0,k1,k2,k3,k4,k5⟩:=M6.out.op.cells;simp only at k0 k1 k2 k3 k4 k5;have M7:=HD (M6.out.still Fr.drew);have hA1:=HD M7.out.adc;have hcl:=HD (hak.out _ _ _ _ M7.out);clear M6 M7 hak;go_wp2_with fail;refine wp_region_noPanic ?_;refine wp_region_T (S:=(fun W'=>W'.cell? ⟨b,0,none⟩=some (eP ba)∧W'.cell? ⟨w.heap.size,1,none⟩=some (.int .i64 i)∧W'.cell? ⟨w.heap.size,2,none⟩=some (.int .i64 N)∧W'.cell? ⟨w.heap.size,3,none⟩=some (.int .i64 M))) 13 (by kernel_rfl) ?_ (fun hHeld=>?_)
 ·(try dsimp only)
  (first|exact⟨hA1.out.c,hA1.out.k1,hA1.out.k2,hA1.out.k3⟩|exact⟨hA2.out.c,hA2.out.k1,hA2.out.k2,hA2.out.k3⟩)
 refine tkY 0 (h:=?_);refine tkY 1 (h:=?_);refine tkY 2 (h:=?_);refine tkY 3 (h:=?_);refine tkT 4 (h:=?_);refine tkY 5 (h:=?_);refine tkT 6 (h:=?_);refine tkY 7 (h:=?_);refine tkT 8 (h:=?_);refine tkY 9 (h:=?_);refine tkT 10 (h:=?_);refine onT 11 (h:=fun K hK=>?_);go_simp;refine hcl.out.mono ?_;rintro e w7 ⟨rfl,hA2,⟨l0,l1,l2,l3,l4,l5,f0,f1,f2,f3,f4,f5⟩,O8,B8,M8⟩;simp only [ans0] at l0 l1 l2 l3 l4 l5;replace hA2:=HD hA2;replace M8:=HD M8;go_wp2_with fail;refine hK.out _ _ ?_ (fun hHeld=>?_)
 ·(try dsimp only)
  (first|exact⟨hA1.out.c,hA1.out.k1,hA1.out.k2,hA1.out.k3⟩|exact⟨hA2.out.c,hA2.out.k1,hA2.out.k2,hA2.out.k3⟩)
 clear hK;refine nmT (h:=?_);refine tkY 12 (h:=?_);refine laT (h:=fun K hK=>?_);go_simp;refine hK.out _ _ ?_;clear hK;refine NoPanic.normal ?_;clear hA1 hcl;go_wp2_with fail;go_step3
 exact⟨rfl,⟨O8,B8,_,_,_,by omega,M8.out⟩,fun k=>List.getD [undef,_,_,undef,undef,_,_,_,_,_,_,_,_,_,_,_,_,_,_,_,_,_,_,_,_,_,_,_,_,_,_,_,_,_,_,_,_,_,_,_,_,_,_,_,_,_,_,_,_,_,_,_,_,_,_,_,_,_,_,_,_,_,_,_,_,_,_,_,_,_,_,_,_,_,_,_,_,_,_,_,_,_,_,_,_,_,_,_,_,_,_,_,_,_,_,_,_,_,_,_,_,_,_,_,_,_,_,_,_,_,_,_,_] k undef,rfl⟩
set_option maxHeartbeats 4000000 in
theorem svDo_resize{i:Nat}(hi:i<8)(hv:SvG w o r b ba dv n tv B m s)(hr:Root r)(hs:sd.size≤maxLen)(hn:n≤1000000)(hrt:rightO 2 (i:Int) sd=true)(hx:s.nx kk)(hkk:kk≤1000000) :
  Calls Tryz.prog 18 #[eP b,.agg #[.int .i64 2,.int .i64 i,.int .i64 N,.int .i64 M,.int .u64 H,.string sd]] w fun e w'=>e=.returned (ansV ⟨(s.resize i M N).1,0,0,0,ByteArray.empty,(s.resize i M N).2.chg i⟩)∧∃O B' dv' tv',SvG w' O r b ba dv' (n+1) tv' B' 30000 (s.resize i M N).2∧Fr (UndS r) w o w' O:=by
 have M0:=SvM.start hv ⟨2,i,N,M,H,sd⟩;obtain⟨a0,ha,hfo⟩:=M0.ph1 hr;have c0:((w.alloc (.cells #[.int .i64 2,.int .i64 i,.int .i64 N,.int .i64 M,.int .u64 H,.string sd] 32)).alloc (.cells #[.int .i64 0,.int .u64 0,.int .i64 0,.int .i64 0,.string {data:=#[]},.int .i64 0] 47)).cell? ⟨b,0,none⟩=some (eP ba):=M0.c0;replace ha:=HD ha;replace hfo:=HD hfo;have hp2:=HD (fun W O (M1:SvM w o r b ba ⟨2,i,N,M,H,sd⟩ W O dv n (.slice none 0 0) B 0 s ans0)=>M1.ph2 hr hs);rw [if_pos hrt] at hp2;have hak:=HD (fun W O dv n (M7:SvM w o r b ba ⟨2,i,N,M,H,sd⟩ W O dv n (.slice none 0 0) B 0 s ans0)=>M7.resize hr hi rfl (by omega));clear hv M0 hrt hs hx hkk;generalize s.resize i M N=rs at *;obtain⟨re,s'⟩:=rs;simp only at hak ⊢;go_enter Tryz.func18,Tryz.ntmps18
 go_wp2_with fail;refine wp_scope_jumps 0 (fun a' w'=>(∃O' B' dv' tv' m',m'≤30000∧SvM w o r b ba ⟨2,i,N,M,H,sd⟩ w' O' dv' (n+1) tv' B' m' s' ⟨re,0,0,0,ByteArray.empty,0⟩)∧∃fv:Nat→Value,a'={tmps:=#[eP b,fv 1,fv 2,eP w.heap.size,eP (w.heap.size+1),fv 5,fv 6,fv 7,fv 8,fv 9,fv 10,fv 11,fv 12,fv 13,fv 14,fv 15,fv 16,fv 17,fv 18,fv 19,fv 20,fv 21,fv 22,fv 23,fv 24,fv 25,fv 26,fv 27,fv 28,fv 29,fv 30,fv 31,fv 32,fv 33,fv 34,fv 35,fv 36,fv 37,fv 38,fv 39,fv 40,fv 41,fv 42,fv 43,fv 44,fv 45,fv 46,fv 47,fv 48,fv 49,fv 50,fv 51,fv 52,fv 53,fv 54,fv 55,fv 56,fv 57,fv 58,fv 59,fv 60,fv 61,fv 62,fv 63,fv 64,fv 65,fv 66,fv 67,fv 68,fv 69,fv 70,fv 71,fv 72,fv 73,fv 74,fv 75,fv 76,fv 77,fv 78,fv 79,fv 80,fv 81,fv 82,fv 83,fv 84,fv 85,fv 86,fv 87,fv 88,fv 89,fv 90,fv 91,fv 92,fv 93,fv 94,fv 95,fv 96,fv 97,fv 98,fv 99,fv 100,fv 101,fv 102,fv 103,fv 104,fv 105,fv 106,fv 107,fv 108,fv 109,fv 110,fv 111,fv 112],defers:=[]}) (fun _ _=>0) rfl ?_ ?_;rotate_left
 ·rintro a' W8 ⟨⟨O8,B8,dv8,tv8,m8,hm0,M8⟩,fv,rfl⟩
  replace M8:=HD M8;have hm8:m8≤1000000:=by omega
  clear ha hfo hp2 c0 hak;obtain⟨k1',hch,⟨l0,l1,l2,l3,l4,l5,f0,f1,f2,f3,f4,f5⟩,c0,a8,ha8,hto⟩:=M8.out.ph8 hr hi rfl hm8;simp only at k1' l0 l1 l2 l3 l4 l5;replace hch:=HD hch;replace ha8:=HD ha8;replace hto:=HD hto;clear M8;go_wp2_with fail;refine SM hch.out ?_;go_wp2_with fail;refine SM ha8.out ?_;clear ha8 hch;go_wp2_with fail;refine hto.out.mono ?_;rintro e w10 ⟨A1,kc1,cc1,rfl,z1,z2,⟨q0,q1,q2,q3,q4,q5,y0,y1,y2,y3,y4,y5⟩,M11,R11⟩;simp only at q0 q1 q2 q3 q4 q5 M11 R11;replace M11:=HD M11;replace R11:=HD R11;clear hto c0 l0 l1 l2 l3 l4 l5 f0 f1 f2 f3 f4 f5;go_wp2_with fail;simp only [Exit.jump];have hfin:=HD (M11.out.sv.mono hm0);refine bodyPost_ret (v:=ansV ⟨re,0,0,0,ByteArray.empty,s'.chg i⟩) ?_ rfl ⟨rfl,O8,B8,_,_,hfin.out,M11.out.fr⟩;exact ans_results_at 4 (by kernel_rfl) _ _ _ rfl (R11.out.store ⟨re,0,0,0,ByteArray.empty,s'.chg i⟩)
 go_wp2_with fail;refine SM ha.out ?_;go_wp2_with fail;refine hfo.out.mono ?_;rintro e w1 ⟨rfl,z1,z2,O1,M1⟩;obtain⟨⟨k0,k1,k2,k3,k4,k5⟩,hck⟩:=hp2.out _ _ M1;simp only [OpS.v,opV] at hck k0 k1 k2 k3 k4 k5;replace hck:=HD hck;clear hp2 ha hfo c0 M1;go_wp2_with fail;refine hck.out.mono ?_;rintro e w3 ⟨rfl,⟨l0,l1,l2,l3,l4,l5,f0,f1,f2,f3,f4,f5⟩,hset⟩;obtain⟨M4,rc4⟩:=hset 0;replace M4:=HD M4;clear hset hck z1 z2;obtain⟨q0,q1,q2,q3,q4,q5,y0,y1,y2,y3,y4,y5⟩:=rc4;simp only [ans0] at q0 q1 q2 q3 q4 q5;simp only [ans0] at l0 l1 l2 l3 l4 l5;go_wp2_with fail;generalize (w3.setCell ⟨w.heap.size+1,0,none⟩ (Value.int .i64 0))=W4 at *;have hp3:=HD (M4.out.ph3 hr hn);obtain⟨n1,n2,A,kc,cc,w5,hap,n3,z3,O6,M6⟩:=hp3.out;replace n1:=HD n1;replace n2:=HD n2;replace n3:=HD n3;replace M6:=HD M6;have e3:=n3.out.d;clear hp3 M4;refine wp_region_noPanic ?_;refine wp_region_T (S:=(fun W'=>W'.cell? ⟨b,3,none⟩=some dv∧W'.cell? ⟨w.heap.size,0,none⟩=some (.int .i64 2)∧W'.cell? ⟨w.heap.size,1,none⟩=some (.int .i64 i)∧W'.cell? ⟨w.heap.size,2,none⟩=some (.int .i64 N)∧W'.cell? ⟨w.heap.size,3,none⟩=some (.int .i64 M)∧W'.cell? ⟨w.heap.size,4,none⟩=some (.int .u64 H)∧W'.cell? ⟨w.heap.size,5,none⟩=some (.string sd))) 12 (by kernel_rfl) ?_ (fun hHeld=>?_)
 ·(try dsimp only)
  (first|exact⟨n1.out.d,n1.out.k.k0,n1.out.k.k1,n1.out.k.k2,n1.out.k.k3,n1.out.k.k4,n1.out.k.k5⟩|exact⟨n2.out.d,n2.out.k.k0,n2.out.k.k1,n2.out.k.k2,n2.out.k.k3,n2.out.k.k4,n2.out.k.k5⟩|exact⟨n3.out.d,n3.out.k.k0,n3.out.k.k1,n3.out.k.k2,n3.out.k.k3,n3.out.k.k4,n3.out.k.k5⟩)
 refine tkY 0 (h:=?_);refine tkY 1 (h:=?_);refine tkY 2 (h:=?_);refine tkY 3 (h:=?_);refine tkY 4 (h:=?_);refine tkT 5 (h:=?_);refine tkT 6 (h:=?_);refine onT 7 (h:=fun K hK=>?_);go_simp;refine hK.out _ _ ?_ (fun hHeld=>?_)
 ·(try dsimp only)
  (first|exact⟨n1.out.d,n1.out.k.k0,n1.out.k.k1,n1.out.k.k2,n1.out.k.k3,n1.out.k.k4,n1.out.k.k5⟩|exact⟨n2.out.d,n2.out.k.k0,n2.out.k.k1,n2.out.k.k2,n2.out.k.k3,n2.out.k.k4,n2.out.k.k5⟩|exact⟨n3.out.d,n3.out.k.k0,n3.out.k.k1,n3.out.k.k2,n3.out.k.k3,n3.out.k.k4,n3.out.k.k5⟩)
 clear hK;refine nmT (h:=?_);refine onT 8 (h:=fun K hK=>?_);refine step_append_is _ rfl _ _ 36 rfl rfl rfl hap ?_;refine hK.out _ _ ?_ (fun hHeld=>?_)
 ·(try dsimp only)
  (first|exact⟨n1.out.d,n1.out.k.k0,n1.out.k.k1,n1.out.k.k2,n1.out.k.k3,n1.out.k.k4,n1.out.k.k5⟩|exact⟨n2.out.d,n2.out.k.k0,n2.out.k.k1,n2.out.k.k2,n2.out.k.k3,n2.out.k.k4,n2.out.k.k5⟩|exact⟨n3.out.d,n3.out.k.k0,n3.out.k.k1,n3.out.k.k2,n3.out.k.k3,n3.out.k.k4,n3.out.k.k5⟩)
 clear hK;refine nmT (h:=?_);refine tkY 9 (h:=?_);refine tkY 10 (h:=?_);refine tkY 11 (h:=?_);refine laT (h:=fun K hK=>?_);go_simp;refine hK.out _ _ ?_;clear hK;refine NoPanic.normal ?_;clear hap n1 n2 n3 z3 e3 k0 k1 k2 k3 k4 k5 l0 l1 l2 l3 l4 l5 f0 f1 f2 f3 f4 f5 q0 q1 q2 q3 q4 q5 y0 y1 y2 y3 y4 y5;generalize (w5.setCell ⟨b,3,none⟩ (Value.slice A kc cc))=W6 at *;obtain⟨k0,k1,k2,k3,k4,k5⟩:=M6.out.op.cells;simp only at k0 k1 k2 k3 k4 k5;have M7:=HD (M6.out.still Fr.drew);have hA1:=HD M7.out.adc;have hcl:=HD (hak.out _ _ _ _ M7.out);clear M6 M7 hak;go_wp2_with fail;refine wp_region_noPanic ?_;refine wp_region_T (S:=(fun W'=>W'.cell? ⟨b,0,none⟩=some (eP ba)∧W'.cell? ⟨w.heap.size,1,none⟩=some (.int .i64 i)∧W'.cell? ⟨w.heap.size,2,none⟩=some (.int .i64 N)∧W'.cell? ⟨w.heap.size,3,none⟩=some (.int .i64 M))) 13 (by kernel_rfl) ?_ (fun hHeld=>?_)
 ·(try dsimp only)
  (first|exact⟨hA1.out.c,hA1.out.k1,hA1.out.k2,hA1.out.k3⟩|exact⟨hA2.out.c,hA2.out.k1,hA2.out.k2,hA2.out.k3⟩)
 refine tkY 0 (h:=?_);refine tkY 1 (h:=?_);refine tkY 2 (h:=?_);refine tkY 3 (h:=?_);refine tkT 4 (h:=?_);refine tkY 5 (h:=?_);refine tkT 6 (h:=?_);refine tkY 7 (h:=?_);refine tkT 8 (h:=?_);refine tkY 9 (h:=?_);refine tkT 10 (h:=?_);refine onT 11 (h:=fun K hK=>?_);go_simp;refine hcl.out.mono ?_;rintro e w7 ⟨rfl,hA2,⟨l0,l1,l2,l3,l4,l5,f0,f1,f2,f3,f4,f5⟩,O8,B8,M8⟩;simp only [ans0] at l0 l1 l2 l3 l4 l5;replace hA2:=HD hA2;replace M8:=HD M8;go_wp2_with fail;refine hK.out _ _ ?_ (fun hHeld=>?_)
 ·(try dsimp only)
  (first|exact⟨hA1.out.c,hA1.out.k1,hA1.out.k2,hA1.out.k3⟩|exact⟨hA2.out.c,hA2.out.k1,hA2.out.k2,hA2.out.k3⟩)
 clear hK;refine nmT (h:=?_);refine tkY 12 (h:=?_);refine laT (h:=fun K hK=>?_);go_simp;refine hK.out _ _ ?_;clear hK;refine NoPanic.normal ?_;clear hA1 hcl;go_wp2_with fail;go_step3
 exact⟨rfl,⟨O8,B8,_,_,_,by omega,M8.out⟩,fun k=>List.getD [undef,_,_,undef,undef,_,_,_,_,_,_,_,_,_,_,_,_,_,_,_,_,_,_,_,_,_,_,_,_,_,_,_,_,_,_,_,_,_,_,_,_,_,_,_,_,_,_,_,_,_,_,_,_,_,_,_,_,_,_,_,_,_,_,_,_,_,_,_,_,_,_,_,_,_,_,_,_,_,_,_,_,_,_,_,_,_,_,_,_,_,_,_,_,_,_,_,_,_,_,_,_,_,_,_,_,_,_,_,_,_,_,_,_] k undef,rfl⟩
set_option maxHeartbeats 4000000 in
theorem svDo_destroy{i:Nat}(hi:i<8)(hv:SvG w o r b ba dv n tv B m s)(hr:Root r)(hs:sd.size≤maxLen)(hn:n≤1000000)(hrt:rightO 3 (i:Int) sd=true)(hx:s.nx kk)(hkk:kk≤1000000) :
  Calls Tryz.prog 18 #[eP b,.agg #[.int .i64 3,.int .i64 i,.int .i64 N,.int .i64 M,.int .u64 H,.string sd]] w fun e w'=>e=.returned (ansV ⟨(s.destroy i).1,0,0,0,ByteArray.empty,(s.destroy i).2.chg i⟩)∧∃O B' dv' tv',SvG w' O r b ba dv' (n+1) tv' B' 30000 (s.destroy i).2∧Fr (UndS r) w o w' O:=by
 have M0:=SvM.start hv ⟨3,i,N,M,H,sd⟩;obtain⟨a0,ha,hfo⟩:=M0.ph1 hr;have c0:((w.alloc (.cells #[.int .i64 3,.int .i64 i,.int .i64 N,.int .i64 M,.int .u64 H,.string sd] 32)).alloc (.cells #[.int .i64 0,.int .u64 0,.int .i64 0,.int .i64 0,.string {data:=#[]},.int .i64 0] 47)).cell? ⟨b,0,none⟩=some (eP ba):=M0.c0;replace ha:=HD ha;replace hfo:=HD hfo;have hp2:=HD (fun W O (M1:SvM w o r b ba ⟨3,i,N,M,H,sd⟩ W O dv n (.slice none 0 0) B 0 s ans0)=>M1.ph2 hr hs);rw [if_pos hrt] at hp2;have hak:=HD (fun W O dv n (M7:SvM w o r b ba ⟨3,i,N,M,H,sd⟩ W O dv n (.slice none 0 0) B 0 s ans0)=>M7.destroy hr hi rfl (by omega));clear hv M0 hrt hs hx hkk;generalize s.destroy i=rs at *;obtain⟨re,s'⟩:=rs;simp only at hak ⊢;go_enter Tryz.func18,Tryz.ntmps18
 go_wp2_with fail;refine wp_scope_jumps 0 (fun a' w'=>(∃O' B' dv' tv' m',m'≤30000∧SvM w o r b ba ⟨3,i,N,M,H,sd⟩ w' O' dv' (n+1) tv' B' m' s' ⟨re,0,0,0,ByteArray.empty,0⟩)∧∃fv:Nat→Value,a'={tmps:=#[eP b,fv 1,fv 2,eP w.heap.size,eP (w.heap.size+1),fv 5,fv 6,fv 7,fv 8,fv 9,fv 10,fv 11,fv 12,fv 13,fv 14,fv 15,fv 16,fv 17,fv 18,fv 19,fv 20,fv 21,fv 22,fv 23,fv 24,fv 25,fv 26,fv 27,fv 28,fv 29,fv 30,fv 31,fv 32,fv 33,fv 34,fv 35,fv 36,fv 37,fv 38,fv 39,fv 40,fv 41,fv 42,fv 43,fv 44,fv 45,fv 46,fv 47,fv 48,fv 49,fv 50,fv 51,fv 52,fv 53,fv 54,fv 55,fv 56,fv 57,fv 58,fv 59,fv 60,fv 61,fv 62,fv 63,fv 64,fv 65,fv 66,fv 67,fv 68,fv 69,fv 70,fv 71,fv 72,fv 73,fv 74,fv 75,fv 76,fv 77,fv 78,fv 79,fv 80,fv 81,fv 82,fv 83,fv 84,fv 85,fv 86,fv 87,fv 88,fv 89,fv 90,fv 91,fv 92,fv 93,fv 94,fv 95,fv 96,fv 97,fv 98,fv 99,fv 100,fv 101,fv 102,fv 103,fv 104,fv 105,fv 106,fv 107,fv 108,fv 109,fv 110,fv 111,fv 112],defers:=[]}) (fun _ _=>0) rfl ?_ ?_;rotate_left
 ·rintro a' W8 ⟨⟨O8,B8,dv8,tv8,m8,hm0,M8⟩,fv,rfl⟩
  replace M8:=HD M8;have hm8:m8≤1000000:=by omega
  clear ha hfo hp2 c0 hak;obtain⟨k1',hch,⟨l0,l1,l2,l3,l4,l5,f0,f1,f2,f3,f4,f5⟩,c0,a8,ha8,hto⟩:=M8.out.ph8 hr hi rfl hm8;simp only at k1' l0 l1 l2 l3 l4 l5;replace hch:=HD hch;replace ha8:=HD ha8;replace hto:=HD hto;clear M8;go_wp2_with fail;refine SM hch.out ?_;go_wp2_with fail;refine SM ha8.out ?_;clear ha8 hch;go_wp2_with fail;refine hto.out.mono ?_;rintro e w10 ⟨A1,kc1,cc1,rfl,z1,z2,⟨q0,q1,q2,q3,q4,q5,y0,y1,y2,y3,y4,y5⟩,M11,R11⟩;simp only at q0 q1 q2 q3 q4 q5 M11 R11;replace M11:=HD M11;replace R11:=HD R11;clear hto c0 l0 l1 l2 l3 l4 l5 f0 f1 f2 f3 f4 f5;go_wp2_with fail;simp only [Exit.jump];have hfin:=HD (M11.out.sv.mono hm0);refine bodyPost_ret (v:=ansV ⟨re,0,0,0,ByteArray.empty,s'.chg i⟩) ?_ rfl ⟨rfl,O8,B8,_,_,hfin.out,M11.out.fr⟩;exact ans_results_at 4 (by kernel_rfl) _ _ _ rfl (R11.out.store ⟨re,0,0,0,ByteArray.empty,s'.chg i⟩)
 go_wp2_with fail;refine SM ha.out ?_;go_wp2_with fail;refine hfo.out.mono ?_;rintro e w1 ⟨rfl,z1,z2,O1,M1⟩;obtain⟨⟨k0,k1,k2,k3,k4,k5⟩,hck⟩:=hp2.out _ _ M1;simp only [OpS.v,opV] at hck k0 k1 k2 k3 k4 k5;replace hck:=HD hck;clear hp2 ha hfo c0 M1;go_wp2_with fail;refine hck.out.mono ?_;rintro e w3 ⟨rfl,⟨l0,l1,l2,l3,l4,l5,f0,f1,f2,f3,f4,f5⟩,hset⟩;obtain⟨M4,rc4⟩:=hset 0;replace M4:=HD M4;clear hset hck z1 z2;obtain⟨q0,q1,q2,q3,q4,q5,y0,y1,y2,y3,y4,y5⟩:=rc4;simp only [ans0] at q0 q1 q2 q3 q4 q5;simp only [ans0] at l0 l1 l2 l3 l4 l5;go_wp2_with fail;generalize (w3.setCell ⟨w.heap.size+1,0,none⟩ (Value.int .i64 0))=W4 at *;have hp3:=HD (M4.out.ph3 hr hn);obtain⟨n1,n2,A,kc,cc,w5,hap,n3,z3,O6,M6⟩:=hp3.out;replace n1:=HD n1;replace n2:=HD n2;replace n3:=HD n3;replace M6:=HD M6;have e3:=n3.out.d;clear hp3 M4;refine wp_region_noPanic ?_;refine wp_region_T (S:=(fun W'=>W'.cell? ⟨b,3,none⟩=some dv∧W'.cell? ⟨w.heap.size,0,none⟩=some (.int .i64 3)∧W'.cell? ⟨w.heap.size,1,none⟩=some (.int .i64 i)∧W'.cell? ⟨w.heap.size,2,none⟩=some (.int .i64 N)∧W'.cell? ⟨w.heap.size,3,none⟩=some (.int .i64 M)∧W'.cell? ⟨w.heap.size,4,none⟩=some (.int .u64 H)∧W'.cell? ⟨w.heap.size,5,none⟩=some (.string sd))) 12 (by kernel_rfl) ?_ (fun hHeld=>?_)
 ·(try dsimp only)
  (first|exact⟨n1.out.d,n1.out.k.k0,n1.out.k.k1,n1.out.k.k2,n1.out.k.k3,n1.out.k.k4,n1.out.k.k5⟩|exact⟨n2.out.d,n2.out.k.k0,n2.out.k.k1,n2.out.k.k2,n2.out.k.k3,n2.out.k.k4,n2.out.k.k5⟩|exact⟨n3.out.d,n3.out.k.k0,n3.out.k.k1,n3.out.k.k2,n3.out.k.k3,n3.out.k.k4,n3.out.k.k5⟩)
 refine tkY 0 (h:=?_);refine tkY 1 (h:=?_);refine tkY 2 (h:=?_);refine tkY 3 (h:=?_);refine tkY 4 (h:=?_);refine tkT 5 (h:=?_);refine tkT 6 (h:=?_);refine onT 7 (h:=fun K hK=>?_);go_simp;refine hK.out _ _ ?_ (fun hHeld=>?_)
 ·(try dsimp only)
  (first|exact⟨n1.out.d,n1.out.k.k0,n1.out.k.k1,n1.out.k.k2,n1.out.k.k3,n1.out.k.k4,n1.out.k.k5⟩|exact⟨n2.out.d,n2.out.k.k0,n2.out.k.k1,n2.out.k.k2,n2.out.k.k3,n2.out.k.k4,n2.out.k.k5⟩|exact⟨n3.out.d,n3.out.k.k0,n3.out.k.k1,n3.out.k.k2,n3.out.k.k3,n3.out.k.k4,n3.out.k.k5⟩)
 clear hK;refine nmT (h:=?_);refine onT 8 (h:=fun K hK=>?_);refine step_append_is _ rfl _ _ 36 rfl rfl rfl hap ?_;refine hK.out _ _ ?_ (fun hHeld=>?_)
 ·(try dsimp only)
  (first|exact⟨n1.out.d,n1.out.k.k0,n1.out.k.k1,n1.out.k.k2,n1.out.k.k3,n1.out.k.k4,n1.out.k.k5⟩|exact⟨n2.out.d,n2.out.k.k0,n2.out.k.k1,n2.out.k.k2,n2.out.k.k3,n2.out.k.k4,n2.out.k.k5⟩|exact⟨n3.out.d,n3.out.k.k0,n3.out.k.k1,n3.out.k.k2,n3.out.k.k3,n3.out.k.k4,n3.out.k.k5⟩)
 clear hK;refine nmT (h:=?_);refine tkY 9 (h:=?_);refine tkY 10 (h:=?_);refine tkY 11 (h:=?_);refine laT (h:=fun K hK=>?_);go_simp;refine hK.out _ _ ?_;clear hK;refine NoPanic.normal ?_;clear hap n1 n2 n3 z3 e3 k0 k1 k2 k3 k4 k5 l0 l1 l2 l3 l4 l5 f0 f1 f2 f3 f4 f5 q0 q1 q2 q3 q4 q5 y0 y1 y2 y3 y4 y5;generalize (w5.setCell ⟨b,3,none⟩ (Value.slice A kc cc))=W6 at *;obtain⟨k0,k1,k2,k3,k4,k5⟩:=M6.out.op.cells;simp only at k0 k1 k2 k3 k4 k5;have M7:=HD (M6.out.still Fr.drew);have hA1:=HD M7.out.adc;have hcl:=HD (hak.out _ _ _ _ M7.out);clear M6 M7 hak;go_wp2_with fail;refine wp_region_noPanic ?_;refine wp_region_T (S:=(fun W'=>W'.cell? ⟨b,0,none⟩=some (eP ba)∧W'.cell? ⟨w.heap.size,1,none⟩=some (.int .i64 i))) 9 (by kernel_rfl) ?_ (fun hHeld=>?_)
 ·(try dsimp only)
  (first|exact⟨hA1.out.c,hA1.out.k1⟩|exact⟨hA2.out.c,hA2.out.k1⟩)
 refine tkY 0 (h:=?_);refine tkY 1 (h:=?_);refine tkY 2 (h:=?_);refine tkY 3 (h:=?_);refine tkT 4 (h:=?_);refine tkY 5 (h:=?_);refine tkT 6 (h:=?_);refine onT 7 (h:=fun K hK=>?_);go_simp;refine hcl.out.mono ?_;rintro e w7 ⟨rfl,hA2,⟨l0,l1,l2,l3,l4,l5,f0,f1,f2,f3,f4,f5⟩,O8,B8,M8⟩;simp only [ans0] at l0 l1 l2 l3 l4 l5;replace hA2:=HD hA2;replace M8:=HD M8;go_wp2_with fail;refine hK.out _ _ ?_ (fun hHeld=>?_)
 ·(try dsimp only)
  (first|exact⟨hA1.out.c,hA1.out.k1⟩|exact⟨hA2.out.c,hA2.out.k1⟩)
 clear hK;refine nmT (h:=?_);refine tkY 8 (h:=?_);refine laT (h:=fun K hK=>?_);go_simp;refine hK.out _ _ ?_;clear hK;refine NoPanic.normal ?_;clear hA1 hcl;go_wp2_with fail;go_step3
 exact⟨rfl,⟨O8,B8,_,_,_,by omega,M8.out⟩,fun k=>List.getD [undef,_,_,undef,undef,_,_,_,_,_,_,_,_,_,_,_,_,_,_,_,_,_,_,_,_,_,_,_,_,_,_,_,_,_,_,_,_,_,_,_,_,_,_,_,_,_,_,_,_,_,_,_,_,_,_,_,_,_,_,_,_,_,_,_,_,_,_,_,_,_,_,_,_,_,_,_,_,_,_,_,_,_,_,_,_,_,_,_,_,_,_,_,_,_,_,_,_,_,_,_,_,_,_,_,_,_,_,_,_,_,_,_,_] k undef,rfl⟩
end
end
section
open Go.RowKit Flt
attribute [local irreducible] CpS.rv
section
variable{w:World}{o:Nat→Tag}{r:Tag}{b:Nat}{B:List UInt8}{K:Nat}{s:AdS}{x:OpS}
theorem svDo(x:OpS)(h:SvAt w o r b B K s)(hr:Root r)(hK:K≤900000)(hH:x.H<18446744073709551616)(hs:x.s.size≤maxLen) :
  Calls Tryz.prog 18 #[eP b,x.v] w fun e w'=>e=.returned (ansV (s.do_ x).1)∧∃o' B',SvAt w' o' r b B' (K+1) (s.do_ x).2∧Fr (UndS r) w o w' o'∧(rightO x.K x.T x.s=false→B'=B):=by
 obtain⟨ba,dv,n,tv,m,hv,hn,hm,hx⟩:=h;have hok:∃cm p tbs,AdOk B cm p tbs s:=by
  obtain⟨y,cm,p,tbs,g⟩:=hv.ad;exact⟨cm,p,tbs,g.ok⟩
 obtain⟨cm,p,tbs,hok⟩:=hok;have hnx:=nx_do hok hx x;obtain⟨k,T,N,M,H,sd⟩:=x;simp only at hH hs;show Calls _ _ #[eP b,.agg #[.int .i64 k,.int .i64 T,.int .i64 N,.int .i64 M,.int .u64 H,.string sd]] w _;cases hrt:rightO k T sd with
 |false =>
  have e:s.do_ ⟨k,T,N,M,H,sd⟩=(⟨1,0,0,0,ByteArray.empty,0⟩,s):=by
   unfold AdS.do_;rw [if_neg (by simp only;rw [hrt];decide)]
  rw [e];refine(svDo_bad (N:=N) (M:=M) (H:=H) hv hr hs (by rw [hrt];decide)).mono ?_;rintro e w' ⟨rfl,O,h1,f⟩;exact⟨rfl,O,B,⟨ba,dv,n,_,0,h1,by omega,by omega,nx_mono hx⟩,f,fun _=>rfl⟩
 |true =>
  obtain⟨g1,g2,g3,g4,g5,g6⟩:=right_iff.1 hrt;obtain⟨i,rfl⟩:∃i:Nat,T=i:=⟨T.toNat,by omega⟩
  have hi:i<8:=by omega
  have hn2:n≤1000000:=by omega
  have hK2:K≤1000000:=by omega
  by_cases c1:k=1
  ·subst c1
   have e:s.do_ ⟨1,i,N,M,H,sd⟩=(⟨(s.create i M N).1,0,0,0,ByteArray.empty,(s.create i M N).2.chg i⟩,(s.create i M N).2):=by
    unfold AdS.do_;rw [if_pos hrt,if_pos rfl];simp only [Int.toNat_natCast]
   rw [e] at hnx ⊢;refine(svDo_create (M:=M) (N:=N) (H:=H) hi hv hr hs hn2 hrt hx hK2).mono ?_;rintro e w' ⟨rfl,O,B',dv',tv',h1,f⟩;exact⟨rfl,O,B',⟨ba,dv',n+1,tv',30000,h1,by omega,by omega,hnx⟩,f,fun q=>by cases q⟩
  by_cases c2:k=2
  ·subst c2
   have e:s.do_ ⟨2,i,N,M,H,sd⟩=(⟨(s.resize i M N).1,0,0,0,ByteArray.empty,(s.resize i M N).2.chg i⟩,(s.resize i M N).2):=by
    unfold AdS.do_;rw [if_pos hrt,if_neg (show ¬(2:Int)=1 by decide),if_pos rfl];simp only [Int.toNat_natCast]
   rw [e] at hnx ⊢;refine(svDo_resize (M:=M) (N:=N) (H:=H) hi hv hr hs hn2 hrt hx hK2).mono ?_;rintro e w' ⟨rfl,O,B',dv',tv',h1,f⟩;exact⟨rfl,O,B',⟨ba,dv',n+1,tv',30000,h1,by omega,by omega,hnx⟩,f,fun q=>by cases q⟩
  by_cases c3:k=3
  ·subst c3
   have e:s.do_ ⟨3,i,N,M,H,sd⟩=(⟨(s.destroy i).1,0,0,0,ByteArray.empty,(s.destroy i).2.chg i⟩,(s.destroy i).2):=by
    unfold AdS.do_;rw [if_pos hrt,if_neg (show ¬(3:Int)=1 by decide),if_neg (show ¬(3:Int)=2 by decide),if_pos rfl];simp only [Int.toNat_natCast]
   rw [e] at hnx ⊢;refine(svDo_destroy (M:=M) (N:=N) (H:=H) hi hv hr hs hn2 hrt hx hK2).mono ?_;rintro e w' ⟨rfl,O,B',dv',tv',h1,f⟩;exact⟨rfl,O,B',⟨ba,dv',n+1,tv',30000,h1,by omega,by omega,hnx⟩,f,fun q=>by cases q⟩
  cases ht:s.ts i with
  |none =>
   have e:s.do_ ⟨k,i,N,M,H,sd⟩=(⟨6,0,0,0,ByteArray.empty,0⟩,s):=by
    unfold AdS.do_;rw [if_pos hrt,if_neg c1,if_neg c2,if_neg c3];simp only [Int.toNat_natCast];rw [ht]
   rw [e] at hnx ⊢;refine(svDo_none (M:=M) (N:=N) (H:=H) hi hv hr hs hn2 hrt (by omega) ht).mono ?_;rintro e w' ⟨rfl,O,dv',h1,f⟩;exact⟨rfl,O,B,⟨ba,dv',n+1,_,0,h1,by omega,by omega,hnx⟩,f,fun _=>rfl⟩
  |some t =>
   have e:s.do_ ⟨k,i,N,M,H,sd⟩=({(t.ask ⟨k,i,N,M,H,sd⟩).1 with ch:=(t.ask ⟨k,i,N,M,H,sd⟩).2.cb},s.set i (t.ask ⟨k,i,N,M,H,sd⟩).2):=by
    unfold AdS.do_;rw [if_pos hrt,if_neg c1,if_neg c2,if_neg c3];simp only [Int.toNat_natCast];rw [ht]
   rw [e] at hnx ⊢;refine(svDo_ask (M:=M) (N:=N) (H:=H) hi hv hr hs hn2 hrt (by omega) hx hK2 hH ht).mono ?_;rintro e w' ⟨rfl,O,B',dv',tv',h1,f⟩;exact⟨rfl,O,B',⟨ba,dv',n+1,tv',30000,h1,by omega,by omega,hnx⟩,f,fun q=>by cases q⟩
end
end
section
open Go.RowKit Flt
def TpAt(w:World)(g:Nat)(rest:ByteArray)(sh:Bool):Prop:=w.heap[g]? = some (.cells #[.string rest,.bool sh] 93 (0,0))
def TpPost(w:World)(g:Nat)(w':World):Prop:=∃rest sh,TpAt w' g rest sh∧rest.size≤100000∧Only (· = g) w w'
section
variable{w w':World}{g:Nat}{rest:ByteArray}{sh:Bool}
theorem TpAt.blk(h:TpAt w g rest sh):Blk w (fun _=>[]) [] g #[.string rest,.bool sh] 93:=⟨rfl,h⟩
theorem TpAt.lt(h:TpAt w g rest sh):g<w.heap.size:=h.blk.lt
theorem TpPost.refl(h:TpAt w g rest sh)(hr:rest.size≤100000):TpPost w g w:=⟨rest,sh,h,hr,Only.refl _ _⟩
theorem ba_eq(x:ByteArray):baL x.data.toList=x:=by unfold baL;simp
set_option maxHeartbeats 1000000 in
theorem tpBytes(n:Nat)(h:TpAt w g rest sh)(hr:rest.size≤100000)(hn:1≤n∧n≤255) :
  Calls Tryz.prog 115 #[eP g,.int .i64 n] w fun e w'=>∃l:List UInt8,l.length=n∧e=.returned (.string (baL l))∧TpPost w g w':=by
 obtain⟨i0,hi,hz0,hz1,hz2⟩:=info_parts infoU8';have c0:w.cell? ⟨g,0,none⟩=some (.string rest):=h.blk.cell' (i:=0) rfl;have c1:w.cell? ⟨g,1,none⟩=some (.bool sh):=h.blk.cell' (i:=1) rfl;have f0:=h.blk.free 0;have f1:=h.blk.free 1;by_cases hc:rest.size<n
 ·have d0:decide (rest.size<n)=true:=decide_eq_true (by omega)
  have hmx:max (n:Int) 1=n:=by omega
  have hB:TpAt ((w.setCell ⟨g,0,none⟩ (.string ⟨#[]⟩)).setCell ⟨g,1,none⟩ (.bool true)) g ⟨#[]⟩ true:=((h.blk.set 0 (.string ⟨#[]⟩)).set 1 (.bool true)).2;have e1:(w.setCell ⟨g,0,none⟩ (.string ⟨#[]⟩)).cell? ⟨g,1,none⟩=some (.bool sh):=(h.blk.set 0 _).cell' (i:=1) rfl;have e2:(w.setCell ⟨g,0,none⟩ (.string ⟨#[]⟩)).frozen? ⟨g,1,none⟩=false:=(h.blk.set 0 _).free 1;have hO:Only (· = g) w ((w.setCell ⟨g,0,none⟩ (.string ⟨#[]⟩)).setCell ⟨g,1,none⟩ (.bool true)):=((Only.refl (fun k=>k=g) w).setCell (p:=⟨g,0,none⟩) (fun _=>rfl) _).setCell (p:=⟨g,1,none⟩) (fun _=>rfl) _;have hsz:((w.setCell ⟨g,0,none⟩ (.string ⟨#[]⟩)).setCell ⟨g,1,none⟩ (.bool true)).heap.size=w.heap.size:=by simp
  have hconv:=run_convert_bytes_back (P:=Tryz.prog) (((w.setCell ⟨g,0,none⟩ (.string ⟨#[]⟩)).setCell ⟨g,1,none⟩ (.bool true)).alloc (.cells (Array.replicate n (.int .u8 0)) 5)) 57 9 5 ⟨w.heap.size,0,none⟩ n (List.replicate n 0) Tryz.underlying57 Tryz.underlying5 Tryz.underlying9 (fun j hj=>by
   rw [add_pl,Nat.zero_add];have:=heap_alloc_new ((w.setCell ⟨g,0,none⟩ (.string ⟨#[]⟩)).setCell ⟨g,1,none⟩ (.bool true)) (.cells (Array.replicate n (.int .u8 0)) 5);rw [hsz] at this;rw [cell_of_row _ w.heap.size j _ _ _ this];rw [List.length_replicate] at hj;simp [hj])
  rw [List.length_replicate] at hconv;have hfin:Hid (TpPost w g (((w.setCell ⟨g,0,none⟩ (.string ⟨#[]⟩)).setCell ⟨g,1,none⟩ (.bool true)).alloc (.cells (Array.replicate n (.int .u8 0)) 5))):=HD ⟨⟨#[]⟩,true,(hB.blk.alloc _).2,by decide,hO.alloc _⟩;clear h hB hO hc;go_enter Tryz.func115,Tryz.ntmps115
  go_wp2_with (at_make;refine wpList_make_eq _ rfl _ _ 57 rfl 5 i0 (.int .u8 0) Tryz.underlying57 hi hz0 hz1 rfl _ _ _ _ n rfl rfl (by omega) (by omega) (by rw [hz2];omega) (by omega) ?_)
  go_wp2_with fail;go_ret
  exact⟨List.replicate n 0,by simp,rfl,hfin.out⟩
 ·have d0:decide (rest.size<n)=false:=decide_eq_false (by omega)
  have hnn:((n:Int)).toNat=n:=by omega
  have hle:(n:Int)≤rest.size:=by omega
  have hfin:Hid (TpPost w g (w.setCell ⟨g,0,none⟩ (.string (rest.extract n rest.size)))):=HD ⟨rest.extract n rest.size,sh,(h.blk.set 0 _).2,by rw [ByteArray.size_extract];omega,(Only.refl (fun k=>k=g) w).setCell (p:=⟨g,0,none⟩) (fun _=>rfl) _⟩;have hlen:(rest.extract 0 n).data.toList.length=n:=by
   rw [Array.length_toList];show (rest.extract 0 n).size=n;rw [ByteArray.size_extract];omega
  clear h hc;go_enter Tryz.func115,Tryz.ntmps115
  go_wp2_with fail;go_ret
  exact⟨(rest.extract 0 n).data.toList,hlen,by rw [ba_eq];rfl,hfin.out⟩
end
end
end Go.Proofs.YtfliaggjkianpaaGreatDoor
