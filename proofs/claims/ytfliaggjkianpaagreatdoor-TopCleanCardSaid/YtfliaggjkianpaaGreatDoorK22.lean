import Derived.Test.YtfliaggjkianpaaGreatDoorK21
set_option linter.unusedVariables false
set_option linter.unusedSimpArgs false
set_option maxRecDepth 100000
namespace Go.Proofs.YtfliaggjkianpaaGreatDoor
section
open Go.RowKit Flt
attribute [local irreducible] CpS.rv
section
variable{w w' w1 w2:World}{o o' o1:Nat→Tag}{t u z:Tag}{b a c:Nat}{y:TnX}{B B' B1:List UInt8}{m m':Nat}{cm cm1:CmS}{win:List Int}{tb tb1:TbS}{s s':TnS}
theorem TnAt.use(h:TnAt w o t u z b a c B m cm win tb s)(ok:TnOk B cm win tb s){ad:Int}{d:List UInt8}(hd:mGet s.ob ad=some d) :
  ∃bh,w.cell? ⟨b,2,none⟩=some (eP bh)∧Calls Tryz.prog 103 #[eP bh,.int .i64 ad] w (fun e w2=>e=.returned (.tuple #[.int .i64 (unitT (kdT ad)),.int .i64 0])∧TnAt w2 o t u z b a c B m cm win tb s∧Fr (fun _=>False) w o w2 o):=by
 have h2':=h;obtain⟨y,h3⟩:=h;obtain⟨k,sl,j,rfl,hhad,_⟩:=ok.ob.at_ _ _ hd;refine⟨y.bh,h3.tn.c2,(hpUsable y.bh a c k sl j w h3.tn.hp hhad (ok.hp.al.n k hhad.there.1)).mono ?_⟩;rintro e w2 ⟨rfl,n,rfl⟩;obtain⟨_,_,e1,_,_⟩:=find_pos hhad.1;rw [e1];exact⟨rfl,h2'.still (fr_drewN n),fr_drewN n⟩
theorem kindOfA(n:Int)(w:World):Calls Tryz.prog 102 #[.int .i64 n] w fun e w'=>e=.returned (.int .i64 (kindT n))∧w'=w:=kindOf_any n w
set_option maxHeartbeats 2000000 in
theorem tnRealloc(hn:Nat)(n:Int)(hh:hn<18446744073709551616)(h:TnAt w o t u z b a c B m cm win tb s)(ok:TnOk B cm win tb s)(ap:Ap3 t u z)(h7:T7 t u z)(h8:¬z <+: [8])(hm:m≤600000)(hx:s.cp.next<17592186044416) :
  Calls Tryz.prog 63 #[eP b,.int .u64 hn,.int .i64 n] w fun e w'=>e=.returned (ansV (s.realloc hn n).1)∧TnGo w o t u z b a c B (m+30000) cm win (s.realloc hn n).2 w':=by
 have h1:=h.made (.cells (ansC ans0) 47);have hf:=HD (tnFindA hn 4 hh h1);have hob:=find_ob (hn:=hn) (r:=4) ok;have hfr:Fr (fun _=>False) w o (w.alloc (.cells (ansC ans0) 47)) (setO o w.heap.size [7]):=Fr.alloc _ _;unfold TnS.realloc TnS.bytes;generalize s.cp.findF hn 4=p at *;obtain⟨ad,e0⟩:=p;simp only at hob hf ⊢;by_cases hc0:e0=0
 ·subst hc0
  rw [if_neg (fun q=>q rfl)];obtain⟨d,hd⟩:=hob rfl;rw [hd,Option.getD_some];have hk:=HD (fun w=>kindOfA n w);by_cases c0:kindT n<0
  ·rw [if_pos c0]
   simp only;have d0:decide (kindT n<0)=true:=decide_eq_true c0;have hgo:=HD (show ∀w1,Below (w.alloc (.cells (ansC ans0) 47)).heap.size (w.alloc (.cells (ansC ans0) 47)) w1→TnGo (w.alloc (.cells (ansC ans0) 47)) (setO o w.heap.size [7]) t u z b a c B (m+30000) cm win s w1 from fun w1 hb=>((h1.mono (by omega)).go ok).still hb);have hfa:=HD (fun w1 (q:TnGo (w.alloc (.cells (ansC ans0) 47)) (setO o w.heap.size [7]) t u z b a c B (m+30000) cm win s w1)=>q.fail 2);have hrow:=HD (fun w1 (q:TnGo (w.alloc (.cells (ansC ans0) 47)) (setO o w.heap.size [7]) t u z b a c B (m+30000) cm win s w1)=>(q.row h7 ⟨2,0,0,0,ByteArray.empty,s.cb⟩));clear h h1 ok hm hob hd hx hfr c0;generalize kindT n=kn at *;go_enter Tryz.func63,Tryz.ntmps63
   go_wp2_with fail;go_step3
   go_wp2_with fail;refine hf.out.mono ?_;rintro e w1 ⟨rfl,hb⟩;replace hgo:=HD (hgo.out w1 hb);clear hf hb;go_wp2_with fail;refine SM (hk.out _) ?_;go_wp2_with fail;refine(hfa.out _ hgo.out).mono ?_;rintro e w3 ⟨rfl,g3⟩;obtain⟨qB,gE⟩:=hrow.out w3 g3;obtain⟨l0,l1,l2,l3,l4,l5,g0,g1,g2,g3,g4,g5⟩:=qB.cells;replace qB:=HD qB;clear hfa hrow hgo;simp only [ansV];go_wp2_with fail;rw [Exit.noGoto_ret];refine bodyPost_ret (v:=ansV ⟨2,0,0,0,ByteArray.empty,s.cb⟩) ?_ rfl ⟨rfl,gE⟩;exact ans_results_at 6 (by kernel_rfl) _ _ _ rfl (qB.out.store ⟨2,0,0,0,ByteArray.empty,s.cb⟩)
  ·rw [if_neg c0]
   obtain⟨k,hkn⟩:∃k:Nat,kindT n=k:=⟨(kindT n).toNat,by omega⟩
   have hz:=kind_size hkn;have hsz:=ok.size hd;have d0:decide (kindT n<0)=false:=decide_eq_false c0;obtain⟨nn,rfl⟩:∃nn:Nat,n=nn:=⟨n.toNat,by omega⟩
   have hch:chargeT nn=unitT k:=by unfold chargeT;rw [hkn]
   have hcost:=HD (fun w=>tnCost nn w);rw [hkn,Int.toNat_natCast,Int.toNat_natCast];rw [hkn] at hk d0;rw [hch] at hcost ⊢;have hlk:=HD (show ∀w1,Below (w.alloc (.cells (ansC ans0) 47)).heap.size (w.alloc (.cells (ansC ans0) 47)) w1→(∃go,w1.cell? ⟨b,7,none⟩=some (.map (some go))∧(Instr.lookup 131 (.map (some go)) (.int .i64 ad) false).run Tryz.prog w1=.ok (.int .i64 d.length) w1) ∧
     ∃bh,w1.cell? ⟨b,2,none⟩=some (eP bh)∧Calls Tryz.prog 103 #[eP bh,.int .i64 ad] w1 (fun e w2=>e=.returned (.tuple #[.int .i64 (unitT (kdT ad)),.int .i64 0])∧TnAt w2 (setO o w.heap.size [7]) t u z b a c B m cm win tb s∧Fr (fun _=>False) (w.alloc (.cells (ansC ans0) 47)) (setO o w.heap.size [7]) w2 (setO o w.heap.size [7])) from fun w1 hb=>by
    have h2:=h1.still (Fr.below hb);obtain⟨bh,u1,u2⟩:=h2.use ok hd;refine⟨h2.look hd,bh,u1,u2.mono ?_⟩;rintro e w2 ⟨rfl,q1,q2⟩;exact⟨rfl,q1,(Fr.below hb).trans q2⟩)
   by_cases c1:unitT k≤unitT (kdT ad)
   ·rw [if_pos c1]
    simp only;have hun:(nn:Int)≤unitT (kdT ad):=by omega
    have d1:decide (unitT (kdT ad)<unitT k)=false:=decide_eq_false (by omega);by_cases c2:nn<d.length
    ·have d2:decide ((nn:Int)<d.length)=true:=decide_eq_true (by omega)
     have u1:=IntWalk.i64_in (ad+nn) (by omega);have u2:=IntWalk.i64_in ((d.length:Int)-nn) (by omega);have hall:=HD (show ∀w2,TnAt w2 (setO o w.heap.size [7]) t u z b a c B m cm win tb s→Fr (fun _=>False) (w.alloc (.cells (ansC ans0) 47)) (setO o w.heap.size [7]) w2 (setO o w.heap.size [7]) →
       ∃bh bt go,(w2.drew.cell? ⟨b,0,none⟩=some (eP a)∧w2.drew.cell? ⟨b,2,none⟩=some (eP bh))∧Calls Tryz.prog 106 #[eP bh] w2.drew (fun e w3=>e=.returned (eP bt)∧w3=w2.drew) ∧
       Calls Tryz.prog 105 #[eP a,eP bt,.int .i64 (ad+nn),.int .i64 ((d.length:Int)-nn)] w2.drew (fun e w3=>e=.returned (.int .i64 0)∧(w3.cell? ⟨b,0,none⟩=some (eP a)∧w3.cell? ⟨b,2,none⟩=some (eP bh))∧w3.cell? ⟨b,7,none⟩=some (.map (some go)) ∧
        ∃w4,(Instr.mapUpdate 131 (.map (some go)) (.int .i64 ad) (.int .i64 nn)).run Tryz.prog w3=.ok () w4∧TnGo (w.alloc (.cells (ansC ans0) 47)) (setO o w.heap.size [7]) t u z b a c B (m+30000) cm win (s.setOb ad (sized d nn)) w4) from fun w2 q f=>by
      obtain⟨bh,bt,go,a1,a2,a3⟩:=tnShr (n:=nn) (q.still Fr.drew) ok ap (by omega) hd (by omega) (by omega);refine⟨bh,bt,go,a1,a2,a3.mono ?_⟩;rintro e w3 ⟨rfl,b1,b2,w4,b3,b4⟩;refine⟨rfl,b1,b2,w4,b3,?_⟩;obtain⟨o',B',cm',tb',g1,g2,g3,g4⟩:=b4;exact⟨o',B',cm',tb',g1.mono (by omega),g2,g3,((f.trans Fr.drew).mono fun v q=>q.elim).trans g4⟩)
     have ecb:(s.setOb ad (sized d nn)).cb=s.cb:=rfl;generalize s.setOb ad (sized d nn)=s' at *;rw [←ecb];have hsay:=HD (fun w1 (q:TnGo (w.alloc (.cells (ansC ans0) 47)) (setO o w.heap.size [7]) t u z b a c B (m+30000) cm win s' w1)=>q.say ⟨0,hn,ad,0,ByteArray.empty,0⟩);have hrow:=HD (fun w1 (q:TnGo (w.alloc (.cells (ansC ans0) 47)) (setO o w.heap.size [7]) t u z b a c B (m+30000) cm win s' w1)=>(q.row h7 ⟨0,hn,ad,0,ByteArray.empty,s'.cb⟩));clear h h1 ok hm hob hd hx hfr c0 c1 c2 hkn hz hsz hch hun ecb;generalize unitT (kdT ad)=un at *;generalize unitT (k:Int)=uk at *;generalize (d.length:Int)=sz at *;generalize (nn:Int)=n at *;go_enter Tryz.func63,Tryz.ntmps63
     go_wp2_with fail;go_step3
     go_wp2_with fail;refine hf.out.mono ?_;rintro e w1 ⟨rfl,hb⟩;obtain⟨⟨go,c7,hl⟩,bh,c2,hus⟩:=hlk.out w1 hb;replace hus:=HD hus;clear hf hb hlk;go_wp2_with fail;refine SM (hk.out _) ?_;go_wp2_with fail;refine hus.out.mono ?_;rintro e w2 ⟨rfl,q1,q2⟩;obtain⟨bh2,bt,go2,hcc,htb,hze⟩:=hall.out w2 q1 q2;replace htb:=HD htb;replace hze:=HD hze;clear q1 q2 hall hus c7 c2 hl hk;go_wp2_with fail;refine SM (hcost.out _) ?_;go_wp2_with fail;refine wp_region_noPanic ?_;refine wp_region_held_drew (S:=(fun W'=>W'.cell? ⟨b,0,none⟩=some (eP a)∧W'.cell? ⟨b,2,none⟩=some (eP bh2))) (by kernel_rfl) ?_ (fun hHeld=>?_)
     ·(first|exact hcc|exact hcs)
     refine tkH 0 (h:=?_);refine tkH 1 (h:=?_);refine tkH 2 (h:=?_);refine tkH 3 (h:=?_);refine tkH 4 (h:=?_);refine tkH 5 (h:=?_);refine tkH 6 (h:=?_);refine tkH 7 (h:=?_);refine tkH 9 (h:=?_);refine tkH 10 (h:=?_);refine tkH 11 (h:=?_);refine tkH 12 (h:=?_);refine tkH 13 (h:=?_);refine tkH 14 (h:=?_);refine onH 8 (h:=fun K hK=>?_);go_simp;refine SM htb.out ?_;go_wp2_with fail;refine hK.out _ _ ?_ (fun hHeld=>?_)
     ·(first|exact hcc|exact hcs)
     clear hK;refine nmH (h:=?_);refine onH 15 (h:=fun K hK=>?_);go_simp;refine hze.out.mono ?_;rintro e w3 ⟨rfl,hcs,c7',w4,hmu,g4⟩;replace g4:=HD g4;go_wp2_with fail;refine hK.out _ _ ?_ (fun hHeld=>?_)
     ·(first|exact hcc|exact hcs)
     clear hK;refine nmH (h:=?_);refine wpAnyH_done (by kernel_rfl) ?_ _;refine NoPanic.normal ?_;go_wp2_with fail;refine(hsay.out _ g4.out).mono ?_;rintro e w3 ⟨rfl,g3⟩;obtain⟨qB,gE⟩:=hrow.out w3 g3;obtain⟨l0,l1,l2,l3,l4,l5,g0,g1,g2,g3,g4,g5⟩:=qB.cells;replace qB:=HD qB;clear hsay hrow;simp only [ansV];go_wp2_with fail;rw [Exit.noGoto_ret];refine bodyPost_ret (v:=ansV ⟨0,hn,ad,0,ByteArray.empty,s'.cb⟩) ?_ rfl ⟨rfl,gE⟩;exact ans_results_at 6 (by kernel_rfl) _ _ _ rfl (qB.out.store ⟨0,hn,ad,0,ByteArray.empty,s'.cb⟩)
    ·have d2:decide ((nn:Int)<d.length)=false:=decide_eq_false (by omega)
     have hall:=HD (show ∀w2,TnAt w2 (setO o w.heap.size [7]) t u z b a c B m cm win tb s→Fr (fun _=>False) (w.alloc (.cells (ansC ans0) 47)) (setO o w.heap.size [7]) w2 (setO o w.heap.size [7]) →
       ∃go,w2.cell? ⟨b,7,none⟩=some (.map (some go)) ∧
        ∃w4,(Instr.mapUpdate 131 (.map (some go)) (.int .i64 ad) (.int .i64 nn)).run Tryz.prog w2=.ok () w4∧TnGo (w.alloc (.cells (ansC ans0) 47)) (setO o w.heap.size [7]) t u z b a c B (m+30000) cm win (s.setOb ad (sized d nn)) w4 from fun w2 q f=>by
      obtain⟨y,q⟩:=q;obtain⟨b2,w4,b3,b4⟩:=TnW.sto q ap ok.obs (ok.grown hd (by omega) hun) (sized_len d nn);refine⟨y.go,b2,w4,b3,?_⟩;obtain⟨o',B',cm',tb',g1,g2,g3,g4⟩:=b4;exact⟨o',B',cm',tb',g1.mono (by omega),g2,g3,(f.mono fun v q=>q.elim).trans g4⟩)
     have ecb:(s.setOb ad (sized d nn)).cb=s.cb:=rfl;generalize s.setOb ad (sized d nn)=s' at *;rw [←ecb];have hsay:=HD (fun w1 (q:TnGo (w.alloc (.cells (ansC ans0) 47)) (setO o w.heap.size [7]) t u z b a c B (m+30000) cm win s' w1)=>q.say ⟨0,hn,ad,0,ByteArray.empty,0⟩);have hrow:=HD (fun w1 (q:TnGo (w.alloc (.cells (ansC ans0) 47)) (setO o w.heap.size [7]) t u z b a c B (m+30000) cm win s' w1)=>(q.row h7 ⟨0,hn,ad,0,ByteArray.empty,s'.cb⟩));clear h h1 ok hm hob hd hx hfr c0 c1 c2 hkn hz hsz hch hun ecb;generalize unitT (kdT ad)=un at *;generalize unitT (k:Int)=uk at *;generalize (d.length:Int)=sz at *;generalize (nn:Int)=n at *;go_enter Tryz.func63,Tryz.ntmps63
     go_wp2_with fail;go_step3
     go_wp2_with fail;refine hf.out.mono ?_;rintro e w1 ⟨rfl,hb⟩;obtain⟨⟨go,c7,hl⟩,bh,c2,hus⟩:=hlk.out w1 hb;replace hus:=HD hus;clear hf hb hlk;go_wp2_with fail;refine SM (hk.out _) ?_;go_wp2_with fail;refine hus.out.mono ?_;rintro e w2 ⟨rfl,q1,q2⟩;obtain⟨go2,c7',w4,hmu,g4⟩:=hall.out w2 q1 q2;replace g4:=HD g4;clear q1 q2 hall hus c7 c2 hl hk;go_wp2_with fail;refine SM (hcost.out _) ?_;go_wp2_with fail;refine(hsay.out _ g4.out).mono ?_;rintro e w3 ⟨rfl,g3⟩;obtain⟨qB,gE⟩:=hrow.out w3 g3;obtain⟨l0,l1,l2,l3,l4,l5,g0,g1,g2,g3,g4,g5⟩:=qB.cells;replace qB:=HD qB;clear hsay hrow;simp only [ansV];go_wp2_with fail;rw [Exit.noGoto_ret];refine bodyPost_ret (v:=ansV ⟨0,hn,ad,0,ByteArray.empty,s'.cb⟩) ?_ rfl ⟨rfl,gE⟩;exact ans_results_at 6 (by kernel_rfl) _ _ _ rfl (qB.out.store ⟨0,hn,ad,0,ByteArray.empty,s'.cb⟩)
   ·rw [if_neg c1]
    have d1:decide (unitT (kdT ad)<unitT k)=true:=decide_eq_true (by omega);have hsn:d.length≤nn:=by
     obtain⟨k2,s2,j2,e2,g1,g2,g3,_⟩:=ok.ob.at_ _ _ hd;have e3:=(find_pos g1.1).2.2.1;rw [←e2] at e3;rw [e3] at c1;have hk2:=g1.there.1;have hu8:=kind_facts (c:=(k:Int)) (by omega) (by omega);have h24:=unit_kind (n:=(nn:Int)) (by omega) (by omega);rw [hkn] at h24;have hu2:=kind_facts (c:=(k2:Int)) (by omega) (by omega);by_cases q:k2<k
     ·have:=h24.2.2.2 k2 (by omega) (by omega);omega
     ·exfalso
      have hm2:unitT k≤unitT k2:=unit_mono (by omega) (by omega) (by omega);omega
    by_cases c3:s.qb<s.cb+unitT k
    ·rw [if_pos c3]
     simp only;have hmv:=HD (show ∀w2,TnAt w2 (setO o w.heap.size [7]) t u z b a c B m cm win tb s→Fr (fun _=>False) (w.alloc (.cells (ansC ans0) 47)) (setO o w.heap.size [7]) w2 (setO o w.heap.size [7]) →
       Calls Tryz.prog 98 #[eP b,.int .i64 nn] w2 (fun e w3=>e=.returned (.tuple #[.int .u64 0,.int .i64 0,.int .i64 3])∧TnGo (w.alloc (.cells (ansC ans0) 47)) (setO o w.heap.size [7]) t u z b a c B (m+30000) cm win s w3) from fun w2 q f=>by
      have e:s.getR nn=(⟨0,0,3⟩,s):=by
       unfold TnS.getR;rw [if_neg c0,if_pos (by rw [hch];exact c3)]
      have:=tnGetR nn q ok ap (by omega) hx;rw [e] at this;refine this.mono ?_;rintro e w3 ⟨rfl,o',B',cm',tb',g1,g2,g3,g4⟩;exact⟨rfl,o',B',cm',tb',g1.mono (by omega),g2,g3,(f.mono fun v q=>q.elim).trans g4⟩)
     have hfa:=HD (fun w1 (q:TnGo (w.alloc (.cells (ansC ans0) 47)) (setO o w.heap.size [7]) t u z b a c B (m+30000) cm win s w1)=>q.fail 3);have hrow:=HD (fun w1 (q:TnGo (w.alloc (.cells (ansC ans0) 47)) (setO o w.heap.size [7]) t u z b a c B (m+30000) cm win s w1)=>(q.row h7 ⟨3,0,0,0,ByteArray.empty,s.cb⟩));clear h h1 ok hm hob hd hx hfr c0 c1 c3 hkn hz hsz hch hsn;generalize unitT (kdT ad)=un at *;generalize unitT (k:Int)=uk at *;generalize (d.length:Int)=sz at *;generalize (nn:Int)=n at *;go_enter Tryz.func63,Tryz.ntmps63
     go_wp2_with fail;refine wp_scope_jumps 0 (fun a' w'=>(TnAt w' (setO o w.heap.size [7]) t u z b a c B m cm win tb s∧Fr (fun _=>False) (w.alloc (.cells (ansC ans0) 47)) (setO o w.heap.size [7]) w' (setO o w.heap.size [7]))∧∃fv:Nat→Value,a'={tmps:=#[eP b,.int .u64 hn,.int .i64 n,fv 3,fv 4,fv 5,eP w.heap.size,.int .i64 ad,.int .i64 0,.int .i64 sz,fv 10,fv 11,fv 12,fv 13,fv 14,fv 15,fv 16,fv 17,fv 18,fv 19,fv 20,fv 21,fv 22,fv 23,fv 24,fv 25,fv 26,fv 27,fv 28,fv 29,fv 30,fv 31,fv 32,fv 33,fv 34,fv 35,fv 36,fv 37,fv 38,fv 39,fv 40,fv 41,fv 42,fv 43,fv 44,fv 45,fv 46,fv 47,fv 48,fv 49,fv 50,fv 51,fv 52,fv 53,fv 54,fv 55,fv 56,fv 57,fv 58,fv 59,fv 60,fv 61,fv 62,fv 63,fv 64,fv 65,fv 66,fv 67,fv 68,fv 69,fv 70,fv 71,fv 72,fv 73,fv 74,fv 75,fv 76,fv 77,fv 78,fv 79,fv 80,fv 81,fv 82,fv 83,fv 84,fv 85,fv 86,fv 87,fv 88,fv 89,fv 90,fv 91,fv 92,fv 93,fv 94,fv 95,fv 96,fv 97,fv 98,fv 99,fv 100,fv 101,fv 102,fv 103,fv 104,fv 105,fv 106,fv 107,fv 108,fv 109],defers:=[]}) (fun _ _=>0) rfl ?_ ?_
     ·go_wp2_with fail
      refine hf.out.mono ?_;rintro e w1 ⟨rfl,hb⟩;obtain⟨⟨go,c7,hl⟩,bh,c2,hus⟩:=hlk.out w1 hb;replace hus:=HD hus;clear hf hb hlk;go_wp2_with fail;refine SM (hk.out _) ?_;go_wp2_with fail;refine hus.out.mono ?_;rintro e w2 ⟨rfl,q1,q2⟩;replace q1:=HD q1;replace q2:=HD q2;clear hus c7 c2 hl hk;go_wp2_with fail;refine SM (hcost.out _) ?_;go_wp2_with fail;go_step3
      exact⟨rfl,⟨q1.out,q2.out⟩,fun k=>List.getD [undef,undef,undef,_,_,_,undef,undef,undef,undef,_,_,_,_,_,_,_,_,_,_,_,_,_,_,_,_,_,_,_,_,_,_,_,_,_,_,_,_,_,_,_,_,_,_,_,_,_,_,_,_,_,_,_,_,_,_,_,_,_,_,_,_,_,_,_,_,_,_,_,_,_,_,_,_,_,_,_,_,_,_,_,_,_,_,_,_,_,_,_,_,_,_,_,_,_,_,_,_,_,_,_,_,_,_,_,_,_,_,_,_] k undef,rfl⟩
     ·rintro a' w2 ⟨⟨q1,q2⟩,fv,rfl⟩
      have hge:=HD (hmv.out w2 q1 q2);clear hmv q1 q2 hf hk hlk hcost;go_wp2_with fail;refine hge.out.mono ?_;rintro e w3 ⟨rfl,g3⟩;replace g3:=HD g3;go_wp2_with fail;refine(hfa.out _ g3.out).mono ?_;rintro e w4 ⟨rfl,g4⟩;obtain⟨qB,gE⟩:=hrow.out w4 g4;obtain⟨l0,l1,l2,l3,l4,l5,g0,g1,g2,g3,g4,g5⟩:=qB.cells;replace qB:=HD qB;clear hfa hrow hge;simp only [ansV];go_wp2_with fail;simp only [Exit.jump];refine bodyPost_ret (v:=ansV ⟨3,0,0,0,ByteArray.empty,s.cb⟩) ?_ rfl ⟨rfl,gE⟩;exact ans_results_at 6 (by kernel_rfl) _ _ _ rfl (qB.out.store ⟨3,0,0,0,ByteArray.empty,s.cb⟩)
    ·rw [if_neg c3]
     simp only;have hmv:=HD (show ∀w2,TnAt w2 (setO o w.heap.size [7]) t u z b a c B m cm win tb s→Fr (fun _=>False) (w.alloc (.cells (ansC ans0) 47)) (setO o w.heap.size [7]) w2 (setO o w.heap.size [7]) →
       Calls Tryz.prog 98 #[eP b,.int .i64 nn] w2 (fun e w3=>e=.returned (.tuple #[.int .u64 s.cp.grH,.int .i64 (s.getA k),.int .i64 0]) ∧
        ∃bh bt,(w3.drew.cell? ⟨b,0,none⟩=some (eP a)∧w3.drew.cell? ⟨b,2,none⟩=some (eP bh))∧Calls Tryz.prog 106 #[eP bh] w3.drew (fun e w4=>e=.returned (eP bt)∧w4=w3.drew) ∧
        Calls Tryz.prog 107 #[eP a,eP bt,.int .i64 (s.getA k),.int .i64 ad,.int .i64 d.length] w3.drew (fun e w4=>e=.returned (.int .i64 0)∧(w4.cell? ⟨b,0,none⟩=some (eP a)∧w4.cell? ⟨b,2,none⟩=some (eP bh)) ∧
         Calls Tryz.prog 101 #[eP b,.int .i64 ad] w4 fun e w5=>e=.returned (.tuple #[])∧TnGo (w.alloc (.cells (ansC ans0) 47)) (setO o w.heap.size [7]) t u z b a c B (m+30000) cm win (((s.get k (List.replicate nn 0)).setOb (s.getA k) (sized d nn)).put ad) w5)) from fun w2 q f=>by
      have:=tnGetA nn k q ok ap (by omega) hkn (by omega) hx;rw [Int.toNat_natCast] at this;refine this.mono ?_;rintro e w3 ⟨rfl,o',B',cm',tb',g1,g2,g3,g4⟩;have hnew:=ok.get_new g2 (by omega);obtain⟨bh,bt,a1,a2,a3⟩:=tnCpy (g1.still Fr.drew) g2 ap h8 (by omega) ok.ob.rise hnew hd hsn;refine⟨rfl,bh,bt,a1,a2,a3.mono ?_⟩;rintro e w4 ⟨rfl,b1,b2⟩;refine⟨rfl,b1,b2.mono ?_⟩;rintro e w5 ⟨rfl,b3⟩;refine⟨rfl,?_⟩;obtain⟨o2,B2,cm2,tb2,k1,k2,k3,k4⟩:=b3;exact⟨o2,B2,cm2,tb2,k1.mono (by omega),k2,g3.trans k3,((f.mono fun v q=>q.elim).trans (g4.trans Fr.drew)).trans k4⟩)
     generalize (((s.get k (List.replicate nn 0)).setOb (s.getA k) (sized d nn)).put ad)=s' at *;generalize s.getA k=to_ at *;generalize s.cp.grH=h9 at *;have hsay:=HD (fun w1 (q:TnGo (w.alloc (.cells (ansC ans0) 47)) (setO o w.heap.size [7]) t u z b a c B (m+30000) cm win s' w1)=>q.say ⟨0,h9,to_,0,ByteArray.empty,0⟩);have hrow:=HD (fun w1 (q:TnGo (w.alloc (.cells (ansC ans0) 47)) (setO o w.heap.size [7]) t u z b a c B (m+30000) cm win s' w1)=>(q.row h7 ⟨0,h9,to_,0,ByteArray.empty,s'.cb⟩));clear h h1 ok hm hob hd hx hfr c0 c1 c3 hkn hz hsz hch hsn;generalize unitT (kdT ad)=un at *;generalize unitT (k:Int)=uk at *;generalize (d.length:Int)=sz at *;generalize (nn:Int)=n at *;go_enter Tryz.func63,Tryz.ntmps63
     go_wp2_with fail;refine wp_scope_jumps 0 (fun a' w'=>(TnAt w' (setO o w.heap.size [7]) t u z b a c B m cm win tb s∧Fr (fun _=>False) (w.alloc (.cells (ansC ans0) 47)) (setO o w.heap.size [7]) w' (setO o w.heap.size [7]))∧∃fv:Nat→Value,a'={tmps:=#[eP b,.int .u64 hn,.int .i64 n,fv 3,fv 4,fv 5,eP w.heap.size,.int .i64 ad,.int .i64 0,.int .i64 sz,fv 10,fv 11,fv 12,fv 13,fv 14,fv 15,fv 16,fv 17,fv 18,fv 19,fv 20,fv 21,fv 22,fv 23,fv 24,fv 25,fv 26,fv 27,fv 28,fv 29,fv 30,fv 31,fv 32,fv 33,fv 34,fv 35,fv 36,fv 37,fv 38,fv 39,fv 40,fv 41,fv 42,fv 43,fv 44,fv 45,fv 46,fv 47,fv 48,fv 49,fv 50,fv 51,fv 52,fv 53,fv 54,fv 55,fv 56,fv 57,fv 58,fv 59,fv 60,fv 61,fv 62,fv 63,fv 64,fv 65,fv 66,fv 67,fv 68,fv 69,fv 70,fv 71,fv 72,fv 73,fv 74,fv 75,fv 76,fv 77,fv 78,fv 79,fv 80,fv 81,fv 82,fv 83,fv 84,fv 85,fv 86,fv 87,fv 88,fv 89,fv 90,fv 91,fv 92,fv 93,fv 94,fv 95,fv 96,fv 97,fv 98,fv 99,fv 100,fv 101,fv 102,fv 103,fv 104,fv 105,fv 106,fv 107,fv 108,fv 109],defers:=[]}) (fun _ _=>0) rfl ?_ ?_
     ·go_wp2_with fail
      refine hf.out.mono ?_;rintro e w1 ⟨rfl,hb⟩;obtain⟨⟨go,c7,hl⟩,bh,c2,hus⟩:=hlk.out w1 hb;replace hus:=HD hus;clear hf hb hlk;go_wp2_with fail;refine SM (hk.out _) ?_;go_wp2_with fail;refine hus.out.mono ?_;rintro e w2 ⟨rfl,q1,q2⟩;replace q1:=HD q1;replace q2:=HD q2;clear hus c7 c2 hl hk;go_wp2_with fail;refine SM (hcost.out _) ?_;go_wp2_with fail;go_step3
      exact⟨rfl,⟨q1.out,q2.out⟩,fun k=>List.getD [undef,undef,undef,_,_,_,undef,undef,undef,undef,_,_,_,_,_,_,_,_,_,_,_,_,_,_,_,_,_,_,_,_,_,_,_,_,_,_,_,_,_,_,_,_,_,_,_,_,_,_,_,_,_,_,_,_,_,_,_,_,_,_,_,_,_,_,_,_,_,_,_,_,_,_,_,_,_,_,_,_,_,_,_,_,_,_,_,_,_,_,_,_,_,_,_,_,_,_,_,_,_,_,_,_,_,_,_,_,_,_,_,_] k undef,rfl⟩
     ·rintro a' w2 ⟨⟨q1,q2⟩,fv,rfl⟩
      have hge:=HD (hmv.out w2 q1 q2);clear hmv q1 q2 hf hk hlk hcost;go_wp2_with fail;refine hge.out.mono ?_;rintro e w3 ⟨rfl,bh2,bt,hcc,htb,hcp⟩;replace htb:=HD htb;replace hcp:=HD hcp;clear hge;go_wp2_with fail;refine wp_region_noPanic ?_;refine wp_region_held_drew (S:=(fun W'=>W'.cell? ⟨b,0,none⟩=some (eP a)∧W'.cell? ⟨b,2,none⟩=some (eP bh2))) (by kernel_rfl) ?_ (fun hHeld=>?_)
      ·(first|exact hcc|exact hcs)
      refine tkH 0 (h:=?_);refine tkH 1 (h:=?_);refine tkH 2 (h:=?_);refine tkH 3 (h:=?_);refine tkH 4 (h:=?_);refine tkH 5 (h:=?_);refine tkH 6 (h:=?_);refine tkH 7 (h:=?_);refine tkH 9 (h:=?_);refine tkH 10 (h:=?_);refine tkH 11 (h:=?_);refine onH 8 (h:=fun K hK=>?_);go_simp;refine SM htb.out ?_;go_wp2_with fail;refine hK.out _ _ ?_ (fun hHeld=>?_)
      ·(first|exact hcc|exact hcs)
      clear hK;refine nmH (h:=?_);refine onH 12 (h:=fun K hK=>?_);go_simp;refine hcp.out.mono ?_;rintro e w4 ⟨rfl,hcs,hpu⟩;replace hpu:=HD hpu;go_wp2_with fail;refine hK.out _ _ ?_ (fun hHeld=>?_)
      ·(first|exact hcc|exact hcs)
      clear hK;refine nmH (h:=?_);refine wpAnyH_done (by kernel_rfl) ?_ _;refine NoPanic.normal ?_;go_wp2_with fail;refine hpu.out.mono ?_;rintro e w5 ⟨rfl,g5⟩;replace g5:=HD g5;clear hpu;go_wp2_with fail;refine(hsay.out _ g5.out).mono ?_;rintro e w4 ⟨rfl,g4⟩;obtain⟨qB,gE⟩:=hrow.out w4 g4;obtain⟨l0,l1,l2,l3,l4,l5,g0,g1,g2,g3,g4,g5⟩:=qB.cells;replace qB:=HD qB;clear hsay hrow;simp only [ansV];go_wp2_with fail;simp only [Exit.jump];refine bodyPost_ret (v:=ansV ⟨0,h9,to_,0,ByteArray.empty,s'.cb⟩) ?_ rfl ⟨rfl,gE⟩;exact ans_results_at 6 (by kernel_rfl) _ _ _ rfl (qB.out.store ⟨0,h9,to_,0,ByteArray.empty,s'.cb⟩)
 ·rw [if_pos hc0]
  simp only;have hgo:=HD (show ∀w1,Below (w.alloc (.cells (ansC ans0) 47)).heap.size (w.alloc (.cells (ansC ans0) 47)) w1→TnGo (w.alloc (.cells (ansC ans0) 47)) (setO o w.heap.size [7]) t u z b a c B (m+30000) cm win s w1 from fun w1 hb=>((h1.mono (by omega)).go ok).still hb);have hfa:=HD (fun w1 (q:TnGo (w.alloc (.cells (ansC ans0) 47)) (setO o w.heap.size [7]) t u z b a c B (m+30000) cm win s w1)=>q.fail e0);have hrow:=HD (fun w1 (q:TnGo (w.alloc (.cells (ansC ans0) 47)) (setO o w.heap.size [7]) t u z b a c B (m+30000) cm win s w1)=>(q.row h7 ⟨e0,0,0,0,ByteArray.empty,s.cb⟩));have hc:(e0 != 0)=true:=by simpa using hc0
  clear h h1 ok hm hob hx hfr hc0;go_enter Tryz.func63,Tryz.ntmps63
  go_wp2_with fail;go_step3
  go_wp2_with fail;refine hf.out.mono ?_;rintro e w1 ⟨rfl,hb⟩;replace hgo:=HD (hgo.out w1 hb);clear hf hb;go_wp2_with fail;refine(hfa.out w1 hgo.out).mono ?_;rintro e w3 ⟨rfl,g3⟩;obtain⟨qB,gE⟩:=hrow.out w3 g3;obtain⟨l0,l1,l2,l3,l4,l5,g0,g1,g2,g3,g4,g5⟩:=qB.cells;replace qB:=HD qB;clear hfa hrow hgo;simp only [ansV];go_wp2_with fail;rw [Exit.noGoto_ret];refine bodyPost_ret (v:=ansV ⟨e0,0,0,0,ByteArray.empty,s.cb⟩) ?_ rfl ⟨rfl,gE⟩;exact ans_results_at 6 (by kernel_rfl) _ _ _ rfl (qB.out.store ⟨e0,0,0,0,ByteArray.empty,s.cb⟩)
end
end
section
open Go.RowKit Flt
attribute [local irreducible] CpS.rv
structure OpS where
 K:Int
 T:Int
 N:Int
 M:Int
 H:Nat
 s:ByteArray
def OpS.v(x:OpS):Value:=opV x.K x.T x.N x.M x.H x.s
abbrev opC(x:OpS):Array Value:=#[.int .i64 x.K,.int .i64 x.T,.int .i64 x.N,.int .i64 x.M,.int .u64 x.H,.string x.s]
def OpRow(w:World)(g:Nat)(x:OpS):Prop:=w.heap[g]? = some (.cells (opC x) 32 (0,0))
structure OpRC(w:World)(g:Nat)(x:OpS):Prop where
 k0:w.cell? ⟨g,0,none⟩=some (.int .i64 x.K)
 k1:w.cell? ⟨g,1,none⟩=some (.int .i64 x.T)
 k2:w.cell? ⟨g,2,none⟩=some (.int .i64 x.N)
 k3:w.cell? ⟨g,3,none⟩=some (.int .i64 x.M)
 k4:w.cell? ⟨g,4,none⟩=some (.int .u64 x.H)
 k5:w.cell? ⟨g,5,none⟩=some (.string x.s)
theorem OpRow.cells{w:World}{g:Nat}{x:OpS}(h:OpRow w g x):OpRC w g x:=by
 have c:=fun i=>cell_of_row w g i (opC x) 32 (0,0) h
 exact⟨c 0,c 1,c 2,c 3,c 4,c 5⟩
def TnS.ask(t:TnS)(x:OpS):Ans×TnS :=
 if x.K=4 then t.malloc x.N else if x.K=5 then t.calloc x.N x.M else if x.K=6 then t.free x.H else if x.K=7 then t.realloc x.H x.N
 else if x.K=8 then t.usable x.H else if x.K=9 then t.read x.H x.N x.M else if x.K=10 then t.write x.H x.N x.s else t.restrict x.H x.N
section
variable{w w':World}{o o':Nat→Tag}{t u z:Tag}{b a c:Nat}{B:List UInt8}{m m':Nat}{cm:CmS}{win:List Int}{tb:TbS}{s s':TnS}
theorem TnGo.mono(h:TnGo w o t u z b a c B m cm win s w')(hm:m≤m'):TnGo w o t u z b a c B m' cm win s w':=by
 obtain⟨o',B',cm',tb',h1,h2,h3,h4⟩:=h;exact⟨o',B',cm',tb',h1.mono hm,h2,h3,h4⟩
set_option maxHeartbeats 4000000 in
theorem svAsked(x:OpS)(h:TnAt w o t u z b a c B m cm win tb s)(ok:TnOk B cm win tb s)(ap:Ap3 t u z)(h7:T7 t u z)(h8:¬z <+: [8])(hm:m≤500000)(hx:s.cp.next<17592186044416)(hH:x.H<18446744073709551616)(hs:x.s.size≤8192)(hK:4≤x.K∧x.K≤11) :
  Calls Tryz.prog 35 #[eP b,x.v] w fun e w'=>e=.returned (ansV (s.ask x).1)∧TnGo w o t u z b a c B (m+30000) cm win (s.ask x).2 w':=by
 obtain⟨K,T,N,M,H,sd⟩:=x;simp only at hH hs hK;have h1:=h.made (.cells (opC ⟨K,T,N,M,H,sd⟩) 32);have f1:Fr (fun _=>False) w o (w.alloc (.cells (opC ⟨K,T,N,M,H,sd⟩) 32)) (setO o w.heap.size [7]):=Fr.alloc _ _;have hrow:OpRow (w.alloc (.cells (opC ⟨K,T,N,M,H,sd⟩) 32)) w.heap.size ⟨K,T,N,M,H,sd⟩:=heap_alloc_new w _;have hsz:(w.alloc (.cells (opC ⟨K,T,N,M,H,sd⟩) 32)).heap.size=w.heap.size+1:=by simp
 have hrow2:OpRow ((w.alloc (.cells (opC ⟨K,T,N,M,H,sd⟩) 32)).alloc (.cells (ansC ans0) 47)) w.heap.size ⟨K,T,N,M,H,sd⟩:=(heap_alloc_old _ _ (by rw [hsz];omega)).trans hrow;obtain⟨k0,k1,k2,k3,k4,k5⟩:=hrow2.cells;simp only at k0 k1 k2 k3 k4 k5;have h2:=h1.made (.cells (ansC ans0) 47);unfold OpS.v opV;simp only;rcases(by omega:K=4∨K=5∨K=6∨K=7∨K=8∨K=9∨K=10∨K=11) with rfl|rfl|rfl|rfl|rfl|rfl|rfl|rfl
 ·have ea:s.ask ⟨4,T,N,M,H,sd⟩=s.malloc N:=rfl
  rw [ea];have hcall:=HD (show Calls Tryz.prog 60 #[eP b,.int .i64 N] ((w.alloc (.cells (opC ⟨4,T,N,M,H,sd⟩) 32)).alloc (.cells (ansC ans0) 47)) (fun e w2=>e=.returned (ansV (s.malloc N).1)∧TnGo ((w.alloc (.cells (opC ⟨4,T,N,M,H,sd⟩) 32)).alloc (.cells (ansC ans0) 47)) (setO (setO o w.heap.size [7]) (w.heap.size+1) [7]) t u z b a c B (m+30000) cm win (s.malloc N).2 w2) from by
   have h2':=h2;rw [hsz] at h2';refine(tnMalloc N h2' ok ap h7 (by omega) hx).mono ?_;rintro e w2 ⟨rfl,g⟩;exact⟨rfl,g.mono (by omega)⟩)
  clear ea;generalize s.malloc N=r at *;obtain⟨⟨re,rh,ra,rn,rd,rc⟩,s'⟩:=r;simp only at hcall ⊢;have hrw:=HD (show ∀w1,TnGo ((w.alloc (.cells (opC ⟨4,T,N,M,H,sd⟩) 32)).alloc (.cells (ansC ans0) 47)) (setO (setO o w.heap.size [7]) (w.heap.size+1) [7]) t u z b a c B (m+30000) cm win s' w1→Row w1 (w.heap.size+1) ans0∧TnGo w o t u z b a c B (m+30000) cm win s' (sto6 w1 (w.heap.size+1) ⟨re,rh,ra,rn,rd,rc⟩) from fun w1 q=>by
   rw [←hsz] at q ⊢;obtain⟨q1,q2⟩:=q.row h7 ⟨re,rh,ra,rn,rd,rc⟩;exact⟨q1,q2.front f1⟩)
  clear h h1 h2 ok hm hx hH hs hK hrow hrow2 f1;go_enter Tryz.func35,Tryz.ntmps35
  go_wp2_with fail;refine hcall.out.mono ?_;rintro e w2 ⟨rfl,g2⟩;obtain⟨qB,gE⟩:=hrw.out w2 g2;obtain⟨l0,l1,l2,l3,l4,l5,g0,g1,g2,g3,g4,g5⟩:=qB.cells;replace qB:=HD qB;clear hcall hrw;simp only [ansV];go_wp2_with fail;refine bodyPost_ret (v:=ansV ⟨re,rh,ra,rn,rd,rc⟩) ?_ rfl ⟨rfl,gE⟩;exact ans_results_at 4 (by kernel_rfl) _ _ _ rfl (qB.out.store ⟨re,rh,ra,rn,rd,rc⟩)
 ·have ea:s.ask ⟨5,T,N,M,H,sd⟩=s.calloc N M:=rfl
  rw [ea];have hcall:=HD (show Calls Tryz.prog 61 #[eP b,.int .i64 N,.int .i64 M] ((w.alloc (.cells (opC ⟨5,T,N,M,H,sd⟩) 32)).alloc (.cells (ansC ans0) 47)) (fun e w2=>e=.returned (ansV (s.calloc N M).1)∧TnGo ((w.alloc (.cells (opC ⟨5,T,N,M,H,sd⟩) 32)).alloc (.cells (ansC ans0) 47)) (setO (setO o w.heap.size [7]) (w.heap.size+1) [7]) t u z b a c B (m+30000) cm win (s.calloc N M).2 w2) from by
   have h2':=h2;rw [hsz] at h2';refine(tnCalloc N M h2' ok ap h7 (by omega) hx).mono ?_;rintro e w2 ⟨rfl,g⟩;exact⟨rfl,g.mono (by omega)⟩)
  clear ea;generalize s.calloc N M=r at *;obtain⟨⟨re,rh,ra,rn,rd,rc⟩,s'⟩:=r;simp only at hcall ⊢;have hrw:=HD (show ∀w1,TnGo ((w.alloc (.cells (opC ⟨5,T,N,M,H,sd⟩) 32)).alloc (.cells (ansC ans0) 47)) (setO (setO o w.heap.size [7]) (w.heap.size+1) [7]) t u z b a c B (m+30000) cm win s' w1→Row w1 (w.heap.size+1) ans0∧TnGo w o t u z b a c B (m+30000) cm win s' (sto6 w1 (w.heap.size+1) ⟨re,rh,ra,rn,rd,rc⟩) from fun w1 q=>by
   rw [←hsz] at q ⊢;obtain⟨q1,q2⟩:=q.row h7 ⟨re,rh,ra,rn,rd,rc⟩;exact⟨q1,q2.front f1⟩)
  clear h h1 h2 ok hm hx hH hs hK hrow hrow2 f1;go_enter Tryz.func35,Tryz.ntmps35
  go_wp2_with fail;refine hcall.out.mono ?_;rintro e w2 ⟨rfl,g2⟩;obtain⟨qB,gE⟩:=hrw.out w2 g2;obtain⟨l0,l1,l2,l3,l4,l5,g0,g1,g2,g3,g4,g5⟩:=qB.cells;replace qB:=HD qB;clear hcall hrw;simp only [ansV];go_wp2_with fail;refine bodyPost_ret (v:=ansV ⟨re,rh,ra,rn,rd,rc⟩) ?_ rfl ⟨rfl,gE⟩;exact ans_results_at 4 (by kernel_rfl) _ _ _ rfl (qB.out.store ⟨re,rh,ra,rn,rd,rc⟩)
 ·have ea:s.ask ⟨6,T,N,M,H,sd⟩=s.free H:=rfl
  rw [ea];have hcall:=HD (show Calls Tryz.prog 62 #[eP b,.int .u64 H] ((w.alloc (.cells (opC ⟨6,T,N,M,H,sd⟩) 32)).alloc (.cells (ansC ans0) 47)) (fun e w2=>e=.returned (ansV (s.free H).1)∧TnGo ((w.alloc (.cells (opC ⟨6,T,N,M,H,sd⟩) 32)).alloc (.cells (ansC ans0) 47)) (setO (setO o w.heap.size [7]) (w.heap.size+1) [7]) t u z b a c B (m+30000) cm win (s.free H).2 w2) from by
   have h2':=h2;rw [hsz] at h2';refine(tnFree H hH h2' ok ap h7 (by omega)).mono ?_;rintro e w2 ⟨rfl,g⟩;exact⟨rfl,g.mono (by omega)⟩)
  clear ea;generalize s.free H=r at *;obtain⟨⟨re,rh,ra,rn,rd,rc⟩,s'⟩:=r;simp only at hcall ⊢;have hrw:=HD (show ∀w1,TnGo ((w.alloc (.cells (opC ⟨6,T,N,M,H,sd⟩) 32)).alloc (.cells (ansC ans0) 47)) (setO (setO o w.heap.size [7]) (w.heap.size+1) [7]) t u z b a c B (m+30000) cm win s' w1→Row w1 (w.heap.size+1) ans0∧TnGo w o t u z b a c B (m+30000) cm win s' (sto6 w1 (w.heap.size+1) ⟨re,rh,ra,rn,rd,rc⟩) from fun w1 q=>by
   rw [←hsz] at q ⊢;obtain⟨q1,q2⟩:=q.row h7 ⟨re,rh,ra,rn,rd,rc⟩;exact⟨q1,q2.front f1⟩)
  clear h h1 h2 ok hm hx hH hs hK hrow hrow2 f1;go_enter Tryz.func35,Tryz.ntmps35
  go_wp2_with fail;refine hcall.out.mono ?_;rintro e w2 ⟨rfl,g2⟩;obtain⟨qB,gE⟩:=hrw.out w2 g2;obtain⟨l0,l1,l2,l3,l4,l5,g0,g1,g2,g3,g4,g5⟩:=qB.cells;replace qB:=HD qB;clear hcall hrw;simp only [ansV];go_wp2_with fail;refine bodyPost_ret (v:=ansV ⟨re,rh,ra,rn,rd,rc⟩) ?_ rfl ⟨rfl,gE⟩;exact ans_results_at 4 (by kernel_rfl) _ _ _ rfl (qB.out.store ⟨re,rh,ra,rn,rd,rc⟩)
 ·have ea:s.ask ⟨7,T,N,M,H,sd⟩=s.realloc H N:=rfl
  rw [ea];have hcall:=HD (show Calls Tryz.prog 63 #[eP b,.int .u64 H,.int .i64 N] ((w.alloc (.cells (opC ⟨7,T,N,M,H,sd⟩) 32)).alloc (.cells (ansC ans0) 47)) (fun e w2=>e=.returned (ansV (s.realloc H N).1)∧TnGo ((w.alloc (.cells (opC ⟨7,T,N,M,H,sd⟩) 32)).alloc (.cells (ansC ans0) 47)) (setO (setO o w.heap.size [7]) (w.heap.size+1) [7]) t u z b a c B (m+30000) cm win (s.realloc H N).2 w2) from by
   have h2':=h2;rw [hsz] at h2';refine(tnRealloc H N hH h2' ok ap h7 h8 (by omega) hx).mono ?_;rintro e w2 ⟨rfl,g⟩;exact⟨rfl,g.mono (by omega)⟩)
  clear ea;generalize s.realloc H N=r at *;obtain⟨⟨re,rh,ra,rn,rd,rc⟩,s'⟩:=r;simp only at hcall ⊢;have hrw:=HD (show ∀w1,TnGo ((w.alloc (.cells (opC ⟨7,T,N,M,H,sd⟩) 32)).alloc (.cells (ansC ans0) 47)) (setO (setO o w.heap.size [7]) (w.heap.size+1) [7]) t u z b a c B (m+30000) cm win s' w1→Row w1 (w.heap.size+1) ans0∧TnGo w o t u z b a c B (m+30000) cm win s' (sto6 w1 (w.heap.size+1) ⟨re,rh,ra,rn,rd,rc⟩) from fun w1 q=>by
   rw [←hsz] at q ⊢;obtain⟨q1,q2⟩:=q.row h7 ⟨re,rh,ra,rn,rd,rc⟩;exact⟨q1,q2.front f1⟩)
  clear h h1 h2 ok hm hx hH hs hK hrow hrow2 f1;go_enter Tryz.func35,Tryz.ntmps35
  go_wp2_with fail;refine hcall.out.mono ?_;rintro e w2 ⟨rfl,g2⟩;obtain⟨qB,gE⟩:=hrw.out w2 g2;obtain⟨l0,l1,l2,l3,l4,l5,g0,g1,g2,g3,g4,g5⟩:=qB.cells;replace qB:=HD qB;clear hcall hrw;simp only [ansV];go_wp2_with fail;refine bodyPost_ret (v:=ansV ⟨re,rh,ra,rn,rd,rc⟩) ?_ rfl ⟨rfl,gE⟩;exact ans_results_at 4 (by kernel_rfl) _ _ _ rfl (qB.out.store ⟨re,rh,ra,rn,rd,rc⟩)
 ·have ea:s.ask ⟨8,T,N,M,H,sd⟩=s.usable H:=rfl
  rw [ea];have hcall:=HD (show Calls Tryz.prog 64 #[eP b,.int .u64 H] ((w.alloc (.cells (opC ⟨8,T,N,M,H,sd⟩) 32)).alloc (.cells (ansC ans0) 47)) (fun e w2=>e=.returned (ansV (s.usable H).1)∧TnGo ((w.alloc (.cells (opC ⟨8,T,N,M,H,sd⟩) 32)).alloc (.cells (ansC ans0) 47)) (setO (setO o w.heap.size [7]) (w.heap.size+1) [7]) t u z b a c B (m+30000) cm win (s.usable H).2 w2) from by
   have h2':=h2;rw [hsz] at h2';refine(tnUsable H hH h2' ok ap h7).mono ?_;rintro e w2 ⟨rfl,g⟩;exact⟨rfl,g.mono (by omega)⟩)
  clear ea;generalize s.usable H=r at *;obtain⟨⟨re,rh,ra,rn,rd,rc⟩,s'⟩:=r;simp only at hcall ⊢;have hrw:=HD (show ∀w1,TnGo ((w.alloc (.cells (opC ⟨8,T,N,M,H,sd⟩) 32)).alloc (.cells (ansC ans0) 47)) (setO (setO o w.heap.size [7]) (w.heap.size+1) [7]) t u z b a c B (m+30000) cm win s' w1→Row w1 (w.heap.size+1) ans0∧TnGo w o t u z b a c B (m+30000) cm win s' (sto6 w1 (w.heap.size+1) ⟨re,rh,ra,rn,rd,rc⟩) from fun w1 q=>by
   rw [←hsz] at q ⊢;obtain⟨q1,q2⟩:=q.row h7 ⟨re,rh,ra,rn,rd,rc⟩;exact⟨q1,q2.front f1⟩)
  clear h h1 h2 ok hm hx hH hs hK hrow hrow2 f1;go_enter Tryz.func35,Tryz.ntmps35
  go_wp2_with fail;refine hcall.out.mono ?_;rintro e w2 ⟨rfl,g2⟩;obtain⟨qB,gE⟩:=hrw.out w2 g2;obtain⟨l0,l1,l2,l3,l4,l5,g0,g1,g2,g3,g4,g5⟩:=qB.cells;replace qB:=HD qB;clear hcall hrw;simp only [ansV];go_wp2_with fail;refine bodyPost_ret (v:=ansV ⟨re,rh,ra,rn,rd,rc⟩) ?_ rfl ⟨rfl,gE⟩;exact ans_results_at 4 (by kernel_rfl) _ _ _ rfl (qB.out.store ⟨re,rh,ra,rn,rd,rc⟩)
 ·have ea:s.ask ⟨9,T,N,M,H,sd⟩=s.read H N M:=rfl
  rw [ea];have hcall:=HD (show Calls Tryz.prog 65 #[eP b,.int .u64 H,.int .i64 N,.int .i64 M] ((w.alloc (.cells (opC ⟨9,T,N,M,H,sd⟩) 32)).alloc (.cells (ansC ans0) 47)) (fun e w2=>e=.returned (ansV (s.read H N M).1)∧TnGo ((w.alloc (.cells (opC ⟨9,T,N,M,H,sd⟩) 32)).alloc (.cells (ansC ans0) 47)) (setO (setO o w.heap.size [7]) (w.heap.size+1) [7]) t u z b a c B (m+30000) cm win (s.read H N M).2 w2) from by
   have h2':=h2;rw [hsz] at h2';refine(tnRead H N M hH h2' ok ap h7 h8 (by omega)).mono ?_;rintro e w2 ⟨rfl,g⟩;exact⟨rfl,g.mono (by omega)⟩)
  clear ea;generalize s.read H N M=r at *;obtain⟨⟨re,rh,ra,rn,rd,rc⟩,s'⟩:=r;simp only at hcall ⊢;have hrw:=HD (show ∀w1,TnGo ((w.alloc (.cells (opC ⟨9,T,N,M,H,sd⟩) 32)).alloc (.cells (ansC ans0) 47)) (setO (setO o w.heap.size [7]) (w.heap.size+1) [7]) t u z b a c B (m+30000) cm win s' w1→Row w1 (w.heap.size+1) ans0∧TnGo w o t u z b a c B (m+30000) cm win s' (sto6 w1 (w.heap.size+1) ⟨re,rh,ra,rn,rd,rc⟩) from fun w1 q=>by
   rw [←hsz] at q ⊢;obtain⟨q1,q2⟩:=q.row h7 ⟨re,rh,ra,rn,rd,rc⟩;exact⟨q1,q2.front f1⟩)
  clear h h1 h2 ok hm hx hH hs hK hrow hrow2 f1;go_enter Tryz.func35,Tryz.ntmps35
  go_wp2_with fail;refine hcall.out.mono ?_;rintro e w2 ⟨rfl,g2⟩;obtain⟨qB,gE⟩:=hrw.out w2 g2;obtain⟨l0,l1,l2,l3,l4,l5,g0,g1,g2,g3,g4,g5⟩:=qB.cells;replace qB:=HD qB;clear hcall hrw;simp only [ansV];go_wp2_with fail;refine bodyPost_ret (v:=ansV ⟨re,rh,ra,rn,rd,rc⟩) ?_ rfl ⟨rfl,gE⟩;exact ans_results_at 4 (by kernel_rfl) _ _ _ rfl (qB.out.store ⟨re,rh,ra,rn,rd,rc⟩)
 ·have ea:s.ask ⟨10,T,N,M,H,sd⟩=s.write H N sd:=rfl
  rw [ea];have hcall:=HD (show Calls Tryz.prog 66 #[eP b,.int .u64 H,.int .i64 N,.string sd] ((w.alloc (.cells (opC ⟨10,T,N,M,H,sd⟩) 32)).alloc (.cells (ansC ans0) 47)) (fun e w2=>e=.returned (ansV (s.write H N sd).1)∧TnGo ((w.alloc (.cells (opC ⟨10,T,N,M,H,sd⟩) 32)).alloc (.cells (ansC ans0) 47)) (setO (setO o w.heap.size [7]) (w.heap.size+1) [7]) t u z b a c B (m+30000) cm win (s.write H N sd).2 w2) from by
   have h2':=h2;rw [hsz] at h2';refine(tnWrite H N sd hH hs h2' ok ap h7 (by omega)).mono ?_;rintro e w2 ⟨rfl,g⟩;exact⟨rfl,g.mono (by omega)⟩)
  clear ea;generalize s.write H N sd=r at *;obtain⟨⟨re,rh,ra,rn,rd,rc⟩,s'⟩:=r;simp only at hcall ⊢;have hrw:=HD (show ∀w1,TnGo ((w.alloc (.cells (opC ⟨10,T,N,M,H,sd⟩) 32)).alloc (.cells (ansC ans0) 47)) (setO (setO o w.heap.size [7]) (w.heap.size+1) [7]) t u z b a c B (m+30000) cm win s' w1→Row w1 (w.heap.size+1) ans0∧TnGo w o t u z b a c B (m+30000) cm win s' (sto6 w1 (w.heap.size+1) ⟨re,rh,ra,rn,rd,rc⟩) from fun w1 q=>by
   rw [←hsz] at q ⊢;obtain⟨q1,q2⟩:=q.row h7 ⟨re,rh,ra,rn,rd,rc⟩;exact⟨q1,q2.front f1⟩)
  clear h h1 h2 ok hm hx hH hs hK hrow hrow2 f1;go_enter Tryz.func35,Tryz.ntmps35
  go_wp2_with fail;refine hcall.out.mono ?_;rintro e w2 ⟨rfl,g2⟩;obtain⟨qB,gE⟩:=hrw.out w2 g2;obtain⟨l0,l1,l2,l3,l4,l5,g0,g1,g2,g3,g4,g5⟩:=qB.cells;replace qB:=HD qB;clear hcall hrw;simp only [ansV];go_wp2_with fail;refine bodyPost_ret (v:=ansV ⟨re,rh,ra,rn,rd,rc⟩) ?_ rfl ⟨rfl,gE⟩;exact ans_results_at 4 (by kernel_rfl) _ _ _ rfl (qB.out.store ⟨re,rh,ra,rn,rd,rc⟩)
 ·have ea:s.ask ⟨11,T,N,M,H,sd⟩=s.restrict H N:=rfl
  rw [ea];have hcall:=HD (show Calls Tryz.prog 67 #[eP b,.int .u64 H,.int .i64 N] ((w.alloc (.cells (opC ⟨11,T,N,M,H,sd⟩) 32)).alloc (.cells (ansC ans0) 47)) (fun e w2=>e=.returned (ansV (s.restrict H N).1)∧TnGo ((w.alloc (.cells (opC ⟨11,T,N,M,H,sd⟩) 32)).alloc (.cells (ansC ans0) 47)) (setO (setO o w.heap.size [7]) (w.heap.size+1) [7]) t u z b a c B (m+30000) cm win (s.restrict H N).2 w2) from by
   have h2':=h2;rw [hsz] at h2';refine(tnRestrict H N hH h2' ok ap h7).mono ?_;rintro e w2 ⟨rfl,g⟩;exact⟨rfl,g.mono (by omega)⟩)
  clear ea;generalize s.restrict H N=r at *;obtain⟨⟨re,rh,ra,rn,rd,rc⟩,s'⟩:=r;simp only at hcall ⊢;have hrw:=HD (show ∀w1,TnGo ((w.alloc (.cells (opC ⟨11,T,N,M,H,sd⟩) 32)).alloc (.cells (ansC ans0) 47)) (setO (setO o w.heap.size [7]) (w.heap.size+1) [7]) t u z b a c B (m+30000) cm win s' w1→Row w1 (w.heap.size+1) ans0∧TnGo w o t u z b a c B (m+30000) cm win s' (sto6 w1 (w.heap.size+1) ⟨re,rh,ra,rn,rd,rc⟩) from fun w1 q=>by
   rw [←hsz] at q ⊢;obtain⟨q1,q2⟩:=q.row h7 ⟨re,rh,ra,rn,rd,rc⟩;exact⟨q1,q2.front f1⟩)
  clear h h1 h2 ok hm hx hH hs hK hrow hrow2 f1;go_enter Tryz.func35,Tryz.ntmps35
  go_wp2_with fail;refine hcall.out.mono ?_;rintro e w2 ⟨rfl,g2⟩;obtain⟨qB,gE⟩:=hrw.out w2 g2;obtain⟨l0,l1,l2,l3,l4,l5,g0,g1,g2,g3,g4,g5⟩:=qB.cells;replace qB:=HD qB;clear hcall hrw;simp only [ansV];go_wp2_with fail;refine bodyPost_ret (v:=ansV ⟨re,rh,ra,rn,rd,rc⟩) ?_ rfl ⟨rfl,gE⟩;exact ans_results_at 4 (by kernel_rfl) _ _ _ rfl (qB.out.store ⟨re,rh,ra,rn,rd,rc⟩)
end
end
section
open Go.RowKit Flt
attribute [local irreducible] CpS.rv
theorem infoOp:(Tryz.prog.info? 32).map (fun i=>(i.zero,i.size,i.bytes))=some (some (.agg #[.int .i64 0,.int .i64 0,.int .i64 0,.int .i64 0,.int .u64 0,.string ⟨#[]⟩]),6,56):=by kernel_rfl
abbrev sg(r:Tag):Tag:=50 :: r
structure SvG(w:World)(o:Nat→Tag)(r:Tag)(b ba:Nat)(dv:Value)(n:Nat)(tv:Value)(B:List UInt8)(m:Nat)(s:AdS):Prop where
 blk:Blk w o (sg r++[5]) b #[eP ba,.int .i64 s.P,.int .i64 s.C,dv,tv] 78
 ad:AdAt w o r ba B m s
 dn:∃xs,w.ownsRow 0 32 6 dv n xs∧∀u∈xs,u.oneCell'=true
 dt:∀q,dv.ownBlock=some q→o q=sg r++[6]
section
variable{S:Tag→Prop}{w w':World}{o o':Nat→Tag}{r:Tag}{b ba:Nat}{dv tv:Value}{n:Nat}{B B':List UInt8}{m m':Nat}{s s':AdS}{x:OpS}{an:Ans}
theorem SvG.fr(h:SvG w o r b ba dv n tv B m s)(f:Fr S w o w' o')(hS:Off S r)(hS2:Off S (sg r)):SvG w' o' r b ba dv n tv B m s:=by
 refine⟨h.blk.fr f (hS2.sub [5]).self,h.ad.fr f hS,?_,fun q hq=>?_⟩
 ·obtain⟨xs,h1,h2⟩:=h.dn
  exact⟨xs,f.only.owns h1 (fun q hq hs=>(hS2.sub [6]).self (by have:=h.dt q hq;rwa [this] at hs)),h2⟩
 ·obtain⟨xs,h1,h2⟩:=h.dn
  exact(f.ext q (h1.lt q hq).2).trans (h.dt q hq)
theorem SvG.inAd(h:SvG w o r b ba dv n tv B m s)(f:Fr S w o w' o')(h5:¬S (sg r++[5]))(h6:¬S (sg r++[6]))(g:AdAt w' o' r ba B' m' s')(hP:s'.P=s.P)(hC:s'.C=s.C):SvG w' o' r b ba dv n tv B' m' s':=by
 refine⟨by rw [hP,hC];exact h.blk.fr f h5,g,?_,fun q hq=>?_⟩
 ·obtain⟨xs,h1,h2⟩:=h.dn
  exact⟨xs,f.only.owns h1 (fun q hq hs=>h6 (by have:=h.dt q hq;rwa [this] at hs)),h2⟩
 ·obtain⟨xs,h1,h2⟩:=h.dn
  exact(f.ext q (h1.lt q hq).2).trans (h.dt q hq)
theorem tag_ne{r:Tag}{a b:Nat}{l:Tag}(h:a≠b):r++[a]≠r++b :: l:=fun e=>by
 have:=List.append_cancel_left e;injection this with h1 _
 exact h h1
theorem sg_off{r:Tag}(hr:Root r)(l:Tag):Off (fun v=>v=sg r++l) r:=⟨fun x hx e=>hr.sep x hx (by rw [e];exact Und.app _ _),fun e=>by simp at e⟩
theorem sg_self{r:Tag}(l:Tag)(hr:Root r):¬Und r (sg r++l):=fun q=>hr.sep _ q (Und.app _ _)
theorem SvG.setT(h:SvG w o r b ba dv n tv B m s)(hr:Root r)(tv':Value):SvG (w.setCell ⟨b,4,none⟩ tv') o r b ba dv n tv' B m s∧Fr (fun v=>v=sg r++[5]) w o (w.setCell ⟨b,4,none⟩ tv') o:=by
 have f:Fr (fun v=>v=sg r++[5]) w o (w.setCell ⟨b,4,none⟩ tv') o:=Fr.setCell (fun _=>h.blk.1) _;refine⟨⟨h.blk.set 4 tv',h.ad.fr f (sg_off hr [5]),?_,h.dt⟩,f⟩;obtain⟨xs,h1,h2⟩:=h.dn;exact⟨xs,f.only.owns h1 (fun q hq hs=>by have:=h.dt q hq;rw [this] at hs;exact absurd hs (tag_ne (by decide))),h2⟩
theorem SvG.note(h:SvG w o r b ba dv n tv B m s)(hr:Root r)(x:OpS)(hn:n≤1000000) :
  ∃A k c w1,(Builtin.append_ #[36,36] 36 #[dv,.slice (some ⟨w.heap.size,0,none⟩) 1 1]).run Tryz.prog (w.alloc (.cells (opC x) 32))=.ok (.slice A k c) w1∧w1.cell? ⟨b,3,none⟩=some dv∧w1.frozen? ⟨b,3,none⟩=false ∧
   ∃o',SvG (w1.setCell ⟨b,3,none⟩ (.slice A k c)) o' r b ba (.slice A k c) (n+1) tv B m s∧Fr (fun v=>v=sg r++[5]∨v=sg r++[6]) w o (w1.setCell ⟨b,3,none⟩ (.slice A k c)) o'∧Fr (fun v=>v=sg r++[6]) w o w1 o':=by
 obtain⟨i0,hi,hz0,hz1,hz2⟩:=info_parts infoOp;obtain⟨xs,d1,d2⟩:=h.dn;have fa:Fr (fun _=>False) w o (w.alloc (.cells (opC x) 32)) o:=Fr.alloc' _;have hnew:=heap_alloc_new w (.cells (opC x) 32);have hc:∀(j:Nat) u,(opC x).toList[j]? = some u→(w.alloc (.cells (opC x) 32)).cell? ((⟨w.heap.size,0,none⟩:Addr).add j)=some u:=fun j u hu=>by
  rw [add_pl,Nat.zero_add,cell_of_row _ w.heap.size j (opC x) 32 (0,0) hnew];simpa using hu
 have d1':=fa.only.owns d1 (fun _ _ q=>q);obtain⟨v',w1,hr',q2,q3,_,q5⟩:=run_append_own_at (P:=Tryz.prog) (w.alloc (.cells (opC x) 32)) 0 36 36 32 i0 _ 6 56 Tryz.underlying36 hi hz0 hz1 hz2 rfl (by decide) dv n xs d1' ⟨w.heap.size,0,none⟩ 1 1 (opC x).toList rfl hc (fun u hu=>by simp at hu;rcases hu with rfl|rfl|rfl|rfl|rfl|rfl<;>rfl) (by unfold maxLen;omega) (by omega) (Nat.zero_le _);obtain⟨A,k,c,rfl⟩:∃A k c,v'=.slice A k c:=by
  rcases q2.2 with ⟨e,_⟩|⟨g,cap,cur,e,_⟩
  ·exact⟨_,_,_,e⟩
  ·exact⟨_,_,_,e⟩
 have hO:Only (fun k=>o k=sg r++[6]) w w1:=((fa.only.mono (fun k _ q=>q.elim)).grown q3 (fun k hk hlt=>h.dt k hk))
 have f1:Fr (fun v=>v=sg r++[6]) w o w1 (newO o w (sg r++[6])):=Fr.of_new hO _;have b1:=h.blk.fr f1 (tag_ne (by decide));have f2:Fr (fun v=>v=sg r++[5]) w1 (newO o w (sg r++[6])) (w1.setCell ⟨b,3,none⟩ (.slice A k c)) (newO o w (sg r++[6])):=Fr.setCell (fun _=>b1.1) _;have hdt:∀q,(Value.slice A k c).ownBlock=some q→newO o w (sg r++[6]) q=sg r++[6]:=fun q hq=>by
  rcases q5 with q5|q5
  ·rw [q5] at hq
   exact(newO_old (d1.lt q hq).2).trans (h.dt q hq)
  ·rw [q5] at hq
   obtain rfl:=Option.some.inj hq;exact newO_new (by simp)
 refine⟨A,k,c,w1,hr',b1.cell' (i:=3) rfl,b1.free 3,newO o w (sg r++[6]),⟨b1.set 3 _,(h.ad.fr f1 (sg_off hr [6])).fr f2 (sg_off hr [5]),⟨_,f2.only.owns q2 (fun q hq hs=>by
  have h6:=hdt q hq;rw [h6] at hs;exact tag_ne (r:=sg r) (a:=6) (b:=5) (l:=[]) (by decide) hs),fun u hu=>?_⟩,hdt⟩,(f1.mono fun v q=>.inr q).trans (f2.mono fun v q=>.inl q),f1⟩
 rcases List.mem_append.1 hu with hu|hu
 ·exact d2 u hu
 ·simp at hu
  rcases hu with rfl|rfl|rfl|rfl|rfl|rfl<;>rfl
end
end
section
open Go.RowKit Flt
attribute [local irreducible] CpS.rv
def AdS.nx(s:AdS)(K:Nat):Prop:=∀i,i<8→(1≤s.ser i∧s.ser i≤K+1)∧∀t,s.ts i=some t→t.cp.next≤K+1
def SvAt(w:World)(o:Nat→Tag)(r:Tag)(b:Nat)(B:List UInt8)(K:Nat)(s:AdS):Prop:=∃ba dv n tv m,SvG w o r b ba dv n tv B m s∧n≤K∧m≤1000000+K∧s.nx K
def AdS.chg(s:AdS)(i:Nat):Int:=match s.ts i with
 |none=>0
 |some t=>t.cb
def AdS.quo(s:AdS)(i:Nat):Int:=match s.ts i with
 |none=>0
 |some t=>t.qb
section
variable{S:Tag→Prop}{w w':World}{o o':Nat→Tag}{r:Tag}{b ba:Nat}{dv tv:Value}{n K:Nat}{B B':List UInt8}{m m':Nat}{s s':AdS}{x:AdX}{cm:CmS}{p:PoS}{tbs:Nat→TbS}
theorem SvAt.fr(h:SvAt w o r b B K s)(f:Fr S w o w' o')(hS:Off S r)(hS2:Off S (sg r)):SvAt w' o' r b B K s:=by
 obtain⟨ba,dv,n,tv,m,h1,h2⟩:=h;exact⟨ba,dv,n,tv,m,h1.fr f hS hS2,h2⟩
theorem SvAt.len(h:SvAt w o r b B K s):B.length=s.P*512∧B.length≤2097152:=by
 obtain⟨ba,dv,n,tv,m,h1,h2⟩:=h;obtain⟨x,cm,p,tbs,g⟩:=h1.ad;have:=g.ok.len;rw [g.ok.P] at this;exact⟨this,g.ar.sz⟩
theorem svNew_no(P C:Int)(w:World)(h:cfgB P C=false) :
  Calls Tryz.prog 16 #[.agg #[.int .i64 P,.int .i64 C]] w fun e w'=>e=.returned (.tuple #[.pointer none,.int .i64 12])∧Below w.heap.size w w':=by
 have hc:=HD (adNew_no P C (w.alloc (.cells #[.int .i64 P,.int .i64 C] 23)) h);have hB:Hid (Below w.heap.size w (w.alloc (.cells #[.int .i64 P,.int .i64 C] 23))):=HD (below_alloc (Nat.le_refl _) (Below.refl _ _));clear h;go_enter Tryz.func16,Tryz.ntmps16
 go_wp2_with fail;refine hc.out.mono ?_;rintro e w1 ⟨rfl,hb⟩;replace hb:=HD hb;go_wp2_with fail;go_ret2
 exact⟨rfl,hB.out.trans (hb.out.mono (by simp))⟩
theorem svNew(P C:Nat)(w:World)(o:Nat→Tag)(r:Tag)(hr:Root r)(hT:Tab w o)(h:cfgB P C=true) :
  Calls Tryz.prog 16 #[.agg #[.int .i64 P,.int .i64 C]] w fun e w'=>∃b o',e=.returned (.tuple #[eP b,.int .i64 0])∧SvAt w' o' r b (List.replicate (P*512) 0) 0 (AdS.new P C)∧Fr (fun _=>False) w o w' o':=by
 have hall:=HD (show Calls Tryz.prog 27 #[.agg #[.int .i64 P,.int .i64 C]] (w.alloc (.cells #[.int .i64 P,.int .i64 C] 23)) (fun e w1=>∃ba,e=.returned (.tuple #[eP ba,.int .i64 0])∧(w1.cell? ⟨w.heap.size,0,none⟩=some (.int .i64 P)∧w1.cell? ⟨w.heap.size,1,none⟩=some (.int .i64 C)) ∧
   ∃o',SvAt (w1.alloc (.cells #[eP ba,.int .i64 P,.int .i64 C,.slice none 0 0,.slice none 0 0] 78)) o' r w1.heap.size (List.replicate (P*512) 0) 0 (AdS.new P C)∧Fr (fun _=>False) w o (w1.alloc (.cells #[eP ba,.int .i64 P,.int .i64 C,.slice none 0 0,.slice none 0 0] 78)) o') from by
  have fc:Fr (fun _=>False) w o (w.alloc (.cells #[.int .i64 P,.int .i64 C] 23)) (setO o w.heap.size (r++[7])):=Fr.alloc _ _;have bc:=Blk.made w o (r++[7]) #[.int .i64 P,.int .i64 C] 23;refine(adNew P C _ _ r hr (hT.fr fc (fun q=>q)) h).mono ?_;rintro e w1 ⟨ba,o1,rfl,g1,f1⟩;have b1:=bc.fr f1 (fun q=>q);have fZ:Fr (fun _=>False) w1 o1 (w1.alloc (.cells #[eP ba,.int .i64 P,.int .i64 C,.slice none 0 0,.slice none 0 0] 78)) (setO o1 w1.heap.size (sg r++[5])):=Fr.alloc _ _;refine⟨ba,rfl,⟨b1.cell' (i:=0) rfl,b1.cell' (i:=1) rfl⟩,_,⟨ba,.slice none 0 0,0,.slice none 0 0,0,⟨Blk.made w1 o1 (sg r++[5]) _ _,g1.fr fZ off_no,⟨[],World.ownsRow_nil _ _ _ _,fun u hu=>(by cases hu)⟩,fun q hq=>(by cases hq)⟩,Nat.le_refl _,by omega,fun i hi=>⟨?_,fun t ht=>(by cases ht)⟩⟩,(fc.trans f1).trans fZ⟩;show (1:Int)≤1∧(1:Int)≤((0:Nat):Int)+1;omega)
 clear hT h hr;go_enter Tryz.func16,Tryz.ntmps16
 go_wp2_with fail;refine hall.out.mono ?_;rintro e w1 ⟨ba,rfl,⟨c0,c1⟩,o',r1,r2⟩;replace r1:=HD r1;replace r2:=HD r2;clear hall;go_wp2_with fail;go_ret2
 exact⟨_,_,rfl,r1.out,r2.out⟩
theorem svAt(i:Nat)(hi:i<8)(h:SvG w o r b ba dv n tv B m s):∃x cm p tbs,AdG w o r ba x B m cm p tbs s∧Calls Tryz.prog 39 #[eP b,.int .i64 i] w fun e w'=>e=.returned (tvF s x i)∧w'=w:=by
 obtain⟨x,cm,p,tbs,g⟩:=h.ad;refine⟨x,cm,p,tbs,g,?_⟩;have c0:w.cell? ⟨b,0,none⟩=some (eP ba):=h.blk.cell' (i:=0) rfl;have ht:=HD (adTenant ba i w hi g);obtain⟨q,e,_⟩:=tv_form s x i;rw [e] at ht ⊢;clear h g e hi;go_enter Tryz.func39,Tryz.ntmps39
 go_wp2_with fail;refine SM ht.out ?_;go_wp2_with fail;go_ret
 exact⟨rfl,rfl⟩
theorem svLive(i:Nat)(hi:i<8)(h:SvG w o r b ba dv n tv B m s):Calls Tryz.prog 22 #[eP b,.int .i64 i] w fun e w'=>e=.returned (.bool (s.ts i).isSome)∧w'=w:=by
 obtain⟨x,cm,p,tbs,g,ht⟩:=svAt i hi h;replace ht:=HD ht;unfold tvF at ht;cases e:s.ts i with
 |none =>
  rw [e] at ht;clear h g e hi;go_enter Tryz.func22,Tryz.ntmps22
  go_wp2_with fail;refine SM ht.out ?_;go_wp2_with fail;go_ret
  exact⟨rfl,rfl⟩
 |some t =>
  rw [e] at ht;clear h g e hi;go_enter Tryz.func22,Tryz.ntmps22
  go_wp2_with fail;refine SM ht.out ?_;go_wp2_with fail;go_ret
  exact⟨rfl,rfl⟩
theorem svCharged(i:Nat)(hi:i<8)(h:SvG w o r b ba dv n tv B m s):Calls Tryz.prog 23 #[eP b,.int .i64 i] w fun e w'=>e=.returned (.int .i64 (s.chg i))∧w'=w:=by
 obtain⟨x,cm,p,tbs,g,ht⟩:=svAt i hi h;replace ht:=HD ht;unfold tvF at ht;unfold AdS.chg;cases e:s.ts i with
 |none =>
  rw [e] at ht;have hc:=HD (tnCharged_nil w);clear h g e hi;go_enter Tryz.func23,Tryz.ntmps23
  go_wp2_with fail;refine SM ht.out ?_;go_wp2_with fail;refine SM hc.out ?_;go_wp2_with fail;go_ret
  exact⟨rfl,rfl⟩
 |some t =>
  rw [e] at ht;have hc:=HD (tnChargedA (g.tn i t hi e) (g.ok.tn i t hi e).1);clear h g e hi;go_enter Tryz.func23,Tryz.ntmps23
  go_wp2_with fail;refine SM ht.out ?_;go_wp2_with fail;refine SM hc.out ?_;go_wp2_with fail;go_ret
  exact⟨rfl,rfl⟩
theorem svQuota(i:Nat)(hi:i<8)(h:SvG w o r b ba dv n tv B m s):Calls Tryz.prog 24 #[eP b,.int .i64 i] w fun e w'=>e=.returned (.int .i64 (s.quo i))∧w'=w:=by
 obtain⟨x,cm,p,tbs,g,ht⟩:=svAt i hi h;replace ht:=HD ht;unfold tvF at ht;unfold AdS.quo;cases e:s.ts i with
 |none =>
  rw [e] at ht;have hc:=HD (tnQuota_nil w);clear h g e hi;go_enter Tryz.func24,Tryz.ntmps24
  go_wp2_with fail;refine SM ht.out ?_;go_wp2_with fail;refine SM hc.out ?_;go_wp2_with fail;go_ret
  exact⟨rfl,rfl⟩
 |some t =>
  rw [e] at ht;have hc:=HD (tnQuotaA (g.tn i t hi e) (g.ok.tn i t hi e).1);clear h g e hi;go_enter Tryz.func24,Tryz.ntmps24
  go_wp2_with fail;refine SM ht.out ?_;go_wp2_with fail;refine SM hc.out ?_;go_wp2_with fail;go_ret
  exact⟨rfl,rfl⟩
theorem AdG.inAr(h:AdG w o r b x B m cm p tbs s)(hr:Root r)(f:Fr (Und (r++[1])) w o w' o')(ga:ArAt w' o' (r++[1]) x.a B m'):AdG w' o' r b x B m' cm p tbs s:=by
 have gc:=h.cma.fr f (ad_off (p:=[]) (q:=[]) hr (by decide));exact⟨h.blk.fr f (not_und r 1 []),gc,ga,h.po.fr f (ad_off (p:=[]) (q:=[]) hr (by decide)),fun i t hi ht=>(h.tn i t hi ht).other f (ad_off (p:=[]) (q:=[i]) hr (by decide)) gc ga rfl rfl,h.tab.fr f (not_pre hr.r9),h.ok⟩
theorem svBytes(at_ k:Int)(hr:Root r)(h:SvG w o r b ba dv n tv B m s)(hm:m≤1000000000):Calls Tryz.prog 38 #[eP b,.int .i64 at_,.int .i64 k] w fun e w'=>e=.returned (.tuple #[rdV B at_ k,.int .i64 (hasE B.length at_ k)])∧∃o',SvG w' o' r b ba dv n tv B (m+1) s∧Fr (Und (r++[1])) w o w' o':=by
 obtain⟨x,cm,p,tbs,g⟩:=h.ad;have c0:w.cell? ⟨b,0,none⟩=some (eP ba):=h.blk.cell' (i:=0) rfl;have ha:=HD (adArena ba w g);have hrd:=HD (show Calls Tryz.prog 68 #[eP x.a,.int .i64 at_,.int .i64 k] w (fun e w'=>e=.returned (.tuple #[rdV B at_ k,.int .i64 (hasE B.length at_ k)])∧∃o',SvG w' o' r b ba dv n tv B (m+1) s∧Fr (Und (r++[1])) w o w' o') from by
  refine(arRead x.a at_ k w g.ar hm).mono ?_;rintro e w1 ⟨rfl,ga,f⟩;refine⟨rfl,_,h.inAd f (fun q=>sg_self [5] hr q.up) (fun q=>sg_self [6] hr q.up) ⟨x,cm,p,tbs,g.inAr hr f ga⟩ rfl rfl,f⟩)
 have hf:∃ss,rdV B at_ k=.string ss:=by
  unfold rdV
  split<;>exact⟨_,rfl⟩
 obtain⟨ss,hss⟩:=hf;rw [hss] at hrd ⊢;generalize hasE B.length at_ k=he at *;clear h g hm hss;go_enter Tryz.func38,Tryz.ntmps38
 go_wp2_with fail;refine SM ha.out ?_;go_wp2_with fail;refine hrd.out.mono ?_;rintro e w1 ⟨rfl,o',r1,r2⟩;replace r1:=HD r1;replace r2:=HD r2;go_wp2_with fail;go_ret2
 exact⟨rfl,_,r1.out,r2.out⟩
end
end
end Go.Proofs.YtfliaggjkianpaaGreatDoor
