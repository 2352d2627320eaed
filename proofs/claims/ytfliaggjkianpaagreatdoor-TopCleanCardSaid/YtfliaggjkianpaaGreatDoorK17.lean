import Derived.Test.YtfliaggjkianpaaGreatDoorK16
set_option linter.unusedVariables false
set_option linter.unusedSimpArgs false
set_option maxRecDepth 100000
namespace Go.Proofs.YtfliaggjkianpaaGreatDoor
section
open Go.RowKit Flt
theorem nodup_sub{α:Type}[DecidableEq α]:∀(l K:List α),l.Nodup→(∀x∈l,x∈K)→l.length≤K.length
 |[],K,_,_=>Nat.zero_le _
 |x :: l,K,hn,h=>by
  obtain⟨h1,h2⟩:=List.nodup_cons.1 hn;have hx:x∈K:=h x (by simp);have:=nodup_sub l (K.erase x) h2 (fun y hy=>by
   have hne:y≠x:=fun e=>h1 (e▸hy)
   exact(List.mem_erase_of_ne hne).2 (h y (by simp [hy])))
  have hl:=List.length_erase_of_mem hx;have hpos:0<K.length:=List.length_pos_of_mem hx;simp only [List.length_cons];omega
structure CpR(cp:CpS)(K:List Int):Prop where
 ok:CpOk cp
 rise:Rise cp.slots
 tak:∀k:Nat,k<4096→cp.obj.f k=false→∃x,mGet cp.slots (k:Int)=some x
 adr:∀k x,mGet cp.slots k=some x→x.2∈K
 one:∀(k1 k2:Nat) (x1 x2:Slot),k1<4096→k2<4096→mGet cp.slots (k1:Int)=some x1→mGet cp.slots (k2:Int)=some x2→x1.2=x2.2→k1=k2
theorem CpR.cong{cp:CpS}{K K':List Int}(h:CpR cp K)(hk:∀x∈K,x∈K'):CpR cp K':=⟨h.ok,h.rise,h.tak,fun k x q=>hk _ (h.adr k x q),h.one⟩
theorem CpR.new{tenant serial:Int}(ht:0≤tenant∧tenant≤7)(hs:1≤serial∧serial≤17592186044416):CpR (CpS.new tenant serial) [] where
 ok:=CpOk.new ht hs
 rise:=List.Pairwise.nil
 tak k hk hf:=by
  exfalso
  have:(ShS.new 4096).f k=true:=by unfold ShS.new;simp;omega
  rw [show (CpS.new tenant serial).obj=ShS.new 4096 from rfl,this] at hf;cases hf
 adr k x q:=by cases q
 one k1 k2 x1 x2 _ _ q:=by cases q
theorem CpR.tkn{cp:CpS}{K:List Int}(h:CpR cp K):cp.obj.tkn≤K.length:=by
 have e:cp.obj.tkn=((List.range 4096).filter fun k=>!cp.obj.f k).length:=by
  unfold ShS.tkn ShS.cnt;rw [h.ok.obj,←List.countP_eq_length_filter];have:=List.length_eq_countP_add_countP (p:=cp.obj.f) (l:=List.range 4096);rw [List.length_range] at this;have e2:List.countP (fun a=>decide ¬cp.obj.f a=true) (List.range 4096)=List.countP (fun k=>!cp.obj.f k) (List.range 4096):=by
   congr 1
   funext a
   cases cp.obj.f a<;>rfl
  rw [e2] at this;omega
 rw [e];have hn:(((List.range 4096).filter fun k=>!cp.obj.f k).map fun k=>((mGet cp.slots ((k:Nat):Int)).getD ((0,0),0)).2).Nodup:=by
  refine List.pairwise_map.2 (List.Pairwise.imp_of_mem (R:=fun a b=>a≠b) (fun {a b} ha hb hne=>?_) (List.Pairwise.filter _ List.nodup_range));obtain⟨a1,a2⟩:=List.mem_filter.1 ha;obtain⟨b1,b2⟩:=List.mem_filter.1 hb;have a3:=List.mem_range.1 a1;have b3:=List.mem_range.1 b1;obtain⟨x,hx⟩:=h.tak a a3 (by simpa using a2);obtain⟨y,hy⟩:=h.tak b b3 (by simpa using b2);intro q;rw [hx,hy] at q;exact hne (h.one a b x y a3 b3 hx hy q)
 have:=nodup_sub _ K hn (fun x hx=>by
  obtain⟨k,hk,rfl⟩:=List.mem_map.1 hx;obtain⟨k1,k2⟩:=List.mem_filter.1 hk;obtain⟨x,hx⟩:=h.tak k (List.mem_range.1 k1) (by simpa using k2);rw [hx];exact h.adr _ _ hx)
 rwa [List.length_map] at this
theorem CpR.fill{cp:CpS}{K:List Int}(h:CpR cp K){ob:Bool}{a r:Int}{k:Nat}(hk:k<(if ob then 4096 else 64))(hf:(cp.sh ob).f k=true)(hok:CpOk (cp.fill ob a r k))(ha:ob=true→a∉K):CpR (cp.fill ob a r k) (a :: K) where
 ok:=hok
 rise:=mIns_rise h.rise _ _
 tak j hj hfj:=by
  by_cases e:((j:Nat):Int)=CpS.base ob+k
  ·exact⟨_,by rw [e];exact mGet_ins_same h.rise _ _⟩
  ·have hfo:cp.obj.f j=false:=by
    cases ob with
    |true =>
     have e2:j≠k:=by unfold CpS.base at e;simp at e;omega
     have q:(cp.obj.flip k).f j=false:=hfj;unfold ShS.flip at q;simpa [e2] using q
    |false=>exact hfj
   obtain⟨x,hx⟩:=h.tak j hj hfo;exact⟨x,(mGet_ins_other e _).trans hx⟩
 adr j x q:=by
  by_cases e:j=CpS.base ob+k
  ·subst e
   rw [show (cp.fill ob a r k).slots=mIns (CpS.base ob+k) ((r,cp.next),a) cp.slots from rfl,mGet_ins_same h.rise] at q;obtain rfl:=Option.some.inj q;exact List.mem_cons_self
  ·rw [show (cp.fill ob a r k).slots=mIns (CpS.base ob+k) ((r,cp.next),a) cp.slots from rfl,mGet_ins_other e] at q
   exact List.mem_cons_of_mem _ (h.adr j x q)
 one k1 k2 x1 x2 h1 h2 q1 q2 hx:=by
  rw [show (cp.fill ob a r k).slots=mIns (CpS.base ob+k) ((r,cp.next),a) cp.slots from rfl] at q1 q2;by_cases e1:((k1:Nat):Int)=CpS.base ob+k
  ·by_cases e2:((k2:Nat):Int)=CpS.base ob+k
   ·omega
   ·rw [e1,mGet_ins_same h.rise] at q1
    rw [mGet_ins_other e2] at q2;obtain rfl:=Option.some.inj q1;cases ob with
    |true=>exact absurd (by have:=h.adr _ _ q2;rw [←hx] at this;exact this) (ha rfl)
    |false=>unfold CpS.base at e1;simp at e1;omega
  ·by_cases e2:((k2:Nat):Int)=CpS.base ob+k
   ·rw [e2,mGet_ins_same h.rise] at q2
    rw [mGet_ins_other e1] at q1;obtain rfl:=Option.some.inj q2;cases ob with
    |true=>exact absurd (by have:=h.adr _ _ q1;rw [hx] at this;exact this) (ha rfl)
    |false=>unfold CpS.base at e2;simp at e2;omega
   ·rw [mGet_ins_other e1] at q1
    rw [mGet_ins_other e2] at q2;exact h.one k1 k2 x1 x2 h1 h2 q1 q2 hx
theorem rv_look{cp:CpS}(hr:Rise cp.slots)(hn:cp.obj.n=4096)(a:Int)(k:Nat):Rise (cp.rv a k).1.slots∧(cp.rv a k).1.obj.n=4096∧(∀j:Int,mGet (cp.rv a k).1.slots j=if (0≤j∧j<k)∧cp.hit a j.toNat=true then none else mGet cp.slots j)∧(∀j:Nat,(cp.rv a k).1.obj.f j=false→cp.obj.f j=false∧¬(j<k∧j<4096∧cp.hit a j=true)):=by
 induction k with
 |zero=>exact⟨hr,hn,fun j=>by rw [if_neg (by omega)];rfl,fun j q=>⟨q,by omega⟩⟩
 |succ k ih =>
  obtain⟨h1,h2,h3,h4⟩:=ih;have hk:mGet (cp.rv a k).1.slots (k:Int)=mGet cp.slots (k:Int):=by rw [h3,if_neg (by omega)]
  have hh:(cp.rv a k).1.hit a k=cp.hit a k:=by unfold CpS.hit;rw [hk]
  unfold CpS.rv;rw [hh];by_cases c:cp.hit a k=true
  ·rw [if_pos c]
   refine⟨mDel_rise h1 _,?_,fun j=>?_,fun j q=>?_⟩
   ·show (if k<4096 then (cp.rv a k).1.obj.give k else (cp.rv a k).1.obj).n=4096
    split
    ·rw [give_n',h2]
    ·exact h2
   ·show mGet (mDel (k:Int) (cp.rv a k).1.slots) j=_
    by_cases e:j=k
    ·subst e
     rw [mGet_del_same h1,if_pos ⟨by omega,by rw [Int.toNat_natCast];exact c⟩]
    ·rw [mGet_del_other e,h3]
     by_cases q:(0≤j∧j<k)∧cp.hit a j.toNat=true
     ·rw [if_pos q,if_pos ⟨by omega,q.2⟩]
     ·rw [if_neg q,if_neg (fun q2=>q ⟨by omega,q2.2⟩)]
   ·replace q:(if k<4096 then (cp.rv a k).1.obj.give k else (cp.rv a k).1.obj).f j=false:=q
    by_cases hk4:k<4096
    ·rw [if_pos hk4] at q
     unfold ShS.give at q;by_cases g:(0≤(k:Int)∧(k:Int)<(cp.rv a k).1.obj.n)∧(cp.rv a k).1.obj.f (k:Int).toNat=false
     ·rw [if_pos g,Int.toNat_natCast] at q
      rw [Int.toNat_natCast] at g;by_cases e:j=k
      ·subst e
       exfalso
       unfold ShS.flip at q;simp [g.2] at q
      ·have q':(cp.rv a k).1.obj.f j=false:=by
        unfold ShS.flip at q;simpa [e] using q
       have:=h4 j q';exact⟨this.1,fun w=>this.2 ⟨by omega,w.2⟩⟩
     ·rw [if_neg g] at q
      have:=h4 j q;refine⟨this.1,fun w=>?_⟩;by_cases e:j=k
      ·subst e
       exact g ⟨by omega,by rw [Int.toNat_natCast];exact q⟩
      ·exact this.2 ⟨by omega,w.2⟩
    ·rw [if_neg hk4] at q
     have:=h4 j q;exact⟨this.1,fun w=>this.2 ⟨by omega,w.2⟩⟩
  ·rw [if_neg c]
   refine⟨h1,h2,fun j=>?_,fun j q=>?_⟩
   ·rw [h3]
    by_cases e:j=k
    ·subst e
     rw [if_neg (by omega),if_neg (fun q=>c (by have:=q.2;rwa [Int.toNat_natCast] at this))]
    ·by_cases q:(0≤j∧j<k)∧cp.hit a j.toNat=true
     ·rw [if_pos q,if_pos ⟨by omega,q.2⟩]
     ·rw [if_neg q,if_neg (fun q2=>q ⟨by omega,q2.2⟩)]
   ·have:=h4 j q
    refine⟨this.1,fun w=>?_⟩;by_cases e:j=k
    ·subst e;exact c w.2.2
    ·exact this.2 ⟨by omega,w.2⟩
theorem hit_iff{cp:CpS}{a:Int}{k:Nat}:cp.hit a k=true↔∃x,mGet cp.slots (k:Int)=some x∧x.2=a:=by
 unfold CpS.hit;cases e:mGet cp.slots (k:Int) with
 |none=>simp
 |some x=>simp
theorem CpR.rv{cp:CpS}{K:List Int}(h:CpR cp K)(a:Int):CpR (cp.rv a 4160).1 (K.filter (·≠a)):=by
 obtain⟨h1,h2,h3,h4⟩:=rv_look h.rise h.ok.obj a 4160;have hsome:∀j x,mGet (cp.rv a 4160).1.slots j=some x→mGet cp.slots j=some x∧x.2≠a:=fun j x q=>by
  rw [h3] at q;by_cases c:(0≤j∧j<(4160:Nat))∧cp.hit a j.toNat=true
  ·rw [if_pos c] at q;cases q
  ·rw [if_neg c] at q
   refine⟨q,fun e=>c ?_⟩;have hk:=h.ok.keys _ (mGet_mem q);simp only at hk;exact⟨by omega,hit_iff.2 ⟨x,by rw [Int.toNat_of_nonneg hk.1];exact q,e⟩⟩
 refine⟨h.ok.rv a 4160,h1,fun k hk hf=>?_,fun j x q=>?_,fun k1 k2 x1 x2 a1 a2 q1 q2 e=>h.one k1 k2 x1 x2 a1 a2 (hsome _ _ q1).1 (hsome _ _ q2).1 e⟩
 ·obtain⟨g1,g2⟩:=h4 k hf
  obtain⟨x,hx⟩:=h.tak k hk g1;refine⟨x,?_⟩;rw [h3,if_neg (fun c=>g2 ⟨by omega,hk,by have:=c.2;rwa [Int.toNat_natCast] at this⟩)];exact hx
 ·obtain⟨g1,g2⟩:=hsome j x q
  exact List.mem_filter.2 ⟨h.adr j x g1,by simpa using g2⟩
end
section
open Go.RowKit Flt
theorem pack_un{t s r n:Int}(h:keyOK t s r n):unOK (packN t s r n)∧unT (packN t s r n)=t∧unS (packN t s r n)=s∧unR (packN t s r n)=r∧unN (packN t s r n)=n∧packN t s r n<18446744073709551616∧packN t s r n≠0:=by
 have hk:=h;unfold keyOK at h;have e:((packN t s r n:Nat):Int)=t+16*r+128*s+1048576*n:=by unfold packN;omega
 have e1:unT (packN t s r n)=t:=by unfold unT;rw [e];omega
 have e2:unS (packN t s r n)=s:=by unfold unS;rw [e];omega
 have e3:unR (packN t s r n)=r:=by unfold unR;rw [e];omega
 have e4:unN (packN t s r n)=n:=by unfold unN;rw [e];omega
 refine⟨by unfold unOK;rw [e1,e2,e3,e4];exact hk,e1,e2,e3,e4,by omega,by omega⟩
theorem low_any{s:ShS}(h:s.tkn<s.n):∃k:Nat,s.low=some k∧k<s.n∧s.f k=true:=by
 rcases low_cases s with ⟨e,_⟩|⟨k,_,h1,h2,h3⟩
 ·have:=low_neg e
  unfold ShS.tkn at h;omega
 ·exact⟨k,h1,h2,h3⟩
theorem low_spec{s:ShS}{k:Nat}(h:s.low=some k):k<s.n∧s.f k=true:=by
 rcases low_cases s with ⟨_,e⟩|⟨j,_,h1,h2,h3⟩
 ·rw [e] at h;cases h
 ·rw [h1] at h;obtain rfl:=Option.some.inj h;exact⟨h2,h3⟩
def CpS.grH(cp:CpS):Nat:=packN cp.tenant (cp.obj.low.getD 0:Nat) 7 cp.next
def CpS.gr(cp:CpS)(a:Int):CpS:=cp.fill true a 7 (cp.obj.low.getD 0)
theorem CpR.grant{cp:CpS}{K:List Int}(h:CpR cp K)(hK:K.length<4096){a:Int}(ha:a∉K)(h0:0≤a)(hx:cp.next<17592186044416) :
  cp.grantF a=(.tuple #[.int .u64 cp.grH,.int .i64 0],cp.gr a)∧CpR (cp.gr a) (a :: K)∧(cp.gr a).next=cp.next+1∧(cp.gr a).tenant=cp.tenant∧(cp.gr a).look cp.grH=some ((7,cp.next),a)∧cp.grH<18446744073709551616∧cp.grH≠0:=by
 have ht:=h.tkn;obtain⟨k,h1,h2,h3⟩:=low_any (s:=cp.obj) (by rw [h.ok.obj];omega);rw [h.ok.obj] at h2;have e1:cp.grH=packN cp.tenant (k:Int) 7 cp.next:=by unfold CpS.grH;rw [h1];rfl
 have e2:cp.gr a=cp.fill true a 7 k:=by unfold CpS.gr;rw [h1];rfl
 have hg:cp.grantF a=(.tuple #[.int .u64 cp.grH,.int .i64 0],cp.gr a):=by
  unfold CpS.grantF;rw [if_neg (by omega)];unfold CpS.putF;rw [if_neg (by omega)];have:(cp.sh true).low=some k:=h1;rw [this,e1,e2];show (Value.tuple #[.int .u64 (packN cp.tenant (0+(k:Int)) 7 cp.next:Nat),.int .i64 0],_)=_;rw [Int.zero_add]
 have hok:CpOk (cp.gr a):=by have:=h.ok.grantF a;rwa [hg] at this
 have htn:=h.ok.tenant;have hnx:=h.ok.next;obtain⟨p1,p2,p3,p4,p5,p6,p7⟩:=pack_un (t:=cp.tenant) (s:=(k:Int)) (r:=7) (n:=cp.next) ⟨htn,by omega,by omega,by omega⟩;refine⟨hg,?_,?_,?_,?_,by rw [e1];exact p6,by rw [e1];exact p7⟩
 ·rw [e2] at hok ⊢
  exact h.fill (by simpa using h2) h3 hok (fun _=>ha)
 ·rw [e2];rfl
 ·rw [e2];rfl
 ·rw [e1,e2]
  unfold CpS.look;rw [if_pos p1,p2,p3,p4,p5];rw [show (cp.fill true a 7 k).slots=mIns (CpS.base true+k) ((7,cp.next),a) cp.slots from rfl,show CpS.base true+(k:Int)=k from Int.zero_add _,mGet_ins_same h.rise];show (if cp.tenant=(cp.fill true a 7 k).tenant∧((7,cp.next):Int×Int)=(7,cp.next) then some (((7:Int),cp.next),a) else none)=_;rw [if_pos ⟨rfl,rfl⟩]
theorem look_mem{cp:CpS}{K:List Int}(h:CpR cp K){hn:Nat}{x:Slot}(hl:cp.look hn=some x):x.2∈K:=by
 unfold CpS.look at hl
 split at hl
 ·cases e:mGet cp.slots (unS hn) with
  |none=>rw [e] at hl;cases hl
  |some y =>
   rw [e] at hl;simp only [Option.bind_some] at hl
   split at hl
   ·obtain rfl:=Option.some.inj hl
    exact h.adr _ _ e
   ·cases hl
 ·cases hl
theorem CpR.rest{cp:CpS}{K:List Int}(h:CpR cp K)(hn:Nat)(r:Int):CpR (cp.restF hn r).2 K∧(cp.restF hn r).2.tenant=cp.tenant∧(cp.restF hn r).2.next≤cp.next+1∧cp.next≤(cp.restF hn r).2.next:=by
 have hok:=h.ok.restF hn r;unfold CpS.restF at hok ⊢;cases hl:cp.look hn with
 |none=>exact⟨h,rfl,Int.le_of_lt (Int.lt_succ _),Int.le_refl _⟩
 |some x =>
  rw [hl] at hok;simp only at hok ⊢
  split
  ·exact⟨h,rfl,Int.le_of_lt (Int.lt_succ _),Int.le_refl _⟩
  ·rename_i hr
   rw [if_neg hr] at hok
   split
   ·rename_i hm
    rw [if_pos hm] at hok;unfold CpS.putF at hok ⊢
    split
    ·exact⟨h,rfl,Int.le_of_lt (Int.lt_succ _),Int.le_refl _⟩
    ·rename_i hnx
     rw [if_neg hnx] at hok
     split
     ·exact⟨h,rfl,Int.le_of_lt (Int.lt_succ _),Int.le_refl _⟩
     ·rename_i k hlow
      rw [hlow] at hok;simp only at hok;obtain⟨q1,q2⟩:=low_spec hlow;have hk:k<64:=by have:(cp.sh false).n=64:=h.ok.ext;omega
      refine⟨?_,rfl,?_,?_⟩
      ·exact(h.fill (ob:=false) (by simpa using hk) q2 hok (fun e=>by cases e)).cong (fun y hy=>by
        rcases List.mem_cons.1 hy with rfl|hy
        ·exact look_mem h hl
        ·exact hy)
      ·show cp.next+1≤cp.next+1;omega
      ·show cp.next≤cp.next+1;omega
   ·exact⟨h,rfl,Int.le_of_lt (Int.lt_succ _),Int.le_refl _⟩
theorem rv_next(cp:CpS)(a:Int)(k:Nat):(cp.rv a k).1.next=cp.next∧(cp.rv a k).1.tenant=cp.tenant:=by
 induction k with
 |zero=>exact⟨rfl,rfl⟩
 |succ k ih =>
  unfold CpS.rv
  split
  ·exact ih
  ·exact ih
end
section
open Go.RowKit Flt
structure TnS where
 cp:CpS
 qb:Int
 cb:Int
 pk:Int
 wl:Nat
 ob:List (Int×List UInt8)
 al:AlS
def obM(ob:List (Int×List UInt8)):List (Int×Int):=ob.map fun y=>(y.1,(y.2.length:Int))
def obsum(ob:List (Int×List UInt8)):Int:=(ob.map fun y=>unitT (kdT y.1)).sum
section
variable{α β:Type}
theorem ins_map(g:α→β)(k:Int)(v:α):∀M:List (Int×α),(mIns k v M).map (fun y=>(y.1,g y.2))=mIns k (g v) (M.map fun y=>(y.1,g y.2))
 |[]=>rfl
 |(a,u) :: M=>by
  unfold mIns;simp only [List.map_cons]
  split
  ·simp
  ·split
   ·simp
   ·simp only [List.map_cons];rw [ins_map g k v M]
theorem del_map(g:α→β)(k:Int):∀M:List (Int×α),(mDel k M).map (fun y=>(y.1,g y.2))=mDel k (M.map fun y=>(y.1,g y.2))
 |[]=>rfl
 |(a,u) :: M=>by
  unfold mDel;simp only [List.map_cons]
  split
  ·rfl
  ·simp only [List.map_cons];rw [del_map g k M]
theorem get_map(g:α→β)(k:Int):∀M:List (Int×α),mGet (M.map fun y=>(y.1,g y.2)) k=(mGet M k).map g
 |[]=>rfl
 |(a,u) :: M=>by
  simp only [List.map_cons];unfold mGet
  split
  ·rfl
  ·exact get_map g k M
theorem del_perm{M:List (Int×α)}{k:Int}{v:α}(h:mGet M k=some v):M.Perm ((k,v) :: mDel k M):=by
 induction M with
 |nil=>cases h
 |cons x M ih =>
  obtain⟨a,u⟩:=x;unfold mGet at h;unfold mDel
  split at h
  ·rename_i e
   obtain rfl:=Option.some.inj h;rw [if_pos e,e]
  ·rename_i e
   rw [if_neg e];exact(List.Perm.cons _ (ih h)).trans (List.Perm.swap _ _ _)
end
structure ObOk(tb:TbS)(B:List UInt8)(al:AlS)(ob:List (Int×List UInt8)):Prop where
 rise:Rise ob
 at_:∀a d,mGet ob a=some d→∃k s j:Nat,a=posT k s j∧Had al k s j∧1≤d.length∧(d.length:Int)≤unitT k∧∀i:Nat,(i:Int)<unitT k→lb tb B (a+i)=d.getD i 0
structure TnOk(B:List UInt8)(cm:CmS)(win:List Int)(tb:TbS)(s:TnS):Prop where
 hp:HpOk B cm win tb s.al
 used:s.al.Used
 dem:Dem s.al s.pk
 wl:win.length=s.wl
 room:demT s.pk≤(win.length*(cm.P/cm.C):Nat)
 quo:s.cb≤s.qb∧s.qb≤s.pk
 may:mayB s.qb=true
 cost:s.cb=s.al.cost
 sum:obsum s.ob=s.cb
 ob:ObOk tb B s.al s.ob
 cp:CpR s.cp (s.ob.map (·.1))
theorem sum_ge{l:List Int}{c:Int}(h:∀x∈l,c≤x):c*l.length≤l.sum:=by
 induction l with
 |nil=>simp
 |cons x l ih =>
  have h1:=h x (by simp);have h2:=ih (fun y hy=>h y (by simp [hy]));simp only [List.length_cons,List.sum_cons];have e:c*((l.length+1:Nat):Int)=c*l.length+c:=by rw [Int.natCast_add,Int.mul_add];simp
  omega
section
variable{B B':List UInt8}{cm cm':CmS}{win:List Int}{tb tb':TbS}{s:TnS}
theorem TnOk.few(h:TnOk B cm win tb s):16*(s.ob.length:Int)≤s.cb:=by
 have:=sum_ge (l:=s.ob.map fun y=>unitT (kdT y.1)) (c:=16) (fun x hx=>by
  obtain⟨y,hy,rfl⟩:=List.mem_map.1 hx;obtain⟨k,sl,j,e,hh,_⟩:=h.ob.at_ y.1 y.2 (mGet_of h.ob.rise hy);have:=find_pos hh.1;rw [e,this.2.2.1];have hk:=hh.there.1;have:=kind_facts (c:=(k:Int)) (by omega) (by omega);omega)
 rw [List.length_map] at this;have h2:=h.sum;unfold obsum at h2;omega
def TnS.getA(s:TnS)(k:Nat):Int:=(s.al.mal k).1
def TnS.get(s:TnS)(k:Nat)(d:List UInt8):TnS :=
 {s with cp:=s.cp.gr (s.getA k),cb:=s.cb+unitT k,ob:=mIns (s.getA k) d s.ob,al:=(s.al.mal k).2}
theorem TnOk.wins(h:TnOk B cm win tb s):win.length≤32∧win.length*(cm.P/cm.C)≤131072:=by
 have h1:=nodup_len cm.C win h.hp.ton.wok.1 h.hp.ton.wok.2;obtain⟨c1,c2,c3,c4,c5,c6⟩:=h.hp.cmo;have h2:cm.P/cm.C≤4096:=Nat.le_trans (Nat.div_le_self _ _) c4;refine⟨by omega,Nat.le_trans (Nat.mul_le_mul (show win.length≤32 by omega) h2) (by decide)⟩
theorem TnOk.pgs(h:TnOk B cm win tb s):pgsum s.al.sl≤win.length*(cm.P/cm.C):=by
 have h1:=h.dem.pages;have h2:=h.room;omega
theorem TnOk.wf(h:TnOk B cm win tb s):QS.wf ⟨s.qb,((win.length*(cm.P/cm.C):Nat):Int),s.cb,(tb.pg.length:Int),0,0⟩:=by
 have h1:=h.quo;have h2:=h.cost;have h3:=may_iff.1 h.dem.may;have h4:=h.wins;have h5:=h.pgs;rw [←h.hp.cnt] at h5;unfold QS.wf;simp only;omega
theorem kind_size{n:Int}{k:Nat}(h:kindT n=k):k<24∧1≤n∧n≤unitT k:=by
 by_cases c:n<1∨8192<n
 ·rw [kind_out c] at h;omega
 ·have:=unit_kind (n:=n) (by omega) (by omega)
  rw [h] at this;omega
theorem TnOk.malPre(h:TnOk B cm win tb s){n:Int}{k:Nat}(hk:kindT n=k)(hq:s.cb+unitT k≤s.qb):MalPre B cm win tb s.al k:=by
 have h1:=h.quo;have h2:=h.cost;exact mal_room h.hp h.dem h.room (kind_size hk).1 (by omega)
theorem pos_nonneg{k s j:Nat}(h:thereT k s j=true):131072≤posT k s j:=(find_pos h).1
theorem TnOk.fresh(h:TnOk B cm win tb s){k:Nat}(hR:MalRes B cm win tb s.al k B' cm' tb' (s.al.mal k).2 (s.getA k)):s.getA k∉s.ob.map (·.1)∧0≤s.getA k∧mGet s.ob (s.getA k)=none:=by
 obtain⟨s1,j1,e,h1,h2⟩:=hR.had;have hn:mGet s.ob (s.getA k)=none:=by
  cases q:mGet s.ob (s.getA k) with
  |none=>rfl
  |some d =>
   exfalso
   obtain⟨k2,s2,j2,e2,hh,_⟩:=h.ob.at_ _ _ q;have f1:=find_pos h1.1;have f2:=find_pos hh.1;rw [←e] at f1;rw [←e2] at f2;obtain⟨_,_,a1,a2,a3⟩:=f1;obtain⟨_,_,b1,b2,b3⟩:=f2;have c1:k=k2:=by omega
   have c2:s1=s2:=by omega
   have c3:j1=j2:=by omega
   subst c1;subst c2;subst c3;exact h2 hh
 refine⟨fun hm=>?_,by have:=pos_nonneg h1.1;omega,hn⟩;obtain⟨y,hy,e2⟩:=List.mem_map.1 hm;have:=mGet_of h.ob.rise (v:=y.2) (k:=y.1) hy;rw [e2,hn] at this;cases this
theorem TnOk.getPre(h:TnOk B cm win tb s){n:Int}{k:Nat}(hk:kindT n=k)(hq:s.cb+unitT k≤s.qb)(hx:s.cp.next<17592186044416) :
  GetPre B cm win tb s.al s.cp (s.cp.gr (s.getA k)) ⟨s.qb,((win.length*(cm.P/cm.C):Nat):Int),s.cb,(tb.pg.length:Int),0,0⟩ k s.cp.grH:=by
 have h1:=h.quo;have h2:=h.cost;have hp:=h.malPre hk hq;have h3:=may_iff.1 h.dem.may;have h4:=h.few;have hz:=kind_size hk;have hu:=kind_facts (c:=(k:Int)) (by omega) (by omega);have h6:=h.room;refine⟨hp,h.wf,⟨rfl,rfl⟩,rfl,hq,fun hR=>?_,hx,h.cp.ok,fun hR=>?_⟩
 ·obtain⟨B',cm',tb',hR⟩:=hR
  have hd:=dem_mal hp h.dem (by omega) hR.cost;have h5:=hd.pages;simp only;omega
 ·obtain⟨B',cm',tb',hR⟩:=hR
  obtain⟨f1,f2,f3⟩:=h.fresh hR;exact(h.cp.grant (by rw [List.length_map];omega) f1 f2 hx).1
theorem perm_sum{l l':List Int}(h:l.Perm l'):l.sum=l'.sum:=by
 induction h with
 |nil=>rfl
 |cons x _ ih=>simp only [List.sum_cons,ih]
 |swap x y l=>simp only [List.sum_cons];omega
 |trans _ _ h1 h2=>exact h1.trans h2
theorem obsum_ins{ob:List (Int×List UInt8)}{a:Int}{d:List UInt8}(h:mGet ob a=none):obsum (mIns a d ob)=obsum ob+unitT (kdT a):=by
 unfold obsum;have:=perm_sum ((mIns_new h d).map fun y=>unitT (kdT y.1));rw [this];simp only [List.map_cons,List.sum_cons];omega
theorem TnOk.get(h:TnOk B cm win tb s){n:Int}{k:Nat}(hk:kindT n=k)(hq:s.cb+unitT k≤s.qb)(hx:s.cp.next<17592186044416)(hR:MalRes B cm win tb s.al k B' cm' tb' (s.al.mal k).2 (s.getA k)) :
  TnOk B' cm' win tb' (s.get k (List.replicate n.toNat 0))∧(s.cp.gr (s.getA k)).look s.cp.grH=some ((7,s.cp.next),s.getA k):=by
 obtain⟨f1,f2,f3⟩:=h.fresh hR;have h1:=h.quo;have h2:=h.cost;have hp:=h.malPre hk hq;have hd:=dem_mal hp h.dem (by omega) hR.cost;have h3:=may_iff.1 h.dem.may;have h4:=h.few;have hz:=kind_size hk;obtain⟨s1,j1,e,hh,hh2⟩:=hR.had;have hu:=kind_facts (c:=(k:Int)) (by omega) (by omega);have g:=h.cp.grant (by rw [List.length_map];omega) f1 f2 hx;refine⟨⟨hR.hp,hR.used h.used,hd,h.wl,?_,⟨hq,h1.2⟩,h.may,?_,?_,⟨mIns_rise h.ob.rise _ _,fun a d q=>?_⟩,?_⟩,g.2.2.2.2.1⟩
 ·rw [hR.keep.P,hR.keep.C];exact h.room
 ·show s.cb+unitT k=((s.al.mal k).2.cost:Int)
  rw [hR.cost];omega
 ·show obsum (mIns (s.getA k) _ s.ob)=s.cb+unitT k
  rw [obsum_ins f3,h.sum,e,(find_pos hh.1).2.2.1]
 ·by_cases c:a=s.getA k
  ·subst c
   rw [show (s.get k (List.replicate n.toNat 0)).ob=mIns (s.getA k) (List.replicate n.toNat 0) s.ob from rfl,mGet_ins_same h.ob.rise] at q;obtain rfl:=Option.some.inj q;refine⟨k,s1,j1,e,hh,?_,?_,fun i hi=>?_⟩
   ·rw [List.length_replicate];omega
   ·rw [List.length_replicate];omega
   ·rw [hR.new i (by omega) hi]
    simp [List.getD_eq_getElem?_getD,List.getElem?_replicate]
    split<;>rfl
  ·rw [show (s.get k (List.replicate n.toNat 0)).ob=mIns (s.getA k) (List.replicate n.toNat 0) s.ob from rfl,mGet_ins_other c] at q
   obtain⟨k2,s2,j2,e2,g1,g2,g3,g4⟩:=h.ob.at_ a d q;obtain⟨o1,o2⟩:=hR.old k2 s2 j2 g1;refine⟨k2,s2,j2,e2,o1,g2,g3,fun i hi=>?_⟩;rw [e2,o2 i (by omega) hi,←e2];exact g4 i hi
 ·refine g.2.1.cong fun x hx=>?_
  have hp2:=(mIns_new f3 (List.replicate n.toNat 0)).map (·.1);exact hp2.symm.subset hx
end
end
section
open Go.RowKit Flt
attribute [local irreducible] CpS.rv
def TnS.put(s:TnS)(a:Int):TnS :=
 {s with cp:=(s.cp.rv a 4160).1,cb:=s.cb-unitT (kdT a),ob:=mDel a s.ob,al:=s.al.fre (kdT a).toNat (slT a).toNat (nrT a).toNat}
section
variable{B B':List UInt8}{cm cm':CmS}{win:List Int}{tb tb':TbS}{s:TnS}
theorem obsum_del{ob:List (Int×List UInt8)}{a:Int}{d:List UInt8}(h:mGet ob a=some d):obsum (mDel a ob)=obsum ob-unitT (kdT a):=by
 unfold obsum;have:=perm_sum ((del_perm h).map fun y=>unitT (kdT y.1));rw [this];simp only [List.map_cons,List.sum_cons];omega
theorem keys_del{ob:List (Int×List UInt8)}{a x:Int}{d:List UInt8}(hd:mGet ob a=some d)(hx:x∈ob.map (·.1))(hne:x≠a):x∈(mDel a ob).map (·.1):=by
 obtain⟨y,hy,rfl⟩:=List.mem_map.1 hx;have h:=(del_perm hd).subset hy;rcases List.mem_cons.1 h with e|h
 ·rw [e] at hne;exact absurd rfl hne
 ·exact List.mem_map.2 ⟨y,h,rfl⟩
theorem put_eq{k sl j:Nat}(h:thereT k sl j=true)(s:TnS):s.put (posT k sl j)={s with cp:=(s.cp.rv (posT k sl j) 4160).1,cb:=s.cb-unitT k,ob:=mDel (posT k sl j) s.ob,al:=s.al.fre k sl j}:=by
 obtain⟨_,_,e1,e2,e3⟩:=find_pos h;unfold TnS.put;rw [e1,e2,e3];rfl
theorem TnOk.put(h:TnOk B cm win tb s){k sl j:Nat}{d:List UInt8}(hh:Had s.al k sl j)(hd:mGet s.ob (posT k sl j)=some d)(hR:FreRes B cm win tb s.al k sl j B' cm' tb' (s.al.fre k sl j)) :
  TnOk B' cm' win tb' (s.put (posT k sl j))∧unitT k≤s.cb:=by
 rw [put_eq hh.1];have h1:=h.quo;have h2:=h.cost;have hf:=hR.cost;have hu:=kind_facts (c:=(k:Int)) (by omega) (by have:=hh.there.1;omega);obtain⟨_,_,e1,_,_⟩:=find_pos hh.1;refine⟨⟨hR.hp,hR.used h.used,dem_fre h.hp.al hh h.dem hf,h.wl,?_,⟨by simp only;omega,h1.2⟩,h.may,?_,?_,⟨mDel_rise h.ob.rise _,fun a dd q=>?_⟩,?_⟩,by omega⟩
 ·rw [hR.keep.P,hR.keep.C];exact h.room
 ·show s.cb-unitT k=((s.al.fre k sl j).cost:Int)
  omega
 ·show obsum (mDel (posT k sl j) s.ob)=s.cb-unitT k
  rw [obsum_del hd,h.sum,e1]
 ·replace q:mGet (mDel (posT k sl j) s.ob) a=some dd:=q
  have hne:a≠posT k sl j:=fun e=>by rw [e,mGet_del_same h.ob.rise] at q;cases q
  rw [mGet_del_other hne] at q;obtain⟨k2,s2,j2,e2,g1,g2,g3,g4⟩:=h.ob.at_ a dd q;obtain⟨o1,o2⟩:=hR.old k2 s2 j2 g1 (fun w=>hne (by rw [e2,w.1,w.2.1,w.2.2]));refine⟨k2,s2,j2,e2,o1,g2,g3,fun i hi=>?_⟩;rw [e2,o2 i (by omega) hi,←e2];exact g4 i hi
 ·refine(h.cp.rv (posT k sl j)).cong fun x hx=>?_
  obtain⟨m1,m2⟩:=List.mem_filter.1 hx;have m3:x≠posT k sl j:=by simpa using m2
  exact keys_del hd m1 m3
end
def TnAt(w:World)(o:Nat→Tag)(t u z:Tag)(b a c:Nat)(B:List UInt8)(m:Nat)(cm:CmS)(win:List Int)(tb:TbS)(s:TnS):Prop :=
 ∃y,TnW w o t u z b a c y B m cm win tb s.cp.tenant s.pk s.al s.cp ⟨s.qb,((win.length*(cm.P/cm.C):Nat):Int),s.cb,(tb.pg.length:Int),0,0⟩ (obM s.ob)
def TnGo(w:World)(o:Nat→Tag)(t u z:Tag)(b a c:Nat)(B:List UInt8)(m:Nat)(cm:CmS)(win:List Int)(s:TnS)(w':World):Prop :=
 ∃o' B' cm' tb',TnAt w' o' t u z b a c B' m cm' win tb' s∧TnOk B' cm' win tb' s∧Keep win B cm B' cm'∧Fr (S3 t u z) w o w' o'
section
variable{w w':World}{o o':Nat→Tag}{t u z:Tag}{b a c:Nat}{B:List UInt8}{m:Nat}{cm:CmS}{win:List Int}{tb:TbS}{s:TnS}
theorem TnAt.still(h:TnAt w o t u z b a c B m cm win tb s)(f:Fr (fun _=>False) w o w' o'):TnAt w' o' t u z b a c B m cm win tb s:=by
 obtain⟨y,h⟩:=h;exact⟨y,h.still f⟩
theorem TnAt.go(h:TnAt w o t u z b a c B m cm win tb s)(ok:TnOk B cm win tb s):TnGo w o t u z b a c B m cm win s w:=⟨o,B,cm,tb,h,ok,Keep.refl _ _ _,Fr.refl _ _ _⟩
theorem TnGo.still(h:TnGo w o t u z b a c B m cm win s w'){w2:World}(hb:Below w'.heap.size w' w2):TnGo w o t u z b a c B m cm win s w2:=by
 obtain⟨o',B',cm',tb',h1,h2,h3,h4⟩:=h;exact⟨o',B',cm',tb',h1.still (Fr.below hb),h2,h3,h4.trans (Fr.below hb)⟩
theorem obM_len(ob:List (Int×List UInt8)):(obM ob).length=ob.length:=by unfold obM;rw [List.length_map]
theorem TnOk.obs(h:TnOk B cm win tb s):s.ob.length≤4096:=by
 have h1:=h.few;have h2:=h.quo;have h3:=may_iff.1 h.dem.may;omega
theorem tnGetA(n:Int)(k:Nat)(h:TnAt w o t u z b a c B m cm win tb s)(ok:TnOk B cm win tb s)(ap:Ap3 t u z)(hm:m≤900000)(hk:kindT n=k)(hq:s.cb+unitT k≤s.qb)(hx:s.cp.next<17592186044416) :
  Calls Tryz.prog 98 #[eP b,.int .i64 n] w fun e w'=>e=.returned (.tuple #[.int .u64 s.cp.grH,.int .i64 (s.getA k),.int .i64 0])∧TnGo w o t u z b a c B (m+2) cm win (s.get k (List.replicate n.toNat 0)) w':=by
 obtain⟨y,h⟩:=h;have hp:=ok.getPre hk hq hx;refine(tnGet k n s.cp.grH h ap hm hk (by rw [obM_len];have:=ok.obs;omega) hp).mono ?_;rintro e w1 ⟨rfl,y',o',B',cm',tb',g,R,f⟩;obtain⟨ok',hl⟩:=ok.get hk hq hx R;have hz:=kind_size hk;refine⟨rfl,o',B',cm',tb',⟨y',?_⟩,ok',R.keep,f⟩;have e1:obM (s.get k (List.replicate n.toNat 0)).ob=mIns (s.al.mal k).1 n (obM s.ob):=by
  show (mIns (s.getA k) (List.replicate n.toNat 0) s.ob).map _=_;rw [ins_map (fun d:List UInt8=>(d.length:Int)),List.length_replicate,Int.toNat_of_nonneg (by omega)];rfl
 have e2:(s.get k (List.replicate n.toNat 0)).cp.tenant=s.cp.tenant:=rfl;rw [e1,e2,R.keep.P,R.keep.C];exact g
theorem tnPutA(ad:Int)(d:List UInt8)(h:TnAt w o t u z b a c B m cm win tb s)(ok:TnOk B cm win tb s)(ap:Ap3 t u z)(hm:m≤800000)(hd:mGet s.ob ad=some d) :
  Calls Tryz.prog 101 #[eP b,.int .i64 ad] w fun e w'=>e=.returned (.tuple #[])∧TnGo w o t u z b a c B (m+20) cm win (s.put ad) w':=by
 obtain⟨y,h⟩:=h;obtain⟨k,sl,j,rfl,hh,_⟩:=ok.ob.at_ _ _ hd;have h2:=ok.cost;have hle:unitT k≤s.cb:=by
  have:=obsum_del hd;have h3:=ok.sum;obtain⟨_,_,e1,_,_⟩:=find_pos hh.1;rw [e1] at this;have h4:=sum_ge (l:=(mDel (posT k sl j) s.ob).map fun y=>unitT (kdT y.1)) (c:=0) (fun x hx=>by
   obtain⟨y,hy,rfl⟩:=List.mem_map.1 hx;obtain⟨k2,s2,j2,e2,g,_⟩:=ok.ob.at_ y.1 y.2 (mGet_of ok.ob.rise (mDel_mem _ hy));rw [e2,(find_pos g.1).2.2.1];have:=kind_facts (c:=(k2:Int)) (by omega) (by have:=g.there.1;omega);omega)
  unfold obsum at this;unfold obsum at h3;omega
 refine(tnPut k sl j h ap hm ok.hp hh ok.wf ⟨rfl,rfl⟩ rfl hle).mono ?_;rintro e w1 ⟨rfl,y',o',B',cm',tb',g,R,f⟩;obtain⟨ok',_⟩:=ok.put hh hd R;refine⟨rfl,o',B',cm',tb',⟨y',?_⟩,ok',R.keep,f⟩;rw [put_eq hh.1];have e1:obM (mDel (posT k sl j) s.ob)=mDel (posT k sl j) (obM s.ob):=del_map (fun d:List UInt8=>(d.length:Int)) _ _;simp only [e1,(rv_next s.cp (posT k sl j) 4160).2,R.keep.P,R.keep.C];exact g
end
end
section
open Go.RowKit Flt
structure T7(t u z:Tag):Prop where
 t7:¬t <+: [7]
 u7:¬u <+: [7]
 z7:¬z <+: [7]
theorem off_7{t:Tag}(h:¬t <+: [7]):Off (fun v=>v=[7]) t:=⟨fun u hu e=>h (by rw [e] at hu;exact hu),by decide⟩
theorem T7.s3{t u z:Tag}(h:T7 t u z):¬S3 t u z [7]:=fun q=>q.elim h.t7 (fun q=>q.elim h.u7 h.z7)
abbrev sto6(w:World)(g:Nat)(y:Ans):World:=(((((w.setCell ⟨g,0,none⟩ (.int .i64 y.err)).setCell ⟨g,1,none⟩ (.int .u64 y.h)).setCell ⟨g,2,none⟩ (.int .i64 y.addr)).setCell ⟨g,3,none⟩ (.int .i64 y.n)).setCell ⟨g,4,none⟩ (.string y.data)).setCell ⟨g,5,none⟩ (.int .i64 y.ch)
section
variable{w w':World}{o o':Nat→Tag}{t u z:Tag}{b a c:Nat}{B:List UInt8}{m:Nat}{cm:CmS}{win:List Int}{tb:TbS}{s:TnS}
theorem TnAt.fr7(h:TnAt w o t u z b a c B m cm win tb s)(h7:T7 t u z)(f:Fr (fun v=>v=[7]) w o w' o'):TnAt w' o' t u z b a c B m cm win tb s:=by
 obtain⟨y,h⟩:=h;exact⟨y,h.tn.fr f (off_7 h7.t7),h.is_,h.cma.fr f (off_7 h7.u7),h.ar.fr f (off_7 h7.z7)⟩
theorem sto6_fr{S:Tag→Prop}{w0:World}{o0:Nat→Tag}(h:Fr S w0 o0 w o){g:Nat}(hg:g<w0.heap.size→S (o0 g))(y:Ans):Fr S w0 o0 (sto6 w g y) o :=
 (((((h.set' hg _).set' hg _).set' hg _).set' hg _).set' hg _).set' hg _
theorem TnGo.row{x:Ans}(h7:T7 t u z)(h:TnGo (w.alloc (.cells (ansC x) 47)) (setO o w.heap.size [7]) t u z b a c B m cm win s w')(y:Ans):Row w' w.heap.size x∧TnGo w o t u z b a c B m cm win s (sto6 w' w.heap.size y):=by
 obtain⟨o',B',cm',tb',h1,h2,h3,h4⟩:=h;have hlt:w.heap.size<(w.alloc (.cells (ansC x) 47)).heap.size:=by simp
 have ho:o' w.heap.size=[7]:=(h4.ext _ hlt).trans setO_same;have hr:Row w' w.heap.size x:=(h4.only.block _ hlt (by rw [setO_same];exact h7.s3)).trans (Row.made w x);refine⟨hr,o',B',cm',tb',h1.fr7 h7 (sto6_fr (Fr.refl _ w' o') (fun _=>ho) y),h2,h3,?_⟩;exact sto6_fr ((Fr.alloc (S:=S3 t u z) (w:=w) (o:=o) (.cells (ansC x) 47) [7]).trans h4) (fun q=>absurd q (Nat.lt_irrefl _)) y
theorem TnAt.made(h:TnAt w o t u z b a c B m cm win tb s)(x:Obj):TnAt (w.alloc x) (setO o w.heap.size [7]) t u z b a c B m cm win tb s:=h.still (Fr.alloc x [7])
theorem TnGo.front(f:Fr (fun _=>False) w o w' o'){w2:World}(h:TnGo w' o' t u z b a c B m cm win s w2):TnGo w o t u z b a c B m cm win s w2:=by
 obtain⟨o',B',cm',tb',h1,h2,h3,h4⟩:=h;exact⟨o',B',cm',tb',h1,h2,h3,(f.mono fun v q=>q.elim).trans h4⟩
theorem TnGo.say(h:TnGo w o t u z b a c B m cm win s w')(x:Ans) :
  Calls Tryz.prog 99 #[eP b,ansV x] w' fun e w2=>e=.returned (ansV {x with ch:=s.cb})∧TnGo w o t u z b a c B m cm win s w2:=by
 have h0:=h;obtain⟨o',B',cm',tb',⟨y,h1⟩,h2,h3,h4⟩:=h;have wf:=h2.wf;refine(tnSay x h1.tn wf).mono ?_;rintro e w2 ⟨rfl,hb⟩;exact⟨rfl,h0.still hb⟩
theorem TnGo.fail(h:TnGo w o t u z b a c B m cm win s w')(k:Int) :
  Calls Tryz.prog 97 #[eP b,.int .i64 k] w' fun e w2=>e=.returned (ansV ⟨k,0,0,0,ByteArray.empty,s.cb⟩)∧TnGo w o t u z b a c B m cm win s w2:=by
 have h0:=h;obtain⟨o',B',cm',tb',⟨y,h1⟩,h2,h3,h4⟩:=h;refine(tnFail k h1.tn h2.wf).mono ?_;rintro e w2 ⟨rfl,hb⟩;exact⟨rfl,h0.still hb⟩
end
end
section
open Go.RowKit Flt
attribute [local irreducible] CpS.rv
structure GetA where
 h:Nat
 addr:Int
 err:Int
def TnS.getR(s:TnS)(n:Int):GetA×TnS :=
 if kindT n<0 then (⟨0,0,2⟩,s)
 else if s.qb<s.cb+chargeT n then (⟨0,0,3⟩,s)
 else (⟨s.cp.grH,s.getA (kindT n).toNat,0⟩,s.get (kindT n).toNat (List.replicate n.toNat 0))
section
variable{w w':World}{o o':Nat→Tag}{t u z:Tag}{b a c:Nat}{B:List UInt8}{m:Nat}{cm:CmS}{win:List Int}{tb:TbS}{s:TnS}
theorem TnAt.mono(h:TnAt w o t u z b a c B m cm win tb s){m':Nat}(hm:m≤m'):TnAt w o t u z b a c B m' cm win tb s:=by
 obtain⟨y,h⟩:=h;exact⟨y,h.mono hm⟩
theorem tnGetR(n:Int)(h:TnAt w o t u z b a c B m cm win tb s)(ok:TnOk B cm win tb s)(ap:Ap3 t u z)(hm:m≤900000)(hx:s.cp.next<17592186044416) :
  Calls Tryz.prog 98 #[eP b,.int .i64 n] w fun e w'=>e=.returned (.tuple #[.int .u64 (s.getR n).1.h,.int .i64 (s.getR n).1.addr,.int .i64 (s.getR n).1.err])∧TnGo w o t u z b a c B (m+2) cm win (s.getR n).2 w':=by
 unfold TnS.getR;by_cases c0:kindT n<0
 ·rw [if_pos c0]
  obtain⟨y,h1⟩:=h;refine(tnGet_size n h1 (by unfold chargeT;unfold unitT;rw [if_pos (by omega)])).mono ?_;rintro e w1 ⟨rfl,rfl⟩;exact⟨rfl,TnAt.go ⟨y,h1.mono (by omega)⟩ ok⟩
 ·obtain⟨k,hk⟩:∃k:Nat,kindT n=k:=⟨(kindT n).toNat,by omega⟩
  have hz:=kind_size hk;rw [if_neg c0];have hch:chargeT n=unitT k:=by unfold chargeT;rw [hk]
  by_cases c1:s.qb<s.cb+chargeT n
  ·rw [if_pos c1]
   rw [hch] at c1;obtain⟨y,h1⟩:=h;refine(tnGet_quota k n h1 ap ok.wf ⟨rfl,rfl⟩ hk hz.1 c1).mono ?_;rintro e w1 ⟨rfl,h2,f⟩;exact⟨rfl,o,B,cm,tb,⟨y,h2.mono (by omega)⟩,ok,Keep.refl _ _ _,f⟩
  ·rw [if_neg c1,hk,Int.toNat_natCast]
   rw [hch] at c1;exact tnGetA n k h ok ap hm hk (by omega) hx
def TnS.malloc(s:TnS)(n:Int):Ans×TnS:=(⟨(s.getR n).1.err,(s.getR n).1.h,(s.getR n).1.addr,0,ByteArray.empty,(s.getR n).2.cb⟩,(s.getR n).2)
set_option maxHeartbeats 1000000 in
theorem tnMalloc(n:Int)(h:TnAt w o t u z b a c B m cm win tb s)(ok:TnOk B cm win tb s)(ap:Ap3 t u z)(h7:T7 t u z)(hm:m≤900000)(hx:s.cp.next<17592186044416) :
  Calls Tryz.prog 60 #[eP b,.int .i64 n] w fun e w'=>e=.returned (ansV (s.malloc n).1)∧TnGo w o t u z b a c B (m+2) cm win (s.malloc n).2 w':=by
 have hg:=HD (tnGetR n (h.made (.cells (ansC ans0) 47)) ok ap hm hx);unfold TnS.malloc;simp only;generalize s.getR n=r at *;obtain⟨⟨rh,ra,re⟩,s'⟩:=r;simp only at hg ⊢;have hsay:=HD (fun w1 (q:TnGo (w.alloc (.cells (ansC ans0) 47)) (setO o w.heap.size [7]) t u z b a c B (m+2) cm win s' w1)=>q.say ⟨re,rh,ra,0,ByteArray.empty,0⟩);have hrow:=HD (fun w1 (q:TnGo (w.alloc (.cells (ansC ans0) 47)) (setO o w.heap.size [7]) t u z b a c B (m+2) cm win s' w1)=>(q.row h7 ⟨re,rh,ra,0,ByteArray.empty,s'.cb⟩));clear h ok hx hm;go_enter Tryz.func60,Tryz.ntmps60
 go_wp2_with fail;refine hg.out.mono ?_;rintro e w1 ⟨rfl,g1⟩;replace g1:=HD g1;clear hg;go_wp2_with fail;refine(hsay.out w1 g1.out).mono ?_;rintro e w2 ⟨rfl,g2⟩;obtain⟨qB,g3⟩:=hrow.out w2 g2;obtain⟨l0,l1,l2,l3,l4,l5,g0,g1,g2,g3,g4,g5⟩:=qB.cells;replace qB:=HD qB;clear hsay hrow;simp only [ansV];go_wp2_with fail;refine bodyPost_ret (v:=ansV ⟨re,rh,ra,0,ByteArray.empty,s'.cb⟩) ?_ rfl ⟨rfl,?_⟩
 ·exact ans_results (by kernel_rfl) _ _ _ rfl (qB.out.store ⟨re,rh,ra,0,ByteArray.empty,s'.cb⟩)
 ·assumption
end
end
section
open Go.RowKit Flt
attribute [local irreducible] CpS.rv
def TnS.free(s:TnS)(h:Nat):Ans×TnS :=
 if (s.cp.findF h 4).2=0 then (⟨0,0,0,0,ByteArray.empty,(s.put (s.cp.findF h 4).1).cb⟩,s.put (s.cp.findF h 4).1) else (⟨(s.cp.findF h 4).2,0,0,0,ByteArray.empty,s.cb⟩,s)
def TnS.restF(s:TnS)(h:Nat)(r:Int):TnS:={s with cp:=(s.cp.restF h r).2}
section
variable{w w':World}{o o':Nat→Tag}{t u z:Tag}{b a c:Nat}{B:List UInt8}{m:Nat}{cm:CmS}{win:List Int}{tb:TbS}{s:TnS}
theorem find_ob{hn:Nat}{r:Int}(ok:TnOk B cm win tb s)(h:(s.cp.findF hn r).2=0):∃d,mGet s.ob (s.cp.findF hn r).1=some d:=by
 unfold CpS.findF at h ⊢;cases e:s.cp.look hn with
 |none=>rw [e] at h;simp at h
 |some x =>
  rw [e] at h;simp only at h ⊢
  split at h
  ·rename_i q
   rw [if_pos q];have:=look_mem ok.cp e;obtain⟨y,hy,e2⟩:=List.mem_map.1 this;exact⟨y.2,by rw [←e2];exact mGet_of ok.ob.rise hy⟩
  ·simp at h
theorem tnFindA(hn:Nat)(r:Int)(hh:hn<18446744073709551616)(h:TnAt w o t u z b a c B m cm win tb s):Calls Tryz.prog 100 #[eP b,.int .u64 hn,.int .i64 r] w fun e w'=>e=.returned (.tuple #[.int .i64 (s.cp.findF hn r).1,.int .i64 (s.cp.findF hn r).2])∧Below w.heap.size w w':=by
 obtain⟨y,h⟩:=h;exact tnFind hn r hh h.tn
set_option maxHeartbeats 1000000 in
theorem tnFree(hn:Nat)(hh:hn<18446744073709551616)(h:TnAt w o t u z b a c B m cm win tb s)(ok:TnOk B cm win tb s)(ap:Ap3 t u z)(h7:T7 t u z)(hm:m≤800000) :
  Calls Tryz.prog 62 #[eP b,.int .u64 hn] w fun e w'=>e=.returned (ansV (s.free hn).1)∧TnGo w o t u z b a c B (m+20) cm win (s.free hn).2 w':=by
 have h1:=h.made (.cells (ansC ans0) 47);have hf:=HD (tnFindA hn 4 hh h1);have hob:=find_ob (hn:=hn) (r:=4) ok;unfold TnS.free;generalize s.cp.findF hn 4=p at *;obtain⟨ad,e0⟩:=p;simp only at hob hf ⊢;by_cases hc0:e0=0
 ·subst hc0
  rw [if_pos rfl];obtain⟨d,hd⟩:=hob rfl;simp only;have hput:=HD (show ∀w1,Below (w.alloc (.cells (ansC ans0) 47)).heap.size (w.alloc (.cells (ansC ans0) 47)) w1→Calls Tryz.prog 101 #[eP b,.int .i64 ad] w1 (fun e w2=>e=.returned (.tuple #[])∧TnGo (w.alloc (.cells (ansC ans0) 47)) (setO o w.heap.size [7]) t u z b a c B (m+20) cm win (s.put ad) w2) from fun w1 hb=>by
   refine(tnPutA ad d (h1.still (Fr.below hb)) ok ap hm hd).mono ?_;rintro e w2 ⟨rfl,g⟩;exact⟨rfl,g.front (Fr.below hb)⟩)
  generalize s.put ad=s' at *;have hfa:=HD (fun w1 (q:TnGo (w.alloc (.cells (ansC ans0) 47)) (setO o w.heap.size [7]) t u z b a c B (m+20) cm win s' w1)=>q.fail 0);have hrow:=HD (fun w1 (q:TnGo (w.alloc (.cells (ansC ans0) 47)) (setO o w.heap.size [7]) t u z b a c B (m+20) cm win s' w1)=>(q.row h7 ⟨0,0,0,0,ByteArray.empty,s'.cb⟩));clear h h1 ok hm hob hd;go_enter Tryz.func62,Tryz.ntmps62
  go_wp2_with fail;refine hf.out.mono ?_;rintro e w1 ⟨rfl,hb⟩;replace hput:=HD (hput.out w1 hb);clear hf hb;go_wp2_with fail;refine hput.out.mono ?_;rintro e w2 ⟨rfl,g2⟩;replace g2:=HD g2;clear hput;go_wp2_with fail;refine(hfa.out w2 g2.out).mono ?_;rintro e w3 ⟨rfl,g3⟩;obtain⟨qB,gE⟩:=hrow.out w3 g3;obtain⟨l0,l1,l2,l3,l4,l5,g0,g1,g2,g3,g4,g5⟩:=qB.cells;replace qB:=HD qB;clear hfa hrow;simp only [ansV];go_wp2_with fail;refine bodyPost_ret (v:=ansV ⟨0,0,0,0,ByteArray.empty,s'.cb⟩) ?_ rfl ⟨rfl,gE⟩;exact ans_results (by kernel_rfl) _ _ _ rfl (qB.out.store ⟨0,0,0,0,ByteArray.empty,s'.cb⟩)
 ·rw [if_neg hc0]
  simp only;have hgo:=HD (show ∀w1,Below (w.alloc (.cells (ansC ans0) 47)).heap.size (w.alloc (.cells (ansC ans0) 47)) w1→TnGo (w.alloc (.cells (ansC ans0) 47)) (setO o w.heap.size [7]) t u z b a c B (m+20) cm win s w1 from fun w1 hb=>((h1.mono (by omega)).go ok).still hb);have hfa:=HD (fun w1 (q:TnGo (w.alloc (.cells (ansC ans0) 47)) (setO o w.heap.size [7]) t u z b a c B (m+20) cm win s w1)=>q.fail e0);have hrow:=HD (fun w1 (q:TnGo (w.alloc (.cells (ansC ans0) 47)) (setO o w.heap.size [7]) t u z b a c B (m+20) cm win s w1)=>(q.row h7 ⟨e0,0,0,0,ByteArray.empty,s.cb⟩));have hc:(e0==0)=false:=by simpa using hc0
  clear h h1 ok hm hob hc0;go_enter Tryz.func62,Tryz.ntmps62
  go_wp2_with fail;refine hf.out.mono ?_;rintro e w1 ⟨rfl,hb⟩;replace hgo:=HD (hgo.out w1 hb);clear hf hb;go_wp2_with fail;refine(hfa.out w1 hgo.out).mono ?_;rintro e w3 ⟨rfl,g3⟩;obtain⟨qB,gE⟩:=hrow.out w3 g3;obtain⟨l0,l1,l2,l3,l4,l5,g0,g1,g2,g3,g4,g5⟩:=qB.cells;replace qB:=HD qB;clear hfa hrow hgo;simp only [ansV];go_wp2_with fail;refine bodyPost_ret (v:=ansV ⟨e0,0,0,0,ByteArray.empty,s.cb⟩) ?_ rfl ⟨rfl,gE⟩;exact ans_results (by kernel_rfl) _ _ _ rfl (qB.out.store ⟨e0,0,0,0,ByteArray.empty,s.cb⟩)
end
end
section
open Go.RowKit Flt
attribute [local irreducible] CpS.rv
theorem ans_results_at(p4:Tmp){fn:Func}(h:fn.results=#[.cell p4 47])(tmps:Array Value)(w:World){g:Nat}(x:Ans)(ht:tmps.getD p4 undef=eP g)(hb:w.heap[g]? = some (.cells (ansC x) 47 (0,0))):(results fn tmps).run Tryz.prog w=.ok (ansV x) w :=
 results_cell_row h tmps w g _ _ _ _ ht hb Tryz.underlying47 rfl infoAns
def CpS.putA(s:CpS)(ob:Bool)(rights:Int):Nat×Int :=
 if 17592186044416≤s.next then (0,10)
 else match (s.sh ob).low with
 |none=>(0,10)
 |some k=>(packN s.tenant (CpS.base ob+k) rights s.next,0)
def CpS.restA(s:CpS)(h:Nat)(r:Int):Nat×Int:=match s.look h with
 |none=>(0,5)
 |some x=>if r<1∨7<r then (0,2) else if mayR x.1.1 r=true then s.putA false r else (0,5)
theorem putA_val(s:CpS)(ob:Bool)(addr r:Int):(s.putF ob addr r).1=.tuple #[.int .u64 (s.putA ob r).1,.int .i64 (s.putA ob r).2]:=by
 unfold CpS.putF CpS.putA
 split
 ·rfl
 ·cases (s.sh ob).low<;>rfl
theorem restA_val(s:CpS)(h:Nat)(r:Int):(s.restF h r).1=.tuple #[.int .u64 (s.restA h r).1,.int .i64 (s.restA h r).2]:=by
 unfold CpS.restF CpS.restA;cases s.look h with
 |none=>rfl
 |some x =>
  simp only
  split
  ·rfl
  ·split
   ·exact putA_val _ _ _ _
   ·rfl
def TnS.restrict(s:TnS)(h:Nat)(r:Int):Ans×TnS:=(⟨(s.cp.restA h r).2,(s.cp.restA h r).1,0,0,ByteArray.empty,s.cb⟩,s.restF h r)
section
variable{w w':World}{o o':Nat→Tag}{t u z:Tag}{b a c:Nat}{B:List UInt8}{m:Nat}{cm:CmS}{win:List Int}{tb:TbS}{s:TnS}
theorem TnOk.rest(ok:TnOk B cm win tb s)(hn:Nat)(r:Int):TnOk B cm win tb (s.restF hn r) :=
 ⟨ok.hp,ok.used,ok.dem,ok.wl,ok.room,ok.quo,ok.may,ok.cost,ok.sum,ok.ob,(ok.cp.rest hn r).1⟩
set_option maxHeartbeats 1000000 in
theorem tnRestrict(hn:Nat)(r:Int)(hh:hn<18446744073709551616)(h:TnAt w o t u z b a c B m cm win tb s)(ok:TnOk B cm win tb s)(ap:Ap3 t u z)(h7:T7 t u z) :
  Calls Tryz.prog 67 #[eP b,.int .u64 hn,.int .i64 r] w fun e w'=>e=.returned (ansV (s.restrict hn r).1)∧TnGo w o t u z b a c B m cm win (s.restrict hn r).2 w':=by
 have h1:=h.made (.cells (ansC ans0) 47);have ok1:=ok.rest hn r;unfold TnS.restrict;simp only;have hall:=HD (show ∃bc,w.cell? ⟨b,3,none⟩=some (eP bc)∧Calls Tryz.prog 111 #[eP bc,.int .u64 hn,.int .i64 r] (w.alloc (.cells (ansC ans0) 47)) (fun e w2=>e=.returned (.tuple #[.int .u64 (s.cp.restA hn r).1,.int .i64 (s.cp.restA hn r).2])∧TnGo (w.alloc (.cells (ansC ans0) 47)) (setO o w.heap.size [7]) t u z b a c B m cm win (s.restF hn r) w2) from by
  obtain⟨y,h0⟩:=h;have h2:=h0.still (Fr.alloc (o:=o) (.cells (ansC ans0) 47) [7]);refine⟨y.bc,h0.tn.c3,(cpRestrict y.bc hn r hh _ h2.tn.cp ok.cp.ok (ap.tu.sub [1]).t9).mono ?_⟩;rintro e w2 ⟨rfl,o2,g,f⟩;refine⟨by rw [restA_val],o2,B,cm,tb,⟨y,?_⟩,ok1,Keep.refl _ _ _,fr_cp f⟩;have:=h2.inCp ap f g;rw [show (s.restF hn r).cp.tenant=s.cp.tenant from(ok.cp.rest hn r).2.1];exact this)
 have ecb:(s.restF hn r).cb=s.cb:=rfl;generalize s.restF hn r=s' at *;generalize s.cp.restA hn r=p at *;obtain⟨rh,re⟩:=p;rw [←ecb];obtain⟨bc,c3,hcall⟩:=hall.out;replace hcall:=HD hcall;have hsay:=HD (fun w1 (q:TnGo (w.alloc (.cells (ansC ans0) 47)) (setO o w.heap.size [7]) t u z b a c B m cm win s' w1)=>q.say ⟨re,rh,0,0,ByteArray.empty,0⟩);have hrow:=HD (fun w1 (q:TnGo (w.alloc (.cells (ansC ans0) 47)) (setO o w.heap.size [7]) t u z b a c B m cm win s' w1)=>(q.row h7 ⟨re,rh,0,0,ByteArray.empty,s'.cb⟩));have c3':(w.alloc (.cells #[.int .i64 0,.int .u64 0,.int .i64 0,.int .i64 0,.string {data:=#[]},.int .i64 0] 47)).cell? ⟨b,3,none⟩=some (eP bc):=by
  obtain⟨y,h0⟩:=h;exact((h0.tn.blk.alloc _).cell 3).trans (((h0.tn.blk.cell 3).symm.trans c3))
 clear h h1 ok ok1 hall ecb c3;go_enter Tryz.func67,Tryz.ntmps67
 go_wp2_with fail;refine hcall.out.mono ?_;rintro e w1 ⟨rfl,g1⟩;replace g1:=HD g1;clear hcall;go_wp2_with fail;refine(hsay.out w1 g1.out).mono ?_;rintro e w2 ⟨rfl,g2⟩;obtain⟨qB,gE⟩:=hrow.out w2 g2;obtain⟨l0,l1,l2,l3,l4,l5,g0,g1,g2,g3,g4,g5⟩:=qB.cells;replace qB:=HD qB;clear hsay hrow;simp only [ansV];go_wp2_with fail;refine bodyPost_ret (v:=ansV ⟨re,rh,0,0,ByteArray.empty,s'.cb⟩) ?_ rfl ⟨rfl,gE⟩;exact ans_results_at 6 (by kernel_rfl) _ _ _ rfl (qB.out.store ⟨re,rh,0,0,ByteArray.empty,s'.cb⟩)
end
end
section
open Go.RowKit Flt
attribute [local irreducible] CpS.rv
def TnS.usable(s:TnS)(h:Nat):Ans×TnS :=
 if (s.cp.findF h 0).2=0 then (⟨0,0,0,unitT (kdT (s.cp.findF h 0).1),ByteArray.empty,s.cb⟩,s) else (⟨(s.cp.findF h 0).2,0,0,0,ByteArray.empty,s.cb⟩,s)
section
variable{w w':World}{o o':Nat→Tag}{t u z:Tag}{b a c:Nat}{B:List UInt8}{m:Nat}{cm:CmS}{win:List Int}{tb:TbS}{s:TnS}
set_option maxHeartbeats 1000000 in
theorem tnUsable(hn:Nat)(hh:hn<18446744073709551616)(h:TnAt w o t u z b a c B m cm win tb s)(ok:TnOk B cm win tb s)(ap:Ap3 t u z)(h7:T7 t u z) :
  Calls Tryz.prog 64 #[eP b,.int .u64 hn] w fun e w'=>e=.returned (ansV (s.usable hn).1)∧TnGo w o t u z b a c B m cm win (s.usable hn).2 w':=by
 have h1:=h.made (.cells (ansC ans0) 47);have hf:=HD (tnFindA hn 0 hh h1);have hob:=find_ob (hn:=hn) (r:=0) ok;unfold TnS.usable;generalize s.cp.findF hn 0=p at *;obtain⟨ad,e0⟩:=p;simp only at hob hf ⊢;by_cases hc0:e0=0
 ·subst hc0
  rw [if_pos rfl];obtain⟨d,hd⟩:=hob rfl;simp only;have hall:=HD (show ∀w1,Below (w.alloc (.cells (ansC ans0) 47)).heap.size (w.alloc (.cells (ansC ans0) 47)) w1→∃bh,w1.cell? ⟨b,2,none⟩=some (eP bh)∧Calls Tryz.prog 103 #[eP bh,.int .i64 ad] w1 (fun e w2=>e=.returned (.tuple #[.int .i64 (unitT (kdT ad)),.int .i64 0])∧TnGo (w.alloc (.cells (ansC ans0) 47)) (setO o w.heap.size [7]) t u z b a c B m cm win s w2) from fun w1 hb=>by
   have h2:=h1.still (Fr.below hb);have h2':=h2;obtain⟨y,h3⟩:=h2;obtain⟨k,sl,j,rfl,hhad,_⟩:=ok.ob.at_ _ _ hd;refine⟨y.bh,h3.tn.c2,(hpUsable y.bh a c k sl j w1 h3.tn.hp hhad (ok.hp.al.n k hhad.there.1)).mono ?_⟩;rintro e w2 ⟨rfl,n,rfl⟩;obtain⟨_,_,e1,_,_⟩:=find_pos hhad.1;rw [e1];exact⟨rfl,((h2'.still (fr_drewN n)).go ok).front ((Fr.below hb).trans (fr_drewN n))⟩)
  generalize unitT (kdT ad)=un at *;have hsay:=HD (fun w1 (q:TnGo (w.alloc (.cells (ansC ans0) 47)) (setO o w.heap.size [7]) t u z b a c B m cm win s w1)=>q.say ⟨0,0,0,un,ByteArray.empty,0⟩);have hrow:=HD (fun w1 (q:TnGo (w.alloc (.cells (ansC ans0) 47)) (setO o w.heap.size [7]) t u z b a c B m cm win s w1)=>(q.row h7 ⟨0,0,0,un,ByteArray.empty,s.cb⟩));clear h h1 ok hob hd;go_enter Tryz.func64,Tryz.ntmps64
  go_wp2_with fail;refine hf.out.mono ?_;rintro e w1 ⟨rfl,hb⟩;obtain⟨bh,c2,hus⟩:=hall.out w1 hb;replace hus:=HD hus;clear hf hb hall;go_wp2_with fail;refine hus.out.mono ?_;rintro e w2 ⟨rfl,g2⟩;replace g2:=HD g2;clear hus c2;go_wp2_with fail;refine(hsay.out w2 g2.out).mono ?_;rintro e w3 ⟨rfl,g3⟩;obtain⟨qB,gE⟩:=hrow.out w3 g3;obtain⟨l0,l1,l2,l3,l4,l5,g0,g1,g2,g3,g4,g5⟩:=qB.cells;replace qB:=HD qB;clear hsay hrow;simp only [ansV];go_wp2_with fail;refine bodyPost_ret (v:=ansV ⟨0,0,0,un,ByteArray.empty,s.cb⟩) ?_ rfl ⟨rfl,gE⟩;exact ans_results (by kernel_rfl) _ _ _ rfl (qB.out.store ⟨0,0,0,un,ByteArray.empty,s.cb⟩)
 ·rw [if_neg hc0]
  simp only;have hgo:=HD (show ∀w1,Below (w.alloc (.cells (ansC ans0) 47)).heap.size (w.alloc (.cells (ansC ans0) 47)) w1→TnGo (w.alloc (.cells (ansC ans0) 47)) (setO o w.heap.size [7]) t u z b a c B m cm win s w1 from fun w1 hb=>(h1.go ok).still hb);have hfa:=HD (fun w1 (q:TnGo (w.alloc (.cells (ansC ans0) 47)) (setO o w.heap.size [7]) t u z b a c B m cm win s w1)=>q.fail e0);have hrow:=HD (fun w1 (q:TnGo (w.alloc (.cells (ansC ans0) 47)) (setO o w.heap.size [7]) t u z b a c B m cm win s w1)=>(q.row h7 ⟨e0,0,0,0,ByteArray.empty,s.cb⟩));have hc:(e0 != 0)=true:=by simpa using hc0
  clear h h1 ok hob hc0;go_enter Tryz.func64,Tryz.ntmps64
  go_wp2_with fail;refine hf.out.mono ?_;rintro e w1 ⟨rfl,hb⟩;replace hgo:=HD (hgo.out w1 hb);clear hf hb;go_wp2_with fail;refine(hfa.out w1 hgo.out).mono ?_;rintro e w3 ⟨rfl,g3⟩;obtain⟨qB,gE⟩:=hrow.out w3 g3;obtain⟨l0,l1,l2,l3,l4,l5,g0,g1,g2,g3,g4,g5⟩:=qB.cells;replace qB:=HD qB;clear hfa hrow hgo;simp only [ansV];go_wp2_with fail;refine bodyPost_ret (v:=ansV ⟨e0,0,0,0,ByteArray.empty,s.cb⟩) ?_ rfl ⟨rfl,gE⟩;exact ans_results (by kernel_rfl) _ _ _ rfl (qB.out.store ⟨e0,0,0,0,ByteArray.empty,s.cb⟩)
end
end
section
open Go.RowKit Flt
attribute [local irreducible] CpS.rv
def TnS.calloc(s:TnS)(k n:Int):Ans×TnS :=
 if 1≤k∧1≤n∧k≤(8192:Int).tdiv n then s.malloc (k*n) else (⟨2,0,0,0,ByteArray.empty,s.cb⟩,s)
section
variable{w w':World}{o o':Nat→Tag}{t u z:Tag}{b a c:Nat}{B:List UInt8}{m:Nat}{cm:CmS}{win:List Int}{tb:TbS}{s:TnS}
set_option maxHeartbeats 1000000 in
theorem tnCalloc(k n:Int)(h:TnAt w o t u z b a c B m cm win tb s)(ok:TnOk B cm win tb s)(ap:Ap3 t u z)(h7:T7 t u z)(hm:m≤900000)(hx:s.cp.next<17592186044416) :
  Calls Tryz.prog 61 #[eP b,.int .i64 k,.int .i64 n] w fun e w'=>e=.returned (ansV (s.calloc k n).1)∧TnGo w o t u z b a c B (m+2) cm win (s.calloc k n).2 w':=by
 have h1:=h.made (.cells (ansC ans0) 47);unfold TnS.calloc;by_cases hc:1≤k∧1≤n∧k≤(8192:Int).tdiv n
 ·rw [if_pos hc]
  have hg:=HD (tnMalloc (k*n) h1 ok ap h7 hm hx);have hmul:0≤k*n∧k*n≤8192:=by
   obtain⟨c1,c2,c3⟩:=hc;rw [Int.tdiv_eq_ediv_of_nonneg (by omega)] at c3;have:=Int.mul_le_mul_of_nonneg_right c3 (show (0:Int)≤n by omega);have h2:=Int.ediv_mul_le 8192 (b:=n) (by omega);exact⟨Int.mul_nonneg (by omega) (by omega),by omega⟩
  have u1:=IntWalk.i64_in (k*n) (by omega);generalize s.malloc (k*n)=r at *;obtain⟨⟨re,rh,ra,rn,rd,rc⟩,s'⟩:=r;simp only at hg ⊢;have hrow:=HD (fun w1 (q:TnGo (w.alloc (.cells (ansC ans0) 47)) (setO o w.heap.size [7]) t u z b a c B (m+2) cm win s' w1)=>(q.row h7 ⟨re,rh,ra,rn,rd,rc⟩));have d1:decide (k<1)=false:=decide_eq_false (by omega);have d2:decide (n<1)=false:=decide_eq_false (by omega);have d3:(n==0)=false:=by simp;omega
  have d5:¬n=0:=by omega
  have hq:=IntWalk.i64_in ((8192:Int).tdiv n) (by
   rw [Int.tdiv_eq_ediv_of_nonneg (by omega)];have:=Int.ediv_nonneg (a:=8192) (b:=n) (by omega) (by omega);have:=Int.ediv_le_self (a:=8192) n (by omega);omega)
  have d4:decide ((8192:Int).tdiv n<k)=false:=decide_eq_false (by omega);clear h h1 ok hm hx hc hmul;go_enter Tryz.func61,Tryz.ntmps61
  go_wp2_with fail;refine hg.out.mono ?_;rintro e w1 ⟨rfl,g1⟩;obtain⟨qB,gE⟩:=hrow.out w1 g1;obtain⟨l0,l1,l2,l3,l4,l5,g0,g1,g2,g3,g4,g5⟩:=qB.cells;replace qB:=HD qB;clear hg hrow;simp only [ansV];go_wp2_with fail;refine bodyPost_ret (v:=ansV ⟨re,rh,ra,rn,rd,rc⟩) ?_ rfl ⟨rfl,gE⟩;exact ans_results_at 6 (by kernel_rfl) _ _ _ rfl (qB.out.store ⟨re,rh,ra,rn,rd,rc⟩)
 ·rw [if_neg hc]
  simp only;have hgo:=HD (show TnGo (w.alloc (.cells (ansC ans0) 47)) (setO o w.heap.size [7]) t u z b a c B (m+2) cm win s (w.alloc (.cells (ansC ans0) 47)) from(h1.mono (by omega)).go ok);have hfa:=HD (fun w1 (q:TnGo (w.alloc (.cells (ansC ans0) 47)) (setO o w.heap.size [7]) t u z b a c B (m+2) cm win s w1)=>q.fail 2);have hrow:=HD (fun w1 (q:TnGo (w.alloc (.cells (ansC ans0) 47)) (setO o w.heap.size [7]) t u z b a c B (m+2) cm win s w1)=>(q.row h7 ⟨2,0,0,0,ByteArray.empty,s.cb⟩));clear h h1 ok hm hx;by_cases c1:k<1
  ·have d1:decide (k<1)=true:=decide_eq_true c1
   clear hc c1;go_enter Tryz.func61,Tryz.ntmps61
   go_wp2_with fail;refine(hfa.out _ hgo.out).mono ?_;rintro e w3 ⟨rfl,g3⟩;obtain⟨qB,gE⟩:=hrow.out w3 g3;obtain⟨l0,l1,l2,l3,l4,l5,g0,g1,g2,g3,g4,g5⟩:=qB.cells;replace qB:=HD qB;clear hfa hrow hgo;simp only [ansV];go_wp2_with fail;refine bodyPost_ret (v:=ansV ⟨2,0,0,0,ByteArray.empty,s.cb⟩) ?_ rfl ⟨rfl,gE⟩;exact ans_results_at 6 (by kernel_rfl) _ _ _ rfl (qB.out.store ⟨2,0,0,0,ByteArray.empty,s.cb⟩)
  by_cases c2:n<1
  ·have d1:decide (k<1)=false:=decide_eq_false c1
   have d2:decide (n<1)=true:=decide_eq_true c2;clear hc c1 c2;go_enter Tryz.func61,Tryz.ntmps61
   go_wp2_with fail;refine(hfa.out _ hgo.out).mono ?_;rintro e w3 ⟨rfl,g3⟩;obtain⟨qB,gE⟩:=hrow.out w3 g3;obtain⟨l0,l1,l2,l3,l4,l5,g0,g1,g2,g3,g4,g5⟩:=qB.cells;replace qB:=HD qB;clear hfa hrow hgo;simp only [ansV];go_wp2_with fail;refine bodyPost_ret (v:=ansV ⟨2,0,0,0,ByteArray.empty,s.cb⟩) ?_ rfl ⟨rfl,gE⟩;exact ans_results_at 6 (by kernel_rfl) _ _ _ rfl (qB.out.store ⟨2,0,0,0,ByteArray.empty,s.cb⟩)
  have c3:(8192:Int).tdiv n<k:=by omega
  have d1:decide (k<1)=false:=decide_eq_false c1;have d2:decide (n<1)=false:=decide_eq_false c2;have d3:(n==0)=false:=by simp;omega
  have d5:¬n=0:=by omega
  have hq:=IntWalk.i64_in ((8192:Int).tdiv n) (by
   rw [Int.tdiv_eq_ediv_of_nonneg (by omega)];have:=Int.ediv_nonneg (a:=8192) (b:=n) (by omega) (by omega);have:=Int.ediv_le_self (a:=8192) n (by omega);omega)
  have d4:decide ((8192:Int).tdiv n<k)=true:=decide_eq_true c3;clear hc c1 c2 c3;go_enter Tryz.func61,Tryz.ntmps61
  go_wp2_with fail;refine(hfa.out _ hgo.out).mono ?_;rintro e w3 ⟨rfl,g3⟩;obtain⟨qB,gE⟩:=hrow.out w3 g3;obtain⟨l0,l1,l2,l3,l4,l5,g0,g1,g2,g3,g4,g5⟩:=qB.cells;replace qB:=HD qB;clear hfa hrow hgo;simp only [ansV];go_wp2_with fail;refine bodyPost_ret (v:=ansV ⟨2,0,0,0,ByteArray.empty,s.cb⟩) ?_ rfl ⟨rfl,gE⟩;exact ans_results_at 6 (by kernel_rfl) _ _ _ rfl (qB.out.store ⟨2,0,0,0,ByteArray.empty,s.cb⟩)
end
end
end Go.Proofs.YtfliaggjkianpaaGreatDoor
