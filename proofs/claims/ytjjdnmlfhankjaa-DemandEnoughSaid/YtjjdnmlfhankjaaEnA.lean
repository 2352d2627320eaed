/- append of any slice to a row of the call's own, at a step of a region that draws its order; and small facts for DemandEnough's walk. -/
import Derived.Test.YtjjdnmlfhankjaaPick
import Derived.Deep.AppendLies
namespace Go.Proofs.Ytjjdnmlfhankjaa
open Go.RowKit
set_option linter.unusedVariables false

section
variable {P : Program} (w : World)
theorem step_append_at {ops : Array Oper} {o : Oper} {a : Act} {K : Act → World → Prop} {Q : Exit → Act → World → Prop} {E : Prop} (hgd : o.guard = none) (s x : Operand) (t : TypeId)
    (ho : o.op = .call { callee := .builtin .append, args := #[s, x], argTypes := #[t, t] })
    (base : Nat) (e : TypeId) (i : TypeInfo) (z : Value) (size bytes : Nat) (ht : P.underlying t = some (.slice e)) (hi : P.info? e = some i) (hz : i.zero = some z)
    (hsize : i.size = size) (hby : i.bytes = bytes) (hzs : z.cells.size = size) (hsz : 0 < size)
    (v : Value) (n : Nat) (xs : List Value) (hs : a.eval s = v) (hown : w.ownsRow base e size v n xs)
    (ad : Addr) (m c : Nat) (news : List Value) (hx : a.eval x = .slice (some ad) m c) (hl : news.length = m * size) (hnews : ∀ j u, news[j]? = some u → w.cell? (ad.add j) = some u) (h1 : ∀ u ∈ news, u.oneCell' = true)
    (h63 : n + m ≤ maxLen) (hbytes : (n + m) * bytes ≤ 140737488355328) (hbase : base ≤ w.heap.size)
    (h : ∀ v' w', w'.ownsRow base e size v' (n + m) (xs ++ news) → w.grownBy w' v.ownBlock → (v'.ownBlock = v.ownBlock ∨ v'.ownBlock = some w.heap.size) → K (a.put o.dst v') w') :
    if Region.wanted o (yielded ops a.tmps) = true then Oper.wp P o a w K Q else E := by
  have hw : Region.wanted o (yielded ops a.tmps) = true := by simp [Region.wanted, hgd]
  rw [if_pos hw]
  obtain ⟨v', w', hr, h2, h3, _, h5⟩ := run_append_own_at (P := P) w base t o.type e i z size bytes ht hi hz hsize hby hzs hsz v n xs hown ad m c news hl hnews h1 h63 hbytes hbase
  unfold Oper.wp execOp
  simp only [ho, resolve, invoke, builtin, Sem.run_bind, Sem.run_pure, Result.andThen_ok, List.map_toArray, List.map_cons, List.map_nil, hs, hx, hr]
  exact h v' w' h2 h3 h5
end

theorem infoBlk : (Try.prog.info? 42).map (fun i => (i.zero, i.size, i.bytes)) = some (some (.agg #[.int .i64 0, .int .i64 0]), 2, 16) := by kernel_rfl
theorem infoB_parts {P : Program} {e : TypeId} {z : Value} {s b : Nat} (h : (P.info? e).map (fun i => (i.zero, i.size, i.bytes)) = some (some z, s, b)) :
    ∃ i, P.info? e = some i ∧ i.zero = some z ∧ i.size = s ∧ i.bytes = b := by
  cases h1 : P.info? e with
  | none => rw [h1] at h; cases h
  | some i =>
    rw [h1] at h
    simp at h
    exact ⟨i, rfl, h.1, h.2.1, h.2.2⟩

theorem picks_b {w w1 : World} {A : Option Addr} {xs : List Int} (h : picksAt w A xs) (hb : Below w.heap.size w w1) : picksAt w1 A xs :=
  ⟨fun h0 => by
    obtain ⟨b, off, rfl, hc⟩ := h.1 h0
    exact ⟨b, off, rfl, fun i hi => keep_b hb (hc i hi)⟩, h.2⟩
theorem put_len {L L' : List Int} {per : Int} {i : Nat} {n n' : Int} (s : PutSpec L per i L' n n') : L'.length ≤ L.length + 1 := by
  rcases s with ⟨hi, _, rfl, _⟩ | ⟨_, _, ⟨hi, _, rfl⟩ | ⟨rfl, rfl⟩⟩ <;> simp

theorem own_dr {w : World} {base : Nat} {e : TypeId} {size : Nat} {v : Value} {n : Nat} {xs : List Value} (h : w.ownsRow base e size v n xs) : w.drew.ownsRow base e size v n xs := h
/-- A block is appended to those that are there. -/
theorem EnMem.append {w w1 w2 : World} {base B nb : Nat} {v : Nat → Value} {L : Nat → List Int} {n : Int} {vT v' : Value} {T : List (Int × Int)} (h : EnMem w base B nb v L n vT T) {a b : Int}
    (hO : Only (fun _ => False) w w1) (hr : w2.ownsRow base 42 2 v' (T.length + 1) (flat T ++ [.int .i64 a, .int .i64 b])) (hg : w1.grownBy w2 vT.ownBlock)
    (hv : v'.ownBlock = vT.ownBlock ∨ v'.ownBlock = some w1.heap.size) : EnMem w2 base B nb v L n v' (T ++ [(a, b)]) := by
  refine h.there ((hO.mono (fun _ _ q => q.elim)).grown hg (fun k hk _ => hk)) (by rw [flat_append, List.length_append]; exact hr) (hv.imp id fun e g hg' => ?_)
  rw [e] at hg'; injection hg' with hg'; have := hO.size; omega
theorem EnMem.append_b {W0 w w1 w2 : World} {base B nb : Nat} {v : Nat → Value} {L : Nat → List Int} {n : Int} {vT : Value} {T : List (Int × Int)} (h : EnMem w base B nb v L n vT T)
    (hb : Below W0.heap.size W0 w) (hO : Only (fun _ => False) w w1) (hg : w1.grownBy w2 vT.ownBlock) (hbase : W0.heap.size ≤ base) : Below W0.heap.size W0 w2 :=
  Below.trans hb (((hO.below hb.size (fun _ _ q => q)).grown hg (Nat.le_trans hb.size hO.size) (fun k hk => Nat.le_trans hbase (h.th.lt k hk).1)))
theorem Only.at_b {W0 w w1 : World} {bs : Nat → Prop} (hb : Below W0.heap.size W0 w) (hO : Only bs w w1) (h : ∀ k, k < W0.heap.size → ¬ bs k) : Below W0.heap.size W0 w1 := Below.trans hb (hO.below hb.size h)
theorem upd_len {L : Nat → List Int} {c : Nat} {L' : List Int} {j : Nat} (h : ∀ d : Nat, d < 8 → (L d).length ≤ j) (h' : L'.length ≤ j + 1) : ∀ d : Nat, d < 8 → (upd L c L' d).length ≤ j + 1 := by
  intro d hd
  by_cases e : d = c
  · subst e; rw [upd_same]; exact h'
  · rw [upd_other e]; have := h d hd; omega

theorem wrapk (K : Int) {m : Nat} (h0 : 0 < m) (h1 : m ≤ 100000) : ∃ k : Nat, k < m ∧ wrap64 ((IntKind.u64.wrap K).tmod (m : Int)) = (k : Int) := by
  have h2 : 0 ≤ IntKind.u64.wrap K := by rw [IntKind.wrap_u64]; omega
  rw [Int.tmod_eq_emod_of_nonneg h2]
  have h3 := Int.emod_nonneg (IntKind.u64.wrap K) (b := (m : Int)) (by omega)
  have h4 := Int.emod_lt_of_pos (IntKind.u64.wrap K) (b := (m : Int)) (by omega)
  refine ⟨(IntKind.u64.wrap K % (m : Int)).toNat, by omega, ?_⟩
  rw [Int.toNat_of_nonneg h3]
  generalize IntKind.u64.wrap K % (m : Int) = r at *
  unfold wrap64
  omega
theorem split_at' {α : Type} : ∀ {T : List α} {k : Nat}, k < T.length → ∃ A x B, T = A ++ x :: B ∧ A.length = k
  | [], k, h => by simp at h
  | y :: T, 0, _ => ⟨[], y, T, rfl, rfl⟩
  | y :: T, k + 1, h => by
    obtain ⟨A, x, B, h1, h2⟩ := split_at' (T := T) (k := k) (by simpa using h)
    exact ⟨y :: A, x, B, by rw [h1]; rfl, by simp [h2]⟩
theorem flat_cons (x : Int × Int) (B : List (Int × Int)) : flat (x :: B) = .int .i64 x.1 :: .int .i64 x.2 :: flat B := rfl
theorem flat_at {A B : List (Int × Int)} {x : Int × Int} : (flat (A ++ x :: B))[A.length * 2]? = some (.int .i64 x.1) ∧ (flat (A ++ x :: B))[A.length * 2 + 1]? = some (.int .i64 x.2) := by
  rw [flat_append, flat_cons]
  constructor
  · rw [List.getElem?_append_right (by rw [flat_length]; omega), flat_length]; simp
  · rw [List.getElem?_append_right (by rw [flat_length]; omega), flat_length]; simp
theorem flat_left {A B : List (Int × Int)} {i : Nat} {u : Value} (h : (flat A)[i]? = some u) : (flat (A ++ B))[i]? = some u := by
  rw [flat_append]
  have hl : i < (flat A).length := (List.getElem?_eq_some_iff.1 h).1
  rw [List.getElem?_append_left hl]; exact h
theorem flat_right {A B : List (Int × Int)} {x : Int × Int} {i : Nat} {u : Value} (h : (flat B)[i]? = some u) : (flat (A ++ x :: B))[(A.length + 1) * 2 + i]? = some u := by
  rw [flat_append, flat_cons, List.getElem?_append_right (by rw [flat_length]; omega), flat_length, show (A.length + 1) * 2 + i - A.length * 2 = i + 2 by omega]
  simpa using h

end Go.Proofs.Ytjjdnmlfhankjaa
