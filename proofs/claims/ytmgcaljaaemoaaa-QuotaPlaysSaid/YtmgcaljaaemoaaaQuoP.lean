/- A quota's three sums, and what the calls do to them, in plain numbers. No program here. -/
import Derived.Test.YtmgcaljaaemoaaaSumw
namespace Go.Proofs.Ytmgcaljaaemoaaa

/-- Limit, charged, reserved: bytes and pages of each. -/
structure QS where
  (lB lP cB cP rB rP : Int)

/-- Charged and reserved together fit the limit. -/
def QS.wf (q : QS) : Prop := 0 ≤ q.lB ∧ q.lB ≤ 1099511627776 ∧ 0 ≤ q.lP ∧ q.lP ≤ 1099511627776 ∧ 0 ≤ q.cB ∧ 0 ≤ q.cP ∧ 0 ≤ q.rB ∧ 0 ≤ q.rP ∧ q.cB + q.rB ≤ q.lB ∧ q.cP + q.rP ≤ q.lP

def QS.resE (q : QS) (b p : Int) : Int := if q.cB + q.rB + b ≤ q.lB ∧ q.cP + q.rP + p ≤ q.lP then 0 else 3
def QS.res (q : QS) (b p : Int) : QS := if q.cB + q.rB + b ≤ q.lB ∧ q.cP + q.rP + p ≤ q.lP then { q with rB := q.rB + b, rP := q.rP + p } else q
def QS.canE (q : QS) (b p : Int) : Int := if b ≤ q.rB ∧ p ≤ q.rP then 0 else 12
def QS.can (q : QS) (b p : Int) : QS := if b ≤ q.rB ∧ p ≤ q.rP then { q with rB := q.rB - b, rP := q.rP - p } else q
def QS.com (q : QS) (b p : Int) : QS := if b ≤ q.rB ∧ p ≤ q.rP then { q with rB := q.rB - b, rP := q.rP - p, cB := q.cB + b, cP := q.cP + p } else q
def QS.refE (q : QS) (b p : Int) : Int := if b ≤ q.cB ∧ p ≤ q.cP then 0 else 12
def QS.ref (q : QS) (b p : Int) : QS := if b ≤ q.cB ∧ p ≤ q.cP then { q with cB := q.cB - b, cP := q.cP - p } else q
def QS.siz (q : QS) (b p : Int) : QS := if q.cB + q.rB ≤ b ∧ q.cP + q.rP ≤ p then { q with lB := b, lP := p } else q
def QS.sizE (q : QS) (b p : Int) : Int := if q.cB + q.rB ≤ b ∧ q.cP + q.rP ≤ p then 0 else 3

/-- A call by its number, with a sum that may be. -/
def QS.opE (q : QS) (k b p : Int) : Int := if k = 1 then q.resE b p else if k = 2 then q.canE b p else if k = 3 then q.canE b p else if k = 4 then q.refE b p else q.sizE b p
def QS.op (q : QS) (k b p : Int) : QS := if k = 1 then q.res b p else if k = 2 then q.com b p else if k = 3 then q.can b p else if k = 4 then q.ref b p else q.siz b p

theorem QS.op_wf {q : QS} (h : q.wf) {k b p : Int} (hb : okS b p = true) : (q.op k b p).wf := by
  obtain ⟨b0, b1, p0, p1⟩ := okS_iff.1 hb
  obtain ⟨h0, h1, h2, h3, h4, h5, h6, h7, h8, h9⟩ := h
  unfold QS.op
  split
  · unfold QS.res; split
    · exact ⟨h0, h1, h2, h3, h4, h5, by simp only; omega, by simp only; omega, by simp only; omega, by simp only; omega⟩
    · exact ⟨h0, h1, h2, h3, h4, h5, h6, h7, h8, h9⟩
  split
  · unfold QS.com; split
    · exact ⟨h0, h1, h2, h3, by simp only; omega, by simp only; omega, by simp only; omega, by simp only; omega, by simp only; omega, by simp only; omega⟩
    · exact ⟨h0, h1, h2, h3, h4, h5, h6, h7, h8, h9⟩
  split
  · unfold QS.can; split
    · exact ⟨h0, h1, h2, h3, h4, h5, by simp only; omega, by simp only; omega, by simp only; omega, by simp only; omega⟩
    · exact ⟨h0, h1, h2, h3, h4, h5, h6, h7, h8, h9⟩
  split
  · unfold QS.ref; split
    · exact ⟨h0, h1, h2, h3, by simp only; omega, by simp only; omega, h6, h7, by simp only; omega, by simp only; omega⟩
    · exact ⟨h0, h1, h2, h3, h4, h5, h6, h7, h8, h9⟩
  · unfold QS.siz; split
    · exact ⟨b0, b1, p0, p1, h4, h5, h6, h7, by simp only; omega, by simp only; omega⟩
    · exact ⟨h0, h1, h2, h3, h4, h5, h6, h7, h8, h9⟩

theorem QS.ok {q : QS} (h : q.wf) : okS q.lB q.lP = true ∧ okS q.cB q.cP = true ∧ okS q.rB q.rP = true ∧ okS (q.cB + q.rB) (q.cP + q.rP) = true := by
  obtain ⟨h0, h1, h2, h3, h4, h5, h6, h7, h8, h9⟩ := h
  exact ⟨okS_iff.2 (by omega), okS_iff.2 (by omega), okS_iff.2 (by omega), okS_iff.2 (by omega)⟩

end Go.Proofs.Ytmgcaljaaemoaaa
