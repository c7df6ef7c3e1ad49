/- '==' of an array of few elements, as one Bool. -/
import Derived.Test.YtpjenhojldcmiaaIt
import Derived.Test.YtpjenhojldcmiaaProg
import Derived.ChangeKeysEq
namespace Go.Proofs.Ytpjenhojldcmiaa
open Go.RowKit
section
variable {P : Program} {w : World} {d c : Nat} {e t : TypeId} {xs ys : Array Value} {js : List Nat} {j n : Nat} {a b : Value} {r s : Bool} {i : TypeInfo}
theorem eqArr_of (hu : P.underlying t = some (.array n e)) (hi : P.info? e = some i) (hc : P.cellsOf e = c) (hl : List.range n = js) (h : (Op.eqItems d e c xs ys js).run P w = .ok r w) : (Op.equalIn (d + 1) t (.agg xs) (.agg ys)).run P w = .ok r w := by
  rw [run_equalIn_array (P := P) w d xs ys hu hi, hc, hl]; exact h
theorem eqi_nil : (Op.eqItems d e c xs ys []).run P w = .ok true w := by simp [Op.eqItems]
theorem eqi_cons (ha : (part e xs (j * c)).run P w = .ok a w) (hb : (part e ys (j * c)).run P w = .ok b w) (he : (Op.equalIn d e a b).run P w = .ok r w) (hr : (Op.eqItems d e c xs ys js).run P w = .ok s w) :
    (Op.eqItems d e c xs ys (j :: js)).run P w = .ok (r && s) w := by
  simp only [Op.eqItems, Sem.run_bind, ha, hb, he, Result.andThen_ok]
  cases r <;> simp [hr]
theorem eqi_last (ha : (part e xs (j * c)).run P w = .ok a w) (hb : (part e ys (j * c)).run P w = .ok b w) (he : (Op.equalIn d e a b).run P w = .ok r w) :
    (Op.eqItems d e c xs ys [j]).run P w = .ok r w := by
  have h := eqi_cons ha hb he (eqi_nil (P := P) (w := w) (d := d) (e := e) (c := c) (xs := xs) (ys := ys))
  rwa [Bool.and_true] at h
end
end Go.Proofs.Ytpjenhojldcmiaa
