/- Several texts in one. -/
import Derived.Test.YtbglgblngfbhbaaIAllx0
import Derived.Test.YtbglgblngfbhbaaFl
import Derived.Test.YtbglgblngfbhbaaIAllx1
import Derived.Test.YtbglgblngfbhbaaIAllx2
import Derived.Test.YtbglgblngfbhbaaIAllx3
import Derived.Test.YtbglgblngfbhbaaHin
namespace Go.Proofs.Ytbglgblngfbhbaa.Bk
open Go.RowKit Go.Shelf Go.Proofs.Ytbglgblngfbhbaa.IAll Go.Proofs.YtbglgblngfbhbaaW.PrintWords Go.Proofs.YtbglgblngfbhbaaW.PrintLast Go.Proofs.YtbglgblngfbhbaaW.PrintMore
set_option linter.unusedVariables false
def Mid (_ : Array Value) : Prop := True
theorem mid_FT {α : Type} {enc : α → List Value} {xs : List α} {T : List Value} : Mid (FT enc xs T) = True := rfl
@[ext] structure Q where
  f0 : Bool
  f1 : Bool
  f2 : Bool
  f3 : Bool
def zQ : Q := ⟨false, false, false, false⟩
def eQ (x : Q) : List Value := [.bool x.f0, .bool x.f1, .bool x.f2, .bool x.f3]
def vQ (x : Q) : Array Value := #[.bool x.f0, .bool x.f1, .bool x.f2, .bool x.f3]
def kQ : Kd Q := Kd.iso (Kd.pair (Kd.bool) (Kd.pair (Kd.bool) (Kd.pair (Kd.bool) (Kd.bool)))) (fun x : Q => (x.f0, x.f1, x.f2, x.f3))
theorem kQ_open {w : World} {x : Q} {cs : List Value} (h : kQ.K w x cs) : cs = eQ x := by
  obtain ⟨_, _, rfl, rfl, ⟨_, _, rfl, rfl, ⟨_, _, rfl, rfl, rfl⟩⟩⟩ := h
  exact rfl
theorem kQ_mk (w : World) (x : Q) : kQ.K w x (eQ x) := ⟨[.bool x.f0], [.bool x.f1, .bool x.f2, .bool x.f3], rfl, rfl, ⟨[.bool x.f1], [.bool x.f2, .bool x.f3], rfl, rfl, ⟨[.bool x.f2], [.bool x.f3], rfl, rfl, rfl⟩⟩⟩
theorem kQ_mkM (w : World) (base : Nat) (ok : Nat → Prop) (x : Q) : kQ.M w base ok x (eQ x) := ⟨[.bool x.f0], [.bool x.f1, .bool x.f2, .bool x.f3], rfl, rfl, ⟨[.bool x.f1], [.bool x.f2, .bool x.f3], rfl, rfl, ⟨[.bool x.f2], [.bool x.f3], rfl, rfl, rfl⟩⟩⟩
theorem eQ_len (x : Q) : (eQ x).length = 4 := rfl
theorem vQ_size (x : Q) : (vQ x).size = 4 := rfl
theorem vQ_eq (x : Q) : (eQ x).toArray = vQ x := rfl
theorem vQ_one (x : Q) : AllOne (vQ x) := by simp [vQ, AllOne, Value.oneCell']
theorem vQ_fold (x : Q) : #[.bool x.f0, .bool x.f1, .bool x.f2, .bool x.f3] = vQ x := rfl
theorem vQ_0 (x : Q) : (vQ x)[0]? = some (.bool x.f0) := rfl
theorem vQ_1 (x : Q) : (vQ x)[1]? = some (.bool x.f1) := rfl
theorem vQ_2 (x : Q) : (vQ x)[2]? = some (.bool x.f2) := rfl
theorem vQ_3 (x : Q) : (vQ x)[3]? = some (.bool x.f3) := rfl
theorem infoQ : (Try.prog.info? 31).map (·.size) = some 4 := by kernel_rfl
theorem infoZQ : (Try.prog.info? 31).map (fun i => (i.zero, i.size, i.bytes)) = some (some (.agg (vQ zQ)), kQ.sz, 4) := by kernel_rfl
@[ext] structure L where
  f0 : Bool
  f1 : Bool
  f2 : Bool
  f3 : Bool
  f4 : Bool
  f5 : Int
  f6 : Int
def zL : L := ⟨false, false, false, false, false, 0, 0⟩
def eL (x : L) : List Value := [.bool x.f0, .bool x.f1, .bool x.f2, .bool x.f3, .bool x.f4, .int .i64 x.f5, .int .i64 x.f6]
def vL (x : L) : Array Value := #[.bool x.f0, .bool x.f1, .bool x.f2, .bool x.f3, .bool x.f4, .int .i64 x.f5, .int .i64 x.f6]
def kL : Kd L := Kd.iso (Kd.pair (Kd.bool) (Kd.pair (Kd.bool) (Kd.pair (Kd.bool) (Kd.pair (Kd.bool) (Kd.pair (Kd.bool) (Kd.pair (Kd.int .i64) (Kd.int .i64))))))) (fun x : L => (x.f0, x.f1, x.f2, x.f3, x.f4, x.f5, x.f6))
theorem kL_open {w : World} {x : L} {cs : List Value} (h : kL.K w x cs) : cs = eL x := by
  obtain ⟨_, _, rfl, rfl, ⟨_, _, rfl, rfl, ⟨_, _, rfl, rfl, ⟨_, _, rfl, rfl, ⟨_, _, rfl, rfl, ⟨_, _, rfl, rfl, rfl⟩⟩⟩⟩⟩⟩ := h
  exact rfl
theorem kL_mk (w : World) (x : L) : kL.K w x (eL x) := ⟨[.bool x.f0], [.bool x.f1, .bool x.f2, .bool x.f3, .bool x.f4, .int .i64 x.f5, .int .i64 x.f6], rfl, rfl, ⟨[.bool x.f1], [.bool x.f2, .bool x.f3, .bool x.f4, .int .i64 x.f5, .int .i64 x.f6], rfl, rfl, ⟨[.bool x.f2], [.bool x.f3, .bool x.f4, .int .i64 x.f5, .int .i64 x.f6], rfl, rfl, ⟨[.bool x.f3], [.bool x.f4, .int .i64 x.f5, .int .i64 x.f6], rfl, rfl, ⟨[.bool x.f4], [.int .i64 x.f5, .int .i64 x.f6], rfl, rfl, ⟨[.int .i64 x.f5], [.int .i64 x.f6], rfl, rfl, rfl⟩⟩⟩⟩⟩⟩
theorem kL_mkM (w : World) (base : Nat) (ok : Nat → Prop) (x : L) : kL.M w base ok x (eL x) := ⟨[.bool x.f0], [.bool x.f1, .bool x.f2, .bool x.f3, .bool x.f4, .int .i64 x.f5, .int .i64 x.f6], rfl, rfl, ⟨[.bool x.f1], [.bool x.f2, .bool x.f3, .bool x.f4, .int .i64 x.f5, .int .i64 x.f6], rfl, rfl, ⟨[.bool x.f2], [.bool x.f3, .bool x.f4, .int .i64 x.f5, .int .i64 x.f6], rfl, rfl, ⟨[.bool x.f3], [.bool x.f4, .int .i64 x.f5, .int .i64 x.f6], rfl, rfl, ⟨[.bool x.f4], [.int .i64 x.f5, .int .i64 x.f6], rfl, rfl, ⟨[.int .i64 x.f5], [.int .i64 x.f6], rfl, rfl, rfl⟩⟩⟩⟩⟩⟩
theorem eL_len (x : L) : (eL x).length = 7 := rfl
theorem vL_size (x : L) : (vL x).size = 7 := rfl
theorem vL_eq (x : L) : (eL x).toArray = vL x := rfl
theorem vL_one (x : L) : AllOne (vL x) := by simp [vL, AllOne, Value.oneCell']
theorem vL_fold (x : L) : #[.bool x.f0, .bool x.f1, .bool x.f2, .bool x.f3, .bool x.f4, .int .i64 x.f5, .int .i64 x.f6] = vL x := rfl
theorem vL_0 (x : L) : (vL x)[0]? = some (.bool x.f0) := rfl
theorem vL_1 (x : L) : (vL x)[1]? = some (.bool x.f1) := rfl
theorem vL_2 (x : L) : (vL x)[2]? = some (.bool x.f2) := rfl
theorem vL_3 (x : L) : (vL x)[3]? = some (.bool x.f3) := rfl
theorem vL_4 (x : L) : (vL x)[4]? = some (.bool x.f4) := rfl
theorem vL_5 (x : L) : (vL x)[5]? = some (.int .i64 x.f5) := rfl
theorem vL_6 (x : L) : (vL x)[6]? = some (.int .i64 x.f6) := rfl
theorem infoL : (Try.prog.info? 33).map (·.size) = some 7 := by kernel_rfl
theorem infoZL : (Try.prog.info? 33).map (fun i => (i.zero, i.size, i.bytes)) = some (some (.agg (vL zL)), kL.sz, 24) := by kernel_rfl
@[ext] structure E where
  f0 : Bool
  f1 : Bool
  f2 : Bool
  f3 : Bool
  f4 : Bool
  f5 : Int
  f6 : Int
  f7 : ByteArray
def zE : E := ⟨false, false, false, false, false, 0, 0, ⟨#[]⟩⟩
def eE (x : E) : List Value := [.bool x.f0, .bool x.f1, .bool x.f2, .bool x.f3, .bool x.f4, .int .i64 x.f5, .int .i64 x.f6, .string x.f7]
def vE (x : E) : Array Value := #[.bool x.f0, .bool x.f1, .bool x.f2, .bool x.f3, .bool x.f4, .int .i64 x.f5, .int .i64 x.f6, .string x.f7]
def kE : Kd E := Kd.iso (Kd.pair (Kd.bool) (Kd.pair (Kd.bool) (Kd.pair (Kd.bool) (Kd.pair (Kd.bool) (Kd.pair (Kd.bool) (Kd.pair (Kd.int .i64) (Kd.pair (Kd.int .i64) (Kd.string)))))))) (fun x : E => (x.f0, x.f1, x.f2, x.f3, x.f4, x.f5, x.f6, x.f7))
theorem kE_open {w : World} {x : E} {cs : List Value} (h : kE.K w x cs) : cs = eE x := by
  obtain ⟨_, _, rfl, rfl, ⟨_, _, rfl, rfl, ⟨_, _, rfl, rfl, ⟨_, _, rfl, rfl, ⟨_, _, rfl, rfl, ⟨_, _, rfl, rfl, ⟨_, _, rfl, rfl, rfl⟩⟩⟩⟩⟩⟩⟩ := h
  exact rfl
theorem kE_mk (w : World) (x : E) : kE.K w x (eE x) := ⟨[.bool x.f0], [.bool x.f1, .bool x.f2, .bool x.f3, .bool x.f4, .int .i64 x.f5, .int .i64 x.f6, .string x.f7], rfl, rfl, ⟨[.bool x.f1], [.bool x.f2, .bool x.f3, .bool x.f4, .int .i64 x.f5, .int .i64 x.f6, .string x.f7], rfl, rfl, ⟨[.bool x.f2], [.bool x.f3, .bool x.f4, .int .i64 x.f5, .int .i64 x.f6, .string x.f7], rfl, rfl, ⟨[.bool x.f3], [.bool x.f4, .int .i64 x.f5, .int .i64 x.f6, .string x.f7], rfl, rfl, ⟨[.bool x.f4], [.int .i64 x.f5, .int .i64 x.f6, .string x.f7], rfl, rfl, ⟨[.int .i64 x.f5], [.int .i64 x.f6, .string x.f7], rfl, rfl, ⟨[.int .i64 x.f6], [.string x.f7], rfl, rfl, rfl⟩⟩⟩⟩⟩⟩⟩
theorem kE_mkM (w : World) (base : Nat) (ok : Nat → Prop) (x : E) : kE.M w base ok x (eE x) := ⟨[.bool x.f0], [.bool x.f1, .bool x.f2, .bool x.f3, .bool x.f4, .int .i64 x.f5, .int .i64 x.f6, .string x.f7], rfl, rfl, ⟨[.bool x.f1], [.bool x.f2, .bool x.f3, .bool x.f4, .int .i64 x.f5, .int .i64 x.f6, .string x.f7], rfl, rfl, ⟨[.bool x.f2], [.bool x.f3, .bool x.f4, .int .i64 x.f5, .int .i64 x.f6, .string x.f7], rfl, rfl, ⟨[.bool x.f3], [.bool x.f4, .int .i64 x.f5, .int .i64 x.f6, .string x.f7], rfl, rfl, ⟨[.bool x.f4], [.int .i64 x.f5, .int .i64 x.f6, .string x.f7], rfl, rfl, ⟨[.int .i64 x.f5], [.int .i64 x.f6, .string x.f7], rfl, rfl, ⟨[.int .i64 x.f6], [.string x.f7], rfl, rfl, rfl⟩⟩⟩⟩⟩⟩⟩
theorem eE_len (x : E) : (eE x).length = 8 := rfl
theorem vE_size (x : E) : (vE x).size = 8 := rfl
theorem vE_eq (x : E) : (eE x).toArray = vE x := rfl
theorem vE_one (x : E) : AllOne (vE x) := by simp [vE, AllOne, Value.oneCell']
theorem vE_fold (x : E) : #[.bool x.f0, .bool x.f1, .bool x.f2, .bool x.f3, .bool x.f4, .int .i64 x.f5, .int .i64 x.f6, .string x.f7] = vE x := rfl
theorem vE_0 (x : E) : (vE x)[0]? = some (.bool x.f0) := rfl
theorem vE_1 (x : E) : (vE x)[1]? = some (.bool x.f1) := rfl
theorem vE_2 (x : E) : (vE x)[2]? = some (.bool x.f2) := rfl
theorem vE_3 (x : E) : (vE x)[3]? = some (.bool x.f3) := rfl
theorem vE_4 (x : E) : (vE x)[4]? = some (.bool x.f4) := rfl
theorem vE_5 (x : E) : (vE x)[5]? = some (.int .i64 x.f5) := rfl
theorem vE_6 (x : E) : (vE x)[6]? = some (.int .i64 x.f6) := rfl
theorem vE_7 (x : E) : (vE x)[7]? = some (.string x.f7) := rfl
theorem infoE : (Try.prog.info? 35).map (·.size) = some 8 := by kernel_rfl
theorem infoZE : (Try.prog.info? 35).map (fun i => (i.zero, i.size, i.bytes)) = some (some (.agg (vE zE)), kE.sz, 40) := by kernel_rfl
@[ext] structure S where
  f0 : Int
  f1 : Int
  f2 : Bool
  f3 : Bool
  f4 : Bool
  f5 : Bool
  f6 : Bool
  f7 : Int
  f8 : Int
  f9 : ByteArray
  f10 : Int
def zS : S := ⟨0, 0, false, false, false, false, false, 0, 0, ⟨#[]⟩, 0⟩
def eS (x : S) : List Value := [.int .i64 x.f0, .int .i64 x.f1, .bool x.f2, .bool x.f3, .bool x.f4, .bool x.f5, .bool x.f6, .int .i64 x.f7, .int .i64 x.f8, .string x.f9, .int .i64 x.f10]
def vS (x : S) : Array Value := #[.int .i64 x.f0, .int .i64 x.f1, .bool x.f2, .bool x.f3, .bool x.f4, .bool x.f5, .bool x.f6, .int .i64 x.f7, .int .i64 x.f8, .string x.f9, .int .i64 x.f10]
def kS : Kd S := Kd.iso (Kd.pair (Kd.int .i64) (Kd.pair (Kd.int .i64) (Kd.pair (Kd.bool) (Kd.pair (Kd.bool) (Kd.pair (Kd.bool) (Kd.pair (Kd.bool) (Kd.pair (Kd.bool) (Kd.pair (Kd.int .i64) (Kd.pair (Kd.int .i64) (Kd.pair (Kd.string) (Kd.int .i64))))))))))) (fun x : S => (x.f0, x.f1, x.f2, x.f3, x.f4, x.f5, x.f6, x.f7, x.f8, x.f9, x.f10))
theorem kS_open {w : World} {x : S} {cs : List Value} (h : kS.K w x cs) : cs = eS x := by
  obtain ⟨_, _, rfl, rfl, ⟨_, _, rfl, rfl, ⟨_, _, rfl, rfl, ⟨_, _, rfl, rfl, ⟨_, _, rfl, rfl, ⟨_, _, rfl, rfl, ⟨_, _, rfl, rfl, ⟨_, _, rfl, rfl, ⟨_, _, rfl, rfl, ⟨_, _, rfl, rfl, rfl⟩⟩⟩⟩⟩⟩⟩⟩⟩⟩ := h
  exact rfl
theorem kS_mk (w : World) (x : S) : kS.K w x (eS x) := ⟨[.int .i64 x.f0], [.int .i64 x.f1, .bool x.f2, .bool x.f3, .bool x.f4, .bool x.f5, .bool x.f6, .int .i64 x.f7, .int .i64 x.f8, .string x.f9, .int .i64 x.f10], rfl, rfl, ⟨[.int .i64 x.f1], [.bool x.f2, .bool x.f3, .bool x.f4, .bool x.f5, .bool x.f6, .int .i64 x.f7, .int .i64 x.f8, .string x.f9, .int .i64 x.f10], rfl, rfl, ⟨[.bool x.f2], [.bool x.f3, .bool x.f4, .bool x.f5, .bool x.f6, .int .i64 x.f7, .int .i64 x.f8, .string x.f9, .int .i64 x.f10], rfl, rfl, ⟨[.bool x.f3], [.bool x.f4, .bool x.f5, .bool x.f6, .int .i64 x.f7, .int .i64 x.f8, .string x.f9, .int .i64 x.f10], rfl, rfl, ⟨[.bool x.f4], [.bool x.f5, .bool x.f6, .int .i64 x.f7, .int .i64 x.f8, .string x.f9, .int .i64 x.f10], rfl, rfl, ⟨[.bool x.f5], [.bool x.f6, .int .i64 x.f7, .int .i64 x.f8, .string x.f9, .int .i64 x.f10], rfl, rfl, ⟨[.bool x.f6], [.int .i64 x.f7, .int .i64 x.f8, .string x.f9, .int .i64 x.f10], rfl, rfl, ⟨[.int .i64 x.f7], [.int .i64 x.f8, .string x.f9, .int .i64 x.f10], rfl, rfl, ⟨[.int .i64 x.f8], [.string x.f9, .int .i64 x.f10], rfl, rfl, ⟨[.string x.f9], [.int .i64 x.f10], rfl, rfl, rfl⟩⟩⟩⟩⟩⟩⟩⟩⟩⟩
theorem kS_mkM (w : World) (base : Nat) (ok : Nat → Prop) (x : S) : kS.M w base ok x (eS x) := ⟨[.int .i64 x.f0], [.int .i64 x.f1, .bool x.f2, .bool x.f3, .bool x.f4, .bool x.f5, .bool x.f6, .int .i64 x.f7, .int .i64 x.f8, .string x.f9, .int .i64 x.f10], rfl, rfl, ⟨[.int .i64 x.f1], [.bool x.f2, .bool x.f3, .bool x.f4, .bool x.f5, .bool x.f6, .int .i64 x.f7, .int .i64 x.f8, .string x.f9, .int .i64 x.f10], rfl, rfl, ⟨[.bool x.f2], [.bool x.f3, .bool x.f4, .bool x.f5, .bool x.f6, .int .i64 x.f7, .int .i64 x.f8, .string x.f9, .int .i64 x.f10], rfl, rfl, ⟨[.bool x.f3], [.bool x.f4, .bool x.f5, .bool x.f6, .int .i64 x.f7, .int .i64 x.f8, .string x.f9, .int .i64 x.f10], rfl, rfl, ⟨[.bool x.f4], [.bool x.f5, .bool x.f6, .int .i64 x.f7, .int .i64 x.f8, .string x.f9, .int .i64 x.f10], rfl, rfl, ⟨[.bool x.f5], [.bool x.f6, .int .i64 x.f7, .int .i64 x.f8, .string x.f9, .int .i64 x.f10], rfl, rfl, ⟨[.bool x.f6], [.int .i64 x.f7, .int .i64 x.f8, .string x.f9, .int .i64 x.f10], rfl, rfl, ⟨[.int .i64 x.f7], [.int .i64 x.f8, .string x.f9, .int .i64 x.f10], rfl, rfl, ⟨[.int .i64 x.f8], [.string x.f9, .int .i64 x.f10], rfl, rfl, ⟨[.string x.f9], [.int .i64 x.f10], rfl, rfl, rfl⟩⟩⟩⟩⟩⟩⟩⟩⟩⟩
theorem eS_len (x : S) : (eS x).length = 11 := rfl
theorem vS_size (x : S) : (vS x).size = 11 := rfl
theorem vS_eq (x : S) : (eS x).toArray = vS x := rfl
theorem vS_one (x : S) : AllOne (vS x) := by simp [vS, AllOne, Value.oneCell']
theorem vS_fold (x : S) : #[.int .i64 x.f0, .int .i64 x.f1, .bool x.f2, .bool x.f3, .bool x.f4, .bool x.f5, .bool x.f6, .int .i64 x.f7, .int .i64 x.f8, .string x.f9, .int .i64 x.f10] = vS x := rfl
theorem vS_0 (x : S) : (vS x)[0]? = some (.int .i64 x.f0) := rfl
theorem vS_1 (x : S) : (vS x)[1]? = some (.int .i64 x.f1) := rfl
theorem vS_2 (x : S) : (vS x)[2]? = some (.bool x.f2) := rfl
theorem vS_3 (x : S) : (vS x)[3]? = some (.bool x.f3) := rfl
theorem vS_4 (x : S) : (vS x)[4]? = some (.bool x.f4) := rfl
theorem vS_5 (x : S) : (vS x)[5]? = some (.bool x.f5) := rfl
theorem vS_6 (x : S) : (vS x)[6]? = some (.bool x.f6) := rfl
theorem vS_7 (x : S) : (vS x)[7]? = some (.int .i64 x.f7) := rfl
theorem vS_8 (x : S) : (vS x)[8]? = some (.int .i64 x.f8) := rfl
theorem vS_9 (x : S) : (vS x)[9]? = some (.string x.f9) := rfl
theorem vS_10 (x : S) : (vS x)[10]? = some (.int .i64 x.f10) := rfl
theorem infoS : (Try.prog.info? 45).map (·.size) = some 11 := by kernel_rfl
@[ext] structure C where
  f0 : Int
  f1 : Int
  f2 : Int
  f3 : Bool
def zC : C := ⟨0, 0, 0, false⟩
def eC (x : C) : List Value := [.int .i64 x.f0, .int .i64 x.f1, .int .i64 x.f2, .bool x.f3]
def vC (x : C) : Array Value := #[.int .i64 x.f0, .int .i64 x.f1, .int .i64 x.f2, .bool x.f3]
def kC : Kd C := Kd.iso (Kd.pair (Kd.int .i64) (Kd.pair (Kd.int .i64) (Kd.pair (Kd.int .i64) (Kd.bool)))) (fun x : C => (x.f0, x.f1, x.f2, x.f3))
theorem kC_open {w : World} {x : C} {cs : List Value} (h : kC.K w x cs) : cs = eC x := by
  obtain ⟨_, _, rfl, rfl, ⟨_, _, rfl, rfl, ⟨_, _, rfl, rfl, rfl⟩⟩⟩ := h
  exact rfl
theorem kC_mk (w : World) (x : C) : kC.K w x (eC x) := ⟨[.int .i64 x.f0], [.int .i64 x.f1, .int .i64 x.f2, .bool x.f3], rfl, rfl, ⟨[.int .i64 x.f1], [.int .i64 x.f2, .bool x.f3], rfl, rfl, ⟨[.int .i64 x.f2], [.bool x.f3], rfl, rfl, rfl⟩⟩⟩
theorem kC_mkM (w : World) (base : Nat) (ok : Nat → Prop) (x : C) : kC.M w base ok x (eC x) := ⟨[.int .i64 x.f0], [.int .i64 x.f1, .int .i64 x.f2, .bool x.f3], rfl, rfl, ⟨[.int .i64 x.f1], [.int .i64 x.f2, .bool x.f3], rfl, rfl, ⟨[.int .i64 x.f2], [.bool x.f3], rfl, rfl, rfl⟩⟩⟩
theorem eC_len (x : C) : (eC x).length = 4 := rfl
theorem vC_size (x : C) : (vC x).size = 4 := rfl
theorem vC_eq (x : C) : (eC x).toArray = vC x := rfl
theorem vC_one (x : C) : AllOne (vC x) := by simp [vC, AllOne, Value.oneCell']
theorem vC_fold (x : C) : #[.int .i64 x.f0, .int .i64 x.f1, .int .i64 x.f2, .bool x.f3] = vC x := rfl
theorem vC_0 (x : C) : (vC x)[0]? = some (.int .i64 x.f0) := rfl
theorem vC_1 (x : C) : (vC x)[1]? = some (.int .i64 x.f1) := rfl
theorem vC_2 (x : C) : (vC x)[2]? = some (.int .i64 x.f2) := rfl
theorem vC_3 (x : C) : (vC x)[3]? = some (.bool x.f3) := rfl
theorem infoC : (Try.prog.info? 63).map (·.size) = some 4 := by kernel_rfl
theorem infoZC : (Try.prog.info? 63).map (fun i => (i.zero, i.size, i.bytes)) = some (some (.agg (vC zC)), kC.sz, 32) := by kernel_rfl
@[ext] structure P where
  f0 : Int
  f1 : Int
def zP : P := ⟨0, 0⟩
def eP (x : P) : List Value := [.int .i64 x.f0, .int .i64 x.f1]
def vP (x : P) : Array Value := #[.int .i64 x.f0, .int .i64 x.f1]
def kP : Kd P := Kd.iso (Kd.pair (Kd.int .i64) (Kd.int .i64)) (fun x : P => (x.f0, x.f1))
theorem kP_open {w : World} {x : P} {cs : List Value} (h : kP.K w x cs) : cs = eP x := by
  obtain ⟨_, _, rfl, rfl, rfl⟩ := h
  exact rfl
theorem kP_mk (w : World) (x : P) : kP.K w x (eP x) := ⟨[.int .i64 x.f0], [.int .i64 x.f1], rfl, rfl, rfl⟩
theorem kP_mkM (w : World) (base : Nat) (ok : Nat → Prop) (x : P) : kP.M w base ok x (eP x) := ⟨[.int .i64 x.f0], [.int .i64 x.f1], rfl, rfl, rfl⟩
theorem eP_len (x : P) : (eP x).length = 2 := rfl
theorem vP_size (x : P) : (vP x).size = 2 := rfl
theorem vP_eq (x : P) : (eP x).toArray = vP x := rfl
theorem vP_one (x : P) : AllOne (vP x) := by simp [vP, AllOne, Value.oneCell']
theorem vP_fold (x : P) : #[.int .i64 x.f0, .int .i64 x.f1] = vP x := rfl
theorem vP_0 (x : P) : (vP x)[0]? = some (.int .i64 x.f0) := rfl
theorem vP_1 (x : P) : (vP x)[1]? = some (.int .i64 x.f1) := rfl
theorem infoP : (Try.prog.info? 85).map (·.size) = some 2 := by kernel_rfl
theorem infoZP : (Try.prog.info? 85).map (fun i => (i.zero, i.size, i.bytes)) = some (some (.agg (vP zP)), kP.sz, 16) := by kernel_rfl
section
variable {w : World} {ρ : Operand → Value} {x y : Operand} {dst : Option Tmp} {t0 : TypeId} {pos : String} {af : Array Edge} {gd : Option (Nat × Bool)}
theorem loadQ (hx : ρ x = .pointer (some ⟨blk (ρ x), 0, none⟩)) (h : isRow w (blk (ρ x))) (hs : (rowAt w (blk (ρ x))).size = 4) : (execOp ρ { dst := dst, op := .load 31 x, type := t0, pos := pos, after := af, guard := gd }).run Try.prog w = .ok (.value (.agg (rowAt w (blk (ρ x))))) w := run_load_op Try.underlying31 rfl infoQ hx h hs
theorem storeQ (hx : ρ x = .pointer (some ⟨blk (ρ x), 0, none⟩)) (hy : ρ y = .agg (aggOf (ρ y))) (h : isRow w (blk (ρ x))) (hs : (rowAt w (blk (ρ x))).size = 4) (hc : (aggOf (ρ y)).size = 4) (h1 : AllOne (aggOf (ρ y))) : (execOp ρ { dst := dst, op := .store 31 x y, type := t0, pos := pos, after := af, guard := gd }).run Try.prog w = .ok .skip (w.setRow (blk (ρ x)) (aggOf (ρ y))) := run_store_op infoQ hx hy h hs hc h1
theorem loadQm (hx : ρ x = .pointer (some ⟨blk (ρ x), offv (ρ x), none⟩)) (h : isRow w (blk (ρ x))) (hq : Mid (rowAt w (blk (ρ x)))) (hs : offv (ρ x) + 4 ≤ (rowAt w (blk (ρ x))).size) : (execOp ρ { dst := dst, op := .load 31 x, type := t0, pos := pos, after := af, guard := gd }).run Try.prog w = .ok (.value (.agg ((rowAt w (blk (ρ x))).extract (offv (ρ x)) (offv (ρ x) + 4)))) w := run_load_mid_op Try.underlying31 rfl infoQ hx h hs
theorem storeQm (hx : ρ x = .pointer (some ⟨blk (ρ x), offv (ρ x), none⟩)) (hy : ρ y = .agg (aggOf (ρ y))) (h : isRow w (blk (ρ x))) (hq : Mid (rowAt w (blk (ρ x)))) (hs : offv (ρ x) + 4 ≤ (rowAt w (blk (ρ x))).size) (hc : (aggOf (ρ y)).size = 4) (h1 : AllOne (aggOf (ρ y))) : (execOp ρ { dst := dst, op := .store 31 x y, type := t0, pos := pos, after := af, guard := gd }).run Try.prog w = .ok .skip (w.setRow (blk (ρ x)) (spl (rowAt w (blk (ρ x))) (offv (ρ x)) (aggOf (ρ y)))) := run_store_mid_op infoQ hx hy h hs hc h1
theorem loadQg (r : Option Nat) (hx : ρ x = .pointer (some ⟨blk (ρ x), 0, none⟩)) (h : isRow w (blk (ρ x))) (hs : (rowAt w (blk (ρ x))).size = 4) : (Oper.semAt r ρ { dst := dst, op := .load 31 x, type := t0, pos := pos, after := af, guard := gd }).run Try.prog w = .ok (.value (.agg (rowAt w (blk (ρ x))))) w := by
  rw [semAt_any r _ _ (by intro c h; cases h)]; exact loadQ hx h hs
theorem storeQg (r : Option Nat) (hx : ρ x = .pointer (some ⟨blk (ρ x), 0, none⟩)) (hy : ρ y = .agg (aggOf (ρ y))) (h : isRow w (blk (ρ x))) (hs : (rowAt w (blk (ρ x))).size = 4) (hc : (aggOf (ρ y)).size = 4) (h1 : AllOne (aggOf (ρ y))) : (Oper.semAt r ρ { dst := dst, op := .store 31 x y, type := t0, pos := pos, after := af, guard := gd }).run Try.prog w = .ok .skip (w.setRow (blk (ρ x)) (aggOf (ρ y))) := by
  rw [semAt_any r _ _ (by intro c h; cases h)]; exact storeQ hx hy h hs hc h1
theorem loadQmg (r : Option Nat) (hx : ρ x = .pointer (some ⟨blk (ρ x), offv (ρ x), none⟩)) (h : isRow w (blk (ρ x))) (hq : Mid (rowAt w (blk (ρ x)))) (hs : offv (ρ x) + 4 ≤ (rowAt w (blk (ρ x))).size) : (Oper.semAt r ρ { dst := dst, op := .load 31 x, type := t0, pos := pos, after := af, guard := gd }).run Try.prog w = .ok (.value (.agg ((rowAt w (blk (ρ x))).extract (offv (ρ x)) (offv (ρ x) + 4)))) w := by
  rw [semAt_any r _ _ (by intro c h; cases h)]; exact loadQm hx h hq hs
theorem storeQmg (r : Option Nat) (hx : ρ x = .pointer (some ⟨blk (ρ x), offv (ρ x), none⟩)) (hy : ρ y = .agg (aggOf (ρ y))) (h : isRow w (blk (ρ x))) (hq : Mid (rowAt w (blk (ρ x)))) (hs : offv (ρ x) + 4 ≤ (rowAt w (blk (ρ x))).size) (hc : (aggOf (ρ y)).size = 4) (h1 : AllOne (aggOf (ρ y))) : (Oper.semAt r ρ { dst := dst, op := .store 31 x y, type := t0, pos := pos, after := af, guard := gd }).run Try.prog w = .ok .skip (w.setRow (blk (ρ x)) (spl (rowAt w (blk (ρ x))) (offv (ρ x)) (aggOf (ρ y)))) := by
  rw [semAt_any r _ _ (by intro c h; cases h)]; exact storeQm hx hy h hq hs hc h1
theorem loadL (hx : ρ x = .pointer (some ⟨blk (ρ x), 0, none⟩)) (h : isRow w (blk (ρ x))) (hs : (rowAt w (blk (ρ x))).size = 7) : (execOp ρ { dst := dst, op := .load 33 x, type := t0, pos := pos, after := af, guard := gd }).run Try.prog w = .ok (.value (.agg (rowAt w (blk (ρ x))))) w := run_load_op Try.underlying33 rfl infoL hx h hs
theorem storeL (hx : ρ x = .pointer (some ⟨blk (ρ x), 0, none⟩)) (hy : ρ y = .agg (aggOf (ρ y))) (h : isRow w (blk (ρ x))) (hs : (rowAt w (blk (ρ x))).size = 7) (hc : (aggOf (ρ y)).size = 7) (h1 : AllOne (aggOf (ρ y))) : (execOp ρ { dst := dst, op := .store 33 x y, type := t0, pos := pos, after := af, guard := gd }).run Try.prog w = .ok .skip (w.setRow (blk (ρ x)) (aggOf (ρ y))) := run_store_op infoL hx hy h hs hc h1
theorem loadLm (hx : ρ x = .pointer (some ⟨blk (ρ x), offv (ρ x), none⟩)) (h : isRow w (blk (ρ x))) (hq : Mid (rowAt w (blk (ρ x)))) (hs : offv (ρ x) + 7 ≤ (rowAt w (blk (ρ x))).size) : (execOp ρ { dst := dst, op := .load 33 x, type := t0, pos := pos, after := af, guard := gd }).run Try.prog w = .ok (.value (.agg ((rowAt w (blk (ρ x))).extract (offv (ρ x)) (offv (ρ x) + 7)))) w := run_load_mid_op Try.underlying33 rfl infoL hx h hs
theorem storeLm (hx : ρ x = .pointer (some ⟨blk (ρ x), offv (ρ x), none⟩)) (hy : ρ y = .agg (aggOf (ρ y))) (h : isRow w (blk (ρ x))) (hq : Mid (rowAt w (blk (ρ x)))) (hs : offv (ρ x) + 7 ≤ (rowAt w (blk (ρ x))).size) (hc : (aggOf (ρ y)).size = 7) (h1 : AllOne (aggOf (ρ y))) : (execOp ρ { dst := dst, op := .store 33 x y, type := t0, pos := pos, after := af, guard := gd }).run Try.prog w = .ok .skip (w.setRow (blk (ρ x)) (spl (rowAt w (blk (ρ x))) (offv (ρ x)) (aggOf (ρ y)))) := run_store_mid_op infoL hx hy h hs hc h1
theorem loadLg (r : Option Nat) (hx : ρ x = .pointer (some ⟨blk (ρ x), 0, none⟩)) (h : isRow w (blk (ρ x))) (hs : (rowAt w (blk (ρ x))).size = 7) : (Oper.semAt r ρ { dst := dst, op := .load 33 x, type := t0, pos := pos, after := af, guard := gd }).run Try.prog w = .ok (.value (.agg (rowAt w (blk (ρ x))))) w := by
  rw [semAt_any r _ _ (by intro c h; cases h)]; exact loadL hx h hs
theorem storeLg (r : Option Nat) (hx : ρ x = .pointer (some ⟨blk (ρ x), 0, none⟩)) (hy : ρ y = .agg (aggOf (ρ y))) (h : isRow w (blk (ρ x))) (hs : (rowAt w (blk (ρ x))).size = 7) (hc : (aggOf (ρ y)).size = 7) (h1 : AllOne (aggOf (ρ y))) : (Oper.semAt r ρ { dst := dst, op := .store 33 x y, type := t0, pos := pos, after := af, guard := gd }).run Try.prog w = .ok .skip (w.setRow (blk (ρ x)) (aggOf (ρ y))) := by
  rw [semAt_any r _ _ (by intro c h; cases h)]; exact storeL hx hy h hs hc h1
theorem loadLmg (r : Option Nat) (hx : ρ x = .pointer (some ⟨blk (ρ x), offv (ρ x), none⟩)) (h : isRow w (blk (ρ x))) (hq : Mid (rowAt w (blk (ρ x)))) (hs : offv (ρ x) + 7 ≤ (rowAt w (blk (ρ x))).size) : (Oper.semAt r ρ { dst := dst, op := .load 33 x, type := t0, pos := pos, after := af, guard := gd }).run Try.prog w = .ok (.value (.agg ((rowAt w (blk (ρ x))).extract (offv (ρ x)) (offv (ρ x) + 7)))) w := by
  rw [semAt_any r _ _ (by intro c h; cases h)]; exact loadLm hx h hq hs
theorem storeLmg (r : Option Nat) (hx : ρ x = .pointer (some ⟨blk (ρ x), offv (ρ x), none⟩)) (hy : ρ y = .agg (aggOf (ρ y))) (h : isRow w (blk (ρ x))) (hq : Mid (rowAt w (blk (ρ x)))) (hs : offv (ρ x) + 7 ≤ (rowAt w (blk (ρ x))).size) (hc : (aggOf (ρ y)).size = 7) (h1 : AllOne (aggOf (ρ y))) : (Oper.semAt r ρ { dst := dst, op := .store 33 x y, type := t0, pos := pos, after := af, guard := gd }).run Try.prog w = .ok .skip (w.setRow (blk (ρ x)) (spl (rowAt w (blk (ρ x))) (offv (ρ x)) (aggOf (ρ y)))) := by
  rw [semAt_any r _ _ (by intro c h; cases h)]; exact storeLm hx hy h hq hs hc h1
theorem loadE (hx : ρ x = .pointer (some ⟨blk (ρ x), 0, none⟩)) (h : isRow w (blk (ρ x))) (hs : (rowAt w (blk (ρ x))).size = 8) : (execOp ρ { dst := dst, op := .load 35 x, type := t0, pos := pos, after := af, guard := gd }).run Try.prog w = .ok (.value (.agg (rowAt w (blk (ρ x))))) w := run_load_op Try.underlying35 rfl infoE hx h hs
theorem storeE (hx : ρ x = .pointer (some ⟨blk (ρ x), 0, none⟩)) (hy : ρ y = .agg (aggOf (ρ y))) (h : isRow w (blk (ρ x))) (hs : (rowAt w (blk (ρ x))).size = 8) (hc : (aggOf (ρ y)).size = 8) (h1 : AllOne (aggOf (ρ y))) : (execOp ρ { dst := dst, op := .store 35 x y, type := t0, pos := pos, after := af, guard := gd }).run Try.prog w = .ok .skip (w.setRow (blk (ρ x)) (aggOf (ρ y))) := run_store_op infoE hx hy h hs hc h1
theorem loadEm (hx : ρ x = .pointer (some ⟨blk (ρ x), offv (ρ x), none⟩)) (h : isRow w (blk (ρ x))) (hq : Mid (rowAt w (blk (ρ x)))) (hs : offv (ρ x) + 8 ≤ (rowAt w (blk (ρ x))).size) : (execOp ρ { dst := dst, op := .load 35 x, type := t0, pos := pos, after := af, guard := gd }).run Try.prog w = .ok (.value (.agg ((rowAt w (blk (ρ x))).extract (offv (ρ x)) (offv (ρ x) + 8)))) w := run_load_mid_op Try.underlying35 rfl infoE hx h hs
theorem storeEm (hx : ρ x = .pointer (some ⟨blk (ρ x), offv (ρ x), none⟩)) (hy : ρ y = .agg (aggOf (ρ y))) (h : isRow w (blk (ρ x))) (hq : Mid (rowAt w (blk (ρ x)))) (hs : offv (ρ x) + 8 ≤ (rowAt w (blk (ρ x))).size) (hc : (aggOf (ρ y)).size = 8) (h1 : AllOne (aggOf (ρ y))) : (execOp ρ { dst := dst, op := .store 35 x y, type := t0, pos := pos, after := af, guard := gd }).run Try.prog w = .ok .skip (w.setRow (blk (ρ x)) (spl (rowAt w (blk (ρ x))) (offv (ρ x)) (aggOf (ρ y)))) := run_store_mid_op infoE hx hy h hs hc h1
theorem loadEg (r : Option Nat) (hx : ρ x = .pointer (some ⟨blk (ρ x), 0, none⟩)) (h : isRow w (blk (ρ x))) (hs : (rowAt w (blk (ρ x))).size = 8) : (Oper.semAt r ρ { dst := dst, op := .load 35 x, type := t0, pos := pos, after := af, guard := gd }).run Try.prog w = .ok (.value (.agg (rowAt w (blk (ρ x))))) w := by
  rw [semAt_any r _ _ (by intro c h; cases h)]; exact loadE hx h hs
theorem storeEg (r : Option Nat) (hx : ρ x = .pointer (some ⟨blk (ρ x), 0, none⟩)) (hy : ρ y = .agg (aggOf (ρ y))) (h : isRow w (blk (ρ x))) (hs : (rowAt w (blk (ρ x))).size = 8) (hc : (aggOf (ρ y)).size = 8) (h1 : AllOne (aggOf (ρ y))) : (Oper.semAt r ρ { dst := dst, op := .store 35 x y, type := t0, pos := pos, after := af, guard := gd }).run Try.prog w = .ok .skip (w.setRow (blk (ρ x)) (aggOf (ρ y))) := by
  rw [semAt_any r _ _ (by intro c h; cases h)]; exact storeE hx hy h hs hc h1
theorem loadEmg (r : Option Nat) (hx : ρ x = .pointer (some ⟨blk (ρ x), offv (ρ x), none⟩)) (h : isRow w (blk (ρ x))) (hq : Mid (rowAt w (blk (ρ x)))) (hs : offv (ρ x) + 8 ≤ (rowAt w (blk (ρ x))).size) : (Oper.semAt r ρ { dst := dst, op := .load 35 x, type := t0, pos := pos, after := af, guard := gd }).run Try.prog w = .ok (.value (.agg ((rowAt w (blk (ρ x))).extract (offv (ρ x)) (offv (ρ x) + 8)))) w := by
  rw [semAt_any r _ _ (by intro c h; cases h)]; exact loadEm hx h hq hs
theorem storeEmg (r : Option Nat) (hx : ρ x = .pointer (some ⟨blk (ρ x), offv (ρ x), none⟩)) (hy : ρ y = .agg (aggOf (ρ y))) (h : isRow w (blk (ρ x))) (hq : Mid (rowAt w (blk (ρ x)))) (hs : offv (ρ x) + 8 ≤ (rowAt w (blk (ρ x))).size) (hc : (aggOf (ρ y)).size = 8) (h1 : AllOne (aggOf (ρ y))) : (Oper.semAt r ρ { dst := dst, op := .store 35 x y, type := t0, pos := pos, after := af, guard := gd }).run Try.prog w = .ok .skip (w.setRow (blk (ρ x)) (spl (rowAt w (blk (ρ x))) (offv (ρ x)) (aggOf (ρ y)))) := by
  rw [semAt_any r _ _ (by intro c h; cases h)]; exact storeEm hx hy h hq hs hc h1
theorem loadS (hx : ρ x = .pointer (some ⟨blk (ρ x), 0, none⟩)) (h : isRow w (blk (ρ x))) (hs : (rowAt w (blk (ρ x))).size = 11) : (execOp ρ { dst := dst, op := .load 45 x, type := t0, pos := pos, after := af, guard := gd }).run Try.prog w = .ok (.value (.agg (rowAt w (blk (ρ x))))) w := run_load_op Try.underlying45 rfl infoS hx h hs
theorem storeS (hx : ρ x = .pointer (some ⟨blk (ρ x), 0, none⟩)) (hy : ρ y = .agg (aggOf (ρ y))) (h : isRow w (blk (ρ x))) (hs : (rowAt w (blk (ρ x))).size = 11) (hc : (aggOf (ρ y)).size = 11) (h1 : AllOne (aggOf (ρ y))) : (execOp ρ { dst := dst, op := .store 45 x y, type := t0, pos := pos, after := af, guard := gd }).run Try.prog w = .ok .skip (w.setRow (blk (ρ x)) (aggOf (ρ y))) := run_store_op infoS hx hy h hs hc h1
theorem loadSm (hx : ρ x = .pointer (some ⟨blk (ρ x), offv (ρ x), none⟩)) (h : isRow w (blk (ρ x))) (hq : Mid (rowAt w (blk (ρ x)))) (hs : offv (ρ x) + 11 ≤ (rowAt w (blk (ρ x))).size) : (execOp ρ { dst := dst, op := .load 45 x, type := t0, pos := pos, after := af, guard := gd }).run Try.prog w = .ok (.value (.agg ((rowAt w (blk (ρ x))).extract (offv (ρ x)) (offv (ρ x) + 11)))) w := run_load_mid_op Try.underlying45 rfl infoS hx h hs
theorem storeSm (hx : ρ x = .pointer (some ⟨blk (ρ x), offv (ρ x), none⟩)) (hy : ρ y = .agg (aggOf (ρ y))) (h : isRow w (blk (ρ x))) (hq : Mid (rowAt w (blk (ρ x)))) (hs : offv (ρ x) + 11 ≤ (rowAt w (blk (ρ x))).size) (hc : (aggOf (ρ y)).size = 11) (h1 : AllOne (aggOf (ρ y))) : (execOp ρ { dst := dst, op := .store 45 x y, type := t0, pos := pos, after := af, guard := gd }).run Try.prog w = .ok .skip (w.setRow (blk (ρ x)) (spl (rowAt w (blk (ρ x))) (offv (ρ x)) (aggOf (ρ y)))) := run_store_mid_op infoS hx hy h hs hc h1
theorem loadSg (r : Option Nat) (hx : ρ x = .pointer (some ⟨blk (ρ x), 0, none⟩)) (h : isRow w (blk (ρ x))) (hs : (rowAt w (blk (ρ x))).size = 11) : (Oper.semAt r ρ { dst := dst, op := .load 45 x, type := t0, pos := pos, after := af, guard := gd }).run Try.prog w = .ok (.value (.agg (rowAt w (blk (ρ x))))) w := by
  rw [semAt_any r _ _ (by intro c h; cases h)]; exact loadS hx h hs
theorem storeSg (r : Option Nat) (hx : ρ x = .pointer (some ⟨blk (ρ x), 0, none⟩)) (hy : ρ y = .agg (aggOf (ρ y))) (h : isRow w (blk (ρ x))) (hs : (rowAt w (blk (ρ x))).size = 11) (hc : (aggOf (ρ y)).size = 11) (h1 : AllOne (aggOf (ρ y))) : (Oper.semAt r ρ { dst := dst, op := .store 45 x y, type := t0, pos := pos, after := af, guard := gd }).run Try.prog w = .ok .skip (w.setRow (blk (ρ x)) (aggOf (ρ y))) := by
  rw [semAt_any r _ _ (by intro c h; cases h)]; exact storeS hx hy h hs hc h1
theorem loadSmg (r : Option Nat) (hx : ρ x = .pointer (some ⟨blk (ρ x), offv (ρ x), none⟩)) (h : isRow w (blk (ρ x))) (hq : Mid (rowAt w (blk (ρ x)))) (hs : offv (ρ x) + 11 ≤ (rowAt w (blk (ρ x))).size) : (Oper.semAt r ρ { dst := dst, op := .load 45 x, type := t0, pos := pos, after := af, guard := gd }).run Try.prog w = .ok (.value (.agg ((rowAt w (blk (ρ x))).extract (offv (ρ x)) (offv (ρ x) + 11)))) w := by
  rw [semAt_any r _ _ (by intro c h; cases h)]; exact loadSm hx h hq hs
theorem storeSmg (r : Option Nat) (hx : ρ x = .pointer (some ⟨blk (ρ x), offv (ρ x), none⟩)) (hy : ρ y = .agg (aggOf (ρ y))) (h : isRow w (blk (ρ x))) (hq : Mid (rowAt w (blk (ρ x)))) (hs : offv (ρ x) + 11 ≤ (rowAt w (blk (ρ x))).size) (hc : (aggOf (ρ y)).size = 11) (h1 : AllOne (aggOf (ρ y))) : (Oper.semAt r ρ { dst := dst, op := .store 45 x y, type := t0, pos := pos, after := af, guard := gd }).run Try.prog w = .ok .skip (w.setRow (blk (ρ x)) (spl (rowAt w (blk (ρ x))) (offv (ρ x)) (aggOf (ρ y)))) := by
  rw [semAt_any r _ _ (by intro c h; cases h)]; exact storeSm hx hy h hq hs hc h1
theorem loadC (hx : ρ x = .pointer (some ⟨blk (ρ x), 0, none⟩)) (h : isRow w (blk (ρ x))) (hs : (rowAt w (blk (ρ x))).size = 4) : (execOp ρ { dst := dst, op := .load 63 x, type := t0, pos := pos, after := af, guard := gd }).run Try.prog w = .ok (.value (.agg (rowAt w (blk (ρ x))))) w := run_load_op Try.underlying63 rfl infoC hx h hs
theorem storeC (hx : ρ x = .pointer (some ⟨blk (ρ x), 0, none⟩)) (hy : ρ y = .agg (aggOf (ρ y))) (h : isRow w (blk (ρ x))) (hs : (rowAt w (blk (ρ x))).size = 4) (hc : (aggOf (ρ y)).size = 4) (h1 : AllOne (aggOf (ρ y))) : (execOp ρ { dst := dst, op := .store 63 x y, type := t0, pos := pos, after := af, guard := gd }).run Try.prog w = .ok .skip (w.setRow (blk (ρ x)) (aggOf (ρ y))) := run_store_op infoC hx hy h hs hc h1
theorem loadCm (hx : ρ x = .pointer (some ⟨blk (ρ x), offv (ρ x), none⟩)) (h : isRow w (blk (ρ x))) (hq : Mid (rowAt w (blk (ρ x)))) (hs : offv (ρ x) + 4 ≤ (rowAt w (blk (ρ x))).size) : (execOp ρ { dst := dst, op := .load 63 x, type := t0, pos := pos, after := af, guard := gd }).run Try.prog w = .ok (.value (.agg ((rowAt w (blk (ρ x))).extract (offv (ρ x)) (offv (ρ x) + 4)))) w := run_load_mid_op Try.underlying63 rfl infoC hx h hs
theorem storeCm (hx : ρ x = .pointer (some ⟨blk (ρ x), offv (ρ x), none⟩)) (hy : ρ y = .agg (aggOf (ρ y))) (h : isRow w (blk (ρ x))) (hq : Mid (rowAt w (blk (ρ x)))) (hs : offv (ρ x) + 4 ≤ (rowAt w (blk (ρ x))).size) (hc : (aggOf (ρ y)).size = 4) (h1 : AllOne (aggOf (ρ y))) : (execOp ρ { dst := dst, op := .store 63 x y, type := t0, pos := pos, after := af, guard := gd }).run Try.prog w = .ok .skip (w.setRow (blk (ρ x)) (spl (rowAt w (blk (ρ x))) (offv (ρ x)) (aggOf (ρ y)))) := run_store_mid_op infoC hx hy h hs hc h1
theorem loadCg (r : Option Nat) (hx : ρ x = .pointer (some ⟨blk (ρ x), 0, none⟩)) (h : isRow w (blk (ρ x))) (hs : (rowAt w (blk (ρ x))).size = 4) : (Oper.semAt r ρ { dst := dst, op := .load 63 x, type := t0, pos := pos, after := af, guard := gd }).run Try.prog w = .ok (.value (.agg (rowAt w (blk (ρ x))))) w := by
  rw [semAt_any r _ _ (by intro c h; cases h)]; exact loadC hx h hs
theorem storeCg (r : Option Nat) (hx : ρ x = .pointer (some ⟨blk (ρ x), 0, none⟩)) (hy : ρ y = .agg (aggOf (ρ y))) (h : isRow w (blk (ρ x))) (hs : (rowAt w (blk (ρ x))).size = 4) (hc : (aggOf (ρ y)).size = 4) (h1 : AllOne (aggOf (ρ y))) : (Oper.semAt r ρ { dst := dst, op := .store 63 x y, type := t0, pos := pos, after := af, guard := gd }).run Try.prog w = .ok .skip (w.setRow (blk (ρ x)) (aggOf (ρ y))) := by
  rw [semAt_any r _ _ (by intro c h; cases h)]; exact storeC hx hy h hs hc h1
theorem loadCmg (r : Option Nat) (hx : ρ x = .pointer (some ⟨blk (ρ x), offv (ρ x), none⟩)) (h : isRow w (blk (ρ x))) (hq : Mid (rowAt w (blk (ρ x)))) (hs : offv (ρ x) + 4 ≤ (rowAt w (blk (ρ x))).size) : (Oper.semAt r ρ { dst := dst, op := .load 63 x, type := t0, pos := pos, after := af, guard := gd }).run Try.prog w = .ok (.value (.agg ((rowAt w (blk (ρ x))).extract (offv (ρ x)) (offv (ρ x) + 4)))) w := by
  rw [semAt_any r _ _ (by intro c h; cases h)]; exact loadCm hx h hq hs
theorem storeCmg (r : Option Nat) (hx : ρ x = .pointer (some ⟨blk (ρ x), offv (ρ x), none⟩)) (hy : ρ y = .agg (aggOf (ρ y))) (h : isRow w (blk (ρ x))) (hq : Mid (rowAt w (blk (ρ x)))) (hs : offv (ρ x) + 4 ≤ (rowAt w (blk (ρ x))).size) (hc : (aggOf (ρ y)).size = 4) (h1 : AllOne (aggOf (ρ y))) : (Oper.semAt r ρ { dst := dst, op := .store 63 x y, type := t0, pos := pos, after := af, guard := gd }).run Try.prog w = .ok .skip (w.setRow (blk (ρ x)) (spl (rowAt w (blk (ρ x))) (offv (ρ x)) (aggOf (ρ y)))) := by
  rw [semAt_any r _ _ (by intro c h; cases h)]; exact storeCm hx hy h hq hs hc h1
theorem loadP (hx : ρ x = .pointer (some ⟨blk (ρ x), 0, none⟩)) (h : isRow w (blk (ρ x))) (hs : (rowAt w (blk (ρ x))).size = 2) : (execOp ρ { dst := dst, op := .load 85 x, type := t0, pos := pos, after := af, guard := gd }).run Try.prog w = .ok (.value (.agg (rowAt w (blk (ρ x))))) w := run_load_op Try.underlying85 rfl infoP hx h hs
theorem storeP (hx : ρ x = .pointer (some ⟨blk (ρ x), 0, none⟩)) (hy : ρ y = .agg (aggOf (ρ y))) (h : isRow w (blk (ρ x))) (hs : (rowAt w (blk (ρ x))).size = 2) (hc : (aggOf (ρ y)).size = 2) (h1 : AllOne (aggOf (ρ y))) : (execOp ρ { dst := dst, op := .store 85 x y, type := t0, pos := pos, after := af, guard := gd }).run Try.prog w = .ok .skip (w.setRow (blk (ρ x)) (aggOf (ρ y))) := run_store_op infoP hx hy h hs hc h1
theorem loadPm (hx : ρ x = .pointer (some ⟨blk (ρ x), offv (ρ x), none⟩)) (h : isRow w (blk (ρ x))) (hq : Mid (rowAt w (blk (ρ x)))) (hs : offv (ρ x) + 2 ≤ (rowAt w (blk (ρ x))).size) : (execOp ρ { dst := dst, op := .load 85 x, type := t0, pos := pos, after := af, guard := gd }).run Try.prog w = .ok (.value (.agg ((rowAt w (blk (ρ x))).extract (offv (ρ x)) (offv (ρ x) + 2)))) w := run_load_mid_op Try.underlying85 rfl infoP hx h hs
theorem storePm (hx : ρ x = .pointer (some ⟨blk (ρ x), offv (ρ x), none⟩)) (hy : ρ y = .agg (aggOf (ρ y))) (h : isRow w (blk (ρ x))) (hq : Mid (rowAt w (blk (ρ x)))) (hs : offv (ρ x) + 2 ≤ (rowAt w (blk (ρ x))).size) (hc : (aggOf (ρ y)).size = 2) (h1 : AllOne (aggOf (ρ y))) : (execOp ρ { dst := dst, op := .store 85 x y, type := t0, pos := pos, after := af, guard := gd }).run Try.prog w = .ok .skip (w.setRow (blk (ρ x)) (spl (rowAt w (blk (ρ x))) (offv (ρ x)) (aggOf (ρ y)))) := run_store_mid_op infoP hx hy h hs hc h1
theorem loadPg (r : Option Nat) (hx : ρ x = .pointer (some ⟨blk (ρ x), 0, none⟩)) (h : isRow w (blk (ρ x))) (hs : (rowAt w (blk (ρ x))).size = 2) : (Oper.semAt r ρ { dst := dst, op := .load 85 x, type := t0, pos := pos, after := af, guard := gd }).run Try.prog w = .ok (.value (.agg (rowAt w (blk (ρ x))))) w := by
  rw [semAt_any r _ _ (by intro c h; cases h)]; exact loadP hx h hs
theorem storePg (r : Option Nat) (hx : ρ x = .pointer (some ⟨blk (ρ x), 0, none⟩)) (hy : ρ y = .agg (aggOf (ρ y))) (h : isRow w (blk (ρ x))) (hs : (rowAt w (blk (ρ x))).size = 2) (hc : (aggOf (ρ y)).size = 2) (h1 : AllOne (aggOf (ρ y))) : (Oper.semAt r ρ { dst := dst, op := .store 85 x y, type := t0, pos := pos, after := af, guard := gd }).run Try.prog w = .ok .skip (w.setRow (blk (ρ x)) (aggOf (ρ y))) := by
  rw [semAt_any r _ _ (by intro c h; cases h)]; exact storeP hx hy h hs hc h1
theorem loadPmg (r : Option Nat) (hx : ρ x = .pointer (some ⟨blk (ρ x), offv (ρ x), none⟩)) (h : isRow w (blk (ρ x))) (hq : Mid (rowAt w (blk (ρ x)))) (hs : offv (ρ x) + 2 ≤ (rowAt w (blk (ρ x))).size) : (Oper.semAt r ρ { dst := dst, op := .load 85 x, type := t0, pos := pos, after := af, guard := gd }).run Try.prog w = .ok (.value (.agg ((rowAt w (blk (ρ x))).extract (offv (ρ x)) (offv (ρ x) + 2)))) w := by
  rw [semAt_any r _ _ (by intro c h; cases h)]; exact loadPm hx h hq hs
theorem storePmg (r : Option Nat) (hx : ρ x = .pointer (some ⟨blk (ρ x), offv (ρ x), none⟩)) (hy : ρ y = .agg (aggOf (ρ y))) (h : isRow w (blk (ρ x))) (hq : Mid (rowAt w (blk (ρ x)))) (hs : offv (ρ x) + 2 ≤ (rowAt w (blk (ρ x))).size) (hc : (aggOf (ρ y)).size = 2) (h1 : AllOne (aggOf (ρ y))) : (Oper.semAt r ρ { dst := dst, op := .store 85 x y, type := t0, pos := pos, after := af, guard := gd }).run Try.prog w = .ok .skip (w.setRow (blk (ρ x)) (spl (rowAt w (blk (ρ x))) (offv (ρ x)) (aggOf (ρ y)))) := by
  rw [semAt_any r _ _ (by intro c h; cases h)]; exact storePm hx hy h hq hs hc h1
end
abbrev E.l (x : E) : L := ⟨x.f0, x.f1, x.f2, x.f3, x.f4, x.f5, x.f6⟩
abbrev E.q (x : E) : Q := ⟨x.f0, x.f1, x.f2, x.f3⟩
theorem row_alloc {w : World} {g : Nat} {cs : Array Value} {o : Obj} (h : Row w g cs) : Row (w.alloc o) g cs := ⟨isRow_alloc h.1, (rowAt_alloc h.1).trans h.2⟩
/-- what a slice reads of a row with a tail -/
theorem ft_kd {α : Type} {k : Kd α} {enc : α → List Value} {m : Nat} (hz : k.sz = m) (he : ∀ x, (enc x).length = m) (hK : ∀ w x, k.K w x (enc x)) {w : World} {g : Nat} {xs : List α} {T : List Value} (h : Row w g (FT enc xs T)) (hn : xs.length ≤ 9223372036854775807) : Kd.C k w (some ⟨g, 0, none⟩) xs.length xs :=
  ⟨rfl, hn, fun _ => ⟨⟨g, 0, none⟩, rfl, fun j p hp => ⟨enc p, (he p).trans hz.symm, hK w p, fun i u hu => by
    have hi : i < m := by rw [← he p]; exact (List.getElem?_eq_some_iff.1 hu).1
    show w.cell? ((⟨g, 0, none⟩ : Addr).add (j * k.sz + i)) = _
    rw [hz, addr_at, cell_row h.1, h.2, FT_at he hp hi]
    exact hu⟩⟩⟩
/-- what has been appended lies as a row with a tail -/
theorem r_ft {α : Type} {k : Kd α} {enc : α → List Value} {m : Nat} {e : TypeId} (hz : k.sz = m) (he : ∀ x, (enc x).length = m) (ho : ∀ {w x cs}, k.K w x cs → cs = enc x) {W : World} {base : Nat} {v : Value} {xs : List α} (h : k.R e W base (fun _ => True) v xs) (hn : 0 < xs.length) :
    ∃ ob c T, v = .slice (some ⟨ob, 0, none⟩) xs.length c ∧ xs.length ≤ c ∧ base ≤ ob ∧ Row W ob (FT enc xs T) := by
  obtain ⟨A1, c1, he1, hc1, hC1⟩ := Kd.R_reads h
  obtain ⟨-, inner, hown, hreps⟩ := h
  have hparts : ∃ ob c, v = .slice (some ⟨ob, 0, none⟩) xs.length c ∧ xs.length ≤ c ∧ base ≤ ob ∧ isRow W ob := by
    rcases hown.2 with ⟨rfl, h0⟩ | ⟨g, cap, cur, rfl, hg, hh, hcap, hmax, hcs, htk⟩
    · omega
    · exact ⟨g, cap, rfl, hcap, hg, (Row.of (t := e) hh).1⟩
  obtain ⟨ob, c, rfl, hc, hb, o1⟩ := hparts
  obtain ⟨rfl, rfl⟩ : some ⟨ob, 0, none⟩ = A1 ∧ c = c1 := by injection he1 with a1 a2 a3; exact ⟨a1, a3⟩
  refine ⟨ob, c, (rowAt W ob).toList.drop (xs.length * m), rfl, hc, hb, o1, ?_⟩
  apply Array.ext'
  unfold FT
  show (rowAt W ob).toList = fl enc xs ++ _
  refine (List.take_append_drop (xs.length * m) (rowAt W ob).toList).symm.trans ?_
  have key : (rowAt W ob).toList.take (xs.length * m) = fl enc xs := by
    apply List.ext_getElem?
    intro j
    by_cases hj : j < xs.length * m
    · rw [List.getElem?_take_of_lt hj]
      obtain ⟨ad, e, hq⟩ := hC1.2.2 (by omega)
      obtain rfl := Option.some.inj e
      have hm : 0 < m := by rcases Nat.eq_zero_or_pos m with h | h; · subst h; omega
                            · exact h
      have hk : j / m < xs.length := Nat.div_lt_of_lt_mul (by rw [Nat.mul_comm]; exact hj)
      obtain ⟨c1, hc1, hK, hcell⟩ := hq (j / m) xs[j / m] (List.getElem?_eq_getElem hk)
      have hc4 := ho hK
      have hi : j % m < m := Nat.mod_lt _ hm
      have hdm : j / m * m + j % m = j := by rw [Nat.mul_comm]; exact Nat.div_add_mod j m
      have e1 := FT_at he (T := []) (List.getElem?_eq_getElem hk) hi
      rw [hdm] at e1
      unfold FT at e1
      rw [List.append_nil, List.getElem?_toArray] at e1
      rw [e1, ← hc4]
      obtain ⟨u, hu⟩ : ∃ u, c1[j % m]? = some u := ⟨_, List.getElem?_eq_getElem (by rw [hc4, he]; exact hi)⟩
      have h2 : W.cell? ((⟨ob, 0, none⟩ : Addr).add (j / m * k.sz + j % m)) = _ := hcell _ _ hu
      rw [hz, hdm, addr_at, cell_row o1, ← Array.getElem?_toList] at h2
      rw [h2, hu]
    · rw [List.getElem?_eq_none (by rw [List.length_take]; omega), List.getElem?_eq_none (by rw [fl_length he]; omega)]
  rw [key]
end Go.Proofs.Ytbglgblngfbhbaa.Bk

namespace Go.Proofs.Ytbglgblngfbhbaa.Bk
open Go.RowKit Go.Shelf Go.Proofs.Ytbglgblngfbhbaa.IAll Go.Proofs.YtbglgblngfbhbaaW.PrintWords Go.Proofs.YtbglgblngfbhbaaW.PrintLast Go.Proofs.YtbglgblngfbhbaaW.PrintMore
set_option linter.unusedVariables false
set_option linter.unusedSectionVars false
set_option linter.unusedSimpArgs false
attribute [local go_sem] Oper.semAt_some cell_row frozen_row isRow_setCell_eq rowAt_setCell_same rowAt_setCell_other isRow_alloc_eq rowAt_alloc rowAt_new rowAt_new' isRow_setRow_eq rowAt_setRow_same rowAt_setRow_other isRow_drew rowAt_drew size_setRow_ size_drew_ blk_ptr aggOf_agg offv_ptr below_alloc_e below_setCell_e below_setRow_e below_refl_e below_drew_r isRow_drewN rowAt_drewN below_drewN_e le_add_r asideP_alloc_e asideP_setCell_e asideP_setRow_e asideP_drew_e asideP_drewN_e asideP_refl_e allOne_nil allOne_cons Value.oneCell' addr_at mid_FT vE_size vL_size vQ_size vC_size vS_size vP_size vE_one vL_one vQ_one vC_one vS_one vP_one 
attribute [local go_sem ↓] loadE storeE loadEm storeEm loadEg storeEg loadEmg storeEmg loadL storeL loadLm storeLm loadQ storeQ loadQm storeQm loadC storeC loadCg storeCg loadS storeS loadSm loadP storeP loadPm loadPg storePg 
set_option maxRecDepth 100000

def hasB (first : Int) (n : Nat) (id : Int) : Bool := decide (first ≤ id) && decide (id - first < n)
def Wid (x : Int) : Prop := -9223372036854775808 ≤ x ∧ x ≤ 9223372036854775807
theorem wrap_sub {first id : Int} (h0 : 0 ≤ first) (h1 : first ≤ id) (hi : Wid id) : wrap64 (id - first) = id - first := IntWalk.wrap64_in _ (by unfold Wid at hi; omega)
set_option maxHeartbeats 1000000 in
theorem Has_c (g el c n : Nat) (first id : Int) (w : World) (hr : Row w g #[.int .i64 first, .slice (some ⟨el, 0, none⟩) n c]) (h0 : 0 ≤ first) (hi : Wid id) :
    Calls Try.prog 14 #[.pointer (some ⟨g, 0, none⟩), .int .i64 id] w fun e w' => e = .returned (.bool (hasB first n id)) ∧ Below w.heap.size w w' := by
  obtain ⟨hg, hg'⟩ := hr
  unfold hasB
  by_cases h1 : first ≤ id
  · have c1 : decide (first ≤ id) = true := decide_eq_true h1
    have e1 := wrap_sub h0 h1 hi
    clear h1 h0 hi
    rw [c1, Bool.true_and, ← e1]
    clear e1
    go_enter Try.func14, Try.ntmps14
    go_wp2
    repeat (go_quiet (fail); try go_wp2)
    go_ret
    exact ⟨rfl, by go_simp⟩
  · have c1 : decide (first ≤ id) = false := decide_eq_false h1
    clear h1 h0 hi
    rw [c1, Bool.false_and]
    go_enter Try.func14, Try.ntmps14
    go_wp2
    repeat (go_quiet (fail); try go_wp2)
    go_ret
    exact ⟨rfl, by go_simp⟩
theorem hasB_at {first : Int} {n k : Nat} (h : k < n) : hasB first n (first + k) = true := by
  unfold hasB
  simp
  omega
theorem hasB_no {first : Int} {n : Nat} {id : Int} (h : ∀ k : Nat, k < n → id ≠ first + k) : hasB first n id = false := by
  unfold hasB
  by_cases h1 : first ≤ id
  · have := h (id - first).toNat
    simp [h1]
    omega
  · simp [h1]
theorem hasB_yes {first : Int} {n : Nat} {id : Int} (h : hasB first n id = true) : ∃ k : Nat, k < n ∧ id = first + k := by
  unfold hasB at h
  simp at h
  exact ⟨(id - first).toNat, by omega, by omega⟩
theorem res_E {fn : Func} {p u : Tmp} {cs : Array Value} {g : Nat} {w : World} (h : fn.results = #[.cell p 35, .tmp u]) (tmps : Array Value) (hp : tmps.getD p undef = .pointer (some ⟨g, 0, none⟩)) (hg : Row w g cs) (hs : cs.size = 8) {v : Value} (hv : tmps.getD u undef = v) : (results fn tmps).run Try.prog w = .ok (.tuple #[.agg cs, v]) w := by
  obtain ⟨t, ht⟩ := hg.box
  rw [results_cell_tmp h tmps Try.prog w, hp]
  simp only [asAddr, Sem.run_pure, Result.andThen_ok, run_loadVar_row w g t 35 cs (0, 0) _ ht Try.underlying35 rfl (by rw [hs]; exact infoE), hv]
set_option maxHeartbeats 1000000 in
theorem Get_hit (g el c n : Nat) (first : Int) (d : List E) (T : List Value) (k : Nat) (x : E) (w : World) (hn : d.length = n) (hr : Row w g #[.int .i64 first, .slice (some ⟨el, 0, none⟩) n c]) (hl : Row w el (FT eE d T)) (hk : d[k]? = some x) (h0 : 0 ≤ first) (hi : Wid (first + k)) :
    Calls Try.prog 12 #[.pointer (some ⟨g, 0, none⟩), .int .i64 (first + k)] w fun e w' => e = .returned (.tuple #[.agg (vE x), .int .i64 0]) ∧ Below w.heap.size w w' := by
  have hlt : k < n := by rw [← hn]; exact (List.getElem?_eq_some_iff.1 hk).1
  have HH := Lib.hid (fun (W : World) (h : Row W g #[.int .i64 first, .slice (some ⟨el, 0, none⟩) n c]) => Has_c g el c n first (first + k) W h h0 hi)
  rw [hasB_at hlt] at HH
  have e1 : IntKind.i64.wrap (first + k - first) = k := (IntWalk.i64_left _).trans ((wrap_sub (first := first) (id := first + k) h0 (by omega) hi).trans (by omega))
  have hx : (FT eE d T).extract (k * 8) (k * 8 + 8) = vE x := FT_ext eE_len hk (Nat.le_refl _)
  have hs : k * 8 + 8 ≤ (FT eE d T).size := by rw [FT_size eE_len]; omega
  have k0 : (0 : Int) ≤ k := by omega
  have k1 : (k : Int) < n := by omega
  have lg := hr.lt
  have ll := hl.lt
  obtain ⟨hg, hg'⟩ := hr
  obtain ⟨hl, hl'⟩ := hl
  have n1 : ¬ g = w.heap.size := by omega
  have n2 : ¬ w.heap.size = g := by omega
  have n3 : ¬ el = w.heap.size := by omega
  have n4 : ¬ w.heap.size = el := by omega
  go_enter Try.func12, Try.ntmps12
  have hB_0 : Below w.heap.size w w := Below.refl _ _
  have ne_G_X : ¬ g = w.heap.size := by omega
  have en_G_X : ¬ w.heap.size = g := by omega
  have ne_L_X : ¬ el = w.heap.size := by omega
  have en_L_X : ¬ w.heap.size = el := by omega
  go_wp2_with fail
  refine (HH.out _ ⟨by go_simp, by go_simp⟩).mono ?_
  rintro e v1 ⟨rfl, hb1⟩
  obtain ⟨G_1, G_1'⟩ : Row v1 g #[.int .i64 first, .slice (some ⟨el, 0, none⟩) n c] := Row.step (by go_simp) (by go_simp) hb1
  obtain ⟨L_1, L_1'⟩ : Row v1 el (FT eE d T) := Row.step (by go_simp) (by go_simp) hb1
  obtain ⟨X_1, X_1'⟩ : Row v1 w.heap.size #[.bool false, .bool false, .bool false, .bool false, .bool false, .int .i64 0, .int .i64 0, .string ⟨#[]⟩] := Row.step (by go_simp) (by go_simp) hb1
  have hB_1 : Below w.heap.size w v1 := bk (by go_simp) (by first | (go_simp; done) | (go_simp; omega) | exact Below.size (by assumption)) hb1
  clear hg hg' hl hl' hB_0 hb1
  have hz_1 : w.heap.size ≤ v1.heap.size := hB_1.size
  have hl_G_1 := isRow.lt G_1
  have ne_G_1_0 : ¬ g = v1.heap.size := by omega
  have en_G_1_0 : ¬ v1.heap.size = g := by omega
  have hl_L_1 := isRow.lt L_1
  have ne_L_1_0 : ¬ el = v1.heap.size := by omega
  have en_L_1_0 : ¬ v1.heap.size = el := by omega
  have hl_X_1 := isRow.lt X_1
  have ne_X_1_0 : ¬ w.heap.size = v1.heap.size := by omega
  have en_X_1_0 : ¬ v1.heap.size = w.heap.size := by omega
  go_wp2
  refine wp_region_held_drew (S := fun w' => (isRow w' g ∧ rowAt w' g = #[.int .i64 first, .slice (some ⟨el, 0, none⟩) n c]) ∧ (isRow w' el ∧ rowAt w' el = FT eE d T) ∧ (isRow w' w.heap.size ∧ (rowAt w' w.heap.size).size = 8) ∧ Below w.heap.size w w') (by kernel_rfl) ⟨⟨by go_simp, by go_simp⟩, ⟨by go_simp, by go_simp⟩, ⟨by go_simp, by go_simp⟩, by go_simp⟩ (fun hHeld => ?_)
  refine wpAnyH_take (i := 0) (oi := ⟨some 11, .move (.tmp 0), 23, "bank.go:45", #[], none⟩) (v := ?_) rfl (by kernel_rfl) (by kernel_rfl) (by kernel_rfl) (fun _ _ _ h => h) (Or.inl ⟨by rfl, ?_⟩) (by assumption) ?_
  rotate_left
  · (intro w_ hS_; (try dsimp only at hS_); go_simp; try with_reducible rfl)
  try simp only [Act.put, List.setIfInBounds_toArray, List.set_cons_zero, List.set_cons_succ]
  refine wpAnyH_take (i := 1) (oi := ⟨some 12, .nilCheck (.tmp 11), 0, "bank.go:45", #[⟨0, .data⟩], none⟩) (v := ?_) rfl (by kernel_rfl) (by kernel_rfl) (by kernel_rfl) (fun _ _ _ h => h) (Or.inl ⟨by rfl, ?_⟩) (by assumption) ?_
  rotate_left
  · (intro w_ hS_; (try dsimp only at hS_); go_simp; try with_reducible rfl)
  try simp only [Act.put, List.setIfInBounds_toArray, List.set_cons_zero, List.set_cons_succ]
  refine wpAnyH_take (i := 2) (oi := ⟨some 13, .fieldAddr 74 (.tmp 12) 1, 0, "bank.go:45", #[⟨1, .data⟩], none⟩) (v := ?_) rfl (by kernel_rfl) (by kernel_rfl) (by kernel_rfl) (fun _ _ _ h => h) (Or.inl ⟨by rfl, ?_⟩) (by assumption) ?_
  rotate_left
  · (intro w_ hS_; (try dsimp only at hS_); go_simp; try with_reducible rfl)
  try simp only [Act.put, List.setIfInBounds_toArray, List.set_cons_zero, List.set_cons_succ]
  refine wpAnyH_take (i := 3) (oi := ⟨some 14, .load 72 (.tmp 13), 72, "bank.go:45", #[⟨2, .data⟩], none⟩) (v := ?_) rfl (by kernel_rfl) (by kernel_rfl) (by kernel_rfl) (fun _ _ _ h => h) (Or.inl ⟨by rfl, ?_⟩) (by assumption) ?_
  rotate_left
  · (intro w_ hS_; (try dsimp only at hS_); go_simp; try with_reducible rfl)
  try simp only [Act.put, List.setIfInBounds_toArray, List.set_cons_zero, List.set_cons_succ]
  refine wpAnyH_take (i := 4) (oi := ⟨some 15, .move (.tmp 1), 3, "bank.go:45", #[], none⟩) (v := ?_) rfl (by kernel_rfl) (by kernel_rfl) (by kernel_rfl) (fun _ _ _ h => h) (Or.inl ⟨by rfl, ?_⟩) (by assumption) ?_
  rotate_left
  · (intro w_ hS_; (try dsimp only at hS_); go_simp; try with_reducible rfl)
  try simp only [Act.put, List.setIfInBounds_toArray, List.set_cons_zero, List.set_cons_succ]
  refine wpAnyH_take (i := 5) (oi := ⟨some 16, .move (.tmp 0), 23, "bank.go:45", #[], none⟩) (v := ?_) rfl (by kernel_rfl) (by kernel_rfl) (by kernel_rfl) (fun _ _ _ h => h) (Or.inl ⟨by rfl, ?_⟩) (by assumption) ?_
  rotate_left
  · (intro w_ hS_; (try dsimp only at hS_); go_simp; try with_reducible rfl)
  try simp only [Act.put, List.setIfInBounds_toArray, List.set_cons_zero, List.set_cons_succ]
  refine wpAnyH_take (i := 6) (oi := ⟨some 17, .nilCheck (.tmp 16), 0, "bank.go:45", #[⟨5, .data⟩], none⟩) (v := ?_) rfl (by kernel_rfl) (by kernel_rfl) (by kernel_rfl) (fun _ _ _ h => h) (Or.inl ⟨by rfl, ?_⟩) (by assumption) ?_
  rotate_left
  · (intro w_ hS_; (try dsimp only at hS_); go_simp; try with_reducible rfl)
  try simp only [Act.put, List.setIfInBounds_toArray, List.set_cons_zero, List.set_cons_succ]
  refine wpAnyH_take (i := 7) (oi := ⟨some 18, .fieldAddr 74 (.tmp 17) 0, 0, "bank.go:45", #[⟨6, .data⟩], none⟩) (v := ?_) rfl (by kernel_rfl) (by kernel_rfl) (by kernel_rfl) (fun _ _ _ h => h) (Or.inl ⟨by rfl, ?_⟩) (by assumption) ?_
  rotate_left
  · (intro w_ hS_; (try dsimp only at hS_); go_simp; try with_reducible rfl)
  try simp only [Act.put, List.setIfInBounds_toArray, List.set_cons_zero, List.set_cons_succ]
  refine wpAnyH_take (i := 8) (oi := ⟨some 19, .load 3 (.tmp 18), 3, "bank.go:45", #[⟨7, .data⟩], none⟩) (v := ?_) rfl (by kernel_rfl) (by kernel_rfl) (by kernel_rfl) (fun _ _ _ h => h) (Or.inl ⟨by rfl, ?_⟩) (by assumption) ?_
  rotate_left
  · (intro w_ hS_; (try dsimp only at hS_); go_simp; try with_reducible rfl)
  try simp only [Act.put, List.setIfInBounds_toArray, List.set_cons_zero, List.set_cons_succ]
  refine wpAnyH_take (i := 9) (oi := ⟨some 20, .binOp .sub 3 (.tmp 15) (.tmp 19) 3, 3, "bank.go:45", #[⟨4, .data⟩, ⟨8, .data⟩], none⟩) (v := ?_) rfl (by kernel_rfl) (by kernel_rfl) (by kernel_rfl) (fun _ _ _ h => h) (Or.inl ⟨by rfl, ?_⟩) (by assumption) ?_
  rotate_left
  · (intro w_ hS_; (try dsimp only at hS_); go_simp; try with_reducible rfl)
  try simp only [Act.put, List.setIfInBounds_toArray, List.set_cons_zero, List.set_cons_succ]
  refine wpAnyH_take (i := 10) (oi := ⟨some 21, .indexAddr 72 (.tmp 14) (.tmp 20), 0, "bank.go:45", #[⟨3, .data⟩, ⟨9, .data⟩], none⟩) (v := ?_) rfl (by kernel_rfl) (by kernel_rfl) (by kernel_rfl) (fun _ _ _ h => h) (Or.inl ⟨by rfl, ?_⟩) (by assumption) ?_
  rotate_left
  · (intro w_ hS_; (try dsimp only at hS_); go_simp; try with_reducible rfl)
  try simp only [Act.put, List.setIfInBounds_toArray, List.set_cons_zero, List.set_cons_succ]
  refine wpAnyH_take (i := 11) (oi := ⟨some 22, .load 35 (.tmp 21), 35, "bank.go:45", #[⟨10, .data⟩], none⟩) (v := ?_) rfl (by kernel_rfl) (by kernel_rfl) (by kernel_rfl) (fun _ _ _ h => h) (Or.inl ⟨by rfl, ?_⟩) (by assumption) ?_
  rotate_left
  · (intro w_ hS_; (try dsimp only at hS_); go_simp; try with_reducible rfl)
  try simp only [Act.put, List.setIfInBounds_toArray, List.set_cons_zero, List.set_cons_succ]
  refine wpAnyH_ready (rs := [12]) (by kernel_rfl) (by simp) ?_
  refine AllReadyH.cons (o := ⟨none, .store 35 (.tmp 4) (.tmp 22), 0, "bank.go:45", #[⟨11, .data⟩, ⟨0, .phase⟩, ⟨1, .phase⟩, ⟨2, .phase⟩, ⟨3, .phase⟩, ⟨4, .phase⟩, ⟨5, .phase⟩, ⟨6, .phase⟩, ⟨7, .phase⟩, ⟨8, .phase⟩, ⟨9, .phase⟩, ⟨10, .phase⟩, ⟨11, .phase⟩], none⟩) rfl (fun K hK => ?_) AllReadyH.nil
  (have hq_ := hHeld; (try dsimp only at hq_))
  obtain ⟨⟨PG_2_1, PG_2_1'⟩, ⟨PL_2_1, PL_2_1'⟩, ⟨PX_2_1, PX_2_1'⟩, hF_2_1⟩ := hq_
  go_simp
  refine hK.out _ _ ?_ (fun hHeld => ?_)
  · (refine ⟨⟨by go_simp, by go_simp⟩, ⟨by go_simp, by go_simp⟩, ⟨by go_simp, by go_simp⟩, by go_simp⟩)
  clear hK K
  try simp only [Act.put, List.setIfInBounds_toArray, List.set_cons_zero, List.set_cons_succ]
  refine wpAnyH_take (i := 13) (oi := ⟨some 5, .assign (.const (.int .i64 0)), 24, "bank.go:45", #[⟨12, .chain⟩, ⟨0, .phase⟩, ⟨1, .phase⟩, ⟨2, .phase⟩, ⟨3, .phase⟩, ⟨4, .phase⟩, ⟨5, .phase⟩, ⟨6, .phase⟩, ⟨7, .phase⟩, ⟨8, .phase⟩, ⟨9, .phase⟩, ⟨10, .phase⟩, ⟨11, .phase⟩, ⟨12, .phase⟩], none⟩) (v := ?_) rfl (by kernel_rfl) (by kernel_rfl) (by kernel_rfl) (fun _ _ _ h => h) (Or.inl ⟨by rfl, ?_⟩) (by assumption) ?_
  rotate_left
  · (intro w_ hS_; (try dsimp only at hS_); go_simp; try with_reducible rfl)
  try simp only [Act.put, List.setIfInBounds_toArray, List.set_cons_zero, List.set_cons_succ]
  refine wpAnyH_done (by kernel_rfl) ?_ _
  (try dsimp only at hHeld)
  go_split_ands
  go_wp2
  exact bodyPost_ret (res_E (cs := vE x) rfl _ rfl ⟨by go_simp, by go_simp⟩ rfl rfl) rfl ⟨rfl, by go_simp⟩
set_option maxHeartbeats 1000000 in
theorem Get_miss (g el c n : Nat) (first id : Int) (w : World) (hr : Row w g #[.int .i64 first, .slice (some ⟨el, 0, none⟩) n c]) (hh : hasB first n id = false) (h0 : 0 ≤ first) (hi : Wid id) :
    Calls Try.prog 12 #[.pointer (some ⟨g, 0, none⟩), .int .i64 id] w fun e w' => e = .returned (.tuple #[.agg (vE zE), .int .i64 90]) ∧ Below w.heap.size w w' := by
  have HH := Lib.hid (fun (W : World) (h : Row W g #[.int .i64 first, .slice (some ⟨el, 0, none⟩) n c]) => Has_c g el c n first id W h h0 hi)
  rw [hh] at HH
  have lg := hr.lt
  obtain ⟨hg, hg'⟩ := hr
  have n1 : ¬ g = w.heap.size := by omega
  have n2 : ¬ w.heap.size = g := by omega
  go_enter Try.func12, Try.ntmps12
  have hB_0 : Below w.heap.size w w := Below.refl _ _
  have ne_G_X : ¬ g = w.heap.size := by omega
  have en_G_X : ¬ w.heap.size = g := by omega
  go_wp2_with fail
  refine (HH.out _ ⟨by go_simp, by go_simp⟩).mono ?_
  rintro e v1 ⟨rfl, hb1⟩
  obtain ⟨G_1, G_1'⟩ : Row v1 g #[.int .i64 first, .slice (some ⟨el, 0, none⟩) n c] := Row.step (by go_simp) (by go_simp) hb1
  obtain ⟨X_1, X_1'⟩ : Row v1 w.heap.size #[.bool false, .bool false, .bool false, .bool false, .bool false, .int .i64 0, .int .i64 0, .string ⟨#[]⟩] := Row.step (by go_simp) (by go_simp) hb1
  have hB_1 : Below w.heap.size w v1 := bk (by go_simp) (by first | (go_simp; done) | (go_simp; omega) | exact Below.size (by assumption)) hb1
  clear hg hg' hB_0 hb1
  have hz_1 : w.heap.size ≤ v1.heap.size := hB_1.size
  have hl_G_1 := isRow.lt G_1
  have ne_G_1_0 : ¬ g = v1.heap.size := by omega
  have en_G_1_0 : ¬ v1.heap.size = g := by omega
  have hl_X_1 := isRow.lt X_1
  have ne_X_1_0 : ¬ w.heap.size = v1.heap.size := by omega
  have en_X_1_0 : ¬ v1.heap.size = w.heap.size := by omega
  go_wp2
  exact bodyPost_ret (res_E (cs := vE zE) rfl _ rfl ⟨by go_simp, by go_simp; rfl⟩ rfl rfl) rfl ⟨rfl, by go_simp⟩

/-- a state behind an act -/
def stp (s : Q) (x : Int) : Q := match irq_Step.f s.f0 s.f1 s.f2 s.f3 x with | some (a, b, c, d) => ⟨a, b, c, d⟩ | none => s
theorem step_is (s : Q) (x : Int) : irq_Step.f s.f0 s.f1 s.f2 s.f3 x = some ((stp s x).f0, (stp s x).f1, (stp s x).f2, (stp s x).f3) := by
  obtain ⟨e, l, h, a⟩ := s
  have : (irq_Step.f e l h a x).isSome = true := by
    by_cases hx : x < 1 ∨ x > 9
    · unfold irq_Step.f
      rw [if_neg (by omega), if_neg (by omega), if_neg (by omega), if_neg (by omega), if_neg (by omega), if_neg (by omega), if_neg (by omega), if_neg (by omega), if_neg (by omega)]
      rfl
    · obtain rfl | rfl | rfl | rfl | rfl | rfl | rfl | rfl | rfl : x = 1 ∨ x = 2 ∨ x = 3 ∨ x = 4 ∨ x = 5 ∨ x = 6 ∨ x = 7 ∨ x = 8 ∨ x = 9 := by omega
      all_goals (cases e <;> cases l <;> cases h <;> cases a <;> rfl)
  obtain ⟨⟨r1, r2, r3, r4⟩, hr⟩ := Option.isSome_iff_exists.1 this
  simp only [stp, hr]
def pend (s : Q) : Bool := s.f2 || (!s.f0 && s.f1)
def ready (s : Q) : Bool := pend s && !s.f3
theorem ready_is (s : Q) : irq_Ready.f s.f0 s.f1 s.f2 s.f3 = some (ready s) := by obtain ⟨e, l, h, a⟩ := s; cases e <;> cases l <;> cases h <;> cases a <;> rfl
theorem below_drawn0 {w w' : World} (h : Drawn0 w w') : Below w.heap.size w w' := by
  obtain ⟨n, rfl⟩ := h
  exact below_drawn (Below.refl _ _) n
def realP (p : Int) : Int := Go.bits .and .i64 p 248
theorem step_c (s : Q) (x : Int) (w : World) : Calls Try.prog 34 #[.agg (vQ s), .int .i64 x] w fun e w' => e = .returned (.agg (vQ (stp s x))) ∧ Below w.heap.size w w' := irq_Step.calls _ _ _ _ x _ _ _ _ w (step_is s x)
theorem ready_c (s : Q) (w : World) : Calls Try.prog 37 #[.agg (vQ s)] w fun e w' => e = .returned (.bool (ready s)) ∧ Below w.heap.size w w' := irq_Ready.calls _ _ _ _ _ w (ready_is s)
theorem real_c (p : Int) (w : World) : Calls Try.prog 35 #[.int .i64 p] w fun e w' => e = .returned (.int .i64 (realP p)) ∧ Below w.heap.size w w' := (prio_Real.calls p _ w rfl).mono fun _ _ q => ⟨q.1, below_drawn0 q.2⟩
def bef (p a q b : Int) : Bool := decide (p < q) || (decide (p = q) && decide (a < b))
theorem before_c (p a q b : Int) (w : World) : Calls Try.prog 45 #[.int .i64 p, .int .i64 a, .int .i64 q, .int .i64 b] w fun e w' => e = .returned (.bool (bef p a q b)) ∧ Below w.heap.size w w' := (prio_Before.calls p a q b _ w (by
  unfold prio_Before.f bef
  by_cases h1 : p < q
  · simp [h1]
  · by_cases h2 : p = q <;> simp [h1, h2])).mono fun _ _ q => ⟨q.1, below_drawn0 q.2⟩
theorem spl_size {cur cs : Array Value} {o : Nat} (h : o + cs.size ≤ cur.size) : (spl cur o cs).size = cur.size := by
  unfold spl
  simp
  omega
theorem spl_spl {cur cs : Array Value} {o : Nat} (h : o + cs.size ≤ cur.size) : spl (spl cur o cs) o cs = spl cur o cs := by
  unfold spl
  apply Array.ext'
  have hA : (cur.toList.take o).length = o := by simp; omega
  have e1 : (cur.toList.take o ++ cs.toList ++ cur.toList.drop (o + cs.size)).take o = cur.toList.take o := by rw [List.append_assoc]; exact List.take_left' hA
  have e2 : (cur.toList.take o ++ cs.toList ++ cur.toList.drop (o + cs.size)).drop (o + cs.size) = cur.toList.drop (o + cs.size) := List.drop_left' (by rw [List.length_append, hA]; simp)
  show (cur.toList.take o ++ cs.toList ++ cur.toList.drop (o + cs.size)).take o ++ cs.toList ++ (cur.toList.take o ++ cs.toList ++ cur.toList.drop (o + cs.size)).drop (o + cs.size) = _
  rw [e1, e2]
theorem mid_spl {cur cs : Array Value} {o : Nat} : Mid (spl cur o cs) = True := rfl
attribute [local go_sem] mid_spl spl_size spl_spl
theorem st_mid {w w' : World} {g : Nat} (h : Mid (rowAt w g)) (hb : Below w.heap.size w w') : Mid (rowAt w' g) := trivial
/-- what may be put -/
def goodE (x : E) : Prop := (x.f5 = 0 ∨ x.f5 = 1) ∧ 0 ≤ x.f6 ∧ x.f6 ≤ 255
def setE (x : E) : E := { x with f6 := realP x.f6 }
theorem Put_miss (g el c n : Nat) (first id : Int) (x : E) (w : World) (hr : Row w g #[.int .i64 first, .slice (some ⟨el, 0, none⟩) n c]) (hh : hasB first n id = false) (h0 : 0 ≤ first) (hi : Wid id) :
    Calls Try.prog 18 #[.pointer (some ⟨g, 0, none⟩), .int .i64 id, .agg (vE x)] w fun e w' => e = .returned (.int .i64 90) ∧ Below w.heap.size w w' := by
  have HH := Lib.hid (fun (W : World) (h : Row W g #[.int .i64 first, .slice (some ⟨el, 0, none⟩) n c]) => Has_c g el c n first id W h h0 hi)
  rw [hh] at HH
  have lg := hr.lt
  obtain ⟨hg, hg'⟩ := hr
  have n1 : ¬ g = w.heap.size := by omega
  have n2 : ¬ w.heap.size = g := by omega
  go_enter Try.func18, Try.ntmps18
  have hB_0 : Below w.heap.size w w := Below.refl _ _
  have ne_G_X : ¬ g = w.heap.size := by omega
  have en_G_X : ¬ w.heap.size = g := by omega
  go_wp2_with fail
  refine (HH.out _ ⟨by go_simp, by go_simp⟩).mono ?_
  rintro e v1 ⟨rfl, hb1⟩
  obtain ⟨G_1, G_1'⟩ : Row v1 g #[.int .i64 first, .slice (some ⟨el, 0, none⟩) n c] := Row.step (by go_simp) (by go_simp) hb1
  obtain ⟨X_1, X_1'⟩ : Row v1 w.heap.size (vE x) := Row.step (by go_simp) (by go_simp) hb1
  have hB_1 : Below w.heap.size w v1 := bk (by go_simp) (by first | (go_simp; done) | (go_simp; omega) | exact Below.size (by assumption)) hb1
  clear hg hg' hB_0 hb1
  have hz_1 : w.heap.size ≤ v1.heap.size := hB_1.size
  have hl_G_1 := isRow.lt G_1
  have ne_G_1_0 : ¬ g = v1.heap.size := by omega
  have en_G_1_0 : ¬ v1.heap.size = g := by omega
  have hl_X_1 := isRow.lt X_1
  have ne_X_1_0 : ¬ w.heap.size = v1.heap.size := by omega
  have en_X_1_0 : ¬ v1.heap.size = w.heap.size := by omega
  go_wp2
  go_ret
  exact ⟨rfl, by go_simp⟩
theorem Put_bad (g el c n : Nat) (first id : Int) (x : E) (w : World) (hr : Row w g #[.int .i64 first, .slice (some ⟨el, 0, none⟩) n c]) (hh : hasB first n id = true) (h0 : 0 ≤ first) (hi : Wid id) (hx : ¬ goodE x) :
    Calls Try.prog 18 #[.pointer (some ⟨g, 0, none⟩), .int .i64 id, .agg (vE x)] w fun e w' => e = .returned (.int .i64 1) ∧ Below w.heap.size w w' := by
  have HH := Lib.hid (fun (W : World) (h : Row W g #[.int .i64 first, .slice (some ⟨el, 0, none⟩) n c]) => Has_c g el c n first id W h h0 hi)
  rw [hh] at HH
  have lg := hr.lt
  obtain ⟨hg, hg'⟩ := hr
  have n1 : ¬ g = w.heap.size := by omega
  have n2 : ¬ w.heap.size = g := by omega
  have a5 := vE_5 x
  have a6 := vE_6 x
  unfold goodE at hx
  go_enter Try.func18, Try.ntmps18
  have hB_0 : Below w.heap.size w w := Below.refl _ _
  have ne_G_X : ¬ g = w.heap.size := by omega
  have en_G_X : ¬ w.heap.size = g := by omega
  go_wp2_with fail
  refine (HH.out _ ⟨by go_simp, by go_simp⟩).mono ?_
  rintro e v1 ⟨rfl, hb1⟩
  obtain ⟨G_1, G_1'⟩ : Row v1 g #[.int .i64 first, .slice (some ⟨el, 0, none⟩) n c] := Row.step (by go_simp) (by go_simp) hb1
  obtain ⟨X_1, X_1'⟩ : Row v1 w.heap.size (vE x) := Row.step (by go_simp) (by go_simp) hb1
  have hB_1 : Below w.heap.size w v1 := bk (by go_simp) (by first | (go_simp; done) | (go_simp; omega) | exact Below.size (by assumption)) hb1
  clear hg hg' hB_0 hb1
  have hz_1 : w.heap.size ≤ v1.heap.size := hB_1.size
  have hl_G_1 := isRow.lt G_1
  have ne_G_1_0 : ¬ g = v1.heap.size := by omega
  have en_G_1_0 : ¬ v1.heap.size = g := by omega
  have hl_X_1 := isRow.lt X_1
  have ne_X_1_0 : ¬ w.heap.size = v1.heap.size := by omega
  have en_X_1_0 : ¬ v1.heap.size = w.heap.size := by omega
  by_cases t1 : x.f5 < 0
  · have u1 := decide_eq_true t1
    clear t1 hx
    go_wp2
    go_ret
    exact ⟨rfl, by go_simp⟩
  by_cases t2 : 1 < x.f5
  · have u1 := decide_eq_false t1
    have u2 := decide_eq_true t2
    clear t1 t2 hx
    go_wp2
    go_ret
    exact ⟨rfl, by go_simp⟩
  by_cases t3 : x.f6 < 0
  · have u1 := decide_eq_false t1
    have u2 := decide_eq_false t2
    have u3 := decide_eq_true t3
    clear t1 t2 t3 hx
    go_wp2
    go_ret
    exact ⟨rfl, by go_simp⟩
  have t4 : 255 < x.f6 := by omega
  have u1 := decide_eq_false t1
  have u2 := decide_eq_false t2
  have u3 := decide_eq_false t3
  have u4 := decide_eq_true t4
  clear t1 t2 t3 t4 hx
  go_wp2
  go_ret
  exact ⟨rfl, by go_simp⟩
set_option maxHeartbeats 1000000 in
theorem Put_hit (g el c n : Nat) (first : Int) (d : List E) (T : List Value) (k : Nat) (x : E) (w : World) (hn : d.length = n) (hr : Row w g #[.int .i64 first, .slice (some ⟨el, 0, none⟩) n c]) (hl : Row w el (FT eE d T)) (hne : ¬ g = el) (hk : k < n) (h0 : 0 ≤ first) (hi : Wid (first + k)) (hx : goodE x) :
    Calls Try.prog 18 #[.pointer (some ⟨g, 0, none⟩), .int .i64 (first + k), .agg (vE x)] w fun e w' => e = .returned (.int .i64 0) ∧ Row w' el (FT eE (d.set k (setE x)) T) ∧ AsideP (fun k_ => k_ = el) w w' := by
  have HH := Lib.hid (fun (W : World) (h : Row W g #[.int .i64 first, .slice (some ⟨el, 0, none⟩) n c]) => Has_c g el c n first (first + k) W h h0 hi)
  rw [hasB_at hk] at HH
  have e1 : IntKind.i64.wrap (first + k - first) = k := (IntWalk.i64_left _).trans ((wrap_sub (first := first) (id := first + k) h0 (by omega) hi).trans (by omega))
  have hget : d[k]? = some d[k] := List.getElem?_eq_getElem (by omega)
  obtain ⟨N, hN⟩ : ∃ N, (FT eE d T).size = N := ⟨_, rfl⟩
  have hs : k * 8 + 8 ≤ N := by rw [← hN, FT_size eE_len]; omega
  have hspl : spl (FT eE d T) (k * 8) (vE (setE x)) = FT eE (d.set k (setE x)) T := FT_spl eE_len hget (Nat.le_refl _) rfl
  have hget2 : (d.set k (setE x))[k]? = some (setE x) := by rw [List.getElem?_set_self (by omega)]
  have hspl2 : spl (FT eE (d.set k (setE x)) T) (k * 8) (vE (setE x)) = FT eE (d.set k (setE x)) T := (FT_spl eE_len hget2 (Nat.le_refl _) rfl).trans (by rw [List.set_set])
  have hN2 : (FT eE (d.set k (setE x)) T).size = N := by rw [← hN, FT_size eE_len, FT_size eE_len, List.length_set]
  have k0 : (0 : Int) ≤ k := by omega
  have k1 : (k : Int) < n := by omega
  clear hget hget2 hi h0 hk hn
  have lg := hr.lt
  have ll := hl.lt
  obtain ⟨hg, hg'⟩ := hr
  obtain ⟨hl, hl'⟩ := hl
  have n1 : ¬ g = w.heap.size := by omega
  have n2 : ¬ w.heap.size = g := by omega
  have n3 : ¬ el = w.heap.size := by omega
  have n4 : ¬ w.heap.size = el := by omega
  have n5 : ¬ el = g := fun e => hne e.symm
  have a5 := vE_5 x
  have a6 := vE_6 x
  obtain ⟨g5, g6, g7⟩ := hx
  have u1 : decide (x.f5 < 0) = false := decide_eq_false (by omega)
  have u2 : decide (1 < x.f5) = false := decide_eq_false (by omega)
  have u3 : decide (x.f6 < 0) = false := decide_eq_false (by omega)
  have u4 : decide (255 < x.f6) = false := decide_eq_false (by omega)
  clear g5 g6 g7
  have HR := Lib.hid (fun (W : World) => real_c x.f6 W)
  have hfold : (vE x).setIfInBounds 6 (.int .i64 (realP x.f6)) = vE (setE x) := rfl
  go_enter Try.func18, Try.ntmps18
  have hX : AsideP (fun k_ => k_ = el) w w := .of_below (Below.refl _ _)
  have hB_0 : Below w.heap.size w w := Below.refl _ _
  have ne_G_X : ¬ g = w.heap.size := by omega
  have en_G_X : ¬ w.heap.size = g := by omega
  have ne_L_X : ¬ el = w.heap.size := by omega
  have en_L_X : ¬ w.heap.size = el := by omega
  go_wp2_with fail
  refine (HH.out _ ⟨by go_simp, by go_simp⟩).mono ?_
  rintro e v1 ⟨rfl, hb1⟩
  obtain ⟨G_1, G_1'⟩ : Row v1 g #[.int .i64 first, .slice (some ⟨el, 0, none⟩) n c] := Row.step (by go_simp) (by go_simp) hb1
  obtain ⟨L_1, L_1'⟩ : Row v1 el (FT eE d T) := Row.step (by go_simp) (by go_simp) hb1
  obtain ⟨X_1, X_1'⟩ : Row v1 w.heap.size (vE x) := Row.step (by go_simp) (by go_simp) hb1
  have hB_1 : AsideP (fun k_ => k_ = el) w v1 := AsideP.low (by go_simp) hb1
  clear hg hg' hl hl' hX hb1
  have hz_1 : w.heap.size ≤ v1.heap.size := hB_1.size
  have hl_G_1 := isRow.lt G_1
  have ne_G_1_0 : ¬ g = v1.heap.size := by omega
  have en_G_1_0 : ¬ v1.heap.size = g := by omega
  have hl_L_1 := isRow.lt L_1
  have ne_L_1_0 : ¬ el = v1.heap.size := by omega
  have en_L_1_0 : ¬ v1.heap.size = el := by omega
  have hl_X_1 := isRow.lt X_1
  have ne_X_1_0 : ¬ w.heap.size = v1.heap.size := by omega
  have en_X_1_0 : ¬ v1.heap.size = w.heap.size := by omega
  go_wp2_with fail
  refine (HR.out _).mono ?_
  rintro e v2 ⟨rfl, hb2⟩
  obtain ⟨G_2, G_2'⟩ : Row v2 g #[.int .i64 first, .slice (some ⟨el, 0, none⟩) n c] := Row.step (by go_simp) (by go_simp) hb2
  obtain ⟨L_2, L_2'⟩ : Row v2 el (FT eE d T) := Row.step (by go_simp) (by go_simp) hb2
  obtain ⟨X_2, X_2'⟩ : Row v2 w.heap.size (vE x) := Row.step (by go_simp) (by go_simp) hb2
  have hB_2 : AsideP (fun k_ => k_ = el) w v2 := AsideP.low (by go_simp) hb2
  clear G_1 G_1' L_1 L_1' X_1 X_1' hB_1 hb2
  have hz_2 : w.heap.size ≤ v2.heap.size := hB_2.size
  have hl_G_2 := isRow.lt G_2
  have ne_G_2_0 : ¬ g = v2.heap.size := by omega
  have en_G_2_0 : ¬ v2.heap.size = g := by omega
  have hl_L_2 := isRow.lt L_2
  have ne_L_2_0 : ¬ el = v2.heap.size := by omega
  have en_L_2_0 : ¬ v2.heap.size = el := by omega
  have hl_X_2 := isRow.lt X_2
  have ne_X_2_0 : ¬ w.heap.size = v2.heap.size := by omega
  have en_X_2_0 : ¬ v2.heap.size = w.heap.size := by omega
  have hm : Mid (rowAt v2 el) := trivial
  have hz : (rowAt v2 el).size = N := by rw [L_2', hN]
  have hq : spl (rowAt v2 el) (k * 8) (vE (setE x)) = FT eE (d.set k (setE x)) T := by rw [L_2']; exact hspl
  go_wp2
  refine wp_region_held_drew (S := fun w' => (isRow w' g ∧ rowAt w' g = #[.int .i64 first, .slice (some ⟨el, 0, none⟩) n c]) ∧ (isRow w' el ∧ (rowAt w' el).size = N) ∧ (isRow w' w.heap.size ∧ rowAt w' w.heap.size = vE (setE x)) ∧ Mid (rowAt w' el) ∧ spl (rowAt w' el) (k * 8) (vE (setE x)) = FT eE (d.set k (setE x)) T ∧ AsideP (fun k_ => k_ = el) w w') (by kernel_rfl) ⟨⟨by go_simp, by go_simp⟩, ⟨by go_simp, by go_simp⟩, ⟨by go_simp, by go_simp⟩, by first | exact hm | (go_simp; done), by first | exact hq | (go_simp; done), by go_simp⟩ (fun hHeld => ?_)
  refine wpAnyH_take (i := 0) (oi := ⟨some 39, .move (.tmp 0), 23, "bank.go:57", #[], none⟩) (v := ?_) rfl (by kernel_rfl) (by kernel_rfl) (by kernel_rfl) (fun _ _ _ h => h) (Or.inl ⟨by rfl, ?_⟩) (by assumption) ?_
  rotate_left
  · (intro w_ hS_; (try dsimp only at hS_); go_simp; try with_reducible rfl)
  try simp only [Act.put, List.setIfInBounds_toArray, List.set_cons_zero, List.set_cons_succ]
  refine wpAnyH_take (i := 1) (oi := ⟨some 40, .nilCheck (.tmp 39), 0, "bank.go:57", #[⟨0, .data⟩], none⟩) (v := ?_) rfl (by kernel_rfl) (by kernel_rfl) (by kernel_rfl) (fun _ _ _ h => h) (Or.inl ⟨by rfl, ?_⟩) (by assumption) ?_
  rotate_left
  · (intro w_ hS_; (try dsimp only at hS_); go_simp; try with_reducible rfl)
  try simp only [Act.put, List.setIfInBounds_toArray, List.set_cons_zero, List.set_cons_succ]
  refine wpAnyH_take (i := 2) (oi := ⟨some 41, .fieldAddr 74 (.tmp 40) 1, 0, "bank.go:57", #[⟨1, .data⟩], none⟩) (v := ?_) rfl (by kernel_rfl) (by kernel_rfl) (by kernel_rfl) (fun _ _ _ h => h) (Or.inl ⟨by rfl, ?_⟩) (by assumption) ?_
  rotate_left
  · (intro w_ hS_; (try dsimp only at hS_); go_simp; try with_reducible rfl)
  try simp only [Act.put, List.setIfInBounds_toArray, List.set_cons_zero, List.set_cons_succ]
  refine wpAnyH_take (i := 3) (oi := ⟨some 42, .load 72 (.tmp 41), 72, "bank.go:57", #[⟨2, .data⟩], none⟩) (v := ?_) rfl (by kernel_rfl) (by kernel_rfl) (by kernel_rfl) (fun _ _ _ h => h) (Or.inl ⟨by rfl, ?_⟩) (by assumption) ?_
  rotate_left
  · (intro w_ hS_; (try dsimp only at hS_); go_simp; try with_reducible rfl)
  try simp only [Act.put, List.setIfInBounds_toArray, List.set_cons_zero, List.set_cons_succ]
  refine wpAnyH_take (i := 4) (oi := ⟨some 43, .move (.tmp 1), 3, "bank.go:57", #[], none⟩) (v := ?_) rfl (by kernel_rfl) (by kernel_rfl) (by kernel_rfl) (fun _ _ _ h => h) (Or.inl ⟨by rfl, ?_⟩) (by assumption) ?_
  rotate_left
  · (intro w_ hS_; (try dsimp only at hS_); go_simp; try with_reducible rfl)
  try simp only [Act.put, List.setIfInBounds_toArray, List.set_cons_zero, List.set_cons_succ]
  refine wpAnyH_take (i := 5) (oi := ⟨some 44, .move (.tmp 0), 23, "bank.go:57", #[], none⟩) (v := ?_) rfl (by kernel_rfl) (by kernel_rfl) (by kernel_rfl) (fun _ _ _ h => h) (Or.inl ⟨by rfl, ?_⟩) (by assumption) ?_
  rotate_left
  · (intro w_ hS_; (try dsimp only at hS_); go_simp; try with_reducible rfl)
  try simp only [Act.put, List.setIfInBounds_toArray, List.set_cons_zero, List.set_cons_succ]
  refine wpAnyH_take (i := 6) (oi := ⟨some 45, .nilCheck (.tmp 44), 0, "bank.go:57", #[⟨5, .data⟩], none⟩) (v := ?_) rfl (by kernel_rfl) (by kernel_rfl) (by kernel_rfl) (fun _ _ _ h => h) (Or.inl ⟨by rfl, ?_⟩) (by assumption) ?_
  rotate_left
  · (intro w_ hS_; (try dsimp only at hS_); go_simp; try with_reducible rfl)
  try simp only [Act.put, List.setIfInBounds_toArray, List.set_cons_zero, List.set_cons_succ]
  refine wpAnyH_take (i := 7) (oi := ⟨some 46, .fieldAddr 74 (.tmp 45) 0, 0, "bank.go:57", #[⟨6, .data⟩], none⟩) (v := ?_) rfl (by kernel_rfl) (by kernel_rfl) (by kernel_rfl) (fun _ _ _ h => h) (Or.inl ⟨by rfl, ?_⟩) (by assumption) ?_
  rotate_left
  · (intro w_ hS_; (try dsimp only at hS_); go_simp; try with_reducible rfl)
  try simp only [Act.put, List.setIfInBounds_toArray, List.set_cons_zero, List.set_cons_succ]
  refine wpAnyH_take (i := 8) (oi := ⟨some 47, .load 3 (.tmp 46), 3, "bank.go:57", #[⟨7, .data⟩], none⟩) (v := ?_) rfl (by kernel_rfl) (by kernel_rfl) (by kernel_rfl) (fun _ _ _ h => h) (Or.inl ⟨by rfl, ?_⟩) (by assumption) ?_
  rotate_left
  · (intro w_ hS_; (try dsimp only at hS_); go_simp; try with_reducible rfl)
  try simp only [Act.put, List.setIfInBounds_toArray, List.set_cons_zero, List.set_cons_succ]
  refine wpAnyH_take (i := 9) (oi := ⟨some 48, .binOp .sub 3 (.tmp 43) (.tmp 47) 3, 3, "bank.go:57", #[⟨4, .data⟩, ⟨8, .data⟩], none⟩) (v := ?_) rfl (by kernel_rfl) (by kernel_rfl) (by kernel_rfl) (fun _ _ _ h => h) (Or.inl ⟨by rfl, ?_⟩) (by assumption) ?_
  rotate_left
  · (intro w_ hS_; (try dsimp only at hS_); go_simp; try with_reducible rfl)
  try simp only [Act.put, List.setIfInBounds_toArray, List.set_cons_zero, List.set_cons_succ]
  refine wpAnyH_take (i := 10) (oi := ⟨some 49, .load 35 (.tmp 5), 35, "bank.go:57", #[], none⟩) (v := ?_) rfl (by kernel_rfl) (by kernel_rfl) (by kernel_rfl) (fun _ _ _ h => h) (Or.inl ⟨by rfl, ?_⟩) (by assumption) ?_
  rotate_left
  · (intro w_ hS_; (try dsimp only at hS_); go_simp; try with_reducible rfl)
  try simp only [Act.put, List.setIfInBounds_toArray, List.set_cons_zero, List.set_cons_succ]
  refine wpAnyH_take (i := 11) (oi := ⟨some 50, .indexAddr 72 (.tmp 42) (.tmp 48), 0, "bank.go:57", #[⟨3, .data⟩, ⟨9, .data⟩, ⟨0, .phase⟩, ⟨1, .phase⟩, ⟨2, .phase⟩, ⟨3, .phase⟩, ⟨4, .phase⟩, ⟨5, .phase⟩, ⟨6, .phase⟩, ⟨7, .phase⟩, ⟨8, .phase⟩, ⟨9, .phase⟩, ⟨10, .phase⟩], none⟩) (v := ?_) rfl (by kernel_rfl) (by kernel_rfl) (by kernel_rfl) (fun _ _ _ h => h) (Or.inl ⟨by rfl, ?_⟩) (by assumption) ?_
  rotate_left
  · (intro w_ hS_; (try dsimp only at hS_); go_simp; try with_reducible rfl)
  try simp only [Act.put, List.setIfInBounds_toArray, List.set_cons_zero, List.set_cons_succ]
  refine wpAnyH_ready (rs := [12]) (by kernel_rfl) (by simp) ?_
  refine AllReadyH.cons (o := ⟨none, .store 35 (.tmp 50) (.tmp 49), 0, "bank.go:57", #[⟨11, .data⟩, ⟨10, .data⟩, ⟨0, .phase⟩, ⟨1, .phase⟩, ⟨2, .phase⟩, ⟨3, .phase⟩, ⟨4, .phase⟩, ⟨5, .phase⟩, ⟨6, .phase⟩, ⟨7, .phase⟩, ⟨8, .phase⟩, ⟨9, .phase⟩, ⟨10, .phase⟩], none⟩) rfl (fun K hK => ?_) AllReadyH.nil
  (have hq_ := hHeld; (try dsimp only at hq_))
  obtain ⟨⟨PG_3_1, PG_3_1'⟩, ⟨PL_3_1, PL_3_1'⟩, ⟨PX_3_1, PX_3_1'⟩, al0_3_1, al1_3_1, hF_3_1⟩ := hq_
  go_simp
  refine hK.out _ _ ?_ (fun hHeld => ?_)
  · (refine ⟨⟨by go_simp, by go_simp⟩, ⟨by go_simp, by go_simp⟩, ⟨by go_simp, by go_simp⟩, by first | assumption | (go_simp; done), by first | assumption | (go_simp; done), by go_simp⟩)
  clear hK K
  try simp only [Act.put, List.setIfInBounds_toArray, List.set_cons_zero, List.set_cons_succ]
  refine wpAnyH_done (by kernel_rfl) ?_ _
  (try dsimp only at hHeld)
  go_split_ands
  go_wp2
  go_ret
  exact ⟨rfl, ⟨by go_simp, by go_simp⟩, by go_simp⟩
end Go.Proofs.Ytbglgblngfbhbaa.Bk

namespace Go.Proofs.Ytbglgblngfbhbaa.Bk
open Go.RowKit Go.Shelf Go.Proofs.Ytbglgblngfbhbaa.IAll Go.Proofs.YtbglgblngfbhbaaW.PrintWords Go.Proofs.YtbglgblngfbhbaaW.PrintLast Go.Proofs.YtbglgblngfbhbaaW.PrintMore
set_option linter.unusedVariables false
set_option linter.unusedSectionVars false
set_option linter.unusedSimpArgs false
attribute [local go_sem] Oper.semAt_some cell_row frozen_row isRow_setCell_eq rowAt_setCell_same rowAt_setCell_other isRow_alloc_eq rowAt_alloc rowAt_new rowAt_new' isRow_setRow_eq rowAt_setRow_same rowAt_setRow_other isRow_drew rowAt_drew size_setRow_ size_drew_ blk_ptr aggOf_agg offv_ptr below_alloc_e below_setCell_e below_setRow_e below_refl_e below_drew_r isRow_drewN rowAt_drewN below_drewN_e le_add_r asideP_alloc_e asideP_setCell_e asideP_setRow_e asideP_drew_e asideP_drewN_e asideP_refl_e allOne_nil allOne_cons Value.oneCell' addr_at mid_FT vE_size vL_size vQ_size vC_size vS_size vP_size vE_one vL_one vQ_one vC_one vS_one vP_one mid_spl spl_size spl_spl
attribute [local go_sem ↓] loadE storeE loadEm storeEm loadEg storeEg loadEmg storeEmg loadL storeL loadLm storeLm loadQ storeQ loadQm storeQm loadC storeC loadCg storeCg loadS storeS loadSm loadP storeP loadPm loadPg storePg 
set_option maxRecDepth 100000

def doE (x : E) (a : Int) : E := { x with f0 := (stp x.q a).f0, f1 := (stp x.q a).f1, f2 := (stp x.q a).f2, f3 := (stp x.q a).f3 }
theorem Do_miss (g el c n : Nat) (first id a : Int) (w : World) (hr : Row w g #[.int .i64 first, .slice (some ⟨el, 0, none⟩) n c]) (hh : hasB first n id = false) (h0 : 0 ≤ first) (hi : Wid id) :
    Calls Try.prog 17 #[.pointer (some ⟨g, 0, none⟩), .int .i64 id, .int .i64 a] w fun e w' => e = .returned (.int .i64 90) ∧ Below w.heap.size w w' := by
  have HH := Lib.hid (fun (W : World) (h : Row W g #[.int .i64 first, .slice (some ⟨el, 0, none⟩) n c]) => Has_c g el c n first id W h h0 hi)
  rw [hh] at HH
  have lg := hr.lt
  obtain ⟨hg, hg'⟩ := hr
  go_enter Try.func17, Try.ntmps17
  have hB_0 : Below w.heap.size w w := Below.refl _ _
  go_wp2_with fail
  refine (HH.out _ ⟨by go_simp, by go_simp⟩).mono ?_
  rintro e v1 ⟨rfl, hb1⟩
  obtain ⟨G_1, G_1'⟩ : Row v1 g #[.int .i64 first, .slice (some ⟨el, 0, none⟩) n c] := Row.step (by go_simp) (by go_simp) hb1
  have hB_1 : Below w.heap.size w v1 := bk (by go_simp) (by first | (go_simp; done) | (go_simp; omega) | exact Below.size (by assumption)) hb1
  clear hg hg' hB_0 hb1
  have hz_1 : w.heap.size ≤ v1.heap.size := hB_1.size
  have hl_G_1 := isRow.lt G_1
  have ne_G_1_0 : ¬ g = v1.heap.size := by omega
  have en_G_1_0 : ¬ v1.heap.size = g := by omega
  go_wp2
  go_ret
  exact ⟨rfl, by go_simp⟩
set_option maxHeartbeats 1000000 in
theorem Do_hit (g el c n : Nat) (first a : Int) (d : List E) (T : List Value) (k : Nat) (x : E) (w : World) (hn : d.length = n) (hr : Row w g #[.int .i64 first, .slice (some ⟨el, 0, none⟩) n c]) (hl : Row w el (FT eE d T)) (hne : ¬ g = el) (hk : d[k]? = some x) (h0 : 0 ≤ first) (hi : Wid (first + k)) :
    Calls Try.prog 17 #[.pointer (some ⟨g, 0, none⟩), .int .i64 (first + k), .int .i64 a] w fun e w' => e = .returned (.int .i64 0) ∧ Row w' el (FT eE (d.set k (doE x a)) T) ∧ AsideP (fun k_ => k_ = el) w w' := by
  have hlt : k < n := by rw [← hn]; exact (List.getElem?_eq_some_iff.1 hk).1
  have HH := Lib.hid (fun (W : World) (h : Row W g #[.int .i64 first, .slice (some ⟨el, 0, none⟩) n c]) => Has_c g el c n first (first + k) W h h0 hi)
  rw [hasB_at hlt] at HH
  have e1 : IntKind.i64.wrap (first + k - first) = k := (IntWalk.i64_left _).trans ((wrap_sub (first := first) (id := first + k) h0 (by omega) hi).trans (by omega))
  have hs : k * 8 + 4 ≤ (FT eE d T).size := by rw [FT_size eE_len]; omega
  have hx : (FT eE d T).extract (k * 8) (k * 8 + 4) = vQ x.q := FT_ext eE_len hk (by decide)
  have hspl : spl (FT eE d T) (k * 8) (vQ (stp x.q a)) = FT eE (d.set k (doE x a)) T := FT_spl eE_len hk (show (4 : Nat) ≤ 8 by decide) rfl
  have k0 : (0 : Int) ≤ k := by omega
  have k1 : (k : Int) < n := by omega
  clear hi h0 hk hn hlt
  have lg := hr.lt
  have ll := hl.lt
  obtain ⟨hg, hg'⟩ := hr
  obtain ⟨hl, hl'⟩ := hl
  have n5 : ¬ el = g := fun e => hne e.symm
  have HR := Lib.hid (fun (W : World) => step_c x.q a W)
  go_enter Try.func17, Try.ntmps17
  have hX : AsideP (fun k_ => k_ = el) w w := .of_below (Below.refl _ _)
  have hB_0 : Below w.heap.size w w := Below.refl _ _
  go_wp2_with fail
  refine (HH.out _ ⟨by go_simp, by go_simp⟩).mono ?_
  rintro e v1 ⟨rfl, hb1⟩
  obtain ⟨G_1, G_1'⟩ : Row v1 g #[.int .i64 first, .slice (some ⟨el, 0, none⟩) n c] := Row.step (by go_simp) (by go_simp) hb1
  obtain ⟨L_1, L_1'⟩ : Row v1 el (FT eE d T) := Row.step (by go_simp) (by go_simp) hb1
  have hB_1 : AsideP (fun k_ => k_ = el) w v1 := AsideP.low (by go_simp) hb1
  clear hg hg' hl hl' hX hb1
  have hz_1 : w.heap.size ≤ v1.heap.size := hB_1.size
  have hl_G_1 := isRow.lt G_1
  have ne_G_1_0 : ¬ g = v1.heap.size := by omega
  have en_G_1_0 : ¬ v1.heap.size = g := by omega
  have hl_L_1 := isRow.lt L_1
  have ne_L_1_0 : ¬ el = v1.heap.size := by omega
  have en_L_1_0 : ¬ v1.heap.size = el := by omega
  go_wp2_with fail
  go_quiet (fail)
  go_wp2_with fail
  refine (HR.out _).mono ?_
  rintro e v2 ⟨rfl, hb2⟩
  obtain ⟨G_2, G_2'⟩ : Row v2 g #[.int .i64 first, .slice (some ⟨el, 0, none⟩) n c] := Row.step (by go_simp) (by go_simp) hb2
  obtain ⟨L_2, L_2'⟩ : Row v2 el (FT eE d T) := Row.step (by go_simp) (by go_simp) hb2
  have hB_2 : AsideP (fun k_ => k_ = el) w v2 := AsideP.low (by go_simp) hb2
  clear G_1 G_1' L_1 L_1' hB_1 hb2
  have hz_2 : w.heap.size ≤ v2.heap.size := hB_2.size
  have hl_G_2 := isRow.lt G_2
  have ne_G_2_0 : ¬ g = v2.heap.size := by omega
  have en_G_2_0 : ¬ v2.heap.size = g := by omega
  have hl_L_2 := isRow.lt L_2
  have ne_L_2_0 : ¬ el = v2.heap.size := by omega
  have en_L_2_0 : ¬ v2.heap.size = el := by omega
  go_wp2
  go_ret
  exact ⟨rfl, ⟨by go_simp, by go_simp⟩, by go_simp⟩
def zeroE (x : E) : E := { zE with f7 := x.f7 }
def zeroed (d : List E) (k : Nat) : List E := (d.take k).map zeroE ++ d.drop k
theorem zeroed_0 (d : List E) : zeroed d 0 = d := by simp [zeroed]
theorem zeroed_all (d : List E) : zeroed d d.length = d.map zeroE := by simp [zeroed]
theorem zeroed_len (d : List E) (k : Nat) : (zeroed d k).length = d.length := by simp [zeroed]; omega
theorem zeroed_at {d : List E} {k : Nat} {x : E} (h : d[k]? = some x) : (zeroed d k)[k]? = some x := by
  have hk := (List.getElem?_eq_some_iff.1 h).1
  unfold zeroed
  rw [List.getElem?_append_right (by simp; omega)]
  simp [Nat.min_eq_left (Nat.le_of_lt hk), h]
theorem zeroed_set {d : List E} {k : Nat} {x : E} (h : d[k]? = some x) : (zeroed d k).set k (zeroE x) = zeroed d (k + 1) := by
  obtain ⟨a, b, rfl, rfl⟩ := list_at h
  unfold zeroed
  have e1 : (a ++ x :: b).take (a.length + 1) = a ++ [x] := by rw [List.append_cons]; exact List.take_left' (by simp)
  have e2 : (a ++ x :: b).drop (a.length + 1) = b := by rw [List.append_cons]; exact List.drop_left' (by simp)
  rw [List.take_left, List.drop_left, e1, e2, List.set_append_right _ _ (by simp)]
  simp
set_option maxHeartbeats 1000000 in
theorem Reset_c (g el c n : Nat) (first : Int) (d : List E) (T : List Value) (w : World) (hn : d.length = n) (hr : Row w g #[.int .i64 first, .slice (some ⟨el, 0, none⟩) n c]) (hl : Row w el (FT eE d T)) (hne : ¬ g = el) (hbig : n ≤ 16384) :
    Calls Try.prog 21 #[.pointer (some ⟨g, 0, none⟩)] w fun e w' => e = .returned (.tuple #[]) ∧ Row w' el (FT eE (d.map zeroE) T) ∧ AsideP (fun k_ => k_ = el) w w' := by
  have lg := hr.lt
  have ll := hl.lt
  obtain ⟨hg, hg'⟩ := hr
  have n5 : ¬ el = g := fun e => hne e.symm
  go_enter Try.func21, Try.ntmps21
  go_wp2
  go_loopw [8] (fun q wr => ∃ k : Nat, k ≤ n ∧ q = .int .i64 k ∧ Row wr el (FT eE (zeroed d k) T) ∧ Row wr g #[.int .i64 first, .slice (some ⟨el, 0, none⟩) n c] ∧ AsideP (fun k_ => k_ = el) w wr) (fun q _ => n - (intOf q).toNat)
  case atStart => exact ⟨0, by omega, rfl, by rw [zeroed_0]; exact hl, ⟨hg, hg'⟩, .of_below (Below.refl _ _)⟩
  case round =>
    obtain ⟨k, hk, rfl, ⟨L1, L1'⟩, ⟨G1, G1'⟩, hX⟩ := hrel
    clear hl hg hg'
    by_cases hlt : k < n
    · have k1 : (k : Int) < n := by omega
      have k0 : (0 : Int) ≤ k := by omega
      have k2 : decide ((k : Int) < n) = true := decide_eq_true k1
      have w3 : IntKind.i64.wrap ((k : Int) + 1) = (k : Int) + 1 := IntWalk.i64_in _ (by omega)
      have hget : d[k]? = some d[k] := List.getElem?_eq_getElem (by omega)
      have hs : k * 8 + 7 ≤ (FT eE (zeroed d k) T).size := by rw [FT_size eE_len, zeroed_len]; omega
      have hspl : spl (FT eE (zeroed d k) T) (k * 8) #[.bool false, .bool false, .bool false, .bool false, .bool false, .int .i64 0, .int .i64 0] = FT eE (zeroed d (k + 1)) T := (FT_spl (cs := #[.bool false, .bool false, .bool false, .bool false, .bool false, .int .i64 0, .int .i64 0]) eE_len (zeroed_at hget) (show (7 : Nat) ≤ 8 by decide) rfl).trans (by rw [zeroed_set hget])
      clear hget
      go_wp2
      go_roundw
      case rel =>
        exact ⟨k + 1, by omega, congrArg (Value.int .i64) (by omega), ⟨by go_simp, by go_simp⟩, ⟨by go_simp, by go_simp⟩, by go_simp⟩
      case measure => simp [intOf]; omega
    · obtain rfl : k = n := by omega
      have k2 : decide ((k : Int) < k) = false := decide_eq_false (by omega)
      subst hn
      rw [zeroed_all] at L1'
      go_wp2
      go_end0
      exact ⟨rfl, ⟨by go_simp, by go_simp⟩, by go_simp⟩
end Go.Proofs.Ytbglgblngfbhbaa.Bk

namespace Go.Proofs.Ytbglgblngfbhbaa.Bk
open Go.RowKit Go.Shelf Go.Proofs.Ytbglgblngfbhbaa.IAll Go.Proofs.YtbglgblngfbhbaaW.PrintWords Go.Proofs.YtbglgblngfbhbaaW.PrintLast Go.Proofs.YtbglgblngfbhbaaW.PrintMore
set_option linter.unusedVariables false
set_option linter.unusedSectionVars false
set_option linter.unusedSimpArgs false
attribute [local go_sem] Oper.semAt_some cell_row frozen_row isRow_setCell_eq rowAt_setCell_same rowAt_setCell_other isRow_alloc_eq rowAt_alloc rowAt_new rowAt_new' isRow_setRow_eq rowAt_setRow_same rowAt_setRow_other isRow_drew rowAt_drew size_setRow_ size_drew_ blk_ptr aggOf_agg offv_ptr below_alloc_e below_setCell_e below_setRow_e below_refl_e below_drew_r isRow_drewN rowAt_drewN below_drewN_e le_add_r asideP_alloc_e asideP_setCell_e asideP_setRow_e asideP_drew_e asideP_drewN_e asideP_refl_e allOne_nil allOne_cons Value.oneCell' addr_at mid_FT vE_size vL_size vQ_size vC_size vS_size vP_size vE_one vL_one vQ_one vC_one vS_one vP_one mid_spl spl_size spl_spl
attribute [local go_sem ↓] loadE storeE loadEm storeEm loadEg storeEg loadEmg storeEmg loadL storeL loadLm storeLm loadQ storeQ loadQm storeQm loadC storeC loadCg storeCg loadS storeS loadSm loadP storeP loadPm loadPg storePg 
set_option maxRecDepth 100000

def Stop (p : Prop) : Prop := p
theorem stop_in {p : Prop} (h : Stop p) : p := h
theorem stop_out {p : Prop} (h : p) : Stop p := h
theorem eq_nil_slice {ad : Addr} {n c : Nat} (W : World) : (binOp .eql 72 (Value.slice (some ad) n c) (Value.slice none 0 0)).run Try.prog W = .ok (.bool false) W := by
  kernel_rfl
theorem clone_0 (el c : Nat) (w : World) :
    Calls Try.prog 43 #[.slice (some ⟨el, 0, none⟩) 0 c] w fun e w' => ∃ ob c' T', e = .returned (.slice (some ⟨ob, 0, none⟩) 0 c') ∧ w.heap.size ≤ ob ∧ Row w' ob (FT eE [] T') ∧ Below w.heap.size w w' := by
  go_enter Try.func43, Try.ntmps43
  have heq : ∀ W : World, (binOp .eql 72 (Value.slice (some ⟨el, 0, none⟩) 0 c) (Value.slice none 0 0)).run Try.prog W = .ok (.bool false) W := fun W => eq_nil_slice W
  go_wp2
  go_ret
  exact ⟨w.heap.size, 0, [], rfl, Nat.le_refl _, ⟨by go_simp, by go_simp; rfl⟩, by go_simp⟩
set_option maxHeartbeats 4000000 in
theorem clone_c (el n c : Nat) (d : List E) (T : List Value) (w : World) (hn : d.length = n) (h1 : n ≤ 16384) (hl : Row w el (FT eE d T)) :
    Calls Try.prog 43 #[.slice (some ⟨el, 0, none⟩) n c] w fun e w' => ∃ ob c' T', e = .returned (.slice (some ⟨ob, 0, none⟩) n c') ∧ w.heap.size ≤ ob ∧ Row w' ob (FT eE d T') ∧ Below w.heap.size w w' := by
  subst hn
  rcases Nat.eq_zero_or_pos d.length with h0 | h0
  · obtain rfl : d = [] := List.length_eq_zero_iff.1 h0
    exact clone_0 el c w
  go_enter Try.func43, Try.ntmps43
  have heq : ∀ W : World, (binOp .eql 72 (Value.slice (some ⟨el, 0, none⟩) d.length c) (Value.slice none 0 0)).run Try.prog W = .ok (.bool false) W := fun W => eq_nil_slice W
  have hr1 : Row (w.alloc (.cells #[] 35)) el (FT eE d T) := row_alloc hl
  have hC : Kd.C kE (w.alloc (.cells #[] 35)) (some ⟨el, 0, none⟩) d.length d := ft_kd rfl eE_len kE_mk hr1 (by omega)
  have hR0 : kE.R 35 (w.alloc (.cells #[] 35)) w.heap.size (fun _ => True) (.slice (some ⟨w.heap.size, 0, none⟩) 0 0) ([] : List E) := ⟨fun _ _ => trivial, [], World.ownsRow_lit w #[] 0 (Nat.le_refl _) (by decide) rfl, Reps.none _ _⟩
  have HC := Lib.hid hC
  have HR0 := Lib.hid hR0
  have hBa : Below w.heap.size w (w.alloc (.cells #[] 35)) := (Below.refl _ w).alloc (Nat.le_refl _) _
  clear hC hR0 hr1
  go_wp2_with (at_builtin; refine Kd.R_append_rows kE (Rr := kE.K (w.alloc (.cells #[] 35))) (w0 := w) w.heap.size rfl _ _ 72 35 (.agg (vE zE)) 40 rfl Try.underlying72 infoZE rfl (by decide) (by decide) _ ([] : List E) d (some ⟨el, 0, none⟩) d.length c (fun _ => True) (fun _ => False) rfl rfl HR0.out HC.out (fun p cs hp => by rw [kE_open hp]; exact kE_mkM _ _ _ _) (fun _ h => h.elim) (fun _ _ => trivial) hBa (by simp) (by simp; omega) ?_; intro x_ w1 hR_ hb1 _ _; refine stop_in ?_)
  refine stop_out ?_
  rw [List.nil_append] at hR_
  obtain ⟨ob, c', T', rfl, hc, hob, O1, O1'⟩ := r_ft rfl eE_len kE_open hR_ h0
  clear hR_ hBa
  go_wp2
  go_ret
  exact ⟨ob, c', T', rfl, hob, ⟨O1, O1'⟩, hb1⟩
set_option maxHeartbeats 1000000 in
theorem Copy_c (g el c n : Nat) (first : Int) (d : List E) (T : List Value) (w : World) (hn : d.length = n) (h1 : n ≤ 16384) (hr : Row w g #[.int .i64 first, .slice (some ⟨el, 0, none⟩) n c]) (hl : Row w el (FT eE d T)) (hne : ¬ g = el) :
    Calls Try.prog 29 #[.pointer (some ⟨g, 0, none⟩)] w fun e w' => ∃ g' el' c' T', e = .returned (.pointer (some ⟨g', 0, none⟩)) ∧ w.heap.size ≤ g' ∧ w.heap.size ≤ el' ∧ ¬ g' = el' ∧ Row w' g' #[.int .i64 first, .slice (some ⟨el', 0, none⟩) n c'] ∧ Row w' el' (FT eE d T') ∧ Below w.heap.size w w' := by
  have lg := hr.lt
  have ll := hl.lt
  obtain ⟨hg, hg'⟩ := hr
  obtain ⟨hl, hl'⟩ := hl
  have n5 : ¬ el = g := fun e => hne e.symm
  have HR := Lib.hid (fun (W : World) (h : Row W el (FT eE d T)) => clone_c el n c d T W hn h1 h)
  go_enter Try.func29, Try.ntmps29
  have hB_0 : Below w.heap.size w w := Below.refl _ _
  go_wp2_with fail
  refine wp_region_held_drew (S := fun w' => (isRow w' g ∧ rowAt w' g = #[.int .i64 first, .slice (some ⟨el, 0, none⟩) n c]) ∧ (isRow w' el ∧ rowAt w' el = FT eE d T) ∧ Below w.heap.size w w') (by kernel_rfl) ⟨⟨by go_simp, by go_simp⟩, ⟨by go_simp, by go_simp⟩, by go_simp⟩ (fun hHeld => ?_)
  refine wpAnyH_take (i := 0) (oi := ⟨some 3, .move (.tmp 0), 23, "bank.go:106", #[], none⟩) (v := ?_) rfl (by kernel_rfl) (by kernel_rfl) (by kernel_rfl) (fun _ _ _ h => h) (Or.inl ⟨by rfl, ?_⟩) (by assumption) ?_
  rotate_left
  · (intro w_ hS_; (try dsimp only at hS_); go_simp; try with_reducible rfl)
  try simp only [Act.put, List.setIfInBounds_toArray, List.set_cons_zero, List.set_cons_succ]
  refine wpAnyH_take (i := 1) (oi := ⟨some 4, .nilCheck (.tmp 3), 0, "bank.go:106", #[⟨0, .data⟩], none⟩) (v := ?_) rfl (by kernel_rfl) (by kernel_rfl) (by kernel_rfl) (fun _ _ _ h => h) (Or.inl ⟨by rfl, ?_⟩) (by assumption) ?_
  rotate_left
  · (intro w_ hS_; (try dsimp only at hS_); go_simp; try with_reducible rfl)
  try simp only [Act.put, List.setIfInBounds_toArray, List.set_cons_zero, List.set_cons_succ]
  refine wpAnyH_take (i := 2) (oi := ⟨some 5, .fieldAddr 74 (.tmp 4) 0, 0, "bank.go:106", #[⟨1, .data⟩], none⟩) (v := ?_) rfl (by kernel_rfl) (by kernel_rfl) (by kernel_rfl) (fun _ _ _ h => h) (Or.inl ⟨by rfl, ?_⟩) (by assumption) ?_
  rotate_left
  · (intro w_ hS_; (try dsimp only at hS_); go_simp; try with_reducible rfl)
  try simp only [Act.put, List.setIfInBounds_toArray, List.set_cons_zero, List.set_cons_succ]
  refine wpAnyH_take (i := 3) (oi := ⟨some 6, .load 3 (.tmp 5), 3, "bank.go:106", #[⟨2, .data⟩], none⟩) (v := ?_) rfl (by kernel_rfl) (by kernel_rfl) (by kernel_rfl) (fun _ _ _ h => h) (Or.inl ⟨by rfl, ?_⟩) (by assumption) ?_
  rotate_left
  · (intro w_ hS_; (try dsimp only at hS_); go_simp; try with_reducible rfl)
  try simp only [Act.put, List.setIfInBounds_toArray, List.set_cons_zero, List.set_cons_succ]
  refine wpAnyH_take (i := 4) (oi := ⟨some 7, .move (.tmp 0), 23, "bank.go:106", #[], none⟩) (v := ?_) rfl (by kernel_rfl) (by kernel_rfl) (by kernel_rfl) (fun _ _ _ h => h) (Or.inl ⟨by rfl, ?_⟩) (by assumption) ?_
  rotate_left
  · (intro w_ hS_; (try dsimp only at hS_); go_simp; try with_reducible rfl)
  try simp only [Act.put, List.setIfInBounds_toArray, List.set_cons_zero, List.set_cons_succ]
  refine wpAnyH_take (i := 5) (oi := ⟨some 8, .nilCheck (.tmp 7), 0, "bank.go:106", #[⟨4, .data⟩], none⟩) (v := ?_) rfl (by kernel_rfl) (by kernel_rfl) (by kernel_rfl) (fun _ _ _ h => h) (Or.inl ⟨by rfl, ?_⟩) (by assumption) ?_
  rotate_left
  · (intro w_ hS_; (try dsimp only at hS_); go_simp; try with_reducible rfl)
  try simp only [Act.put, List.setIfInBounds_toArray, List.set_cons_zero, List.set_cons_succ]
  refine wpAnyH_take (i := 6) (oi := ⟨some 9, .fieldAddr 74 (.tmp 8) 1, 0, "bank.go:106", #[⟨5, .data⟩], none⟩) (v := ?_) rfl (by kernel_rfl) (by kernel_rfl) (by kernel_rfl) (fun _ _ _ h => h) (Or.inl ⟨by rfl, ?_⟩) (by assumption) ?_
  rotate_left
  · (intro w_ hS_; (try dsimp only at hS_); go_simp; try with_reducible rfl)
  try simp only [Act.put, List.setIfInBounds_toArray, List.set_cons_zero, List.set_cons_succ]
  refine wpAnyH_take (i := 7) (oi := ⟨some 10, .load 72 (.tmp 9), 72, "bank.go:106", #[⟨6, .data⟩], none⟩) (v := ?_) rfl (by kernel_rfl) (by kernel_rfl) (by kernel_rfl) (fun _ _ _ h => h) (Or.inl ⟨by rfl, ?_⟩) (by assumption) ?_
  rotate_left
  · (intro w_ hS_; (try dsimp only at hS_); go_simp; try with_reducible rfl)
  try simp only [Act.put, List.setIfInBounds_toArray, List.set_cons_zero, List.set_cons_succ]
  refine wpAnyH_ready (rs := [8]) (by kernel_rfl) (by simp) ?_
  refine AllReadyH.cons (o := ⟨some 11, .call ⟨.value (.func 43), #[.tmp 10], #[72]⟩, 72, "bank.go:106", #[⟨7, .data⟩], none⟩) rfl (fun K hK => ?_) AllReadyH.nil
  (have hq_ := hHeld; (try dsimp only at hq_))
  obtain ⟨⟨PG_1_1, PG_1_1'⟩, ⟨PL_1_1, PL_1_1'⟩, hF_1_1⟩ := hq_
  go_simp
  refine (HR.out _ ⟨by go_simp, by go_simp⟩).mono ?_
  rintro e u1_1 ⟨ob, c', T', rfl, hob, ⟨O1, O1'⟩, hb⟩
  have hz_1_1 := Nat.le_trans hF_1_1.size hb.size
  refine hK.out _ _ ?_ (fun hHeld => ?_)
  · exact ⟨⟨rk1 PG_1_1 hb, rk2 PG_1_1 PG_1_1' hb⟩, ⟨rk1 PL_1_1 hb, rk2 PL_1_1 PL_1_1' hb⟩, bk hF_1_1 hF_1_1.size hb⟩
  clear hK K
  try simp only [Act.put, List.setIfInBounds_toArray, List.set_cons_zero, List.set_cons_succ]
  refine wpAnyH_take (i := 9) (oi := ⟨some 12, .build 74 #[(0, .tmp 6), (1, .tmp 11)], 74, "bank.go:106", #[⟨3, .data⟩, ⟨8, .data⟩], none⟩) (v := ?_) rfl (by kernel_rfl) (by kernel_rfl) (by kernel_rfl) (fun _ _ _ h => h) (Or.inl ⟨by rfl, ?_⟩) (by assumption) ?_
  rotate_left
  · (intro w_ hS_; (try dsimp only at hS_); go_simp; try with_reducible rfl)
  try simp only [Act.put, List.setIfInBounds_toArray, List.set_cons_zero, List.set_cons_succ]
  refine wpAnyH_ready (rs := [10]) (by kernel_rfl) (by simp) ?_
  refine AllReadyH.cons (o := ⟨some 13, .box 74 (.tmp 12), 23, "bank.go:106", #[⟨9, .data⟩], none⟩) rfl (fun K hK => ?_) AllReadyH.nil
  (have hq_ := hHeld; (try dsimp only at hq_))
  obtain ⟨⟨PG_1_2, PG_1_2'⟩, ⟨PL_1_2, PL_1_2'⟩, hF_1_2⟩ := hq_
  go_simp
  refine hK.out _ _ ?_ (fun hHeld => ?_)
  · (refine ⟨⟨by go_simp, by go_simp⟩, ⟨by go_simp, by go_simp⟩, by go_simp⟩)
  clear hK K
  try simp only [Act.put, List.setIfInBounds_toArray, List.set_cons_zero, List.set_cons_succ]
  refine wpAnyH_take (i := 11) (oi := ⟨some 2, .assign (.tmp 13), 23, "bank.go:106", #[⟨10, .data⟩, ⟨8, .chain⟩, ⟨0, .phase⟩, ⟨1, .phase⟩, ⟨2, .phase⟩, ⟨3, .phase⟩, ⟨4, .phase⟩, ⟨5, .phase⟩, ⟨6, .phase⟩, ⟨7, .phase⟩, ⟨8, .phase⟩, ⟨9, .phase⟩, ⟨10, .phase⟩], none⟩) (v := ?_) rfl (by kernel_rfl) (by kernel_rfl) (by kernel_rfl) (fun _ _ _ h => h) (Or.inl ⟨by rfl, ?_⟩) (by assumption) ?_
  rotate_left
  · (intro w_ hS_; (try dsimp only at hS_); go_simp; try with_reducible rfl)
  try simp only [Act.put, List.setIfInBounds_toArray, List.set_cons_zero, List.set_cons_succ]
  refine wpAnyH_done (by kernel_rfl) ?_ _
  (try dsimp only at hHeld)
  go_split_ands
  have hw := hz_1_1
  have n6 : ¬ u1_1.heap.size = ob := by have := O1.lt; omega
  have n7 : ¬ ob = u1_1.heap.size := fun e => n6 e.symm
  go_wp2
  go_ret
  exact ⟨_, ob, c', T', rfl, hw, hob, n6, ⟨by go_simp, by go_simp⟩, ⟨by go_simp, by go_simp⟩, by assumption⟩

theorem made_ft (n : Nat) : madeCells (Value.agg (vE zE)).cells (n * 8) = FT eE (List.replicate n zE) [] := by
  apply Array.ext'
  apply List.ext_getElem?
  intro i
  have hs : (FT eE (List.replicate n zE) []).size = n * 8 := by rw [FT_size eE_len]; simp
  by_cases hi : i < n * 8
  · have e := FT_at eE_len (xs := List.replicate n zE) (T := []) (k := i / 8) (j := i % 8) (x := zE) (by rw [List.getElem?_replicate, if_pos (by omega)]) (Nat.mod_lt _ (by decide))
    rw [show i / 8 * 8 + i % 8 = i by omega] at e
    rw [Array.getElem?_toList, Array.getElem?_toList, e]
    unfold madeCells
    have h8 : i % 8 < 8 := Nat.mod_lt _ (by decide)
    rw [Array.getElem?_map, Array.getElem?_range, if_pos hi]
    show some _ = _
    have : i % (Value.agg (vE zE)).cells.size = i % 8 := rfl
    rcases (show i % 8 = 0 ∨ i % 8 = 1 ∨ i % 8 = 2 ∨ i % 8 = 3 ∨ i % 8 = 4 ∨ i % 8 = 5 ∨ i % 8 = 6 ∨ i % 8 = 7 by omega) with h | h | h | h | h | h | h | h <;> (simp [Value.cells, vE_size, h]; rfl)
  · rw [Array.getElem?_toList, Array.getElem?_toList, Array.getElem?_eq_none (by simp [madeCells]; omega), Array.getElem?_eq_none (by omega)]
theorem mkE (n : Nat) (h : n ≤ 16384) (w : World) : (Instr.makeSlice 72 (.int .i64 (n : Int)) (.int .i64 (n : Int))).run Try.prog w = .ok (.slice (some ⟨w.heap.size, 0, none⟩) n n) (w.alloc (.cells (FT eE (List.replicate n zE) []) 35)) := by
  have hz := infoZE
  cases hq : Try.prog.info? 35 with
  | none => rw [hq] at hz; cases hz
  | some i =>
    rw [hq] at hz
    simp only [Option.map_some, Option.some.injEq, Prod.mk.injEq] at hz
    obtain ⟨h1, h2, h3⟩ := hz
    have := run_makeSlice (P := Try.prog) w 72 35 i _ Try.underlying72 hq h1 .i64 .i64 n n (by omega) (by omega) (by rw [h2]; show _ * 8 ≤ _; omega) (by rw [h3]; omega) (by omega)
    rw [this, h2]
    simp only [Int.toNat_natCast]
    rw [show n * kE.sz = n * 8 from rfl, made_ft]
end Go.Proofs.Ytbglgblngfbhbaa.Bk

namespace Go.Proofs.Ytbglgblngfbhbaa.Bk
open Go.RowKit Go.Shelf Go.Proofs.Ytbglgblngfbhbaa.IAll Go.Proofs.YtbglgblngfbhbaaW.PrintWords Go.Proofs.YtbglgblngfbhbaaW.PrintLast Go.Proofs.YtbglgblngfbhbaaW.PrintMore
set_option linter.unusedVariables false
set_option linter.unusedSectionVars false
set_option linter.unusedSimpArgs false
attribute [local go_sem] Oper.semAt_some cell_row frozen_row isRow_setCell_eq rowAt_setCell_same rowAt_setCell_other isRow_alloc_eq rowAt_alloc rowAt_new rowAt_new' isRow_setRow_eq rowAt_setRow_same rowAt_setRow_other isRow_drew rowAt_drew size_setRow_ size_drew_ blk_ptr aggOf_agg offv_ptr below_alloc_e below_setCell_e below_setRow_e below_refl_e below_drew_r isRow_drewN rowAt_drewN below_drewN_e le_add_r asideP_alloc_e asideP_setCell_e asideP_setRow_e asideP_drew_e asideP_drewN_e asideP_refl_e allOne_nil allOne_cons Value.oneCell' addr_at mid_FT vE_size vL_size vQ_size vC_size vS_size vP_size vE_one vL_one vQ_one vC_one vS_one vP_one mid_spl spl_size spl_spl
attribute [local go_sem ↓] loadE storeE loadEm storeEm loadEg storeEg loadEmg storeEmg loadL storeL loadLm storeLm loadQ storeQ loadQm storeQm loadC storeC loadCg storeCg loadS storeS loadSm loadP storeP loadPm loadPg storePg 
set_option maxRecDepth 100000

def newE (x : ByteArray) : E := { zE with f7 := x }
def newL (n k : Nat) (x : ByteArray) : List E := List.replicate k (newE x) ++ List.replicate (n - k) zE
theorem newL_0 (n : Nat) (x : ByteArray) : newL n 0 x = List.replicate n zE := by simp [newL]
theorem newL_all (n : Nat) (x : ByteArray) : newL n n x = List.replicate n (newE x) := by simp [newL]
theorem newL_len {n k : Nat} (x : ByteArray) (h : k ≤ n) : (newL n k x).length = n := by simp [newL]; omega
theorem newL_at {n k : Nat} (x : ByteArray) (h : k < n) : (newL n k x)[k]? = some zE := by
  unfold newL
  rw [List.getElem?_append_right (by simp), List.getElem?_replicate, if_pos (by simp; omega)]
theorem newL_set {n k : Nat} (x : ByteArray) (h : k < n) : (newL n k x).set k (newE x) = newL n (k + 1) x := by
  unfold newL
  obtain ⟨m, hm⟩ : ∃ m, n - k = m + 1 := ⟨n - k - 1, by omega⟩
  rw [List.set_append_right _ _ (by simp), hm, show n - (k + 1) = m by omega, List.replicate_succ, List.replicate_succ']
  simp
theorem New_bad (first m : Int) (x : ByteArray) (w : World) (h1 : Wid first) (h2 : Wid m) (h : ¬ (0 ≤ first ∧ 0 ≤ m ∧ first + m ≤ 16384)) : Calls Try.prog 10 #[.int .i64 first, .int .i64 m, .string x] w fun e w' => e = .returned (.tuple #[.pointer none, .int .i64 1]) ∧ Below w.heap.size w w' := by
  unfold Wid at h1 h2
  have hB := Below.refl w.heap.size w
  go_enter Try.func10, Try.ntmps10
  by_cases t0 : first < 0
  · have u0 := decide_eq_true t0
    clear t0 h h1 h2
    go_wp2
    go_ret2
    exact ⟨rfl, by go_simp⟩
  by_cases t1 : m < 0
  · have u0 := decide_eq_false t0
    have u1 := decide_eq_true t1
    clear t0 t1 h h1 h2
    go_wp2
    go_ret2
    exact ⟨rfl, by go_simp⟩
  by_cases t2 : 16384 < first
  · have u0 := decide_eq_false t0
    have u1 := decide_eq_false t1
    have u2 := decide_eq_true t2
    clear t0 t1 t2 h h1 h2
    go_wp2
    go_ret2
    exact ⟨rfl, by go_simp⟩
  have t3 : wrap64 (16384 - first) < m := by rw [IntWalk.wrap64_in _ (by omega)]; omega
  have u0 := decide_eq_false t0
  have u1 := decide_eq_false t1
  have u2 := decide_eq_false t2
  have u3 := decide_eq_true t3
  clear t0 t1 t2 t3 h h1 h2
  go_wp2
  go_ret2
  exact ⟨rfl, by go_simp⟩
set_option maxHeartbeats 1000000 in
theorem New_c (first : Int) (n : Nat) (x : ByteArray) (w : World) (h0 : 0 ≤ first) (h1 : first + n ≤ 16384) : Calls Try.prog 10 #[.int .i64 first, .int .i64 (n : Int), .string x] w fun e w' => ∃ g' el', e = .returned (.tuple #[.pointer (some ⟨g', 0, none⟩), .int .i64 0]) ∧ w.heap.size ≤ g' ∧ w.heap.size ≤ el' ∧ ¬ g' = el' ∧ Row w' g' #[.int .i64 first, .slice (some ⟨el', 0, none⟩) n n] ∧ Row w' el' (FT eE (List.replicate n (newE x)) []) ∧ Below w.heap.size w w' := by
  have hB := Below.refl w.heap.size w
  have u0 : decide (first < 0) = false := decide_eq_false (by omega)
  have u1 : decide ((n : Int) < 0) = false := decide_eq_false (by omega)
  have u2 : decide (16384 < first) = false := decide_eq_false (by omega)
  have u3 : decide (IntKind.i64.wrap (16384 - first) < (n : Int)) = false := decide_eq_false (by rw [IntWalk.i64_in _ (by omega)]; omega)
  have hm := fun w => mkE n (by omega) w
  go_enter Try.func10, Try.ntmps10
  go_wp2
  have z1 : w.heap.size ≤ w.heap.size + 1 := by omega
  go_loopw [9, 36] (fun p q wr => ∃ k : Nat, k ≤ n ∧ q = .int .i64 k ∧ Row wr w.heap.size (FT eE (newL n k x) []) ∧ Row wr (w.heap.size + 1) #[.int .i64 first, .slice (some ⟨w.heap.size, 0, none⟩) n n] ∧ Below w.heap.size w wr) (fun _ q _ => n - (intOf q).toNat)
  case atStart => exact ⟨0, by omega, rfl, by rw [newL_0]; exact ⟨by go_simp, by go_simp⟩, ⟨by go_simp, by go_simp⟩, by go_simp⟩
  case round =>
    obtain ⟨k, hk, rfl, ⟨L1, L1'⟩, ⟨G1, G1'⟩, hX⟩ := hrel
    clear hm u0 u1 u2 u3
    by_cases hlt : k < n
    · have k1 : (k : Int) < n := by omega
      have k0 : (0 : Int) ≤ k := by omega
      have k2 : decide ((k : Int) < n) = true := decide_eq_true k1
      have w3 : IntKind.i64.wrap ((k : Int) + 1) = (k : Int) + 1 := IntWalk.i64_in _ (by omega)
      have hs : k * 8 + 7 < (FT eE (newL n k x) []).size := by rw [FT_size eE_len, newL_len x hk]; omega
      have hset : (FT eE (newL n k x) []).setIfInBounds (k * 8 + 7) (.string x) = FT eE (newL n (k + 1) x) [] := (FT_set (y := newE x) eE_len (newL_at x hlt) (by decide) rfl).trans (by rw [newL_set x hlt])
      have hcell : (FT eE (newL n k x) [])[k * 8 + 7]? = some (.string ⟨#[]⟩) := FT_at eE_len (newL_at x hlt) (by decide)
      go_wp2
      go_roundw
      case rel =>
        exact ⟨k + 1, by omega, congrArg (Value.int .i64) (by omega), ⟨by go_simp, by go_simp⟩, ⟨by go_simp, by go_simp⟩, by go_simp⟩
      case measure => simp [intOf]; omega
    · obtain rfl : k = n := by omega
      have k2 : decide ((k : Int) < k) = false := decide_eq_false (by omega)
      rw [newL_all] at L1'
      go_wp2
      go_ret2
      exact ⟨_, _, rfl, z1, Nat.le_refl _, by omega, ⟨by go_simp, by go_simp⟩, ⟨by go_simp, by go_simp⟩, by go_simp⟩
end Go.Proofs.Ytbglgblngfbhbaa.Bk

namespace Go.Proofs.Ytbglgblngfbhbaa.Bk
open Go.RowKit Go.Shelf Go.Proofs.Ytbglgblngfbhbaa.IAll Go.Proofs.YtbglgblngfbhbaaW.PrintWords Go.Proofs.YtbglgblngfbhbaaW.PrintLast Go.Proofs.YtbglgblngfbhbaaW.PrintMore
set_option linter.unusedVariables false
set_option linter.unusedSectionVars false
set_option linter.unusedSimpArgs false
attribute [local go_sem] Oper.semAt_some cell_row frozen_row isRow_setCell_eq rowAt_setCell_same rowAt_setCell_other isRow_alloc_eq rowAt_alloc rowAt_new rowAt_new' isRow_setRow_eq rowAt_setRow_same rowAt_setRow_other isRow_drew rowAt_drew size_setRow_ size_drew_ blk_ptr aggOf_agg offv_ptr below_alloc_e below_setCell_e below_setRow_e below_refl_e below_drew_r isRow_drewN rowAt_drewN below_drewN_e le_add_r asideP_alloc_e asideP_setCell_e asideP_setRow_e asideP_drew_e asideP_drewN_e asideP_refl_e allOne_nil allOne_cons Value.oneCell' addr_at mid_FT vE_size vL_size vQ_size vC_size vS_size vP_size vE_one vL_one vQ_one vC_one vS_one vP_one mid_spl spl_size spl_spl
attribute [local go_sem ↓] loadE storeE loadEm storeEm loadEg storeEg loadEmg storeEmg loadL storeL loadLm storeLm loadQ storeQ loadQm storeQm loadC storeC loadCg storeCg loadS storeS loadSm loadP storeP loadPm loadPg storePg 
set_option maxRecDepth 100000
/-- rows of cells lie as they lay, but those of the kinds C -/
structure KeepC (C : Nat → Obj → Prop) (W W' : World) : Prop where
  size : W.heap.size ≤ W'.heap.size
  same : ∀ (k : Nat) (o : Obj), ¬ C k o → W.heap[k]? = some o → o.isCells = true → W'.heap[k]? = some o
theorem KeepC.refl (C : Nat → Obj → Prop) (W : World) : KeepC C W W := ⟨Nat.le_refl _, fun _ _ _ h _ => h⟩
theorem KeepC.trans {C : Nat → Obj → Prop} {W W' W'' : World} (h : KeepC C W W') (k : KeepC C W' W'') : KeepC C W W'' :=
  ⟨Nat.le_trans h.size k.size, fun i o hc hi ho => k.same i o hc (h.same i o hc hi ho) ho⟩
theorem KeepC.more {C C' : Nat → Obj → Prop} {W W' : World} (h : KeepC C W W') (hC : ∀ k o, C k o → C' k o) : KeepC C' W W' := ⟨h.size, fun k o hc hk ho => h.same k o (fun e => hc (hC k o e)) hk ho⟩
theorem KeepC.low {C : Nat → Obj → Prop} {W W' : World} (h : Below W.heap.size W W') : KeepC C W W' :=
  ⟨h.size, fun i _ _ hi _ => (h.block i (Array.getElem?_eq_some_iff.1 hi).1).trans hi⟩
theorem KeepC.put {C : Nat → Obj → Prop} (W : World) (l : Nat) (o o' : Obj) (h : W.heap[l]? = some o) (ho : o.isCells = false) : KeepC C W (W.putObj l o') :=
  ⟨by simp, fun k o1 _ hk h1 => (World.putObj_heap_other (fun e => by rw [e, h] at hk; cases hk; rw [ho] at h1; cases h1)).trans hk⟩
theorem KeepC.setRow {C : Nat → Obj → Prop} (W : World) {g : Nat} (hg : ∀ o, C g o) (cs : Array Value) : KeepC C W (W.setRow g cs) :=
  ⟨by simp, fun k o hc hk _ => (setRow_other W g k cs (fun e => hc (by rw [e]; exact hg o))).trans hk⟩
theorem KeepC.setCell {C : Nat → Obj → Prop} (W : World) {p : Addr} (hg : ∀ o, C p.block o) (v : Value) : KeepC C W (W.setCell p v) :=
  ⟨(KeepsWalks.setCell W _ v).size, fun k o hc hk _ => (Below.heap_setCell _ _ _ k (fun e => hc (by rw [e]; exact hg o))).trans hk⟩
theorem KeepC.row {C : Nat → Obj → Prop} {W W' : World} (h : KeepC C W W') {g : Nat} {cs : Array Value} (hg : ∀ t, ¬ C g (.cells cs t (0, 0))) (hr : Row W g cs) : Row W' g cs := by
  obtain ⟨t, ht⟩ := hr.box
  exact Row.of (show BoxN W' g t cs from h.same g _ (hg _) ht rfl)
theorem KeepC.boxN {C : Nat → Obj → Prop} {W W' : World} (h : KeepC C W W') {g : Nat} {t : TypeId} {cs : Array Value} (hg : ¬ C g (.cells cs t (0, 0))) (hr : BoxN W g t cs) : BoxN W' g t cs := h.same g _ hg hr rfl
theorem KeepC.cell {C : Nat → Obj → Prop} {W W' : World} (h : KeepC C W W') {a : Addr} (ha : ∀ o, ¬ C a.block o) {v : Value} (hv : W.cell? a = some v) : W'.cell? a = some v := by
  obtain ⟨o, ho⟩ : ∃ o, W.heap[a.block]? = some o := ⟨_, Array.getElem?_eq_getElem (World.block_lt_of_cell? W a hv)⟩
  have hc : o.isCells = true := by
    unfold World.cell? at hv
    rw [ho] at hv
    cases o <;> first | rfl | exact absurd hv (by simp)
  exact (World.cell?_of_block ((h.same _ o (ha o) ho hc).trans ho.symm)).trans hv
theorem KeepC.aside {P : Nat → Prop} {W W' : World} (h : AsideP P W W') : KeepC (fun k _ => P k) W W' := ⟨h.size, fun k _ hc hi _ => (h.block k (Array.getElem?_eq_some_iff.1 hi).1 hc).trans hi⟩
theorem boxN_setRow {W : World} {g : Nat} {t : TypeId} {cs : Array Value} (h : BoxN W g t cs) (ds : Array Value) : BoxN (W.setRow g ds) g t ds := by
  obtain ⟨hlt, hk⟩ := Array.getElem?_eq_some_iff.1 h
  show (W.heap.modify g _)[g]? = _
  rw [Array.getElem?_eq_getElem (by rw [Array.size_modify]; exact hlt), Array.getElem_modify_self, hk]
theorem grownBy_setRow' (W : World) (g : Nat) (cs : Array Value) : W.grownBy (W.setRow g cs) (some g) :=
  ⟨rfl, rfl, rfl, by simp, fun k _ hk => setRow_other W g k cs (fun e => hk (by rw [e]))⟩
theorem OwnP.under {β : Type} {Pv : Obj → Prop} {B : Nat} {I : β → World → Prop} (h : OwnP Pv B I) {s : β} {W W' : World} (hs : I s W) (hb : Below W.heap.size W W') : I s W' :=
  h s W W' none hs ⟨hb.os, hb.tape, hb.output, hb.size, fun k hk _ => hb.block k hk⟩ (fun r e => by cases e)
theorem OwnP.row {β : Type} (Pv : Obj → Prop) {B b : Nat} (hb : b < B) (f : β → Array Value) : OwnP Pv B (fun s W => Row W b (f s)) := fun _ W W' row hs hg hr =>
  hs.same (hg.block b hs.1.lt (fun e => by have := (hr b e.symm).1; omega))
theorem KeepsFrom.low {B : Nat} {W W' : World} (h : Below W.heap.size W W') : KeepsFrom B W W' := ⟨h.size, fun i _ _ hi _ => (h.block i (Array.getElem?_eq_some_iff.1 hi).1).trans hi⟩

/-- what a round may turn: what is new, and the blocks of F, but no box of a yield -/
def CF (F : Nat → Prop) (n : Nat) (k : Nat) (o : Obj) : Prop := (n ≤ k ∧ ∀ cs, o ≠ .cells cs 81 (0, 0)) ∨ F k
theorem cf_no {F : Nat → Prop} {n k : Nat} (h1 : k < n) (h2 : ¬ F k) (o : Obj) : ¬ CF F n k o := fun h => by
  rcases h with h | h
  · omega
  · exact h2 h
theorem cf_yield {F : Nat → Prop} {n k : Nat} {cs : Array Value} (hF : ¬ F k) : ¬ CF F n k (.cells cs 81 (0, 0)) := fun h => by
  rcases h with h | h
  · exact h.2 cs rfl
  · exact hF h
theorem KeepC.boxT {C : Nat → Obj → Prop} {W W' : World} (h : KeepC C W W') {g : Nat} {cs : Array Value} {t : TypeId} (hg : ¬ C g (.cells cs t (0, 0))) (hr : BoxN W g t cs) : BoxN W' g t cs := h.same g _ hg hr rfl
/-- the interrupts with their numbers -/
def allL (first : Int) : List E → List (Int × E)
  | [] => []
  | x :: r => (first, x) :: allL (first + 1) r
theorem allL_append (a b : List E) : ∀ first : Int, allL first (a ++ b) = allL first a ++ allL (first + a.length) b := by
  induction a with
  | nil => intro f; simp [allL]
  | cons x r ih => intro f; rw [List.cons_append, allL, allL, ih, List.length_cons, List.cons_append]; congr 3; omega
theorem allL_at {d : List E} {k : Nat} {x : E} (first : Int) (h : d[k]? = some x) : allL first d = allL first (d.take k) ++ (first + k, x) :: allL (first + k + 1) (d.drop (k + 1)) := by
  obtain ⟨a, b, rfl, rfl⟩ := list_at h
  have e2 : (a ++ x :: b).drop (a.length + 1) = b := by rw [List.append_cons]; exact List.drop_left' (by simp)
  rw [List.take_left, e2, allL_append, allL]
theorem allL_next {d : List E} {k : Nat} {x : E} (first : Int) (h : d[k]? = some x) : allL first (d.take (k + 1)) = allL first (d.take k) ++ [(first + k, x)] := by
  obtain ⟨a, b, rfl, rfl⟩ := list_at h
  have e1 : (a ++ x :: b).take (a.length + 1) = a ++ [x] := by rw [List.append_cons]; exact List.take_left' (by simp)
  rw [List.take_left, e1, allL_append, allL, allL]
theorem allL_length (d : List E) : ∀ first : Int, (allL first d).length = d.length := by
  induction d with
  | nil => intro f; rfl
  | cons x r ih => intro f; rw [allL, List.length_cons, ih, List.length_cons]
abbrev encI (x : Int × E) : Array Value := #[.int .i64 x.1, .agg (vE x.2)]
/-- v is an iterator over xs -/
def ItV (F : Nat → Prop) (v : Value) (xs : List (Int × E)) (w : World) : Prop := ∃ gf lb, v = .func (.func gf) #[] lb ∧ (∀ args w, (callFunc gf args).run Try.prog w = .ok (.enter gf args) w) ∧
  ∀ (n : Nat) (W0 : World), w.heap.size ≤ n → Below w.heap.size w W0 → Iter NoCells Try.prog gf lb encI (KeepC (CF F n)) xs W0
theorem ItV.later {F : Nat → Prop} {v : Value} {xs : List (Int × E)} {w w' : World} (h : ItV F v xs w) (hb : Below w.heap.size w w') : ItV F v xs w' := by
  obtain ⟨gf, lb, e, eg, hi⟩ := h
  exact ⟨gf, lb, e, eg, fun n W0 h1 h2 => hi n W0 (Nat.le_trans hb.size h1) (hb.trans (h2.mono hb.size))⟩
set_option maxHeartbeats 2000000 in
theorem all_iter (F : Nat → Prop) (n N B1 B2 g el c ob c' : Nat) (first : Int) (d : List E) (T : List Value) (W0 : World) (hN : d.length = N) (h0f : 0 ≤ first) (h1f : first + N ≤ 16384)
    (hB1 : B1 < n) (hB2 : B2 < n) (hg : g < n) (hob : ob < n) (fB1 : ¬ F B1) (fB2 : ¬ F B2) (fg : ¬ F g) (fob : ¬ F ob)
    (r1 : Row W0 B1 #[.slice (some ⟨ob, 0, none⟩) N c']) (r2 : Row W0 B2 #[.pointer (some ⟨g, 0, none⟩)]) (r3 : Row W0 g #[.int .i64 first, .slice (some ⟨el, 0, none⟩) N c]) (r4 : Row W0 ob (FT eE d T)) :
    Iter NoCells Try.prog 44 #[.pointer (some ⟨B1, 0, none⟩), .pointer (some ⟨B2, 0, none⟩)] encI (KeepC (CF F n)) (allL first d) W0 := by
  intro ln J Jx W hW hJ hJx hY h0
  have hK0 : KeepC (CF F n) W0 W := KeepC.low hW
  obtain ⟨a1, a1'⟩ := hK0.row (fun t => cf_no hB1 fB1 _) r1
  obtain ⟨a4, a4'⟩ := hK0.row (fun t => cf_no hob fob _) r4
  refine callsIn_of_wp Try.func44 rfl trivial ?_ rfl
  simp only [Try.ntmps44, List.size_toArray, List.length_cons, List.length_nil, Nat.reduceAdd, Nat.reduceSub, Array.replicate_succ, Array.replicate_zero, List.push_toArray, List.append_toArray, List.nil_append, List.cons_append]
  gi_wp2
  gi_loopw [8] (fun q wr => ∃ k : Nat, k ≤ N ∧ q = .int .i64 k ∧ J (allL first (d.take k)) wr ∧ KeepC (CF F n) W0 wr ∧ W.heap.size ≤ wr.heap.size) (fun q _ => N - (intOf q).toNat)
  case atStart => exact ⟨0, by omega, rfl, h0, hK0, Nat.le_refl _⟩
  case round =>
    obtain ⟨k, hk, rfl, hj, hKB, hsz⟩ := hrel
    clear a1 a1' a4 a4' h0 hK0
    by_cases hlt : k < N
    · have k1 : (k : Int) < N := by omega
      have k0 : (0 : Int) ≤ k := by omega
      have k2 : decide ((k : Int) < N) = true := decide_eq_true k1
      have hget : d[k]? = some d[k] := List.getElem?_eq_getElem (by omega)
      generalize d[k] = x at hget
      have HA := Lib.hid (allL_at first hget)
      have HS := Lib.hid (allL_next first hget)
      have hx : (FT eE d T).extract (k * 8) (k * 8 + 8) = vE x := FT_ext eE_len hget (Nat.le_refl _)
      have hs : k * 8 + 8 ≤ (FT eE d T).size := by rw [FT_size eE_len]; omega
      have w1 : IntKind.i64.wrap (first + k) = first + k := IntWalk.i64_in _ (by omega)
      have w3 : IntKind.i64.wrap ((k : Int) + 1) = (k : Int) + 1 := IntWalk.i64_in _ (by omega)
      obtain ⟨b2, b2'⟩ := hKB.row (fun t => cf_no hB2 fB2 _) r2
      obtain ⟨b3, b3'⟩ := hKB.row (fun t => cf_no hg fg _) r3
      obtain ⟨b4, b4'⟩ := hKB.row (fun t => cf_no hob fob _) r4
      have l2 := b2.lt
      have l3 := b3.lt
      have l4 := b4.lt
      have m2 : ¬ B2 = wr.heap.size := by omega
      have m2' : ¬ wr.heap.size = B2 := by omega
      have m3 : ¬ g = wr.heap.size := by omega
      have m3' : ¬ wr.heap.size = g := by omega
      clear hget hk
      gi_wp2_with fail
      refine wpIn_named (fun W_ => (isRow W_ B2 ∧ rowAt W_ B2 = #[.pointer (some ⟨g, 0, none⟩)]) ∧ (isRow W_ g ∧ rowAt W_ g = #[.int .i64 first, .slice (some ⟨el, 0, none⟩) N c]) ∧ (isRow W_ wr.heap.size ∧ rowAt W_ wr.heap.size = vE x) ∧ Below wr.heap.size wr W_) (by refine ⟨⟨by go_simp, by go_simp⟩, ⟨by go_simp, by go_simp⟩, ⟨by go_simp, by go_simp⟩, by go_simp⟩) ?_
      rintro v1 ⟨⟨c2, c2'⟩, ⟨c3, c3'⟩, ⟨c5, c5'⟩, hv⟩
      clear b2 b2' b3 b3' b4 b4'
      refine wpIn_region_any (by kernel_rfl) ?_
      change wpAnyIn _ _ _ _ _ _ _ _ _ (World.drew _)
      refine wpAnyIn_take (i := 0) (v := ?_) rfl rfl (by kernel_rfl) (by kernel_rfl) (by kernel_rfl) (fun _ _ _ h => h) ⟨Or.inl ⟨by rfl, ?_⟩, fun _ => rfl⟩ ?_
      rotate_left
      · (intro w_; go_simp; try with_reducible rfl)
      try simp only [Act.put, List.setIfInBounds_toArray, List.set_cons_zero, List.set_cons_succ]
      refine wpAnyIn_take (i := 5) (v := ?_) rfl rfl (by kernel_rfl) (by kernel_rfl) (by kernel_rfl) (fun _ _ _ h => h) ⟨Or.inl ⟨by rfl, ?_⟩, fun _ => rfl⟩ ?_
      rotate_left
      · (intro w_; go_simp; try with_reducible rfl)
      try simp only [Act.put, List.setIfInBounds_toArray, List.set_cons_zero, List.set_cons_succ]
      refine wpAnyIn_ready (rs := [1, 7]) (by kernel_rfl) (by simp) ?_
      refine AllReadyIn.cons (o := ⟨some 14, .load 23 (.tmp 2), 23, "bank.go:76", #[], none⟩) rfl (fun K hK => ?_) (AllReadyIn.cons (o := ⟨some 20, .load 35 (.tmp 5), 35, "bank.go:76", #[], none⟩) rfl (fun K hK => ?_) AllReadyIn.nil)
      · skip
        go_simp
        refine hK _ _ ?_
        clear hK K
        try simp only [Act.put, List.setIfInBounds_toArray, List.set_cons_zero, List.set_cons_succ]
        refine wpAnyIn_take (i := 2) (v := ?_) rfl rfl (by kernel_rfl) (by kernel_rfl) (by kernel_rfl) (fun _ _ _ h => h) ⟨Or.inl ⟨by rfl, ?_⟩, fun _ => rfl⟩ ?_
        rotate_left
        · (intro w_; go_simp; try with_reducible rfl)
        try simp only [Act.put, List.setIfInBounds_toArray, List.set_cons_zero, List.set_cons_succ]
        refine wpAnyIn_take (i := 3) (v := ?_) rfl rfl (by kernel_rfl) (by kernel_rfl) (by kernel_rfl) (fun _ _ _ h => h) ⟨Or.inl ⟨by rfl, ?_⟩, fun _ => rfl⟩ ?_
        rotate_left
        · (intro w_; go_simp; try with_reducible rfl)
        try simp only [Act.put, List.setIfInBounds_toArray, List.set_cons_zero, List.set_cons_succ]
        refine wpAnyIn_ready (rs := [4, 7]) (by kernel_rfl) (by simp) ?_
        refine AllReadyIn.cons (o := ⟨some 17, .load 3 (.tmp 16), 3, "bank.go:76", #[⟨3, .data⟩], none⟩) rfl (fun K hK => ?_) (AllReadyIn.cons (o := ⟨some 20, .load 35 (.tmp 5), 35, "bank.go:76", #[], none⟩) rfl (fun K hK => ?_) AllReadyIn.nil)
        · skip
          go_simp
          refine hK _ _ ?_
          clear hK K
          try simp only [Act.put, List.setIfInBounds_toArray, List.set_cons_zero, List.set_cons_succ]
          refine wpAnyIn_take (i := 6) (v := ?_) rfl rfl (by kernel_rfl) (by kernel_rfl) (by kernel_rfl) (fun _ _ _ h => h) ⟨Or.inl ⟨by rfl, ?_⟩, fun _ => rfl⟩ ?_
          rotate_left
          · (intro w_; go_simp; try with_reducible rfl)
          try simp only [Act.put, List.setIfInBounds_toArray, List.set_cons_zero, List.set_cons_succ]
          refine wpAnyIn_ready (rs := [7]) (by kernel_rfl) (by simp) ?_
          refine AllReadyIn.cons (o := ⟨some 20, .load 35 (.tmp 5), 35, "bank.go:76", #[], none⟩) rfl (fun K hK => ?_) AllReadyIn.nil
          go_simp
          refine hK _ _ ?_
          clear hK K
          try simp only [Act.put, List.setIfInBounds_toArray, List.set_cons_zero, List.set_cons_succ]
          refine wpAnyIn_ready (rs := [8]) (by kernel_rfl) (by simp) ?_
          refine AllReadyIn.cons (o := ⟨some 21, .call ⟨.value (.tmp 13), #[.tmp 19, .tmp 20], #[3, 35]⟩, 4, "bank.go:76", #[⟨0, .data⟩, ⟨6, .data⟩, ⟨7, .data⟩], none⟩) rfl (fun K hK => ?_) AllReadyIn.nil
          go_simp
          obtain ⟨fn, tmps, assign, body, hy, hR⟩ := hY _ _ _ _ HA.out (OwnP.under hJ hj (below_drew0 hv))
          simp only [encI] at hy hR
          rw [hy]
          refine ⟨fun h_ => by simp [Fence.wide] at h_, ?_⟩
          refine hR.mono ?_
          rintro e W5 ⟨(⟨rfl, hJ3, hk3⟩ | ⟨rfl, hJx3⟩), -⟩
          · skip
            refine hK _ _ ?_
            clear hK K
            try simp only [Act.put, List.setIfInBounds_toArray, List.set_cons_zero, List.set_cons_succ]
            refine wpAnyIn_take (i := 9) (v := ?_) rfl rfl (by kernel_rfl) (by kernel_rfl) (by kernel_rfl) (fun _ _ _ h => h) ⟨Or.inl ⟨by rfl, ?_⟩, fun _ => rfl⟩ ?_
            rotate_left
            · (intro w_; go_simp; try with_reducible rfl)
            try simp only [Act.put, List.setIfInBounds_toArray, List.set_cons_zero, List.set_cons_succ]
            refine wpAnyIn_done (by kernel_rfl) ?_ _
            gi_wp2
            go_roundw
            case rel =>
              refine ⟨k + 1, by omega, congrArg (Value.int .i64) (by omega), by rw [HS.out]; exact hJ3, (hKB.trans (KeepC.low (below_drew0 hv))).trans hk3, ?_⟩
              have h1 := hv.size; have h2 := hk3.size; have h3 : v1.drew.heap.size = v1.heap.size := rfl; omega
            case measure => simp [intOf]; omega
          · skip
            refine hK _ _ ?_
            clear hK K
            try simp only [Act.put, List.setIfInBounds_toArray, List.set_cons_zero, List.set_cons_succ]
            refine wpAnyIn_take (i := 9) (v := ?_) rfl rfl (by kernel_rfl) (by kernel_rfl) (by kernel_rfl) (fun _ _ _ h => h) ⟨Or.inl ⟨by rfl, ?_⟩, fun _ => rfl⟩ ?_
            rotate_left
            · (intro w_; go_simp; try with_reducible rfl)
            try simp only [Act.put, List.setIfInBounds_toArray, List.set_cons_zero, List.set_cons_succ]
            refine wpAnyIn_done (by kernel_rfl) ?_ _
            gi_wp2
            refine bodyPost_ret (results_none rfl _ _ _) rfl ?_
            exact ⟨⟨_, rfl⟩, .inr ⟨_, _, _, HA.out, hJx3⟩⟩
        · skip
          go_simp
          refine hK _ _ ?_
          clear hK K
          try simp only [Act.put, List.setIfInBounds_toArray, List.set_cons_zero, List.set_cons_succ]
          refine wpAnyIn_ready (rs := [4]) (by kernel_rfl) (by simp) ?_
          refine AllReadyIn.cons (o := ⟨some 17, .load 3 (.tmp 16), 3, "bank.go:76", #[⟨3, .data⟩], none⟩) rfl (fun K hK => ?_) AllReadyIn.nil
          go_simp
          refine hK _ _ ?_
          clear hK K
          try simp only [Act.put, List.setIfInBounds_toArray, List.set_cons_zero, List.set_cons_succ]
          refine wpAnyIn_take (i := 6) (v := ?_) rfl rfl (by kernel_rfl) (by kernel_rfl) (by kernel_rfl) (fun _ _ _ h => h) ⟨Or.inl ⟨by rfl, ?_⟩, fun _ => rfl⟩ ?_
          rotate_left
          · (intro w_; go_simp; try with_reducible rfl)
          try simp only [Act.put, List.setIfInBounds_toArray, List.set_cons_zero, List.set_cons_succ]
          refine wpAnyIn_ready (rs := [8]) (by kernel_rfl) (by simp) ?_
          refine AllReadyIn.cons (o := ⟨some 21, .call ⟨.value (.tmp 13), #[.tmp 19, .tmp 20], #[3, 35]⟩, 4, "bank.go:76", #[⟨0, .data⟩, ⟨6, .data⟩, ⟨7, .data⟩], none⟩) rfl (fun K hK => ?_) AllReadyIn.nil
          go_simp
          obtain ⟨fn, tmps, assign, body, hy, hR⟩ := hY _ _ _ _ HA.out (OwnP.under hJ hj (below_drew0 hv))
          simp only [encI] at hy hR
          rw [hy]
          refine ⟨fun h_ => by simp [Fence.wide] at h_, ?_⟩
          refine hR.mono ?_
          rintro e W5 ⟨(⟨rfl, hJ3, hk3⟩ | ⟨rfl, hJx3⟩), -⟩
          · skip
            refine hK _ _ ?_
            clear hK K
            try simp only [Act.put, List.setIfInBounds_toArray, List.set_cons_zero, List.set_cons_succ]
            refine wpAnyIn_take (i := 9) (v := ?_) rfl rfl (by kernel_rfl) (by kernel_rfl) (by kernel_rfl) (fun _ _ _ h => h) ⟨Or.inl ⟨by rfl, ?_⟩, fun _ => rfl⟩ ?_
            rotate_left
            · (intro w_; go_simp; try with_reducible rfl)
            try simp only [Act.put, List.setIfInBounds_toArray, List.set_cons_zero, List.set_cons_succ]
            refine wpAnyIn_done (by kernel_rfl) ?_ _
            gi_wp2
            go_roundw
            case rel =>
              refine ⟨k + 1, by omega, congrArg (Value.int .i64) (by omega), by rw [HS.out]; exact hJ3, (hKB.trans (KeepC.low (below_drew0 hv))).trans hk3, ?_⟩
              have h1 := hv.size; have h2 := hk3.size; have h3 : v1.drew.heap.size = v1.heap.size := rfl; omega
            case measure => simp [intOf]; omega
          · skip
            refine hK _ _ ?_
            clear hK K
            try simp only [Act.put, List.setIfInBounds_toArray, List.set_cons_zero, List.set_cons_succ]
            refine wpAnyIn_take (i := 9) (v := ?_) rfl rfl (by kernel_rfl) (by kernel_rfl) (by kernel_rfl) (fun _ _ _ h => h) ⟨Or.inl ⟨by rfl, ?_⟩, fun _ => rfl⟩ ?_
            rotate_left
            · (intro w_; go_simp; try with_reducible rfl)
            try simp only [Act.put, List.setIfInBounds_toArray, List.set_cons_zero, List.set_cons_succ]
            refine wpAnyIn_done (by kernel_rfl) ?_ _
            gi_wp2
            refine bodyPost_ret (results_none rfl _ _ _) rfl ?_
            exact ⟨⟨_, rfl⟩, .inr ⟨_, _, _, HA.out, hJx3⟩⟩
      · skip
        go_simp
        refine hK _ _ ?_
        clear hK K
        try simp only [Act.put, List.setIfInBounds_toArray, List.set_cons_zero, List.set_cons_succ]
        refine wpAnyIn_ready (rs := [1]) (by kernel_rfl) (by simp) ?_
        refine AllReadyIn.cons (o := ⟨some 14, .load 23 (.tmp 2), 23, "bank.go:76", #[], none⟩) rfl (fun K hK => ?_) AllReadyIn.nil
        go_simp
        refine hK _ _ ?_
        clear hK K
        try simp only [Act.put, List.setIfInBounds_toArray, List.set_cons_zero, List.set_cons_succ]
        refine wpAnyIn_take (i := 2) (v := ?_) rfl rfl (by kernel_rfl) (by kernel_rfl) (by kernel_rfl) (fun _ _ _ h => h) ⟨Or.inl ⟨by rfl, ?_⟩, fun _ => rfl⟩ ?_
        rotate_left
        · (intro w_; go_simp; try with_reducible rfl)
        try simp only [Act.put, List.setIfInBounds_toArray, List.set_cons_zero, List.set_cons_succ]
        refine wpAnyIn_take (i := 3) (v := ?_) rfl rfl (by kernel_rfl) (by kernel_rfl) (by kernel_rfl) (fun _ _ _ h => h) ⟨Or.inl ⟨by rfl, ?_⟩, fun _ => rfl⟩ ?_
        rotate_left
        · (intro w_; go_simp; try with_reducible rfl)
        try simp only [Act.put, List.setIfInBounds_toArray, List.set_cons_zero, List.set_cons_succ]
        refine wpAnyIn_ready (rs := [4]) (by kernel_rfl) (by simp) ?_
        refine AllReadyIn.cons (o := ⟨some 17, .load 3 (.tmp 16), 3, "bank.go:76", #[⟨3, .data⟩], none⟩) rfl (fun K hK => ?_) AllReadyIn.nil
        go_simp
        refine hK _ _ ?_
        clear hK K
        try simp only [Act.put, List.setIfInBounds_toArray, List.set_cons_zero, List.set_cons_succ]
        refine wpAnyIn_take (i := 6) (v := ?_) rfl rfl (by kernel_rfl) (by kernel_rfl) (by kernel_rfl) (fun _ _ _ h => h) ⟨Or.inl ⟨by rfl, ?_⟩, fun _ => rfl⟩ ?_
        rotate_left
        · (intro w_; go_simp; try with_reducible rfl)
        try simp only [Act.put, List.setIfInBounds_toArray, List.set_cons_zero, List.set_cons_succ]
        refine wpAnyIn_ready (rs := [8]) (by kernel_rfl) (by simp) ?_
        refine AllReadyIn.cons (o := ⟨some 21, .call ⟨.value (.tmp 13), #[.tmp 19, .tmp 20], #[3, 35]⟩, 4, "bank.go:76", #[⟨0, .data⟩, ⟨6, .data⟩, ⟨7, .data⟩], none⟩) rfl (fun K hK => ?_) AllReadyIn.nil
        go_simp
        obtain ⟨fn, tmps, assign, body, hy, hR⟩ := hY _ _ _ _ HA.out (OwnP.under hJ hj (below_drew0 hv))
        simp only [encI] at hy hR
        rw [hy]
        refine ⟨fun h_ => by simp [Fence.wide] at h_, ?_⟩
        refine hR.mono ?_
        rintro e W5 ⟨(⟨rfl, hJ3, hk3⟩ | ⟨rfl, hJx3⟩), -⟩
        · skip
          refine hK _ _ ?_
          clear hK K
          try simp only [Act.put, List.setIfInBounds_toArray, List.set_cons_zero, List.set_cons_succ]
          refine wpAnyIn_take (i := 9) (v := ?_) rfl rfl (by kernel_rfl) (by kernel_rfl) (by kernel_rfl) (fun _ _ _ h => h) ⟨Or.inl ⟨by rfl, ?_⟩, fun _ => rfl⟩ ?_
          rotate_left
          · (intro w_; go_simp; try with_reducible rfl)
          try simp only [Act.put, List.setIfInBounds_toArray, List.set_cons_zero, List.set_cons_succ]
          refine wpAnyIn_done (by kernel_rfl) ?_ _
          gi_wp2
          go_roundw
          case rel =>
            refine ⟨k + 1, by omega, congrArg (Value.int .i64) (by omega), by rw [HS.out]; exact hJ3, (hKB.trans (KeepC.low (below_drew0 hv))).trans hk3, ?_⟩
            have h1 := hv.size; have h2 := hk3.size; have h3 : v1.drew.heap.size = v1.heap.size := rfl; omega
          case measure => simp [intOf]; omega
        · skip
          refine hK _ _ ?_
          clear hK K
          try simp only [Act.put, List.setIfInBounds_toArray, List.set_cons_zero, List.set_cons_succ]
          refine wpAnyIn_take (i := 9) (v := ?_) rfl rfl (by kernel_rfl) (by kernel_rfl) (by kernel_rfl) (fun _ _ _ h => h) ⟨Or.inl ⟨by rfl, ?_⟩, fun _ => rfl⟩ ?_
          rotate_left
          · (intro w_; go_simp; try with_reducible rfl)
          try simp only [Act.put, List.setIfInBounds_toArray, List.set_cons_zero, List.set_cons_succ]
          refine wpAnyIn_done (by kernel_rfl) ?_ _
          gi_wp2
          refine bodyPost_ret (results_none rfl _ _ _) rfl ?_
          exact ⟨⟨_, rfl⟩, .inr ⟨_, _, _, HA.out, hJx3⟩⟩
    · obtain rfl : k = N := by omega
      have k2 : decide ((k : Int) < k) = false := decide_eq_false (by omega)
      rw [List.take_of_length_le (by omega)] at hj
      gi_wp2
      go_end0
      exact ⟨⟨_, rfl⟩, .inl hj⟩
end Go.Proofs.Ytbglgblngfbhbaa.Bk

namespace Go.Proofs.Ytbglgblngfbhbaa.Bk
open Go.RowKit Go.Shelf Go.Proofs.Ytbglgblngfbhbaa.IAll Go.Proofs.YtbglgblngfbhbaaW.PrintWords Go.Proofs.YtbglgblngfbhbaaW.PrintLast Go.Proofs.YtbglgblngfbhbaaW.PrintMore
set_option linter.unusedVariables false
set_option linter.unusedSectionVars false
set_option linter.unusedSimpArgs false
theorem run_store_func {P : Program} {w : World} (a : Addr) (m : Mode) (f : Fn) (ts b : Array Value) : (store a (.func f ts b) m).run P w = stored P w a (.func f ts b) m := run_store P w a _ m rfl
theorem mid_vE {x : E} : Mid (vE x) = True := rfl
theorem vE_ext4 {x : E} : (vE x).extract 0 4 = vQ x.q := rfl
theorem vE_ext7 {x : E} : (vE x).extract 0 7 = vL x.l := rfl
theorem vE_ext8 {x : E} : (vE x).extract 0 8 = vE x := rfl
attribute [local go_sem] Oper.semAt_some cell_row frozen_row isRow_setCell_eq rowAt_setCell_same rowAt_setCell_other isRow_alloc_eq rowAt_alloc rowAt_new rowAt_new' isRow_setRow_eq rowAt_setRow_same rowAt_setRow_other isRow_drew rowAt_drew size_setRow_ size_drew_ blk_ptr aggOf_agg offv_ptr below_alloc_e below_setCell_e below_setRow_e below_refl_e below_drew_r isRow_drewN rowAt_drewN below_drewN_e le_add_r asideP_alloc_e asideP_setCell_e asideP_setRow_e asideP_drew_e asideP_drewN_e asideP_refl_e allOne_nil allOne_cons Value.oneCell' addr_at mid_FT vE_size vL_size vQ_size vC_size vS_size vP_size vE_one vL_one vQ_one vC_one vS_one vP_one mid_spl spl_size spl_spl mid_vE vE_ext4 vE_ext7 vE_ext8 vE_0 vE_1 vE_2 vE_3 vE_4 vE_5 vE_6 vE_7
attribute [local go_sem ↓] loadE storeE loadEm storeEm loadEg storeEg loadEmg storeEmg loadL storeL loadLm storeLm loadQ storeQ loadQm storeQm loadC storeC loadCg storeCg loadS storeS loadSm loadP storeP loadPm loadPg storePg 
set_option maxRecDepth 100000

theorem all_itv (F : Nat → Prop) (s n B1 B2 g el c ob c' : Nat) (first : Int) (d : List E) (T : List Value) (v2 : World) (hn : d.length = n) (h0 : 0 ≤ first) (h1 : first + n ≤ 16384) (hF : ∀ k, F k → k < s ∧ k ≠ g) (h2 : s ≤ B1) (h3 : s ≤ B2) (h4 : s ≤ ob)
    (r1 : Row v2 B1 #[.slice (some ⟨ob, 0, none⟩) n c']) (r2 : Row v2 B2 #[.pointer (some ⟨g, 0, none⟩)]) (r3 : Row v2 g #[.int .i64 first, .slice (some ⟨el, 0, none⟩) n c]) (r4 : Row v2 ob (FT eE d T)) :
    ItV F (.func (.func 44) #[] #[.pointer (some ⟨B1, 0, none⟩), .pointer (some ⟨B2, 0, none⟩)]) (allL first d) v2 := by
  refine ⟨44, _, rfl, enters_of Try.func44 (by kernel_rfl) rfl, fun m W0 hm hb => ?_⟩
  have fo : ∀ k, s ≤ k → ¬ F k := fun k hk hf => by have := (hF k hf).1; omega
  have l1 := r1.lt
  have l2 := r2.lt
  have l3 := r3.lt
  have l4 := r4.lt
  exact all_iter F m n B1 B2 g el c ob c' first d T W0 hn h0 h1 (by omega) (by omega) (by omega) (by omega) (fo _ h2) (fo _ h3) (fun hf => (hF g hf).2 rfl) (fo _ h4)
    (r1.below hb (by omega)) (r2.below hb (by omega)) (r3.below hb (by omega)) (r4.below hb (by omega))
set_option maxHeartbeats 1000000 in
theorem All_c (g el c n : Nat) (first : Int) (d : List E) (T : List Value) (w : World) (hn : d.length = n) (h0 : 0 ≤ first) (h1 : first + n ≤ 16384) (hr : Row w g #[.int .i64 first, .slice (some ⟨el, 0, none⟩) n c]) (hl : Row w el (FT eE d T)) :
    Calls Try.prog 26 #[.pointer (some ⟨g, 0, none⟩)] w fun e w' => ∃ v, e = .returned v ∧ (∀ F : Nat → Prop, (∀ k, F k → k < w.heap.size ∧ k ≠ g) → ItV F v (allL first d) w') ∧ Below w.heap.size w w' := by
  have lg := hr.lt
  have ll := hl.lt
  obtain ⟨hg, hg'⟩ := hr
  obtain ⟨hl, hl'⟩ := hl
  have HR := Lib.hid (fun (W : World) (h : Row W el (FT eE d T)) => clone_c el n c d T W hn (by omega) h)
  have n1 : ¬ g = w.heap.size := by omega
  have n2 : ¬ w.heap.size = g := by omega
  have n3 : ¬ el = w.heap.size := by omega
  have n4 : ¬ w.heap.size = el := by omega
  go_enter Try.func26, Try.ntmps26
  have hB_0 : Below w.heap.size w w := Below.refl _ _
  have ne_G_B : ¬ g = w.heap.size := by omega
  have en_G_B : ¬ w.heap.size = g := by omega
  have ne_L_B : ¬ el = w.heap.size := by omega
  have en_L_B : ¬ w.heap.size = el := by omega
  go_wp2_with fail
  refine (HR.out _ ⟨by go_simp, by go_simp⟩).mono ?_
  rintro e v1 ⟨ob, c', T', rfl, hob, ⟨O1, O1'⟩, hb⟩
  obtain ⟨B1, B1'⟩ : Row v1 w.heap.size #[.pointer (some ⟨g, 0, none⟩)] := Row.step (by go_simp) (by go_simp) hb
  obtain ⟨G1, G1'⟩ : Row v1 g #[.int .i64 first, .slice (some ⟨el, 0, none⟩) n c] := Row.step (by go_simp) (by go_simp) hb
  have hB1 : Below w.heap.size w v1 := bk (by go_simp) (by go_simp) hb
  clear hb
  have lB := B1.lt
  have lO := O1.lt
  have lG := G1.lt
  have hw1 := hB1.size
  have hob2 : w.heap.size + 1 ≤ ob := by simpa using hob
  have p1 : ¬ w.heap.size = v1.heap.size := by omega
  have p1' : ¬ v1.heap.size = w.heap.size := by omega
  have p2 : ¬ g = v1.heap.size := by omega
  have p2' : ¬ v1.heap.size = g := by omega
  have p3 : ¬ ob = v1.heap.size := by omega
  have p3' : ¬ v1.heap.size = ob := by omega
  clear hg hg' hl hl' n1 n2 n3 n4
  go_wp2
  go_ret
  exact ⟨_, rfl, fun F hF => all_itv F w.heap.size n v1.heap.size w.heap.size g el c ob c' first d T' _ hn h0 h1 hF (by omega) (by omega) (by omega) ⟨by go_simp, by go_simp⟩ ⟨by go_simp, by go_simp⟩ ⟨by go_simp, by go_simp⟩ ⟨by go_simp, by go_simp⟩, by go_simp⟩
end Go.Proofs.Ytbglgblngfbhbaa.Bk

namespace Go.Proofs.Ytbglgblngfbhbaa.Bk
open Go.RowKit Go.Shelf Go.Proofs.Ytbglgblngfbhbaa.IAll Go.Proofs.YtbglgblngfbhbaaW.PrintWords Go.Proofs.YtbglgblngfbhbaaW.PrintLast Go.Proofs.YtbglgblngfbhbaaW.PrintMore
set_option linter.unusedVariables false
set_option linter.unusedSectionVars false
set_option linter.unusedSimpArgs false
attribute [local go_sem] Oper.semAt_some cell_row frozen_row isRow_setCell_eq rowAt_setCell_same rowAt_setCell_other isRow_alloc_eq rowAt_alloc rowAt_new rowAt_new' isRow_setRow_eq rowAt_setRow_same rowAt_setRow_other isRow_drew rowAt_drew size_setRow_ size_drew_ blk_ptr aggOf_agg offv_ptr below_alloc_e below_setCell_e below_setRow_e below_refl_e below_drew_r isRow_drewN rowAt_drewN below_drewN_e le_add_r asideP_alloc_e asideP_setCell_e asideP_setRow_e asideP_drew_e asideP_drewN_e asideP_refl_e allOne_nil allOne_cons Value.oneCell' addr_at mid_FT vE_size vL_size vQ_size vC_size vS_size vP_size vE_one vL_one vQ_one vC_one vS_one vP_one mid_spl spl_size spl_spl mid_vE vE_ext4 vE_ext7 vE_ext8 vE_0 vE_1 vE_2 vE_3 vE_4 vE_5 vE_6 vE_7 run_store_func
attribute [local go_sem ↓] loadE storeE loadEm storeEm loadEg storeEg loadEmg storeEmg loadL storeL loadLm storeLm loadQ storeQ loadQm storeQm loadC storeC loadCg storeCg loadS storeS loadSm loadP storeP loadPm loadPg storePg 
set_option maxRecDepth 100000

def gsel (g0 g1 : Bool) (x : Int) : Bool := if x = 0 then g0 else g1
def rdyB (g0 g1 : Bool) (x : Int × E) : Bool := x.2.f4 && (gsel g0 g1 x.2.f5 && ready x.2.q)
def rdyL (g0 g1 : Bool) (xs : List (Int × E)) : List (Int × E) := xs.filter (rdyB g0 g1)
theorem filt_hit {f : Int × E → Bool} (pre : List (Int × E)) (x : Int × E) (h : f x = true) : (pre ++ [x]).filter f = pre.filter f ++ [x] := by simp [h]
theorem filt_miss {f : Int × E → Bool} (pre : List (Int × E)) (x : Int × E) (h : f x = false) : (pre ++ [x]).filter f = pre.filter f := by simp [h]
theorem filt_at {f : Int × E → Bool} (pre : List (Int × E)) (x : Int × E) (post : List (Int × E)) (h : f x = true) : (pre ++ x :: post).filter f = pre.filter f ++ x :: post.filter f := by simp [h]
set_option maxHeartbeats 2000000 in
theorem ready_iter (F : Nat → Prop) (n B1 B2 : Nat) (g0 g1 : Bool) (v : Value) (xs : List (Int × E)) (wa W0 : World) (hFn : ∀ k, F k → k < W0.heap.size) (ha : ItV F v xs wa) (hwa : wa.heap.size ≤ n) (hba : Below wa.heap.size wa W0)
    (hB1 : B1 < n) (hB2 : B2 < n) (fB1 : ¬ F B1) (fB2 : ¬ F B2) (r1 : Row W0 B1 #[v]) (r2 : Row W0 B2 #[.bool g0, .bool g1]) (hgd : ∀ p ∈ xs, p.2.f5 = 0 ∨ p.2.f5 = 1) :
    Iter NoCells Try.prog 36 #[.pointer (some ⟨B1, 0, none⟩), .pointer (some ⟨B2, 0, none⟩)] encI (KeepC (CF F n)) (xs.filter (rdyB g0 g1)) W0 := by
  obtain ⟨gf, lb, rfl, eg, hit⟩ := ha
  intro l J Jx W hW hJ hJx hY h0
  have hK0 : KeepC (CF F n) W0 W := KeepC.low hW
  obtain ⟨a1, a1'⟩ := hK0.row (fun t => cf_no hB1 fB1 _) r1
  have a2 := hK0.row (fun t => cf_no hB2 fB2 _) r2
  have hFy : ¬ F W.heap.size := fun h => by have := hFn _ h; have := hW.size; omega
  have l1 := a1.lt
  have l2 := a2.lt
  have m1 : ¬ B1 = W.heap.size := by omega
  have m1' : ¬ W.heap.size = B1 := by omega
  refine callsIn_of_wp_marks Try.func36 rfl trivial ?_ rfl
  simp only [Try.ntmps36, List.size_toArray, List.length_cons, List.length_nil, Nat.reduceAdd, Nat.reduceSub, Array.replicate_succ, Array.replicate_zero, List.push_toArray, List.append_toArray, List.nil_append, List.cons_append]
  gi_wp2_with fail
  obtain ⟨W1, hW1⟩ : ∃ W1, W.alloc (.cells #[.func (.yield l) #[] #[]] 81) = W1 := ⟨_, rfl⟩
  have hy1 : BoxN W1 W.heap.size 81 #[.func (.yield l) #[] #[]] := by rw [← hW1]; exact BoxN.new W 81 _
  have hs1 : W1.heap.size = W.heap.size + 1 := by rw [← hW1]; simp
  have hB : Below W.heap.size W W1 := by rw [← hW1]; exact (Below.refl _ W).alloc (Nat.le_refl _) _
  have c2 := a2.below hB l2
  have hj1 : J [] W1 := by rw [← hW1]; exact hJ.new _ h0
  rw [hW1]
  clear hW1 a1 a1' h0
  have hb1 : Below wa.heap.size wa W1 := (hba.trans (hW.mono hba.size)).trans (hB.mono (Nat.le_trans hba.size hW.size))
  refine wp_range (Pv := NoCells) (fun _ h => h) rfl eg (hit n W1 hwa hb1) (Below.refl _ _) (fun h k => h.trans k) (fun W l o o' _ h1 h2 => KeepC.put W l o o' h1 h2) (fun _ => rfl)
    (fun pre X => J (pre.filter (rdyB g0 g1)) X ∧ KeepC (CF F n) W1 X)
    (fun c pre X => c = .ret ∧ (∃ p x, pre = p ++ [x] ∧ (rdyB g0 g1) x = true) ∧ Jx (pre.filter (rdyB g0 g1)) X)
    ?hI ?hIx ⟨hj1, KeepC.refl _ _⟩ ?round ?done ?stop
  case hI =>
    intro s X Y row hs hg hr
    refine ⟨hJ _ X Y row hs.1 hg (fun r e => ⟨by have := (hr r e).1; omega, (hr r e).2⟩), hs.2.trans ⟨hg.size, fun k o hc hk ho => (hg.block k (Array.getElem?_eq_some_iff.1 hk).1 (fun e => ?_)).trans hk⟩⟩
    obtain ⟨h1, o', h2, h3⟩ := hr k e.symm
    rw [hk] at h2
    cases h2
    rw [show o.isCells = false from h3] at ho
    cases ho
  case hIx =>
    rintro c s X Y row ⟨h1, h2, h3⟩ hg hr
    exact ⟨h1, h2, hJx _ X Y row h3 hg (fun r e => ⟨by have := (hr r e).1; omega, (hr r e).2⟩)⟩
  case round =>
    rintro l2_ pre x post X hxs hl2 hlt2 ⟨hj, hk⟩
    clear hj1
    obtain ⟨id, y⟩ := x
    have hy0 := hgd (id, y) (by rw [hxs]; simp)
    gi_wp2
    refine ⟨KeepsFrom.low (below_setRow ((Below.refl _ X).alloc (Nat.le_refl _) _) (Nat.le_refl _) _), KeepC.low (below_setRow ((Below.refl _ X).alloc (Nat.le_refl _) _) (Nat.le_refl _) _), ⟨OwnP.under hJ hj (below_setRow ((Below.refl _ X).alloc (Nat.le_refl _) _) (Nat.le_refl _) _), hk.trans (KeepC.low (below_setRow ((Below.refl _ X).alloc (Nat.le_refl _) _) (Nat.le_refl _) _))⟩, ?_⟩
    have r7 : Row ((X.alloc (.cells #[.bool false, .bool false, .bool false, .bool false, .bool false, .int .i64 0, .int .i64 0, .string ⟨#[]⟩] 35)).setRow X.heap.size (vE y)) X.heap.size (vE y) := Row.setRow isRow_new
    (first | (rintro X2 hg2 ⟨hj2, hk2⟩) | (rintro X2 hg2 hj2 hk2))
    obtain ⟨d7, d7'⟩ := Row.kept r7 hg2 (by intro e; cases e; omega)
    obtain ⟨d1, d1'⟩ : Row X2 W.heap.size #[.func (.yield l) #[] #[]] := Row.of (hk2.boxT (cf_yield hFy) hy1)
    obtain ⟨d2, d2'⟩ := hk2.row (fun t => cf_no hB2 fB2 _) c2
    have hxsz : W1.heap.size ≤ X2.heap.size := hk2.size
    clear r7 hg2 hj hk hlt2 hl2
    by_cases h4 : y.f4 = true
    · rcases hy0 with h5 | h5
      · rcases Bool.eq_false_or_eq_true g0 with hg_ | hg_
        rotate_left
        · skip
          have HH := Lib.hid (filt_miss (f := rdyB g0 g1) pre (id, y) (by simp [rdyB, gsel, h5, hg_]))
          clear hxs hxsz
          gi_wp2
          refine ⟨KeepsFrom.refl _ _, KeepC.refl _ _, ?_, hk2⟩
          rw [HH.out]; exact hj2
        · skip
          have HC := Lib.hid (fun (U : World) => ready_c y.q U)
          gi_wp2_with fail
          refine (in_of_calls (HC.out _)).mono ?_
          rintro e v1 ⟨rfl, hb⟩
          obtain ⟨e1, e1'⟩ := Row.step d1 d1' hb
          obtain ⟨e7, e7'⟩ := Row.step d7 d7' hb
          have hKb : KeepC (CF F n) X2 v1 := KeepC.low hb
          clear d1 d1' d2 d2' d7 d7'
          cases hr_ : ready y.q with
          | false =>
            have HH := Lib.hid (filt_miss (f := rdyB g0 g1) pre (id, y) (by simp only [rdyB]; rw [hr_]; simp))
            clear hxs
            gi_wp2
            refine ⟨KeepsFrom.low hb, hKb, ?_, hk2.trans hKb⟩
            rw [HH.out]; exact OwnP.under hJ hj2 hb
          | true =>
            have hz : rdyB g0 g1 (id, y) = true := by simp only [rdyB]; rw [hr_]; simp [gsel, h4, h5, hg_]
            have HH := Lib.hid (filt_hit (f := rdyB g0 g1) pre (id, y) hz)
            have HT := Lib.hid ((congrArg (List.filter (rdyB g0 g1)) hxs).trans (filt_at (f := rdyB g0 g1) pre (id, y) post hz))
            have HZ := Lib.hid hz
            clear hxs hz
            obtain ⟨fn, tmps, assign, body, hy, hR⟩ := hY _ _ _ _ HT.out (OwnP.under hJ hj2 hb)
            simp only [encI] at hy hR
            gi_wp2_with fail
            refine hR.mono ?_
            rintro e X3 ⟨(⟨rfl, hJ3, hk3⟩ | ⟨rfl, hJx3⟩), hf3⟩
            · gi_wp2
              refine ⟨⟨by have := hb.size; have := hf3.size; omega, fun k o h1 h2 h3 => hf3.same k o (by omega) ((KeepsFrom.low (B := W1.heap.size) hb).same k o (by omega) h2 h3) h3⟩, (KeepC.low hb).trans hk3, ?_, (hk2.trans (KeepC.low hb)).trans hk3⟩
              rw [HH.out]; exact hJ3
            · gi_wp2
              refine ⟨⟨by have := hb.size; have := hf3.size; omega, fun k o h1 h2 h3 => hf3.same k o (by omega) ((KeepsFrom.low (B := W1.heap.size) hb).same k o (by omega) h2 h3) h3⟩, rfl, by first | exact ⟨pre, id, y, rfl, HZ.out⟩ | exact ⟨pre, (id, y), rfl, HZ.out⟩, ?_⟩
              rw [HH.out]; exact hJx3
      · rcases Bool.eq_false_or_eq_true g1 with hg_ | hg_
        rotate_left
        · skip
          have HH := Lib.hid (filt_miss (f := rdyB g0 g1) pre (id, y) (by simp [rdyB, gsel, h5, hg_]))
          clear hxs hxsz
          gi_wp2
          refine ⟨KeepsFrom.refl _ _, KeepC.refl _ _, ?_, hk2⟩
          rw [HH.out]; exact hj2
        · skip
          have HC := Lib.hid (fun (U : World) => ready_c y.q U)
          gi_wp2_with fail
          refine (in_of_calls (HC.out _)).mono ?_
          rintro e v1 ⟨rfl, hb⟩
          obtain ⟨e1, e1'⟩ := Row.step d1 d1' hb
          obtain ⟨e7, e7'⟩ := Row.step d7 d7' hb
          have hKb : KeepC (CF F n) X2 v1 := KeepC.low hb
          clear d1 d1' d2 d2' d7 d7'
          cases hr_ : ready y.q with
          | false =>
            have HH := Lib.hid (filt_miss (f := rdyB g0 g1) pre (id, y) (by simp only [rdyB]; rw [hr_]; simp))
            clear hxs
            gi_wp2
            refine ⟨KeepsFrom.low hb, hKb, ?_, hk2.trans hKb⟩
            rw [HH.out]; exact OwnP.under hJ hj2 hb
          | true =>
            have hz : rdyB g0 g1 (id, y) = true := by simp only [rdyB]; rw [hr_]; simp [gsel, h4, h5, hg_]
            have HH := Lib.hid (filt_hit (f := rdyB g0 g1) pre (id, y) hz)
            have HT := Lib.hid ((congrArg (List.filter (rdyB g0 g1)) hxs).trans (filt_at (f := rdyB g0 g1) pre (id, y) post hz))
            have HZ := Lib.hid hz
            clear hxs hz
            obtain ⟨fn, tmps, assign, body, hy, hR⟩ := hY _ _ _ _ HT.out (OwnP.under hJ hj2 hb)
            simp only [encI] at hy hR
            gi_wp2_with fail
            refine hR.mono ?_
            rintro e X3 ⟨(⟨rfl, hJ3, hk3⟩ | ⟨rfl, hJx3⟩), hf3⟩
            · gi_wp2
              refine ⟨⟨by have := hb.size; have := hf3.size; omega, fun k o h1 h2 h3 => hf3.same k o (by omega) ((KeepsFrom.low (B := W1.heap.size) hb).same k o (by omega) h2 h3) h3⟩, (KeepC.low hb).trans hk3, ?_, (hk2.trans (KeepC.low hb)).trans hk3⟩
              rw [HH.out]; exact hJ3
            · gi_wp2
              refine ⟨⟨by have := hb.size; have := hf3.size; omega, fun k o h1 h2 h3 => hf3.same k o (by omega) ((KeepsFrom.low (B := W1.heap.size) hb).same k o (by omega) h2 h3) h3⟩, rfl, by first | exact ⟨pre, id, y, rfl, HZ.out⟩ | exact ⟨pre, (id, y), rfl, HZ.out⟩, ?_⟩
              rw [HH.out]; exact hJx3
    · have h4' : y.f4 = false := by simpa using h4
      clear h4
      have HH := Lib.hid (filt_miss (f := rdyB g0 g1) pre (id, y) (by simp [rdyB, h4']))
      clear hxs hxsz
      gi_wp2
      refine ⟨KeepsFrom.refl _ _, KeepC.refl _ _, ?_, hk2⟩
      rw [HH.out]; exact hj2
  case done =>
    rintro D X hD ⟨hj, hk⟩ hK
    gi_wp2
    refine leave_mark hK (v := .tuple #[]) (by simp [results, Try.results36, go_sem]) ⟨⟨_, rfl⟩, .inl ?_⟩
    exact hJ.put _ hj (by omega) hK rfl
  case stop =>
    rintro D c pre x post X hxs hD ⟨rfl, ⟨p, y, hp, hyg⟩, hjx⟩ hK
    obtain ⟨rfl, rfl⟩ : pre = p ∧ x = y := by simpa using hp
    rw [filt_hit _ _ hyg] at hjx
    have hats := filt_at pre x post hyg
    rw [← hxs] at hats
    have HA := Lib.hid hats
    clear hats hxs hyg hp
    gi_wp2
    refine leave_mark hK (v := .tuple #[]) (by simp [results, Try.results36, go_sem]) ⟨⟨_, rfl⟩, .inr ?_⟩
    refine ⟨_, _, _, HA.out, ?_⟩
    exact hJx.put _ hjx (by omega) hK rfl
def ofB (gr : Int) (x : Int × E) : Bool := decide (x.2.f5 = gr)
set_option maxHeartbeats 2000000 in
theorem of_iter (F : Nat → Prop) (n B1 B2 : Nat) (gr : Int) (v : Value) (xs : List (Int × E)) (wa W0 : World) (hFn : ∀ k, F k → k < W0.heap.size) (ha : ItV F v xs wa) (hwa : wa.heap.size ≤ n) (hba : Below wa.heap.size wa W0)
    (hB1 : B1 < n) (hB2 : B2 < n) (fB1 : ¬ F B1) (fB2 : ¬ F B2) (r1 : Row W0 B1 #[v]) (r2 : Row W0 B2 #[.int .i64 gr]) :
    Iter NoCells Try.prog 38 #[.pointer (some ⟨B1, 0, none⟩), .pointer (some ⟨B2, 0, none⟩)] encI (KeepC (CF F n)) (xs.filter (ofB gr)) W0 := by
  obtain ⟨gf, lb, rfl, eg, hit⟩ := ha
  intro l J Jx W hW hJ hJx hY h0
  have hK0 : KeepC (CF F n) W0 W := KeepC.low hW
  obtain ⟨a1, a1'⟩ := hK0.row (fun t => cf_no hB1 fB1 _) r1
  have a2 := hK0.row (fun t => cf_no hB2 fB2 _) r2
  have hFy : ¬ F W.heap.size := fun h => by have := hFn _ h; have := hW.size; omega
  have l1 := a1.lt
  have l2 := a2.lt
  have m1 : ¬ B1 = W.heap.size := by omega
  have m1' : ¬ W.heap.size = B1 := by omega
  refine callsIn_of_wp_marks Try.func38 rfl trivial ?_ rfl
  simp only [Try.ntmps38, List.size_toArray, List.length_cons, List.length_nil, Nat.reduceAdd, Nat.reduceSub, Array.replicate_succ, Array.replicate_zero, List.push_toArray, List.append_toArray, List.nil_append, List.cons_append]
  gi_wp2_with fail
  obtain ⟨W1, hW1⟩ : ∃ W1, W.alloc (.cells #[.func (.yield l) #[] #[]] 81) = W1 := ⟨_, rfl⟩
  have hy1 : BoxN W1 W.heap.size 81 #[.func (.yield l) #[] #[]] := by rw [← hW1]; exact BoxN.new W 81 _
  have hs1 : W1.heap.size = W.heap.size + 1 := by rw [← hW1]; simp
  have hB : Below W.heap.size W W1 := by rw [← hW1]; exact (Below.refl _ W).alloc (Nat.le_refl _) _
  have c2 := a2.below hB l2
  have hj1 : J [] W1 := by rw [← hW1]; exact hJ.new _ h0
  rw [hW1]
  clear hW1 a1 a1' h0
  have hb1 : Below wa.heap.size wa W1 := (hba.trans (hW.mono hba.size)).trans (hB.mono (Nat.le_trans hba.size hW.size))
  refine wp_range (Pv := NoCells) (fun _ h => h) rfl eg (hit n W1 hwa hb1) (Below.refl _ _) (fun h k => h.trans k) (fun W l o o' _ h1 h2 => KeepC.put W l o o' h1 h2) (fun _ => rfl)
    (fun pre X => J (pre.filter (ofB gr)) X ∧ KeepC (CF F n) W1 X)
    (fun c pre X => c = .ret ∧ (∃ p x, pre = p ++ [x] ∧ (ofB gr) x = true) ∧ Jx (pre.filter (ofB gr)) X)
    ?hI ?hIx ⟨hj1, KeepC.refl _ _⟩ ?round ?done ?stop
  case hI =>
    intro s X Y row hs hg hr
    refine ⟨hJ _ X Y row hs.1 hg (fun r e => ⟨by have := (hr r e).1; omega, (hr r e).2⟩), hs.2.trans ⟨hg.size, fun k o hc hk ho => (hg.block k (Array.getElem?_eq_some_iff.1 hk).1 (fun e => ?_)).trans hk⟩⟩
    obtain ⟨h1, o', h2, h3⟩ := hr k e.symm
    rw [hk] at h2
    cases h2
    rw [show o.isCells = false from h3] at ho
    cases ho
  case hIx =>
    rintro c s X Y row ⟨h1, h2, h3⟩ hg hr
    exact ⟨h1, h2, hJx _ X Y row h3 hg (fun r e => ⟨by have := (hr r e).1; omega, (hr r e).2⟩)⟩
  case round =>
    rintro l2_ pre x post X hxs hl2 hlt2 ⟨hj, hk⟩
    clear hj1
    obtain ⟨id, y⟩ := x
    gi_wp2
    refine ⟨KeepsFrom.low (below_setRow ((Below.refl _ X).alloc (Nat.le_refl _) _) (Nat.le_refl _) _), KeepC.low (below_setRow ((Below.refl _ X).alloc (Nat.le_refl _) _) (Nat.le_refl _) _), ⟨OwnP.under hJ hj (below_setRow ((Below.refl _ X).alloc (Nat.le_refl _) _) (Nat.le_refl _) _), hk.trans (KeepC.low (below_setRow ((Below.refl _ X).alloc (Nat.le_refl _) _) (Nat.le_refl _) _))⟩, ?_⟩
    have r7 : Row ((X.alloc (.cells #[.bool false, .bool false, .bool false, .bool false, .bool false, .int .i64 0, .int .i64 0, .string ⟨#[]⟩] 35)).setRow X.heap.size (vE y)) X.heap.size (vE y) := Row.setRow isRow_new
    (first | (rintro X2 hg2 ⟨hj2, hk2⟩) | (rintro X2 hg2 hj2 hk2))
    obtain ⟨d7, d7'⟩ := Row.kept r7 hg2 (by intro e; cases e; omega)
    obtain ⟨d1, d1'⟩ : Row X2 W.heap.size #[.func (.yield l) #[] #[]] := Row.of (hk2.boxT (cf_yield hFy) hy1)
    obtain ⟨d2, d2'⟩ := hk2.row (fun t => cf_no hB2 fB2 _) c2
    have hxsz : W1.heap.size ≤ X2.heap.size := hk2.size
    clear r7 hg2 hj hk hlt2 hl2
    by_cases h5 : y.f5 = gr
    · have u5 : (y.f5 == gr) = true := by simpa using h5
      have hz : ofB gr (id, y) = true := by simp [ofB, h5]
      have HH := Lib.hid (filt_hit (f := ofB gr) pre (id, y) hz)
      have HT := Lib.hid ((congrArg (List.filter (ofB gr)) hxs).trans (filt_at (f := ofB gr) pre (id, y) post hz))
      have HZ := Lib.hid hz
      clear hxs hz h5
      have hb : Below X2.heap.size X2 X2 := Below.refl _ _
      obtain ⟨fn, tmps, assign, body, hy, hR⟩ := hY _ _ _ _ HT.out (OwnP.under hJ hj2 hb)
      simp only [encI] at hy hR
      gi_wp2_with fail
      refine hR.mono ?_
      rintro e X3 ⟨(⟨rfl, hJ3, hk3⟩ | ⟨rfl, hJx3⟩), hf3⟩
      · gi_wp2
        refine ⟨⟨by have := hb.size; have := hf3.size; omega, fun k o h1 h2 h3 => hf3.same k o (by omega) ((KeepsFrom.low (B := W1.heap.size) hb).same k o (by omega) h2 h3) h3⟩, (KeepC.low hb).trans hk3, ?_, (hk2.trans (KeepC.low hb)).trans hk3⟩
        rw [HH.out]; exact hJ3
      · gi_wp2
        refine ⟨⟨by have := hb.size; have := hf3.size; omega, fun k o h1 h2 h3 => hf3.same k o (by omega) ((KeepsFrom.low (B := W1.heap.size) hb).same k o (by omega) h2 h3) h3⟩, rfl, by first | exact ⟨pre, id, y, rfl, HZ.out⟩ | exact ⟨pre, (id, y), rfl, HZ.out⟩, ?_⟩
        rw [HH.out]; exact hJx3
    · have u5 : (y.f5 == gr) = false := by simpa using h5
      have HH := Lib.hid (filt_miss (f := ofB gr) pre (id, y) (by simp [ofB, h5]))
      clear hxs h5
      gi_wp2
      refine ⟨KeepsFrom.refl _ _, KeepC.refl _ _, ?_, hk2⟩
      rw [HH.out]; exact hj2
  case done =>
    rintro D X hD ⟨hj, hk⟩ hK
    gi_wp2
    refine leave_mark hK (v := .tuple #[]) (by simp [results, Try.results38, go_sem]) ⟨⟨_, rfl⟩, .inl ?_⟩
    exact hJ.put _ hj (by omega) hK rfl
  case stop =>
    rintro D c pre x post X hxs hD ⟨rfl, ⟨p, y, hp, hyg⟩, hjx⟩ hK
    obtain ⟨rfl, rfl⟩ : pre = p ∧ x = y := by simpa using hp
    rw [filt_hit _ _ hyg] at hjx
    have hats := filt_at pre x post hyg
    rw [← hxs] at hats
    have HA := Lib.hid hats
    clear hats hxs hyg hp
    gi_wp2
    refine leave_mark hK (v := .tuple #[]) (by simp [results, Try.results38, go_sem]) ⟨⟨_, rfl⟩, .inr ?_⟩
    refine ⟨_, _, _, HA.out, ?_⟩
    exact hJx.put _ hjx (by omega) hK rfl

theorem allL_mem {d : List E} : ∀ {first : Int} {p : Int × E}, p ∈ allL first d → p.2 ∈ d := by
  induction d with
  | nil => intro f p h; cases h
  | cons x r ih =>
    intro f p h
    rw [allL] at h
    rcases List.mem_cons.1 h with rfl | h
    · exact List.mem_cons_self
    · exact List.mem_cons_of_mem _ (ih h)
theorem ready_itv (F : Nat → Prop) (s B1 B2 : Nat) (g0 g1 : Bool) (v : Value) (xs : List (Int × E)) (wa w : World) (ha : ItV F v xs wa) (hgd : ∀ p ∈ xs, p.2.f5 = 0 ∨ p.2.f5 = 1) (hF : ∀ k, F k → k < s) (h1 : s ≤ B1) (h2 : s ≤ B2)
    (hb : Below wa.heap.size wa w) (r1 : Row w B1 #[v]) (r2 : Row w B2 #[.bool g0, .bool g1]) : ItV F (.func (.func 36) #[] #[.pointer (some ⟨B1, 0, none⟩), .pointer (some ⟨B2, 0, none⟩)]) (rdyL g0 g1 xs) w := by
  refine ⟨36, _, rfl, enters_of Try.func36 (by kernel_rfl) rfl, fun n W0 hn hb0 => ?_⟩
  have l1 := r1.lt
  have l2 := r2.lt
  have hsz := hb.size
  exact ready_iter F n B1 B2 g0 g1 v xs wa W0 (fun k h => by have := hF k h; have := hb0.size; omega) ha (by omega) (hb.trans (hb0.mono hsz)) (by omega) (by omega) (fun h => by have := hF _ h; omega) (fun h => by have := hF _ h; omega) (r1.below hb0 l1) (r2.below hb0 l2) hgd
theorem of_itv (B1 B2 : Nat) (gr : Int) (v : Value) (xs : List (Int × E)) (wa w : World) (ha : ItV (fun _ => False) v xs wa)
    (hb : Below wa.heap.size wa w) (r1 : Row w B1 #[v]) (r2 : Row w B2 #[.int .i64 gr]) : ItV (fun _ => False) (.func (.func 38) #[] #[.pointer (some ⟨B1, 0, none⟩), .pointer (some ⟨B2, 0, none⟩)]) (xs.filter (ofB gr)) w := by
  refine ⟨38, _, rfl, enters_of Try.func38 (by kernel_rfl) rfl, fun n W0 hn hb0 => ?_⟩
  have l1 := r1.lt
  have l2 := r2.lt
  have hsz := hb.size
  exact of_iter (fun _ => False) n B1 B2 gr v xs wa W0 (fun _ h => h.elim) ha (by omega) (hb.trans (hb0.mono hsz)) (by omega) (by omega) (fun h => h) (fun h => h) (r1.below hb0 l1) (r2.below hb0 l2)
set_option maxHeartbeats 1000000 in
theorem Ready_c (g el c n : Nat) (g0 g1 : Bool) (first : Int) (d : List E) (T : List Value) (w : World) (hn : d.length = n) (h0 : 0 ≤ first) (h1 : first + n ≤ 16384) (hr : Row w g #[.int .i64 first, .slice (some ⟨el, 0, none⟩) n c]) (hl : Row w el (FT eE d T)) (hgd : ∀ x ∈ d, x.f5 = 0 ∨ x.f5 = 1) :
    Calls Try.prog 20 #[.pointer (some ⟨g, 0, none⟩), .agg #[.bool g0, .bool g1]] w fun e w' => ∃ v, e = .returned v ∧ (∀ F : Nat → Prop, (∀ k, F k → k < w.heap.size ∧ k ≠ g) → ItV F v (rdyL g0 g1 (allL first d)) w') ∧ Below w.heap.size w w' := by
  have lg := hr.lt
  have ll := hl.lt
  have HR := Lib.hid (fun (W : World) (h : Row W g #[.int .i64 first, .slice (some ⟨el, 0, none⟩) n c]) (h' : Row W el (FT eE d T)) => All_c g el c n first d T W hn h0 h1 h h')
  obtain ⟨hg, hg'⟩ := hr
  obtain ⟨hl, hl'⟩ := hl
  have hz0 : ∀ p ∈ allL first d, p.2.f5 = 0 ∨ p.2.f5 = 1 := fun p hp => hgd _ (allL_mem hp)
  go_enter Try.func20, Try.ntmps20
  go_wp2_with fail
  refine (HR.out _ ⟨by go_simp, by go_simp⟩ ⟨by go_simp, by go_simp⟩).mono ?_
  rintro e v1 ⟨v, rfl, hv, hb⟩
  obtain ⟨B1, B1'⟩ : Row v1 w.heap.size #[.bool g0, .bool g1] := Row.step (by go_simp) (by go_simp) hb
  have hB1 : Below w.heap.size w v1 := bk (by go_simp) (by go_simp) hb
  have hsz : w.heap.size + 1 ≤ v1.heap.size := by simpa using hb.size
  have hsz0 : w.heap.size ≤ v1.heap.size := by omega
  have hv' : ∀ F : Nat → Prop, (∀ k, F k → k < w.heap.size ∧ k ≠ g) → ItV F v (allL first d) v1 := fun F hF => hv F (fun k hk => ⟨by simp; have := (hF k hk).1; omega, (hF k hk).2⟩)
  have lB := B1.lt
  have p1 : ¬ w.heap.size = v1.heap.size := by omega
  have p1' : ¬ v1.heap.size = w.heap.size := by omega
  obtain ⟨gf, lb, rfl, -⟩ := hv' (fun _ => False) (fun _ h => h.elim)
  have HV := Lib.hid hv'
  clear hg hg' hl hl' hb hv hv'
  go_wp2
  go_ret
  exact ⟨_, rfl, fun F hF => ready_itv F w.heap.size v1.heap.size w.heap.size g0 g1 _ _ v1 _ (HV.out F hF) hz0 (fun k hk => (hF k hk).1) (by omega) (Nat.le_refl _) (by go_simp) ⟨by go_simp, by go_simp⟩ ⟨by go_simp, by go_simp⟩, by go_simp⟩
set_option maxHeartbeats 1000000 in
theorem Of_c (gr : Int) (vv : Value) (xs : List (Int × E)) (w : World) (hv : ItV (fun _ => False) vv xs w) :
    Calls Try.prog 24 #[vv, .int .i64 gr] w fun e w' => ∃ u, e = .returned u ∧ ItV (fun _ => False) u (xs.filter (ofB gr)) w' ∧ Below w.heap.size w w' := by
  obtain ⟨gf, lb, rfl, eg, hi⟩ := hv
  have HV := Lib.hid (show ItV (fun _ => False) (.func (.func gf) #[] lb) xs w from ⟨gf, lb, rfl, eg, hi⟩)
  clear hi eg
  go_enter Try.func24, Try.ntmps24
  go_wp2
  go_ret
  exact ⟨_, rfl, of_itv w.heap.size (w.heap.size + 1) gr _ _ w _ HV.out (by go_simp) ⟨by go_simp, by go_simp⟩ ⟨by go_simp, by go_simp⟩, by go_simp⟩
end Go.Proofs.Ytbglgblngfbhbaa.Bk
