/- The operations on the document's interface and its ladder, whole and in part. -/
import Derived.Test.YtpjenhojldcmiaaCp5
namespace Go.Proofs.Ytpjenhojldcmiaa
open Go.RowKit Go.Shelf
theorem one_lad (f : Nat → Bool) : AllOne (Lb f) := Lb_one f
theorem zero_rc : #[.int .i64 0, .int .i64 0, .int .i64 0, .bool false, .bool false, .bool false, .bool false, .bool false, .bool false, .bool false, .bool false, .bool false, .bool false, .bool false, .bool false, .bool false, .bool false, .bool false, .bool false, .bool false, .bool false, .bool false, .bool false, .bool false, .bool false, .bool false, .bool false, .bool false, .bool false, .bool false, .bool false, .bool false, .bool false, .bool false, .bool false, .bool false, .bool false, .bool false, .bool false, .bool false, .bool false, .bool false, .bool false, .bool false, .bool false, .bool false, .bool false, .bool false, .bool false, .bool false, .bool false, .bool false, .bool false, .bool false, .bool false, .bool false, .bool false, .bool false, .bool false, .bool false, .bool false, .bool false, .bool false, .bool false, .bool false, .bool false, .bool false, .bool false, .bool false, .bool false] = RC 0 0 0 false false false (fun _ => false) := by kernel_rfl
theorem infoF : (Try.prog.info? 61).map (·.size) = some 70 := by kernel_rfl
theorem infoFz : (Try.prog.info? 61).bind (·.zero) = some (.agg #[.int .i64 0, .int .i64 0, .int .i64 0, .bool false, .bool false, .bool false, .bool false, .bool false, .bool false, .bool false, .bool false, .bool false, .bool false, .bool false, .bool false, .bool false, .bool false, .bool false, .bool false, .bool false, .bool false, .bool false, .bool false, .bool false, .bool false, .bool false, .bool false, .bool false, .bool false, .bool false, .bool false, .bool false, .bool false, .bool false, .bool false, .bool false, .bool false, .bool false, .bool false, .bool false, .bool false, .bool false, .bool false, .bool false, .bool false, .bool false, .bool false, .bool false, .bool false, .bool false, .bool false, .bool false, .bool false, .bool false, .bool false, .bool false, .bool false, .bool false, .bool false, .bool false, .bool false, .bool false, .bool false, .bool false, .bool false, .bool false, .bool false, .bool false, .bool false, .bool false]) := by kernel_rfl
theorem zeroF {w : World} : (zeroValue 61).run Try.prog w = .ok (.agg (RC 0 0 0 false false false fun _ => false)) w := by
  have h := infoFz
  rw [zero_rc] at h
  cases hq : Try.prog.info? 61 with
  | none => rw [hq] at h; cases h
  | some i =>
    rw [hq] at h
    have h' : i.zero = some (.agg (RC 0 0 0 false false false fun _ => false)) := h
    simp [zeroValue, typeInfo, hq, h']
variable {w : World} {ρ : Operand → Value} {x y : Operand} {dst : Option Tmp} {t0 : TypeId} {pos : String} {af : Array Edge} {gd : Option (Nat × Bool)}
theorem loadF (hx : ρ x = .pointer (some ⟨blk (ρ x), 0, none⟩)) (h : isRow w (blk (ρ x))) (hs : (rowAt w (blk (ρ x))).size = 70) : (execOp ρ { dst := dst, op := .load 61 x, type := t0, pos := pos, after := af, guard := gd }).run Try.prog w = .ok (.value (.agg (rowAt w (blk (ρ x))))) w := run_load_op Try.underlying61 rfl infoF hx h hs
theorem storeF (hx : ρ x = .pointer (some ⟨blk (ρ x), 0, none⟩)) (hy : ρ y = .agg (aggOf (ρ y))) (h : isRow w (blk (ρ x))) (hs : (rowAt w (blk (ρ x))).size = 70) (hc : (aggOf (ρ y)).size = 70) (h1 : AllOne (aggOf (ρ y))) : (execOp ρ { dst := dst, op := .store 61 x y, type := t0, pos := pos, after := af, guard := gd }).run Try.prog w = .ok .skip (w.setRow (blk (ρ x)) (aggOf (ρ y))) := run_store_op infoF hx hy h hs hc h1
theorem loadA (hx : ρ x = .pointer (some ⟨blk (ρ x), 0, none⟩)) (h : isRow w (blk (ρ x))) (hs : (rowAt w (blk (ρ x))).size = 64) : (execOp ρ { dst := dst, op := .load 59 x, type := t0, pos := pos, after := af, guard := gd }).run Try.prog w = .ok (.value (.agg (rowAt w (blk (ρ x))))) w := run_load_op Try.underlying59 rfl infoL hx h hs
theorem storeA (hx : ρ x = .pointer (some ⟨blk (ρ x), 0, none⟩)) (hy : ρ y = .agg (aggOf (ρ y))) (h : isRow w (blk (ρ x))) (hs : (rowAt w (blk (ρ x))).size = 64) (hc : (aggOf (ρ y)).size = 64) (h1 : AllOne (aggOf (ρ y))) : (execOp ρ { dst := dst, op := .store 59 x y, type := t0, pos := pos, after := af, guard := gd }).run Try.prog w = .ok .skip (w.setRow (blk (ρ x)) (aggOf (ρ y))) := run_store_op infoL hx hy h hs hc h1
theorem loadM (hx : ρ x = .pointer (some ⟨blk (ρ x), 6, none⟩)) (h : isRow w (blk (ρ x))) (hs : (rowAt w (blk (ρ x))).size = 70) : (execOp ρ { dst := dst, op := .load 59 x, type := t0, pos := pos, after := af, guard := gd }).run Try.prog w = .ok (.value (.agg ((rowAt w (blk (ρ x))).extract 6 70))) w := by
  have ho : offv (ρ x) = 6 := by rw [hx]; rfl
  have := run_load_mid_op (P := Try.prog) (w := w) (ρ := ρ) (x := x) (dst := dst) (t0 := t0) (pos := pos) (af := af) (gd := gd) Try.underlying59 rfl infoL (by rw [ho]; exact hx) h (by rw [ho, hs]; decide)
  rwa [ho] at this
theorem storeM (hx : ρ x = .pointer (some ⟨blk (ρ x), 6, none⟩)) (hy : ρ y = .agg (aggOf (ρ y))) (h : isRow w (blk (ρ x))) (hs : (rowAt w (blk (ρ x))).size = 70) (hc : (aggOf (ρ y)).size = 64) (h1 : AllOne (aggOf (ρ y))) : (execOp ρ { dst := dst, op := .store 59 x y, type := t0, pos := pos, after := af, guard := gd }).run Try.prog w = .ok .skip (w.setRow (blk (ρ x)) (spl (rowAt w (blk (ρ x))) 6 (aggOf (ρ y)))) := by
  have ho : offv (ρ x) = 6 := by rw [hx]; rfl
  have := run_store_mid_op (P := Try.prog) (w := w) (ρ := ρ) (x := x) (y := y) (dst := dst) (t0 := t0) (pos := pos) (af := af) (gd := gd) infoL (by rw [ho]; exact hx) hy h (by rw [ho, hs]; decide) hc h1
  rwa [ho] at this
theorem resF {fn : Func} {p u : Tmp} {cs : Array Value} {g : Nat} (h : fn.results = #[.cell p 61, .tmp u]) (tmps : Array Value) (hp : tmps.getD p undef = .pointer (some ⟨g, 0, none⟩)) (hg : Row w g cs) (hs : cs.size = 70) {v : Value} (hv : tmps.getD u undef = v) : (results fn tmps).run Try.prog w = .ok (.tuple #[.agg cs, v]) w := by
  obtain ⟨t, ht⟩ := hg.box
  rw [results_cell_tmp h tmps Try.prog w, hp]
  simp only [asAddr, Sem.run_pure, Result.andThen_ok, run_loadVar_row w g t 61 cs (0, 0) _ ht Try.underlying61 rfl (by rw [hs]; exact infoF), hv]
theorem resF3 {fn : Func} {p u u2 : Tmp} {cs : Array Value} {g : Nat} (h : fn.results = #[.cell p 61, .tmp u, .tmp u2]) (tmps : Array Value) (hp : tmps.getD p undef = .pointer (some ⟨g, 0, none⟩)) (hg : Row w g cs) (hs : cs.size = 70) {v v2 : Value} (hv : tmps.getD u undef = v) (hv2 : tmps.getD u2 undef = v2) : (results fn tmps).run Try.prog w = .ok (.tuple #[.agg cs, v, v2]) w := by
  obtain ⟨t, ht⟩ := hg.box
  have hl := run_loadVar_row w g t 61 cs (0, 0) _ ht Try.underlying61 rfl (by rw [hs]; exact infoF)
  have hp' : tmps[p]?.getD undef = .pointer (some ⟨g, 0, none⟩) := by simpa using hp
  have hv' : tmps[u]?.getD undef = v := by simpa using hv
  have hv2' : tmps[u2]?.getD undef = v2 := by simpa using hv2
  simp only [results, h]
  simp [Result.andThen, asAddr, hp', hl, hv', hv2']
end Go.Proofs.Ytpjenhojldcmiaa
