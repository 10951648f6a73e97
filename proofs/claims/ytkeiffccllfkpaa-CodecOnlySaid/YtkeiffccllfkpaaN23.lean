/- Equality of the small structs. -/
import Derived.Test.YtkeiffccllfkpaaN17
namespace Go.Proofs.Ytkeiffccllfkpaa
open Go.RowKit
set_option linter.unusedSimpArgs false

set_option maxRecDepth 100000 in
theorem req_eq (q : Req) (px py : Operand) (w : World) : (do eqGuard .eql 105 px py (valReq q) (valReq q); binOp .eql 105 (valReq q) (valReq q) : Sem Value).run Try.prog w = .ok (.bool true) w := by
  simp only [valReq, reqcells, idfcells]
  go_simp
set_option maxRecDepth 100000 in
theorem lnk_eq (q : Lnk) (px py : Operand) (w : World) : (do eqGuard .eql 107 px py (valLnk q) (valLnk q); binOp .eql 107 (valLnk q) (valLnk q) : Sem Value).run Try.prog w = .ok (.bool true) w := by
  simp only [valLnk, lnkcells, idfcells, List.cons_append, List.nil_append]
  go_simp
set_option maxRecDepth 100000 in
theorem hld_eq (q : Hld) (px py : Operand) (w : World) : (do eqGuard .eql 109 px py (valHld q) (valHld q); binOp .eql 109 (valHld q) (valHld q) : Sem Value).run Try.prog w = .ok (.bool true) w := by
  simp only [valHld, hldcells, idfcells, List.cons_append, List.nil_append]
  go_simp
end Go.Proofs.Ytkeiffccllfkpaa
