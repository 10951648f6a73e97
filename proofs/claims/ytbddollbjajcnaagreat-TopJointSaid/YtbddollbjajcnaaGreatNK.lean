/- Calls that need no memory, run once. (printed by nk.py) -/
import Derived.Test.YtbddollbjajcnaaGreatTP
import Derived.Test.YtbddollbjajcnaaGreatNB
import Derived.KernelRfl
namespace Go.Proofs.YtbddollbjajcnaaGreat
open Go
noncomputable section
set_option linter.unusedVariables false
def personS : XV := .one (.str ⟨#[112, 101, 114, 115, 111, 110]⟩)
def catArg : XV := .agg [.slice (some ((.odd (.odd (.odd (.even .one)))), 0)) 2 (.is 2), .slice none 0 (.is 0), .slice none 0 (.is 0), .slice none 0 (.is 0), .slice none 0 (.is 0), .slice none 0 (.is 0), .slice none 0 (.is 0), .slice none 0 (.is 0)]
def catB : XObs := [((.odd (.even (.even (.even .one)))), .row [.int .i64 0]), ((.even (.odd (.even (.even .one)))), .row [.int .i64 0]), ((.odd (.odd (.even (.even .one)))), .row [.str ⟨#[105, 100]⟩, .int .i64 1, .str ⟨#[112, 101, 114, 115, 111, 110]⟩, .str ⟨#[]⟩, .slice (some ((.odd (.even (.even (.even .one)))), 0)) 1 (.is 1), .int .i64 0, .int .i64 0, .str ⟨#[99, 105, 116, 121]⟩, .int .i64 2, .str ⟨#[]⟩, .str ⟨#[]⟩, .slice (some ((.even (.odd (.even (.even .one)))), 0)) 1 (.is 1), .int .i64 0, .int .i64 0]), ((.even (.even (.odd (.even .one)))), .row [.int .i64 1]), ((.odd (.even (.odd (.even .one)))), .row [.int .i64 1, .int .i64 2]), ((.even (.odd (.odd (.even .one)))), .row [.str ⟨#[110, 111]⟩, .int .i64 1, .str ⟨#[]⟩, .str ⟨#[]⟩, .slice none 0 (.is 0), .int .i64 0, .int .i64 0, .str ⟨#[115, 101, 110, 100, 101, 114]⟩, .int .i64 1, .str ⟨#[112, 101, 114, 115, 111, 110]⟩, .str ⟨#[]⟩, .slice (some ((.even (.even (.odd (.even .one)))), 0)) 1 (.is 1), .int .i64 0, .int .i64 0, .str ⟨#[114, 101, 99, 101, 105, 118, 101, 114]⟩, .int .i64 1, .str ⟨#[112, 101, 114, 115, 111, 110]⟩, .str ⟨#[]⟩, .slice none 0 (.is 0), .int .i64 0, .int .i64 0, .str ⟨#[119, 111, 114, 100, 115]⟩, .int .i64 2, .str ⟨#[]⟩, .str ⟨#[]⟩, .slice (some ((.odd (.even (.odd (.even .one)))), 0)) 2 (.is 2), .int .i64 1, .int .i64 0]), ((.odd (.odd (.odd (.even .one)))), .row [.str ⟨#[112, 101, 114, 115, 111, 110]⟩, .slice (some ((.odd (.odd (.even (.even .one)))), 0)) 2 (.is 2), .int .i64 1, .int .i64 0, .str ⟨#[109, 101, 115, 115, 97, 103, 101]⟩, .slice (some ((.even (.odd (.odd (.even .one)))), 0)) 4 (.is 4), .int .i64 0, .int .i64 0])]
def catN : XP := .even (.even (.even (.even (.even (.even (.even (.even (.even (.even (.even (.even (.even (.even (.even (.even .one)))))))))))))))
def memoN : XP := .even (.even (.even (.even .one)))
def noHook : CallF := fun _ _ _ => none
theorem noHook_ok : CallF.OK Tryz.prog noHook := fun g args s outs h => by cases h
def sb44 : FuncId → Bool := fun g => Nat.beq g 44
def run0 (g : FuncId) (args : List XV) (s : XS) : Option (List (XV × XS)) := fnX Tryz.prog tb (runX Tryz.prog tb noHook sb44 1000000) g args s
theorem mixed : Tryz.prog.follows .mixedOrders = true := by kernel_rfl
theorem run0_ok (g : FuncId) (args : List XV) (s : XS) (outs : List (XV × XS)) (h : run0 g args s = some outs) : FnE Tryz.prog g ∧ CallOK Tryz.prog g args s outs :=
  fnX_ok tb_ok (runX_ok mixed tb_ok noHook_ok sb44 1000000) h
def nameM : Memo := [([personS], .one (.bool true))]
def awakeM : Memo := [([], .one (.bool true))]
theorem cat_run : runsTo (run0 61 [catArg]) (putAll catB .leaf) catN (.one (.bool true)) = true := by kernel_rfl
theorem name_run : memoB (run0 146) memoN nameM = true := by kernel_rfl
def catHook : CallF := fun g args s => bif Nat.beq g 61 then (bif sameL sameV args [catArg] then (bif Nat.ble s.next.nat catN.nat then (bif subL catB s.heap then some [(.one (.bool true), s)] else none) else none) else none) else none
theorem catHook_ok : CallF.OK Tryz.prog catHook := fun g args s outs h => by
  obtain ⟨h1, h⟩ := bif_some h
  obtain ⟨h2, h⟩ := bif_some h
  obtain ⟨h3, h⟩ := bif_some h
  obtain ⟨h4, h⟩ := bif_some h
  cases h
  rw [Nat.eq_of_beq_eq_true h1, sameL_ok (fun _ _ => sameV_ok) h2]
  exact memo_heap (fun s outs => run0_ok 61 [catArg] s outs) cat_run h3 h4
end
end Go.Proofs.YtbddollbjajcnaaGreat
namespace Go.Proofs.YtbddollbjajcnaaGreat
open Go
noncomputable section
/-- one hook, then another -/
def orH (h k : CallF) : CallF := fun g args s => match h g args s with
  | some o => some o
  | none => k g args s
theorem orH_ok {P : Program} {h k : CallF} (h1 : h.OK P) (h2 : k.OK P) : (orH h k).OK P := fun g args s outs e => by
  unfold orH at e
  split at e
  · rename_i o ho
    cases e
    exact h1 g args s _ ho
  · exact h2 g args s outs e
def hook1 : CallF := orH (memoX (.one 146 nameM)) catHook
theorem hook1_ok : hook1.OK Tryz.prog := orH_ok (memoX_ok (.one (memoB_ok (run0_ok 146) rfl name_run))) catHook_ok
def run1 (g : FuncId) (args : List XV) (s : XS) : Option (List (XV × XS)) := fnX Tryz.prog tb (runX Tryz.prog tb hook1 sb44 1000000) g args s
theorem run1_ok (g : FuncId) (args : List XV) (s : XS) (outs : List (XV × XS)) (h : run1 g args s = some outs) : FnE Tryz.prog g ∧ CallOK Tryz.prog g args s outs :=
  fnX_ok tb_ok (runX_ok mixed tb_ok hook1_ok sb44 1000000) h
theorem awake_run : memoB (run1 20) memoN awakeM = true := by kernel_rfl
end
end Go.Proofs.YtbddollbjajcnaaGreat
namespace Go.Proofs.YtbddollbjajcnaaGreat
open Go
noncomputable section
set_option linter.unusedVariables false
def mem10 : Memo := [([.one (.per .i64 (.even (.even .one)) false)], .agg [.int .i64 1, .per .i64 (.even (.even .one)) false, .str ⟨#[]⟩]),
  ([.one (.per .i64 (.even .one) false)], .agg [.int .i64 1, .per .i64 (.even .one) false, .str ⟨#[]⟩]),
  ([.one (.per .i64 .one false)], .agg [.int .i64 1, .per .i64 .one false, .str ⟨#[]⟩]),
  ([.one (.per .i64 (.odd .one) false)], .agg [.int .i64 1, .per .i64 (.odd .one) false, .str ⟨#[]⟩]),
  ([.one (.int .i64 1)], .agg [.int .i64 1, .int .i64 1, .str ⟨#[]⟩])]
theorem mem10_run : memoB (run0 10) memoN mem10 = true := by kernel_rfl
def mem12 : Memo := [([.one (.per .i64 (.even .one) false)], .agg [.str ⟨#[112, 101, 114, 115, 111, 110]⟩, .int .i64 1, .per .i64 (.even .one) false, .str ⟨#[]⟩]),
  ([.one (.per .i64 .one false)], .agg [.str ⟨#[112, 101, 114, 115, 111, 110]⟩, .int .i64 1, .per .i64 .one false, .str ⟨#[]⟩]),
  ([.one (.per .i64 (.even (.even .one)) false)], .agg [.str ⟨#[112, 101, 114, 115, 111, 110]⟩, .int .i64 1, .per .i64 (.even (.even .one)) false, .str ⟨#[]⟩]),
  ([.one (.per .i64 (.odd .one) false)], .agg [.str ⟨#[112, 101, 114, 115, 111, 110]⟩, .int .i64 1, .per .i64 (.odd .one) false, .str ⟨#[]⟩])]
theorem mem12_run : memoB (run0 12) memoN mem12 = true := by kernel_rfl
def mem32 : Memo := [([.agg [.int .i64 1, .per .i64 (.even (.even .one)) false, .str ⟨#[]⟩]], .agg [.int .i64 1, .per .i64 (.even (.even .one)) false, .str ⟨#[]⟩]),
  ([.agg [.int .i64 1, .per .i64 (.even .one) false, .str ⟨#[]⟩]], .agg [.int .i64 1, .per .i64 (.even .one) false, .str ⟨#[]⟩]),
  ([.agg [.int .i64 1, .per .i64 .one false, .str ⟨#[]⟩]], .agg [.int .i64 1, .per .i64 .one false, .str ⟨#[]⟩]),
  ([.agg [.int .i64 2, .int .i64 0, .str ⟨#[104, 101, 108, 108, 111]⟩]], .agg [.int .i64 2, .int .i64 0, .str ⟨#[104, 101, 108, 108, 111]⟩]),
  ([.agg [.int .i64 1, .per .i64 (.odd .one) false, .str ⟨#[]⟩]], .agg [.int .i64 1, .per .i64 (.odd .one) false, .str ⟨#[]⟩]),
  ([.agg [.int .i64 1, .int .i64 1, .str ⟨#[]⟩]], .agg [.int .i64 1, .int .i64 1, .str ⟨#[]⟩])]
theorem mem32_run : memoB (run0 32) memoN mem32 = true := by kernel_rfl
def mem40 : Memo := [([.agg [.int .i64 1, .int .i64 1, .int .i64 3], .agg [.int .i64 1, .int .i64 3, .int .i64 3]], .one (.int .i64 (Int.negSucc 0))),
  ([.agg [.int .i64 1, .int .i64 3, .int .i64 3], .agg [.int .i64 1, .int .i64 1, .int .i64 3]], .one (.int .i64 1))]
theorem mem40_run : memoB (run0 40) memoN mem40 = true := by kernel_rfl
def mem79 : Memo := [([.agg [.str ⟨#[112, 101, 114, 115, 111, 110]⟩, .int .i64 1, .per .i64 (.even (.even .one)) false, .str ⟨#[]⟩]], .one (.bool true)),
  ([.agg [.str ⟨#[112, 101, 114, 115, 111, 110]⟩, .int .i64 1, .per .i64 (.even .one) false, .str ⟨#[]⟩]], .one (.bool true)),
  ([.agg [.str ⟨#[112, 101, 114, 115, 111, 110]⟩, .int .i64 1, .per .i64 .one false, .str ⟨#[]⟩]], .one (.bool true)),
  ([.agg [.str ⟨#[112, 101, 114, 115, 111, 110]⟩, .int .i64 1, .per .i64 (.odd .one) false, .str ⟨#[]⟩]], .one (.bool true))]
theorem mem79_run : memoB (run0 79) memoN mem79 = true := by kernel_rfl
def mem88 : Memo := [([.agg [.int .i64 1, .per .i64 (.even (.even .one)) false, .str ⟨#[]⟩]], .one (.bool true)),
  ([.agg [.int .i64 1, .per .i64 (.even .one) false, .str ⟨#[]⟩]], .one (.bool true)),
  ([.agg [.int .i64 1, .per .i64 .one false, .str ⟨#[]⟩]], .one (.bool true)),
  ([.agg [.int .i64 2, .int .i64 0, .str ⟨#[104, 101, 108, 108, 111]⟩]], .one (.bool true)),
  ([.agg [.int .i64 1, .per .i64 (.odd .one) false, .str ⟨#[]⟩]], .one (.bool true)),
  ([.agg [.int .i64 1, .int .i64 1, .str ⟨#[]⟩]], .one (.bool true))]
theorem mem88_run : memoB (run0 88) memoN mem88 = true := by kernel_rfl
def mem102 : Memo := [([.agg [.int .i64 1, .int .i64 3, .int .i64 3], .agg [.int .i64 1, .int .i64 1, .int .i64 3]], .one (.int .i64 1))]
theorem mem102_run : memoB (run0 102) memoN mem102 = true := by kernel_rfl
def mem103 : Memo := [([.agg [.int .i64 1, .int .i64 3, .int .i64 3], .agg [.int .i64 1, .int .i64 1, .int .i64 3]], .one (.bool false)),
  ([.agg [.int .i64 1, .int .i64 1, .int .i64 3], .agg [.int .i64 1, .int .i64 3, .int .i64 3]], .one (.bool true))]
theorem mem103_run : memoB (run0 103) memoN mem103 = true := by kernel_rfl
def mem108 : Memo := [([.agg [.str ⟨#[112, 101, 114, 115, 111, 110]⟩, .int .i64 1, .per .i64 (.even (.even .one)) false, .str ⟨#[]⟩], .agg [.str ⟨#[112, 101, 114, 115, 111, 110]⟩, .int .i64 1, .per .i64 (.even (.even .one)) false, .str ⟨#[]⟩]], .one (.int .i64 0)),
  ([.agg [.str ⟨#[112, 101, 114, 115, 111, 110]⟩, .int .i64 1, .per .i64 (.even .one) false, .str ⟨#[]⟩], .agg [.str ⟨#[112, 101, 114, 115, 111, 110]⟩, .int .i64 1, .per .i64 (.even .one) false, .str ⟨#[]⟩]], .one (.int .i64 0)),
  ([.agg [.str ⟨#[112, 101, 114, 115, 111, 110]⟩, .int .i64 1, .per .i64 .one false, .str ⟨#[]⟩], .agg [.str ⟨#[112, 101, 114, 115, 111, 110]⟩, .int .i64 1, .per .i64 (.even .one) false, .str ⟨#[]⟩]], .one (.int .i64 (Int.negSucc 0))),
  ([.agg [.str ⟨#[112, 101, 114, 115, 111, 110]⟩, .int .i64 1, .per .i64 .one false, .str ⟨#[]⟩], .agg [.str ⟨#[112, 101, 114, 115, 111, 110]⟩, .int .i64 1, .per .i64 .one false, .str ⟨#[]⟩]], .one (.int .i64 0)),
  ([.agg [.str ⟨#[112, 101, 114, 115, 111, 110]⟩, .int .i64 1, .per .i64 (.even .one) false, .str ⟨#[]⟩], .agg [.str ⟨#[112, 101, 114, 115, 111, 110]⟩, .int .i64 1, .per .i64 .one false, .str ⟨#[]⟩]], .one (.int .i64 1)),
  ([.agg [.str ⟨#[112, 101, 114, 115, 111, 110]⟩, .int .i64 1, .per .i64 (.odd .one) false, .str ⟨#[]⟩], .agg [.str ⟨#[112, 101, 114, 115, 111, 110]⟩, .int .i64 1, .per .i64 (.odd .one) false, .str ⟨#[]⟩]], .one (.int .i64 0))]
theorem mem108_run : memoB (run0 108) memoN mem108 = true := by kernel_rfl
def mem197 : Memo := [([.agg [.int .i64 1, .per .i64 .one false, .str ⟨#[]⟩], .agg [.str ⟨#[114, 101, 99, 101, 105, 118, 101, 114]⟩, .int .i64 1, .str ⟨#[112, 101, 114, 115, 111, 110]⟩, .str ⟨#[]⟩, .slice none 0 (.is 0), .int .i64 0, .int .i64 0]], .one (.bool true)),
  ([.agg [.int .i64 1, .per .i64 (.even .one) false, .str ⟨#[]⟩], .agg [.str ⟨#[114, 101, 99, 101, 105, 118, 101, 114]⟩, .int .i64 1, .str ⟨#[112, 101, 114, 115, 111, 110]⟩, .str ⟨#[]⟩, .slice none 0 (.is 0), .int .i64 0, .int .i64 0]], .one (.bool true)),
  ([.agg [.int .i64 1, .per .i64 (.odd .one) false, .str ⟨#[]⟩], .agg [.str ⟨#[114, 101, 99, 101, 105, 118, 101, 114]⟩, .int .i64 1, .str ⟨#[112, 101, 114, 115, 111, 110]⟩, .str ⟨#[]⟩, .slice none 0 (.is 0), .int .i64 0, .int .i64 0]], .one (.bool true)),
  ([.agg [.int .i64 1, .int .i64 1, .str ⟨#[]⟩], .agg [.str ⟨#[110, 111]⟩, .int .i64 1, .str ⟨#[]⟩, .str ⟨#[]⟩, .slice none 0 (.is 0), .int .i64 0, .int .i64 0]], .one (.bool true))]
theorem mem197_run : memoB (run0 197) memoN mem197 = true := by kernel_rfl
def mem250 : Memo := [([.agg [.int .i64 1, .per .i64 (.even (.even .one)) false, .str ⟨#[]⟩]], .agg [.int .i64 1, .per .i64 (.even (.even .one)) false, .str ⟨#[]⟩]),
  ([.agg [.int .i64 1, .per .i64 .one false, .str ⟨#[]⟩]], .agg [.int .i64 1, .per .i64 .one false, .str ⟨#[]⟩]),
  ([.agg [.int .i64 1, .per .i64 (.even .one) false, .str ⟨#[]⟩]], .agg [.int .i64 1, .per .i64 (.even .one) false, .str ⟨#[]⟩]),
  ([.agg [.int .i64 1, .per .i64 (.odd .one) false, .str ⟨#[]⟩]], .agg [.int .i64 1, .per .i64 (.odd .one) false, .str ⟨#[]⟩])]
theorem mem250_run : memoB (run0 250) memoN mem250 = true := by kernel_rfl
def memoT : TM := (.node 88 (.node 32 (.node 12 (.one 10 mem10) (.node 20 (.one 12 mem12) (.one 20 awakeM))) (.node 40 (.one 32 mem32) (.node 79 (.one 40 mem40) (.one 79 mem79)))) (.node 108 (.node 102 (.one 88 mem88) (.node 103 (.one 102 mem102) (.one 103 mem103))) (.node 197 (.node 146 (.one 108 mem108) (.one 146 nameM)) (.node 250 (.one 197 mem197) (.one 250 mem250)))))
theorem memoT_ok : memoT.OK Tryz.prog := (.node (.node (.node (.one (memoB_ok (run0_ok 10) rfl mem10_run)) (.node (.one (memoB_ok (run0_ok 12) rfl mem12_run)) (.one (memoB_ok (run1_ok 20) rfl awake_run)))) (.node (.one (memoB_ok (run0_ok 32) rfl mem32_run)) (.node (.one (memoB_ok (run0_ok 40) rfl mem40_run)) (.one (memoB_ok (run0_ok 79) rfl mem79_run))))) (.node (.node (.one (memoB_ok (run0_ok 88) rfl mem88_run)) (.node (.one (memoB_ok (run0_ok 102) rfl mem102_run)) (.one (memoB_ok (run0_ok 103) rfl mem103_run)))) (.node (.node (.one (memoB_ok (run0_ok 108) rfl mem108_run)) (.one (memoB_ok (run0_ok 146) rfl name_run))) (.node (.one (memoB_ok (run0_ok 197) rfl mem197_run)) (.one (memoB_ok (run0_ok 250) rfl mem250_run))))))
end
end Go.Proofs.YtbddollbjajcnaaGreat
