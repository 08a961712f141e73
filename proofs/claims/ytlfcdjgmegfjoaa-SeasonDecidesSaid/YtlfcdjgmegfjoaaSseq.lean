/- days hands back a value that goes through the days of a phase, with the bounds. -/
import Derived.Test.YtlfcdjgmegfjoaaSdays
namespace Go.Proofs.Ytlfcdjgmegfjoaa
open Go.RowKit Go.Shelf
set_option linter.unusedVariables false
attribute [local go_sem] Oper.semAt_some

set_option maxHeartbeats 1000000 in
theorem days_in (F : Fence) (n : Nat) (hf : F.fn 37) (hro : F.round = none) (s : Int) (a : Option Addr) (len cap : Nat) (k0 f u v : Int) (w : World) :
    CallsIn F n Try.prog 37 #[.agg #[.int .i64 s, .slice a len cap], .agg #[.int .i64 k0, .int .i64 f, .int .i64 u, .int .i64 v]] w fun e w' =>
      e = .returned (.func (.func 40) #[] #[.pointer (some ⟨w.heap.size + 1, 0, none⟩), .pointer (some ⟨w.heap.size, 0, none⟩)]) ∧
      w' = (w.alloc (.cells #[.int .i64 s, .slice a len cap] 25)).alloc (.cells #[.int .i64 k0, .int .i64 f, .int .i64 u, .int .i64 v] 27) := by
  refine callsIn_of_wp Try.func37 rfl hf ?_ hro
  simp only [Try.ntmps37, List.size_toArray, List.length_cons, List.length_nil, Nat.reduceAdd, Nat.reduceSub, Array.replicate_succ, Array.replicate_zero, List.push_toArray, List.append_toArray, List.nil_append, List.cons_append]
  gi_wp2
  go_ret
  exact ⟨rfl, rfl⟩

theorem days_stops (n : Nat) (hn : 1 ≤ n) (Bp Bs m : Nat) (s : Int) (a : Option Addr) (len cap : Nat) (l : List (Int × Int)) (hl : l.length = len) (hR : chkS s l = 0) (k0 f u v : Int) (hf : 0 ≤ f) (hfu : f ≤ u) (hu : dayOK u) (w : World)
    (hm : m ≤ w.heap.size) (hBp : Blk w Bp 27 #[.int .i64 k0, .int .i64 f, .int .i64 u, .int .i64 v]) (hBs : Blk w Bs 25 #[.int .i64 s, .slice a len cap]) (hS : SerB m w a l) :
    SeqStopsK Fence.wide n Try.prog 40 #[.pointer (some ⟨Bp, 0, none⟩), .pointer (some ⟨Bs, 0, none⟩)] (dayEnc s l) (KeepB m Bp Bs)
      (fun ys => ys = upto (fun j : Nat => f + (j : Int)) (u + 1 - f).toNat) (fun pre => ∃ k, k ≤ (u + 1 - f).toNat ∧ pre = upto (fun j : Nat => f + (j : Int)) k) (u + 1 - f).toNat w :=
  fun L J Jx W hW hJ hJx hY h0 =>
    days1_in n hn L Bp Bs m s a len cap l hl hR k0 f u v hf hfu hu J Jx hY W hJ (Nat.le_trans hm hW.size) (hBp.below hW) (hBs.below hW) (hS.keep (KeepB.below hm hBp.lt hBs.lt hW)) h0
end Go.Proofs.Ytlfcdjgmegfjoaa
