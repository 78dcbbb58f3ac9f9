/-
  WHAT THE TRACE BECOMES.
-/
import Derived.Test.YtmiggpnkicdijaaPlain
namespace Go.Proofs.Ytmiggpnkicdijaa
open Go Go.RowKit
def lastE (l : List Evt) : Evt := l.getD (l.length - 1) default
def sayF (k : Int) (name text : List UInt8) (l : List Evt) : List Evt :=
  if text = [] then l else if 0 < l.length ∧ (lastE l).kind = k ∧ (lastE l).name = name then l.set (l.length - 1) { lastE l with text := (lastE l).text ++ text } else l ++ [⟨k, name, text⟩]
/-- Bounds, so that nothing runs over. -/
structure WB (n : Nat) (ws : WS) : Prop where
  opn : ws.opn.length = 19
  tr : ws.trace.length ≤ n
  txt : ∀ e ∈ ws.trace, e.text.length ≤ n
  fl : ∀ f ∈ ws.files, f.bytes.length ≤ n
  pl : ∀ d ∈ ws.opn, d.place ≤ n
  sin : ws.stdin.length ≤ n
theorem last_mem {l : List Evt} (h : 0 < l.length) : lastE l ∈ l := by
  unfold lastE
  rw [getD_eq' (by omega)]
  exact List.getElem_mem _
theorem sayF_nil {k : Int} {name : List UInt8} {l : List Evt} : sayF k name [] l = l := by simp [sayF]
theorem sayF_more {k : Int} {name text : List UInt8} {l : List Evt} (h0 : text ≠ []) (h : 0 < l.length ∧ (lastE l).kind = k ∧ (lastE l).name = name) : sayF k name text l = l.set (l.length - 1) { lastE l with text := (lastE l).text ++ text } := by
  unfold sayF; rw [if_neg h0, if_pos h]
theorem sayF_new {k : Int} {name text : List UInt8} {l : List Evt} (h0 : text ≠ []) (h : ¬ (0 < l.length ∧ (lastE l).kind = k ∧ (lastE l).name = name)) : sayF k name text l = l ++ [⟨k, name, text⟩] := by
  unfold sayF; rw [if_neg h0, if_neg h]
theorem sayF_bounds {k : Int} {name text : List UInt8} {l : List Evt} {n : Nat} (h1 : l.length ≤ n) (h2 : ∀ e ∈ l, e.text.length ≤ n) : (sayF k name text l).length ≤ n + text.length + 1 ∧ ∀ e ∈ sayF k name text l, e.text.length ≤ n + text.length := by
  unfold sayF
  split
  · exact ⟨by omega, fun e he => by have := h2 e he; omega⟩
  · split
    · rename_i hc
      refine ⟨by rw [List.length_set]; omega, fun e he => ?_⟩
      rcases List.mem_or_eq_of_mem_set he with he | rfl
      · have := h2 e he; omega
      · have := h2 _ (last_mem hc.1)
        simp only [List.length_append]; omega
    · refine ⟨by simp; omega, fun e he => ?_⟩
      rcases List.mem_append.1 he with he | he
      · have := h2 e he; omega
      · rcases List.mem_singleton.1 he with rfl
        simp only; omega
/-- The trace's entries, said anew. -/
theorem wst_more {b m : Nat} {ws : WS} {k : Int} {name text : List UInt8} (h0 : text ≠ []) (h : 0 < ws.trace.length ∧ (lastE ws.trace).kind = k ∧ (lastE ws.trace).name = name) :
    WSt b m { ws with trace := sayF k name text ws.trace } = .box b 70 (wCells m ws.stdin ws.opn ws.tA ws.trace.length ws.tc) :: .map m (ws.files.map fileKey) :: .row ws.tA ws.trace.length ws.tc 36 3 ((ws.trace.flatMap evCells).set ((ws.trace.length - 1) * 3 + 2) (sv ((lastE ws.trace).text ++ text))) :: ws.files.map fileRow := by
  rw [sayF_more h0 h]
  simp only [WSt, List.length_set]
  rw [set_ev (by omega)]
  rfl
theorem wst_new {b m : Nat} {ws : WS} {k : Int} {name text : List UInt8} {A : Option Addr} {c : Nat} (ho : ws.opn.length = 19) (h0 : text ≠ []) (h : ¬ (0 < ws.trace.length ∧ (lastE ws.trace).kind = k ∧ (lastE ws.trace).name = name)) :
    WSt b m { ws with trace := sayF k name text ws.trace, tA := A, tc := c } = .box b 70 ((wCells m ws.stdin ws.opn ws.tA ws.trace.length ws.tc).take 59 ++ [.v (.slice A (ws.trace.length + 1) c)] ++ (wCells m ws.stdin ws.opn ws.tA ws.trace.length ws.tc).drop 60) :: .map m (ws.files.map fileKey) ::
      .row A (ws.trace.length + 1) c 36 3 (ws.trace.flatMap evCells ++ [.v (.int .i64 k), sv name, sv text]) :: ws.files.map fileRow := by
  rw [sayF_new h0 h]
  simp only [WSt, List.length_append, List.length_cons, List.length_nil, List.flatMap_append, List.flatMap_cons, List.flatMap_nil, List.append_nil, Nat.zero_add]
  rw [set_trace ho]
  rfl
end Go.Proofs.Ytmiggpnkicdijaa
