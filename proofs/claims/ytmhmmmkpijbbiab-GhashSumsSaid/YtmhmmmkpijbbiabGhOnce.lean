/- sync.Once with one goroutine, and the counter of ghash.Hash: contracts (turned from the worked proof Lazy). -/
import Derived.Test.YtmhmmmkpijbbiabMB
import Derived.Defers
import Derived.Laws.Pointers
import Derived.Laws.LoneSync
import Derived.RegionTactic
import Derived.RegionCalls
namespace Go.Proofs.Ytmhmmmkpijbbiab.M
open Go.RowKit Go.Proofs.YtmhmmmkpijbbiabW.PrintWords Go.Proofs.YtmhmmmkpijbbiabW.PrintLast Go.Proofs.YtmhmmmkpijbbiabW.PrintMore Go.Proofs.Ytmhmmmkpijbbiab.X
set_option linter.unusedVariables false
set_option linter.unusedSimpArgs false
theorem disable (w : World) : (callFunc 59 #[]).run Try.prog w = .ok (.value (.tuple #[])) w := run_call_mark0 Try.func59 (by kernel_rfl) (by kernel_rfl) (by kernel_rfl) .disable (by kernel_rfl) w
theorem enable (w : World) : (callFunc 61 #[]).run Try.prog w = .ok (.value (.tuple #[])) w := run_call_mark0 Try.func61 (by kernel_rfl) (by kernel_rfl) (by kernel_rfl) .enable (by kernel_rfl) w
theorem acquire (a : Addr) (w : World) : (callFunc 62 #[.pointer (some a)]).run Try.prog w = .ok (.value (.tuple #[])) w := run_call_marked Try.func62 (by kernel_rfl) (by kernel_rfl) (by kernel_rfl) .acquire (by kernel_rfl) a w
theorem releaseMerge (a : Addr) (w : World) : (callFunc 64 #[.pointer (some a)]).run Try.prog w = .ok (.value (.tuple #[])) w := run_call_marked Try.func64 (by kernel_rfl) (by kernel_rfl) (by kernel_rfl) .releaseMerge (by kernel_rfl) a w
/-- The word of a Once is stored, as a deferred call. -/
theorem store_deferred (a : Addr) (x : Value) (u : FrameMode) (w : World) (hc : w.cell? a = some x) (hz : w.frozen? a = false) :
    CallsD Try.prog 53 #[.pointer (some a), .bool true] u w fun e u' w' => u' = u ∧ (e = .returned (.tuple #[]) ∧ w' = w.drew.setCell a (.int .u32 1)) := by
  have hc' : w.drew.cell? a = some x := by go_simp
  have hz' : w.drew.frozen? a = false := by go_simp
  have hst := run_call_store (P := Try.prog) Try.func57 (by kernel_rfl) (by kernel_rfl) (by kernel_rfl) (by kernel_rfl) (k := .u32) (y := 1) hc' hz'
  go_enter_d Try.func53, Try.ntmps53
  go_wp2
  go_region_calls
  all_goals (go_end0; exact ⟨rfl, rfl⟩)
set_option maxRecDepth 100000 in
theorem unlock_deferred (a : Addr) (u : FrameMode) (w : World) (hc : w.cell? a = some (.int .i32 1)) (hz : w.frozen? a = false) :
    CallsD Try.prog 52 #[.pointer (some a)] u w fun e u' w' => u' = u ∧ (e = .returned (.tuple #[]) ∧ w' = w.setCell a (.int .i32 0)) := by
  have hd := disable
  have he := enable
  have hr := releaseMerge
  have hadd := run_call_add (P := Try.prog) Try.func65 (by kernel_rfl) (by kernel_rfl) (by kernel_rfl) .i32 (by kernel_rfl) (y := -1) (s := 0) hc hz (by simp [go_sem]; rfl)
  have hcv := run_convert_to_unsafe (P := Try.prog) (src := 113) (dst := 117) Try.underlying113 Try.underlying117 (by kernel_rfl) hc
  go_enter_d Try.func52, Try.ntmps52
  go_wp2
  go_end0
  go_wp2
  go_end0
  exact ⟨rfl, rfl⟩
set_option maxRecDepth 100000 in
theorem lock_free (a : Addr) (w : World) (hc : w.cell? a = some (.int .i32 0)) (hz : w.frozen? a = false) :
    Calls Try.prog 51 #[.pointer (some a)] w fun e w' => e = .returned (.tuple #[]) ∧ w' = w.setCell a (.int .i32 1) := by
  have hd := disable
  have he := enable
  have ha := acquire
  have hcas := run_call_cas_hit (P := Try.prog) Try.func60 (by kernel_rfl) (by kernel_rfl) (by kernel_rfl) .i32 (by kernel_rfl) (y := 1) hc hz
  have hc' : (w.setCell a (.int .i32 1)).cell? a = some (.int .i32 1) := World.cell?_setCell_same w a _ hc
  have hcv := run_convert_to_unsafe (P := Try.prog) (src := 113) (dst := 117) Try.underlying113 Try.underlying117 (by kernel_rfl) hc'
  go_enter Try.func51, Try.ntmps51
  go_wp2
  first | go_end0 | (simp only [Exit.inBlock, Exit.then]; refine bodyPost_ret (results_none rfl _ _ _) rfl ?_) | refine bodyPost_ret (results_none rfl _ _ _) rfl ?_
  go_wp2
  go_end0
  exact ⟨rfl, rfl⟩
set_option maxRecDepth 100000 in
set_option maxHeartbeats 1600000 in
theorem slow_calls (b : Nat) (w : World) (R : World → Prop) (h0 : w.cell? ⟨b, 2, none⟩ = some (.int .u32 0)) (h1 : w.cell? ⟨b, 3, none⟩ = some (.int .i32 0)) (f0 : w.frozen? ⟨b, 2, none⟩ = false) (f1 : w.frozen? ⟨b, 3, none⟩ = false)
    (hm : Calls Try.prog 38 #[.pointer (some ⟨b, 0, none⟩)] (w.setCell ⟨b, 3, none⟩ (.int .i32 1)) fun e w2 => e = .returned (.tuple #[]) ∧ R w2)
    (hR : ∀ w2, R w2 → w2.cell? ⟨b, 2, none⟩ = some (.int .u32 0) ∧ w2.cell? ⟨b, 3, none⟩ = some (.int .i32 1) ∧ w2.frozen? ⟨b, 2, none⟩ = false ∧ w2.frozen? ⟨b, 3, none⟩ = false) :
    Calls Try.prog 46 #[.pointer (some ⟨b, 2, none⟩), .func (.func 38) #[.pointer (some ⟨b, 0, none⟩)] #[]] w fun e w' => e = .returned (.tuple #[]) ∧
      ∃ w2, R w2 ∧ w' = (w2.drew.setCell ⟨b, 2, none⟩ (.int .u32 1)).setCell ⟨b, 3, none⟩ (.int .i32 0) := by
  have hl := run_call_load (P := Try.prog) Try.func50 (by kernel_rfl) (by kernel_rfl) (by kernel_rfl) .u32 (by kernel_rfl) (w := w.setCell ⟨b, 3, none⟩ (.int .i32 1)) (a := ⟨b, 2, none⟩) (x := 0) ((World.cell?_setCell_other _ ⟨b, 3, none⟩ ⟨b, 2, none⟩ _ (by simp)).trans h0)
  have hnot : ∀ (x : Bool) (w : World), (Op.unary .not (.bool x)).run Try.prog w = .ok (.bool (!x)) w := fun _ _ => rfl
  have HM := Aside0.mk hm
  have HR := Aside0.mk hR
  clear hm hR
  go_enter_defers Try.func46, Try.ntmps46
  go_wp2_with (first | (go_at_call 51; refine (lock_free ⟨b, 3, none⟩ _ (by go_simp) (by go_simp)).mono ?_; rintro e w' ⟨rfl, rfl⟩) | (go_at_call 38; refine HM.out.mono ?_; rintro e w2 ⟨rfl, hr2⟩; have HR2 := Aside0.mk hr2; clear hr2) | (go_at_call 45; go_in))
  obtain ⟨c0, c1, z0, z1⟩ := HR.out _ HR2.out
  refine leaves_cons (f := 53) (args := #[.pointer (some ⟨b, 2, none⟩), .bool true]) (by simp) (by simp [go_sem]) ?_
  refine (store_deferred ⟨b, 2, none⟩ (.int .u32 0) .returning _ c0 z0).mono ?_
  rintro e u' w'' ⟨rfl, rfl, rfl⟩
  refine leaves_cons (f := 52) (args := #[.pointer (some ⟨b, 3, none⟩)]) (by simp [settle]) (by simp [go_sem]) ?_
  refine (unlock_deferred ⟨b, 3, none⟩ _ _ ?_ (by simp [z1])).mono ?_
  · refine (World.cell?_setCell_other _ ⟨b, 2, none⟩ ⟨b, 3, none⟩ _ (by simp)).trans ?_
    rw [World.cell?_drew]
    exact c1
  rintro e u' w'' ⟨rfl, rfl, rfl⟩
  simp [Leaves, settle, results, Try.results46]
  exact ⟨_, HR2.out, rfl⟩
set_option maxRecDepth 100000 in
set_option maxHeartbeats 1600000 in
theorem do_first (b : Nat) (w : World) (R : World → Prop) (h0 : w.cell? ⟨b, 2, none⟩ = some (.int .u32 0)) (h1 : w.cell? ⟨b, 3, none⟩ = some (.int .i32 0)) (f0 : w.frozen? ⟨b, 2, none⟩ = false) (f1 : w.frozen? ⟨b, 3, none⟩ = false)
    (hm : Calls Try.prog 38 #[.pointer (some ⟨b, 0, none⟩)] (w.setCell ⟨b, 3, none⟩ (.int .i32 1)) fun e w2 => e = .returned (.tuple #[]) ∧ R w2)
    (hR : ∀ w2, R w2 → w2.cell? ⟨b, 2, none⟩ = some (.int .u32 0) ∧ w2.cell? ⟨b, 3, none⟩ = some (.int .i32 1) ∧ w2.frozen? ⟨b, 2, none⟩ = false ∧ w2.frozen? ⟨b, 3, none⟩ = false) :
    Calls Try.prog 37 #[.pointer (some ⟨b, 2, none⟩), .func (.func 38) #[.pointer (some ⟨b, 0, none⟩)] #[]] w fun e w' => e = .returned (.tuple #[]) ∧
      ∃ w2, R w2 ∧ w' = (w2.drew.setCell ⟨b, 2, none⟩ (.int .u32 1)).setCell ⟨b, 3, none⟩ (.int .i32 0) := by
  have hl := run_call_load (P := Try.prog) Try.func50 (by kernel_rfl) (by kernel_rfl) (by kernel_rfl) .u32 (by kernel_rfl) h0
  have hnot : ∀ (x : Bool) (w : World), (Op.unary .not (.bool x)).run Try.prog w = .ok (.bool (!x)) w := fun _ _ => rfl
  have HS := Aside0.mk (slow_calls b w R h0 h1 f0 f1 hm hR)
  clear hm hR
  go_enter Try.func37, Try.ntmps37
  go_wp2_with (first | (go_at_call 46; refine HS.out.mono ?_; rintro e w' ⟨rfl, hw2⟩; have HW2 := Aside0.mk hw2; clear hw2) | (go_at_call 45; go_in))
  go_end0
  exact ⟨rfl, HW2.out⟩
theorem do_done (a : Addr) (d : Int) (hd : ¬ d = 0) (fv : Value) (w : World) (h0 : w.cell? a = some (.int .u32 d)) :
    Calls Try.prog 37 #[.pointer (some a), fv] w fun e w' => e = .returned (.tuple #[]) ∧ w' = w := by
  have hl := run_call_load (P := Try.prog) Try.func50 (by kernel_rfl) (by kernel_rfl) (by kernel_rfl) .u32 (by kernel_rfl) h0
  have hnot : ∀ (x : Bool) (w : World), (Op.unary .not (.bool x)).run Try.prog w = .ok (.bool (!x)) w := fun _ _ => rfl
  have hd' : (d != 0) = true := by simp [hd]
  go_enter Try.func37, Try.ntmps37
  go_wp2
  go_end0
  exact ⟨rfl, rfl⟩
/-- The counter. -/
theorem add_calls (a : Addr) (n : Int) (w : World) (hc : w.cell? a = some (.int .i64 n)) (hz : w.frozen? a = false) (s : Int) (hs : IntKind.i64.wrap (n + 1) = s) :
    Calls Try.prog 47 #[.pointer (some a), .int .i64 1] w fun e w' => e = .returned (.int .i64 s) ∧ w' = w.setCell a (.int .i64 s) := by
  have hadd := run_call_add (P := Try.prog) Try.func54 (by kernel_rfl) (by kernel_rfl) (by kernel_rfl) .i64 (by kernel_rfl) (y := 1) (s := s) hc hz (by simp [go_sem]; exact hs)
  go_enter Try.func47, Try.ntmps47
  go_wp2
  go_ret
  exact ⟨rfl, rfl⟩
theorem made_calls (b : Nat) (n : Int) (w : World) (hc : w.cell? ⟨b, 5, none⟩ = some (.int .i64 n)) :
    Calls Try.prog 16 #[.pointer (some ⟨b, 0, none⟩)] w fun e w' => e = .returned (.int .i64 n) ∧ w' = w := by
  have hl := run_call_load (P := Try.prog) Try.func44 (by kernel_rfl) (by kernel_rfl) (by kernel_rfl) .i64 (by kernel_rfl) hc
  go_enter Try.func16, Try.ntmps16
  go_wp2
  go_ret
  exact ⟨rfl, rfl⟩
end Go.Proofs.Ytmhmmmkpijbbiab.M
