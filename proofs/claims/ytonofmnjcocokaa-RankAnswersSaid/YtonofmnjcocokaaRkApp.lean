/- rank: rows of entries, copied and joined. -/
import Derived.Test.YtonofmnjcocokaaRkFewM
namespace Go.Proofs.Ytonofmnjcocokaa.Rk
open Go.RowKit Go.Proofs.YtonofmnjcocokaaW.PrintWords Go.Proofs.YtonofmnjcocokaaW.PrintLast Go.Proofs.YtonofmnjcocokaaW.PrintMore Go.Proofs.Ytonofmnjcocokaa.X Go.Proofs.Ytonofmnjcocokaa.M Go.Proofs.Ytonofmnjcocokaa.Bv Go.Proofs.Ytonofmnjcocokaa.PuLib Go.Proofs.Ytonofmnjcocokaa.PuMix
set_option linter.unusedVariables false
set_option linter.unusedSimpArgs false
theorem rowK {k : IntKind} {t : Nat} {w : World} {A : Option Addr} {c u p : Nat} {l : List Int} (hp : p = l.length) (h : Kd.C (Kd.int k) w A p l) (hc : p ≤ c) : Kd.C (Kd.slice t (Kd.int k)) (w.alloc (.cells #[.slice A p c] u)) (some ⟨w.heap.size, 0, none⟩) 1 [l] := by
  subst hp
  exact one_row h hc
theorem at_E2 {w : World} {ad : Addr} {p : Nat} {l : List S25} (h : Kd.C k25 w (some ad) p l) (hp : p = l.length) {i : Nat} (hi : i < p) {x : S25} (hx : l[i]'(hp ▸ hi) = x) : w.cell? (ad.add (i * 2)) = some (.int .i64 x.f0) ∧ w.cell? ⟨(ad.add (i * 2)).block, (ad.add (i * 2)).off + 1, none⟩ = some (.int .i64 x.f1) := by
  subst hp
  obtain ⟨ad2, e, h0, h1⟩ := at_T25 h (i : Int) (by omega) (by omega)
  obtain rfl := Option.some.inj e
  have hr : rd_T25 l (i : Int) = x := by
    unfold rd_T25
    rw [Int.toNat_natCast, List.getD_eq_getElem?_getD, List.getElem?_eq_getElem hi, ← hx]
    rfl
  rw [hr, Int.toNat_natCast] at h0 h1
  exact ⟨h0, h1⟩
theorem cutsE {w : World} {ad : Addr} {p d : Nat} {l : List S25} (hp : p = l.length) {i : Nat} (hi : i < p) (h : Kd.C k25 w (some ad) p l) (hd : p ≤ d) : ∀ W, Below w.heap.size w W → Kd.C k25 W (some ad) i (l.take i) ∧ Kd.C k25 W (if d = i + 1 then some ad else (some ad).map (·.add ((i + 1) * 2))) (p - (i + 1)) (l.drop (i + 1)) := by
  subst hp
  intro W hb
  have h1 := Kd.C_below h hb
  have h2 := Kd.C_take (m := i) h1 (by omega)
  have h3 := Kd.C_drop (m := i + 1) (c := d) h1 (by omega) hd
  rw [List.length_take, Nat.min_eq_left (by omega)] at h2
  rw [List.length_drop] at h3
  exact ⟨h2, h3⟩
theorem infoEb : (Try.prog.info? 25).map (fun i => (i.zero, i.size, i.bytes)) = some (some (.agg #[.int .i64 0, .int .i64 0]), 2, 16) := infoE
theorem R_emptyE (W : World) (base : Nat) (hb : base ≤ W.heap.size) : Kd.R k25 25 (W.alloc (.cells #[] 25)) base (fun _ => True) (.slice (some ⟨W.heap.size, 0, none⟩) 0 0) [] :=
  ⟨fun _ _ => trivial, [], ⟨rfl, .inr ⟨W.heap.size, 0, #[], rfl, hb, blk_new W _, Nat.le_refl 0, by decide, rfl, rfl⟩⟩, Reps.none _ _⟩
section
variable {ops : Array Oper} {rest : List Oper} {o : Oper} {a : Act} {Q : Exit → Act → World → Prop} {W : World}
/-- Entries are appended to a row of one's own. -/
theorem app_E {w0 : World} (base : Nat) (hgd : o.guard = none) (s x : Operand)
    (ho : o.op = .call { callee := .builtin .append, args := #[s, x], argTypes := #[26, 26] })
    (v : Value) (xs ys : List S25) (A : Option Addr) (m c : Nat) (hs : a.eval s = v) (hx : a.eval x = .slice A m c)
    (HO : Kd.R k25 25 W base (fun _ => True) v xs) (HR : Kd.C k25 W A m ys)
    (HB : Below base w0 W) (hbase : base ≤ W.heap.size) (hl : xs.length + m ≤ 100000)
    (h : ∀ A1 n1 c1 w1, n1 = (xs ++ ys).length → Kd.R k25 25 w1 base (fun _ => True) (.slice A1 n1 c1) (xs ++ ys) → Below base w0 w1 → wpList Try.prog ops Q rest (a.put o.dst (.slice A1 n1 c1)) w1) :
    wpList Try.prog ops Q (o :: rest) a W := by
  refine Kd.R_append_rows k25 (w0 := w0) base hgd s x 26 25 (.agg #[.int .i64 0, .int .i64 0]) 16 ho Try.underlying26 infoE rfl (by decide) (by omega) v xs ys A m c (fun _ => True) (fun _ => False) hs hx HO HR (fun x cs hk => by rw [k25_open hk]; exact k25_mkM _ _ _ x) (fun _ h => h.elim) (fun _ _ => trivial) HB hbase (by omega) ?_
  intro v1 w1 hR hB _ _
  obtain ⟨A1, c1, rfl⟩ := Kd.R_slice hR
  exact h A1 _ c1 w1 rfl hR hB
/-- An entry's weight is written. -/
theorem store_W {w0 : World} (base : Nat) (hN : o.dst = none) (hgd : o.guard = none) (pp xx : Operand) (ho : o.op = .store 3 pp xx) {g n cap : Nat} (i : Nat) (xs : List S25) (hi : i < xs.length) (x0 : S25) (hx0 : xs[i] = x0) (wt : Int)
    (haddr : a.eval pp = .pointer (some ⟨g, i * 2 + 1, none⟩)) (hx : a.eval xx = .int .i64 wt)
    (HO : Kd.R k25 25 W base (fun _ => True) (.slice (some ⟨g, 0, none⟩) n cap) xs) (HB : Below base w0 W)
    (h : ∀ w1, Kd.R k25 25 w1 base (fun _ => True) (.slice (some ⟨g, 0, none⟩) n cap) (xs.set i ⟨x0.f0, wt⟩) → Below base w0 w1 → wpList Try.prog ops Q rest a w1) :
    wpList Try.prog ops Q (o :: rest) a W := by
  have hr := Kd.R_reads' HO
  have hc := at_E2 hr.2.2 rfl hi hx0
  have hg0 : (⟨g, 0, none⟩ : Addr).add (i * 2) = ⟨g, i * 2, none⟩ := by rw [Addr.add_mid, Nat.zero_add]
  rw [hg0] at hc
  refine Kd.R_store k25 (w0 := w0) base hN hgd 3 pp xx ho 25 (i : Int) 1 xs ⟨x0.f0, wt⟩ (.int .i64 wt) [.int .i64 wt] [.int .i64 x0.f0, .int .i64 x0.f1] (fun _ => True) (fun _ => False) haddr rfl hx rfl (by kernel_rfl) (fun q hq => by rw [List.mem_singleton.1 hq]; rfl) HO (by omega) (by rw [hr.1]; omega) rfl (fun j u hj => ?_) (Nat.le_refl 2) (k25_mkM _ _ _ ⟨x0.f0, wt⟩) (fun _ h => h.elim) HB (fun w1 h1 h2 _ => by rw [Int.toNat_natCast] at h1; exact h w1 h1 h2)
  obtain ⟨hjl, hv⟩ := List.getElem?_eq_some_iff.1 hj
  have hj2 : j = 0 ∨ j = 1 := by simp at hjl; omega
  rcases hj2 with rfl | rfl
  · rw [← hv]; exact hc.1
  · rw [← hv]; exact hc.2
end
end Go.Proofs.Ytonofmnjcocokaa.Rk
