/- Arguments that are texts, slices of expressions, four expressions: how they read. -/
import Derived.Test.YtijgifinhbbmaaaGreatDoorRd
import Derived.ChangeMaps5
set_option linter.unusedVariables false
set_option linter.unusedSimpArgs false
namespace Go.Proofs.YtijgifinhbbmaaaGreatDoor
open Go.RowKit Go.Deep Go.ChangeShapes Go.WideShapes Go.ChangeAt Go.ChangeMaps Go.Proofs.YtijgifinhbbmaaaGreatDoorW.PrintWords Go.Proofs.YtijgifinhbbmaaaGreatDoor.Q
set_option maxRecDepth 100000 in
theorem arg_str {H : Type} {enc : TypeId × Value → H} {W : World} {base : Nat} {v : Value} {d : DataW H} {p : List MemPlace} (hval : Value.okWide Tryz.prog W .any base 9 v) (h : DataW.Trod enc Tryz.prog W 0 (fun _ => true) true 9 v d p)
    (hw : ∀ k ∈ d.weights Tryz.prog 9, k ≤ reachBytes) : ∃ s : ByteArray, v = .string s ∧ s.size ≤ 140737488351232 := by
  obtain ⟨s, rfl, rfl, rfl, _⟩ := open_string Tryz.underlying9 hval h
  exact ⟨s, rfl, hw s.data.toList.length (by simp [DataW.weights])⟩
set_option maxRecDepth 100000 in
theorem arg_exs {H : Type} {enc : TypeId × Value → H} {W : World} {base : Nat} {v : Value} {d : DataW H} {p : List MemPlace} (hval : Value.okWide Tryz.prog W .any base 82 v) (h : DataW.Trod enc Tryz.prog W 0 (fun _ => true) true 82 v d p)
    (hw : ∀ k ∈ d.weights Tryz.prog 82, k ≤ reachBytes) : ∃ (l : List Ex) (A : Option Addr) (c : Nat), v = .slice A l.length c ∧ l.length ≤ c ∧ kEx.C W A l.length l ∧ (∀ z ∈ l, WS z) ∧ l.length ≤ 140737488351232 := by
  obtain ⟨a, len, cap, rfl⟩ := okWide_slice Tryz.underlying82 hval
  obtain ⟨n, hn⟩ := h
  rcases DataW.trod_slice Tryz.underlying82 hn with ⟨e, he⟩ | ⟨a', len', cap', elems, rest, n', rfl, e, hd, hb, hl, hm, hlen, hel, _, _⟩
  · simp only [Value.cells, List.cons.injEq, and_true] at e
    cases e
    exact ⟨[], none, 0, rfl, Nat.le_refl _, C_nil _ _, by simp, by decide⟩
  · simp only [Value.cells, List.cons.injEq, and_true] at e
    cases e
    obtain ⟨rfl, _⟩ := Prod.mk.inj hd
    have hw3 : (elems.length + rest.length) * Tryz.prog.bytesOf 84 ≤ reachBytes := hw _ (by simp only [DataW.weights, Tryz.underlying82, List.length_map, List.mem_cons, true_or])
    have hw4 : ∀ z ∈ elems, ∀ k ∈ z.1.weights Tryz.prog 84, k ≤ reachBytes := fun z hz k hk => hw k (by
      have := mem_weightsAll (P := Tryz.prog) (e := 84) (List.mem_map_of_mem (f := (·.1)) hz) k hk
      simp only [DataW.weights, Tryz.underlying82, List.mem_cons, List.mem_append]
      exact .inr (.inl this))
    have hsz : Tryz.prog.cellsOf 84 = 3 := by kernel_rfl
    have hbs : Tryz.prog.bytesOf 84 = 48 := by kernel_rfl
    rw [hsz] at hel
    rw [hbs] at hw3
    have hone : ∀ i, i < len → ∃ x : Ex, ∃ A c, x.f2.length ≤ c ∧ kEx.C W A x.f2.length x.f2 ∧ WS x ∧ ∀ j u, [Value.int .i64 x.f0, .string x.f1, .slice A x.f2.length c][j]? = some u → W.cell? (a'.add (i * 3 + j)) = some u := by
      intro i hi
      have h3 := hel i hi
      rw [List.getElem?_eq_getElem (show i < elems.length by omega)] at h3
      obtain ⟨cs', h4, h5⟩ := Option.bind_eq_some_iff.1 h3
      obtain ⟨_, h6, h7⟩ := World.cells?_some h4
      obtain ⟨x, A, c, rfl, h8, h9, h10⟩ := read_ex n' cs' _ h5 (hw4 _ (List.getElem_mem _))
      refine ⟨x, A, c, h8, h9, h10, fun j u hj => ?_⟩
      have hj3 : j < 3 := (List.getElem?_eq_some_iff.1 hj).1
      rw [← Deep.add_add, h7 j hj3]; exact hj
    obtain ⟨X, hX⟩ := choose_lt hone
    have hlx : ((List.range len).map X).length = len := by simp
    have h9 : (elems.length + rest.length) * 48 ≤ 140737488351232 := hw3
    refine ⟨(List.range len).map X, some a', cap, by rw [hlx], by rw [hlx]; exact hl, ⟨rfl, ?_, fun _ => ⟨a', rfl, fun j q hq => ?_⟩⟩, ?_, by rw [hlx]; omega⟩
    · rw [hlx]; have : maxLen = 9223372036854775807 := rfl; omega
    · have hj : j < len := by have := (List.getElem?_eq_some_iff.1 hq).1; simpa using this
      have hq2 : X j = q := by simpa [hj] using hq
      subst hq2
      obtain ⟨A, c, k1, k2, k3, k4⟩ := hX j hj
      exact ⟨_, rfl, k84_mk W (X j) k1 k2, fun i u hi => k4 i u hi⟩
    · intro z hz
      obtain ⟨j, hj, rfl⟩ := List.mem_map.1 hz
      obtain ⟨A, c, k1, k2, k3, k4⟩ := hX j (List.mem_range.1 hj)
      exact k3
theorem okWide_array {P : Program} {w : World} {r : Reach} {b : Nat} {t e : TypeId} {n : Nat} {v : Value} (ht : P.underlying t = some (.array n e)) (h : Value.okWide P w r b t v) : ∃ cs : Array Value, v = .agg cs ∧ cs.size = P.cellsOf t := by
  simp only [Value.okWide, ht] at h
  obtain ⟨cs, h1, h2, _⟩ := h
  exact ⟨cs, h1, h2⟩
theorem len12 {α : Type} {l : List α} (h : l.length = 12) : ∃ a b c d e f g i j k m n, l = [a, b, c, d, e, f, g, i, j, k, m, n] := by
  match l, h with
  | [a, b, c, d, e, f, g, i, j, k, m, n], _ => exact ⟨a, b, c, d, e, f, g, i, j, k, m, n, rfl⟩
set_option maxRecDepth 100000 in
theorem arg_ex4 {H : Type} {enc : TypeId × Value → H} {W : World} {base : Nat} {v : Value} {d : DataW H} {p : List MemPlace} (hval : Value.okWide Tryz.prog W .any base 107 v) (h : DataW.Trod enc Tryz.prog W 0 (fun _ => true) true 107 v d p)
    (hw : ∀ k ∈ d.weights Tryz.prog 107, k ≤ reachBytes) : ∃ (x0 x1 x2 x3 : Ex) (A0 A1 A2 A3 : Option Addr) (c0 c1 c2 c3 : Nat),
      v = .agg #[.int .i64 x0.f0, .string x0.f1, .slice A0 x0.f2.length c0, .int .i64 x1.f0, .string x1.f1, .slice A1 x1.f2.length c1, .int .i64 x2.f0, .string x2.f1, .slice A2 x2.f2.length c2, .int .i64 x3.f0, .string x3.f1, .slice A3 x3.f2.length c3] ∧
      (x0.f2.length ≤ c0 ∧ kEx.C W A0 x0.f2.length x0.f2 ∧ WS x0) ∧ (x1.f2.length ≤ c1 ∧ kEx.C W A1 x1.f2.length x1.f2 ∧ WS x1) ∧ (x2.f2.length ≤ c2 ∧ kEx.C W A2 x2.f2.length x2.f2 ∧ WS x2) ∧ (x3.f2.length ≤ c3 ∧ kEx.C W A3 x3.f2.length x3.f2 ∧ WS x3) := by
  obtain ⟨cs, rfl, hcs⟩ := okWide_array Tryz.underlying107 hval
  obtain ⟨n, hn⟩ := h
  have h12 : Tryz.prog.cellsOf 107 = 12 := by kernel_rfl
  have hsz : Tryz.prog.cellsOf 84 = 3 := by kernel_rfl
  obtain ⟨xs, m, rfl, hd, hl, hxl, hf⟩ := DataW.trod_array Tryz.underlying107 hn
  obtain ⟨rfl, _⟩ := Prod.mk.inj hd
  have hcl : cs.toList.length = 12 := by rw [Array.length_toList, hcs, h12]
  obtain ⟨a0, a1, a2, a3, a4, a5, a6, a7, a8, a9, a10, a11, hcl2⟩ := len12 hcl
  have hcv : (Value.cells (.agg cs)).toList = [a0, a1, a2, a3, a4, a5, a6, a7, a8, a9, a10, a11] := hcl2
  rw [hcv, hsz] at hf
  have hx4 : xs.length = 4 := hxl
  have hw4 : ∀ z ∈ xs, ∀ k ∈ z.1.weights Tryz.prog 84, k ≤ reachBytes := fun z hz k hk => hw k (by
    have := mem_weightsAll (P := Tryz.prog) (e := 84) (List.mem_map_of_mem (f := (·.1)) hz) k hk
    simp only [DataW.weights, Tryz.underlying107]
    exact this)
  have g := fun i (hi : i < 4) => (hf i hi).trans (List.getElem?_eq_getElem (show i < xs.length by omega))
  obtain ⟨x0, A0, c0, e0, h0⟩ := read_ex m _ _ (g 0 (by decide)) (hw4 _ (List.getElem_mem _))
  obtain ⟨x1, A1, c1, e1, h1⟩ := read_ex m _ _ (g 1 (by decide)) (hw4 _ (List.getElem_mem _))
  obtain ⟨x2, A2, c2, e2, h2⟩ := read_ex m _ _ (g 2 (by decide)) (hw4 _ (List.getElem_mem _))
  obtain ⟨x3, A3, c3, e3, h3⟩ := read_ex m _ _ (g 3 (by decide)) (hw4 _ (List.getElem_mem _))
  simp only [List.drop, List.take, Nat.zero_mul, Nat.one_mul, Nat.reduceMul, List.drop_zero, List.drop_succ_cons, List.take_succ_cons, List.take_zero, List.cons.injEq, and_true] at e0 e1 e2 e3
  obtain ⟨rfl, rfl, rfl⟩ := e0
  obtain ⟨rfl, rfl, rfl⟩ := e1
  obtain ⟨rfl, rfl, rfl⟩ := e2
  obtain ⟨rfl, rfl, rfl⟩ := e3
  refine ⟨x0, x1, x2, x3, A0, A1, A2, A3, c0, c1, c2, c3, ?_, h0, h1, h2, h3⟩
  rw [← hcl2]
end Go.Proofs.YtijgifinhbbmaaaGreatDoor
