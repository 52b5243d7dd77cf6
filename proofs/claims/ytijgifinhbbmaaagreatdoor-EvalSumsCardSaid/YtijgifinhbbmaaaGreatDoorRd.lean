/- An argument that is an expression: how it reads. -/
import Derived.Test.YtijgifinhbbmaaaGreatDoorPW
import Derived.Test.YtijgifinhbbmaaaGreatDoorRX
import Derived.Test.YtijgifinhbbmaaaGreatDoorXE
import Derived.ChangeArms
import Derived.Deep.Slices
import Derived.Carry
import Derived.Test.YtijgifinhbbmaaaGreatDoorCards
import Derived.Test.YtijgifinhbbmaaaGreatDoorTie
import Derived.WalkKit
import Derived.ProofKit
import Derived.OpenShut
import Derived.SizedLaws
import Derived.Deep.DeepHandedRow
import Derived.Lib.LaidTab
set_option linter.unusedVariables false
set_option linter.unusedSimpArgs false
namespace Go.Proofs.YtijgifinhbbmaaaGreatDoor
open Go.RowKit Go.Deep Go.Proofs.YtijgifinhbbmaaaGreatDoorW.PrintWords Go.Proofs.YtijgifinhbbmaaaGreatDoor.Q
instance : Inhabited Ex := ⟨z84⟩
theorem len3 {α : Type} {l : List α} (h : l.length = 3) : ∃ a b c, l = [a, b, c] := by
  match l, h with
  | [a, b, c], _ => exact ⟨a, b, c, rfl⟩
/-- Cells that hold an expression. -/
def CellsEx (W : World) (cs : List Value) (x : Ex) : Prop := ∃ A c, cs = [.int .i64 x.f0, .string x.f1, .slice A x.f2.length c] ∧ x.f2.length ≤ c ∧ kEx.C W A x.f2.length x.f2 ∧ WS x
theorem mem_weightsAll {H : Type} {P : Program} {e : TypeId} : ∀ {l : List (DataW H)} {d : DataW H}, d ∈ l → ∀ k ∈ d.weights P e, k ∈ DataW.weightsAll P e l
  | x :: r, d, hd, k, hk => by
    rcases List.mem_cons.1 hd with rfl | hd
    · simp [DataW.weightsAll, hk]
    · simp [DataW.weightsAll, mem_weightsAll hd k hk]
set_option maxRecDepth 100000 in
theorem read_ex {H : Type} {enc : TypeId × Value → H} {W : World} {base : Nat} {spare : Nat → Bool} {held : Bool} :
    ∀ (n : Nat) (cs : List Value) (y : DataW H × List MemPlace), DataW.trod enc Tryz.prog W base spare held n 84 cs = some y → (∀ k ∈ y.1.weights Tryz.prog 84, k ≤ reachBytes) → ∃ x, CellsEx W cs x := by
  intro n
  induction n using Nat.strongRecOn with
  | _ n ih =>
  intro cs y h hw
  obtain ⟨xs, m, rfl, rfl, hl, hxl, hf⟩ := DataW.trod_struct Tryz.underlying84 h
  have hcl : cs.length = 3 := hl.trans (by kernel_rfl)
  obtain ⟨c0, c1, c2, rfl⟩ := len3 hcl
  clear hcl hl
  have hx3 : xs.length = 3 := hxl.trans rfl
  obtain ⟨y0, y1, y2, rfl⟩ := len3 hx3
  clear hx3 hxl
  have h0 : DataW.trod enc Tryz.prog W base spare held m 3 [c0] = some y0 := hf 0 _ rfl
  have h1 : DataW.trod enc Tryz.prog W base spare held m 9 [c1] = some y1 := hf 1 _ rfl
  have h2 : DataW.trod enc Tryz.prog W base spare held m 82 [c2] = some y2 := hf 2 _ rfl
  clear hf
  obtain ⟨kd, e0, rfl, _⟩ := DataW.trod_int Tryz.underlying3 h0
  obtain ⟨s, e1, rfl, _⟩ := DataW.trod_string Tryz.underlying9 h1
  simp only [List.cons.injEq, and_true] at e0 e1
  subst e0 e1
  clear h0 h1
  have hws : s.data.toList.length ≤ reachBytes := hw _ (by simp only [DataW.weights, Tryz.underlying84, DataW.weightsEach, List.map_cons, List.map_nil, List.nil_append, List.cons_append, List.mem_cons, true_or])
  have hws2 : s.size ≤ 140737488351232 := hws
  clear hws
  have hw2 : ∀ k ∈ y2.1.weights Tryz.prog 82, k ≤ reachBytes := fun k hk => hw k (by simp only [DataW.weights, Tryz.underlying84, DataW.weightsEach, List.map_cons, List.map_nil, List.nil_append, List.cons_append, List.mem_cons, List.append_nil, hk, or_true])
  clear hw
  rcases DataW.trod_slice Tryz.underlying82 h2 with ⟨e, he⟩ | ⟨a, len, cap, elems, rest, n', rfl, e, rfl, hb, hl, hm, hlen, hel, _, _⟩
  · simp only [List.cons.injEq, and_true] at e
    subst e
    exact ⟨⟨kd, s, []⟩, none, 0, rfl, Nat.le_refl _, C_nil _ _, .mk _ _ _ (by omega) (by decide) (by simp)⟩
  · simp only [List.cons.injEq, and_true] at e
    subst e
    have hw3 : (elems.length + rest.length) * Tryz.prog.bytesOf 84 ≤ reachBytes := hw2 _ (by simp only [DataW.weights, Tryz.underlying82, List.length_map, List.mem_cons, true_or])
    have hw4 : ∀ z ∈ elems, ∀ k ∈ z.1.weights Tryz.prog 84, k ≤ reachBytes := fun z hz k hk => hw2 k (by
      have := mem_weightsAll (P := Tryz.prog) (e := 84) (List.mem_map_of_mem (f := (·.1)) hz) k hk
      simp only [DataW.weights, Tryz.underlying82, List.mem_cons, List.mem_append]
      exact .inr (.inl this))
    have hsz : Tryz.prog.cellsOf 84 = 3 := by kernel_rfl
    have hbs : Tryz.prog.bytesOf 84 = 48 := by kernel_rfl
    rw [hsz] at hel
    rw [hbs] at hw3
    have hone : ∀ i, i < len → ∃ x : Ex, ∃ A c, x.f2.length ≤ c ∧ kEx.C W A x.f2.length x.f2 ∧ WS x ∧ ∀ j u, [Value.int .i64 x.f0, .string x.f1, .slice A x.f2.length c][j]? = some u → W.cell? (a.add (i * 3 + j)) = some u := by
      intro i hi
      have h3 := hel i hi
      rw [List.getElem?_eq_getElem (show i < elems.length by omega)] at h3
      obtain ⟨cs', h4, h5⟩ := Option.bind_eq_some_iff.1 h3
      obtain ⟨_, h6, h7⟩ := World.cells?_some h4
      obtain ⟨x, A, c, rfl, h8, h9, h10⟩ := ih n' (by omega) cs' _ h5 (hw4 _ (List.getElem_mem _))
      refine ⟨x, A, c, h8, h9, h10, fun j u hj => ?_⟩
      have hj3 : j < 3 := (List.getElem?_eq_some_iff.1 hj).1
      rw [← Deep.add_add, h7 j hj3]; exact hj
    obtain ⟨X, hX⟩ := choose_lt hone
    have hlx : ((List.range len).map X).length = len := by simp
    refine ⟨⟨kd, s, (List.range len).map X⟩, some a, cap, by simp, by simpa using hl, ⟨rfl, ?_, fun _ => ⟨a, rfl, fun j q hq => ?_⟩⟩, .mk _ _ _ ?_ ?_ ?_⟩
    · simp only [hlx]; have : maxLen = 9223372036854775807 := rfl; omega
    · have hj : j < len := by have := (List.getElem?_eq_some_iff.1 hq).1; simpa using this
      have hq2 : X j = q := by simpa [hj] using hq
      subst hq2
      obtain ⟨A, c, k1, k2, k3, k4⟩ := hX j hj
      exact ⟨_, rfl, k84_mk W (X j) k1 k2, fun i u hi => k4 i u hi⟩
    · omega
    · rw [hlx]; have h9 : (elems.length + rest.length) * 48 ≤ 140737488351232 := hw3; omega
    · intro z hz
      obtain ⟨j, hj, rfl⟩ := List.mem_map.1 hz
      obtain ⟨A, c, k1, k2, k3, k4⟩ := hX j (List.mem_range.1 hj)
      exact k3
end Go.Proofs.YtijgifinhbbmaaaGreatDoor
namespace Go.Proofs.YtijgifinhbbmaaaGreatDoor
open Go.ChangeShapes Go.WideShapes Go.ChangeAt Go.RowKit
theorem laidOut : laidOutB Tryz.prog = true := by kernel_rfl
theorem cell_lt {w : World} {b i : Nat} {v : Value} (h : w.cell? ⟨b, i, none⟩ = some v) : b < w.heap.size := by
  cases hh : w.heap[b]? with
  | none => simp [World.cell?, hh] at h
  | some o => exact (Array.getElem?_eq_some_iff.1 hh).1
theorem has5 {W : World} (h : W.ShapedOpen Tryz.prog) : Has5 W := by
  obtain ⟨m, hm⟩ := Tryz.laysM146.s1_3 W h
  exact ⟨cell_lt hm, m, hm⟩
set_option maxRecDepth 100000 in
theorem arg_ex {H : Type} {enc : TypeId × Value → H} {W : World} {base : Nat} {v : Value} {d : DataW H} {p : List MemPlace} (hval : Value.okWide Tryz.prog W .any base 84 v) (h : DataW.Trod enc Tryz.prog W 0 (fun _ => true) true 84 v d p)
    (hw : ∀ k ∈ d.weights Tryz.prog 84, k ≤ reachBytes) : ∃ (x : Ex) (A : Option Addr) (c : Nat), v = .agg #[.int .i64 x.f0, .string x.f1, .slice A x.f2.length c] ∧ x.f2.length ≤ c ∧ kEx.C W A x.f2.length x.f2 ∧ WS x := by
  obtain ⟨cs, rfl, hcs⟩ := okWide_struct Tryz.underlying84 hval
  obtain ⟨n, hn⟩ := h
  obtain ⟨x, A, c, e, h1, h2, h3⟩ := read_ex n cs.toList (d, p) hn hw
  refine ⟨x, A, c, ?_, h1, h2, h3⟩
  have e2 : cs.toList = [.int .i64 x.f0, .string x.f1, .slice A x.f2.length c] := e
  rw [← e2]
end Go.Proofs.YtijgifinhbbmaaaGreatDoor
