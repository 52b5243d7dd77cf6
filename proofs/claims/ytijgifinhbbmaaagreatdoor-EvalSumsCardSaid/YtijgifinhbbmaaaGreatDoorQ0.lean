-- Written by wip/xprint.py: the machine's side of a function, by program.
import Derived.Test.YtijgifinhbbmaaaGreatDoorProg
import Derived.Below
import Derived.Deep.Draws
import Derived.Deep.AppendLies
import Derived.Maps.AppendAt
import Derived.OwnWalk
import Derived.Laws.BytesArg
import Derived.Laws.MakeOwn
import Derived.Laws.OwnMore
import Derived.Deep.OwnRows
import Derived.Tactics
import Derived.Lib.ConvBytes
import Derived.Laws.Slices
import Derived.WalkKit
import Derived.KernelRfl
import Derived.RowKit3
import Derived.Deep.LoopGhost
import Derived.Deep.QuietTactic
import Derived.BigQuiet
import Derived.WideLaws
import Derived.Deep.DeepCutAuto
import Derived.Deep.CutBlock
import Derived.Deep.RegionHeld3
import Derived.Laws.Rows
import Derived.Lib.AppendStr
import Derived.ArgAppend
import Derived.Laws.IdiomCopy
import Derived.OrdersHeld
import Derived.Laws.BitsLemmas
import Derived.RowKit
import Derived.Test.YtijgifinhbbmaaaGreatDoorWWords
import Derived.Test.YtijgifinhbbmaaaGreatDoorWLast
import Derived.Test.YtijgifinhbbmaaaGreatDoorWTab
import Derived.Test.YtijgifinhbbmaaaGreatDoorWFour
import Derived.Test.YtijgifinhbbmaaaGreatDoorWQPut
import Derived.Test.YtijgifinhbbmaaaGreatDoorWApart
import Derived.Test.YtijgifinhbbmaaaGreatDoorWArr
import Derived.Test.YtijgifinhbbmaaaGreatDoorWZeros
import Derived.Test.YtijgifinhbbmaaaGreatDoorWFoot
import Derived.Test.YtijgifinhbbmaaaGreatDoorWKept
import Derived.Test.YtijgifinhbbmaaaGreatDoorWShare
import Derived.Test.YtijgifinhbbmaaaGreatDoorWN
import Derived.Test.YtijgifinhbbmaaaGreatDoorWFootNe
import Derived.Test.YtijgifinhbbmaaaGreatDoorWAt
import Derived.Test.YtijgifinhbbmaaaGreatDoorWEqStruct
import Derived.Test.YtijgifinhbbmaaaGreatDoorWRepsOne
import Derived.Test.YtijgifinhbbmaaaGreatDoorWInv
import Derived.Test.YtijgifinhbbmaaaGreatDoorWInvWords
import Derived.Test.YtijgifinhbbmaaaGreatDoorWGuard
import Derived.Test.YtijgifinhbbmaaaGreatDoorWNEv
import Derived.Test.YtijgifinhbbmaaaGreatDoorWMore
namespace Go.Proofs.YtijgifinhbbmaaaGreatDoor.Q
open Go.RowKit Go.Proofs.YtijgifinhbbmaaaGreatDoorW.PrintWords Go.Proofs.YtijgifinhbbmaaaGreatDoorW.PrintLast Go.Proofs.YtijgifinhbbmaaaGreatDoorW.PrintMore
attribute [local go_sem] max2_int min2_int max_two min_two max_three min_three max_four min_four   -- for this text's walks alone
set_option linter.unusedVariables false
set_option linter.unusedSimpArgs false



def errW : Option Int → Value
  | none => .nilIface
  | some c => .iface 299 (.int .i64 c)
theorem errW_none : errW none = .nilIface := rfl
theorem errW_some (c : Int) : errW (some c) = .iface 299 (.int .i64 c) := rfl

theorem info3 : (Tryz.prog.info? 3).map (fun i => (i.zero, i.size, i.bytes)) = some (some (.int .i64 0), 1, 8) := by kernel_rfl
theorem info9 : (Tryz.prog.info? 9).map (fun i => (i.zero, i.size, i.bytes)) = some (some (.string ⟨#[]⟩), 1, 16) := by kernel_rfl
theorem info26 : (Tryz.prog.info? 26).map (fun i => (i.zero, i.size, i.bytes)) = some (some (.agg #[(.int .i64 0), (.int .i64 0)]), 2, 16) := by kernel_rfl
theorem info84 : (Tryz.prog.info? 84).map (fun i => (i.zero, i.size, i.bytes)) = some (some (.agg #[(.int .i64 0), (.string ⟨#[]⟩), (.slice none 0 0)]), 3, 48) := by kernel_rfl
theorem info95 : (Tryz.prog.info? 95).map (fun i => (i.zero, i.size, i.bytes)) = some (some (.agg #[(.string ⟨#[]⟩), (.slice none 0 0)]), 2, 40) := by kernel_rfl
theorem info219 : (Tryz.prog.info? 219).map (fun i => (i.zero, i.size, i.bytes)) = some (some (.agg #[(.string ⟨#[]⟩), (.string ⟨#[]⟩)]), 2, 32) := by kernel_rfl
-- the values' own types
/-! #### struct type 84, nested in itself -/
structure S84 where
  f0 : Int
  f1 : ByteArray
  f2 : (List S84)
def z84 : S84 := ⟨(0 : Int), (⟨#[]⟩ : ByteArray), ([] : List S84)⟩
def F84 (d : Kd S84) : Kd S84 := Kd.iso (Kd.pair (Kd.int .i64) (Kd.pair Kd.string (Kd.slice 84 d))) (fun x : S84 => (x.f0, x.f1, x.f2))
theorem mono84 : Kd.Mono F84 := Kd.mono_iso _ (Kd.mono_pair (Kd.mono_const _) (Kd.mono_pair (Kd.mono_const _) (Kd.mono_slice 84 Kd.mono_id)))
theorem sub84 : Kd.Sub F84 [84] := Kd.sub_iso _ (Kd.sub_pair (Kd.sub_const _ (by decide)) (Kd.sub_pair (Kd.sub_const _ (by decide)) (Kd.sub_slice 84 (by decide) Kd.sub_id)))
theorem sz84 : ∀ n, (Kd.upto F84 3 [84] n).sz = 3 := Kd.upto_sz (fun _ => rfl)
def k84 : Kd S84 := Kd.fix F84 3 [84] sz84 (Kd.upto_E sub84)
theorem k84_open {w : World} {x : S84} {cs : List Value} (h : k84.K w x cs) : ∃ A2 c2, cs = [.int .i64 x.f0, .string x.f1, .slice A2 x.f2.length c2] ∧ x.f2.length ≤ c2 ∧ k84.C w A2 x.f2.length x.f2 := by
  obtain ⟨n, h⟩ := h
  cases n with
  | zero => exact h.elim
  | succ n =>
    obtain ⟨_, _, rfl, rfl, ⟨_, _, rfl, rfl, ⟨A2, c2, rfl, l2, g2⟩⟩⟩ := h
    exact ⟨A2, c2, rfl, l2, Kd.fix_C g2⟩
theorem k84_openM {w : World} {base : Nat} {ok : Nat → Prop} {x : S84} {cs : List Value} (h : k84.M w base ok x cs) : ∃ v2, cs = [.int .i64 x.f0, .string x.f1, v2] ∧ k84.R 84 w base ok v2 x.f2 := by
  obtain ⟨n, h⟩ := h
  cases n with
  | zero => exact h.elim
  | succ n =>
    obtain ⟨_, _, rfl, rfl, ⟨_, _, rfl, rfl, ⟨v2, rfl, g2⟩⟩⟩ := h
    exact ⟨v2, rfl, Kd.fix_R g2⟩
theorem k84_mk (w : World) (x : S84) {A2 : Option Addr} {c2 : Nat} (l2 : x.f2.length ≤ c2) (g2 : k84.C w A2 x.f2.length x.f2) : k84.K w x [.int .i64 x.f0, .string x.f1, .slice A2 x.f2.length c2] := by
  obtain ⟨n2, q2⟩ := Kd.fix_C_back mono84 g2
  have r2 := Kd.upto_C_le mono84 sz84 (show n2 ≤ n2 by omega) q2
  exact ⟨n2 + 1, ⟨[.int .i64 x.f0], [.string x.f1, .slice A2 x.f2.length c2], rfl, rfl, ⟨[.string x.f1], [.slice A2 x.f2.length c2], rfl, rfl, ⟨A2, c2, rfl, l2, r2⟩⟩⟩⟩
theorem k84_mkM (w : World) (base : Nat) (ok : Nat → Prop) (x : S84) {v2 : Value} (g2 : k84.R 84 w base ok v2 x.f2) : k84.M w base ok x [.int .i64 x.f0, .string x.f1, v2] := by
  obtain ⟨n2, q2⟩ := Kd.fix_R_back mono84 g2
  have r2 := Kd.upto_R_le mono84 sz84 (show n2 ≤ n2 by omega) q2
  exact ⟨n2 + 1, ⟨[.int .i64 x.f0], [.string x.f1, v2], rfl, rfl, ⟨[.string x.f1], [v2], rfl, rfl, ⟨v2, rfl, r2⟩⟩⟩⟩
theorem k84_openF {W : World} {ok : Nat → Prop} {x : S84} {cs : List Value} (h : Kd.FK k84 W ok x cs) : ∃ A2 c2, cs = [.int .i64 x.f0, .string x.f1, .slice A2 x.f2.length c2] ∧ x.f2.length ≤ c2 ∧ Kd.F k84 W ok A2 x.f2.length x.f2 := by
  obtain ⟨A2, c2, rfl, l2, _⟩ := k84_open (Kd.FK_now h)
  exact ⟨A2, c2, rfl, l2, (fun W' hW => by obtain ⟨A2_, c2_, he, l2_, g2_⟩ := k84_open (h W' hW); injection (Option.some.inj (show some (Value.slice A2 x.f2.length c2) = some (Value.slice A2_ x.f2.length c2_) from congrArg (fun l => l[2]?) he)) with ha_ _ _; rw [ha_]; exact g2_)⟩
theorem k84_mkF (W : World) (ok : Nat → Prop) (x : S84) {A2 : Option Addr} {c2 : Nat} (l2 : x.f2.length ≤ c2) (g2 : Kd.F k84 W ok A2 x.f2.length x.f2) : Kd.FK k84 W ok x [.int .i64 x.f0, .string x.f1, .slice A2 x.f2.length c2] := fun W2 hW => k84_mk W2 x l2 (g2 W2 hW)
def rd_T84 (xs : List S84) (i : Int) : S84 := xs.getD i.toNat z84
theorem at_T84 {w : World} {A : Option Addr} {n : Nat} {xs : List S84} (h : Kd.C k84 w A n xs) (i : Int) (h0 : 0 ≤ i) (h1 : i < n) : ∃ ad A2 c2, A = some ad ∧ w.cell? (ad.add (i.toNat * 3)) = some (.int .i64 (rd_T84 xs i).f0) ∧ w.cell? ⟨(ad.add (i.toNat * 3)).block, (ad.add (i.toNat * 3)).off + 1, none⟩ = some (.string (rd_T84 xs i).f1) ∧ w.cell? ⟨(ad.add (i.toNat * 3)).block, (ad.add (i.toNat * 3)).off + 2, none⟩ = some (.slice A2 (rd_T84 xs i).f2.length c2) ∧ (rd_T84 xs i).f2.length ≤ c2 ∧ k84.C w A2 (rd_T84 xs i).f2.length (rd_T84 xs i).f2 := by
  obtain ⟨ad, c, e, _, hK, hc0⟩ := Kd.C_get h z84 i h0 h1
  have hc : ∀ j u, c[j]? = some u → w.cell? (ad.add (i.toNat * 3 + j)) = some u := hc0
  obtain ⟨A2, c2, rfl, l2, g2⟩ := k84_open hK
  exact ⟨ad, A2, c2, e, hc 0 _ rfl, by rw [← add_field _ _ 1 (by omega)]; exact hc 1 _ rfl, by rw [← add_field _ _ 2 (by omega)]; exact hc 2 _ rfl, l2, g2⟩

/-! #### struct type 26 -/
structure S26 where
  f0 : Int
  f1 : Int
def z26 : S26 := ⟨(0 : Int), (0 : Int)⟩
def k26 : Kd S26 := Kd.iso (Kd.pair (Kd.int .i64) (Kd.int .i64)) (fun x : S26 => (x.f0, x.f1))
theorem k26_open {w : World} {x : S26} {cs : List Value} (h : k26.K w x cs) : cs = [.int .i64 x.f0, .int .i64 x.f1] := by
  obtain ⟨_, _, rfl, rfl, rfl⟩ := h
  exact rfl
theorem k26_openM {w : World} {base : Nat} {ok : Nat → Prop} {x : S26} {cs : List Value} (h : k26.M w base ok x cs) : cs = [.int .i64 x.f0, .int .i64 x.f1] := by
  obtain ⟨_, _, rfl, rfl, rfl⟩ := h
  exact rfl
theorem k26_mk (w : World) (x : S26)  : k26.K w x [.int .i64 x.f0, .int .i64 x.f1] := ⟨[.int .i64 x.f0], [.int .i64 x.f1], rfl, rfl, rfl⟩
theorem k26_mkM (w : World) (base : Nat) (ok : Nat → Prop) (x : S26)  : k26.M w base ok x [.int .i64 x.f0, .int .i64 x.f1] := ⟨[.int .i64 x.f0], [.int .i64 x.f1], rfl, rfl, rfl⟩
theorem k26_mkF (W : World) (ok : Nat → Prop) (x : S26) : Kd.FK k26 W ok x [.int .i64 x.f0, .int .i64 x.f1] := fun W2 _ => k26_mk W2 x
def rd_T26 (xs : List S26) (i : Int) : S26 := xs.getD i.toNat z26
theorem at_T26 {w : World} {A : Option Addr} {n : Nat} {xs : List S26} (h : Kd.C k26 w A n xs) (i : Int) (h0 : 0 ≤ i) (h1 : i < n) : ∃ ad , A = some ad ∧ w.cell? (ad.add (i.toNat * 2)) = some (.int .i64 (rd_T26 xs i).f0) ∧ w.cell? ⟨(ad.add (i.toNat * 2)).block, (ad.add (i.toNat * 2)).off + 1, none⟩ = some (.int .i64 (rd_T26 xs i).f1) := by
  obtain ⟨ad, c, e, _, hK, hc0⟩ := Kd.C_get h z26 i h0 h1
  have hc : ∀ j u, c[j]? = some u → w.cell? (ad.add (i.toNat * 2 + j)) = some u := hc0
  obtain rfl := k26_open hK
  exact ⟨ad, e, hc 0 _ rfl, by rw [← add_field _ _ 1 (by omega)]; exact hc 1 _ rfl⟩

/-! #### struct type 219 -/
structure S219 where
  f0 : ByteArray
  f1 : ByteArray
def z219 : S219 := ⟨(⟨#[]⟩ : ByteArray), (⟨#[]⟩ : ByteArray)⟩
def k219 : Kd S219 := Kd.iso (Kd.pair Kd.string Kd.string) (fun x : S219 => (x.f0, x.f1))
theorem k219_open {w : World} {x : S219} {cs : List Value} (h : k219.K w x cs) : cs = [.string x.f0, .string x.f1] := by
  obtain ⟨_, _, rfl, rfl, rfl⟩ := h
  exact rfl
theorem k219_openM {w : World} {base : Nat} {ok : Nat → Prop} {x : S219} {cs : List Value} (h : k219.M w base ok x cs) : cs = [.string x.f0, .string x.f1] := by
  obtain ⟨_, _, rfl, rfl, rfl⟩ := h
  exact rfl
theorem k219_mk (w : World) (x : S219)  : k219.K w x [.string x.f0, .string x.f1] := ⟨[.string x.f0], [.string x.f1], rfl, rfl, rfl⟩
theorem k219_mkM (w : World) (base : Nat) (ok : Nat → Prop) (x : S219)  : k219.M w base ok x [.string x.f0, .string x.f1] := ⟨[.string x.f0], [.string x.f1], rfl, rfl, rfl⟩
theorem k219_mkF (W : World) (ok : Nat → Prop) (x : S219) : Kd.FK k219 W ok x [.string x.f0, .string x.f1] := fun W2 _ => k219_mk W2 x
def rd_T219 (xs : List S219) (i : Int) : S219 := xs.getD i.toNat z219
theorem at_T219 {w : World} {A : Option Addr} {n : Nat} {xs : List S219} (h : Kd.C k219 w A n xs) (i : Int) (h0 : 0 ≤ i) (h1 : i < n) : ∃ ad , A = some ad ∧ w.cell? (ad.add (i.toNat * 2)) = some (.string (rd_T219 xs i).f0) ∧ w.cell? ⟨(ad.add (i.toNat * 2)).block, (ad.add (i.toNat * 2)).off + 1, none⟩ = some (.string (rd_T219 xs i).f1) := by
  obtain ⟨ad, c, e, _, hK, hc0⟩ := Kd.C_get h z219 i h0 h1
  have hc : ∀ j u, c[j]? = some u → w.cell? (ad.add (i.toNat * 2 + j)) = some u := hc0
  obtain rfl := k219_open hK
  exact ⟨ad, e, hc 0 _ rfl, by rw [← add_field _ _ 1 (by omega)]; exact hc 1 _ rfl⟩

def rd_L7 (xs : List (List S26)) (i : Int) : (List S26) := xs.getD i.toNat ([] : List S26)
theorem at_L7 {w : World} {A : Option Addr} {n : Nat} {xs : List (List S26)} (h : Kd.C (Kd.slice 26 k26) w A n xs) (i : Int) (h0 : 0 ≤ i) (h1 : i < n) : ∃ ad A0 c0, A = some ad ∧ w.cell? (ad.add i.toNat) = some (.slice A0 (rd_L7 xs i).length c0) ∧ (rd_L7 xs i).length ≤ c0 ∧ k26.C w A0 (rd_L7 xs i).length (rd_L7 xs i) := by
  obtain ⟨ad, c, e, _, hK, hc0⟩ := Kd.C_get h ([] : List S26) i h0 h1
  have hc : ∀ j u, c[j]? = some u → w.cell? (ad.add (i.toNat * 1 + j)) = some u := hc0
  obtain ⟨A0, c0, rfl, l0, g0⟩ := hK
  exact ⟨ad, A0, c0, e, by have hq := hc 0 _ rfl; rwa [Nat.mul_one, Nat.add_zero] at hq, l0, g0⟩

/-! #### struct type 95 -/
structure S95 where
  f0 : ByteArray
  f1 : (List S26)
def z95 : S95 := ⟨(⟨#[]⟩ : ByteArray), ([] : List S26)⟩
def k95 : Kd S95 := Kd.iso (Kd.pair Kd.string (Kd.slice 26 k26)) (fun x : S95 => (x.f0, x.f1))
theorem k95_open {w : World} {x : S95} {cs : List Value} (h : k95.K w x cs) : ∃ A1 c1, cs = [.string x.f0, .slice A1 x.f1.length c1] ∧ x.f1.length ≤ c1 ∧ k26.C w A1 x.f1.length x.f1 := by
  obtain ⟨_, _, rfl, rfl, ⟨A1, c1, rfl, l1, g1⟩⟩ := h
  exact ⟨A1, c1, rfl, l1, g1⟩
theorem k95_openM {w : World} {base : Nat} {ok : Nat → Prop} {x : S95} {cs : List Value} (h : k95.M w base ok x cs) : ∃ v1, cs = [.string x.f0, v1] ∧ k26.R 26 w base ok v1 x.f1 := by
  obtain ⟨_, _, rfl, rfl, ⟨v1, rfl, g1⟩⟩ := h
  exact ⟨v1, rfl, g1⟩
theorem k95_mk (w : World) (x : S95) {A1 : Option Addr} {c1 : Nat} (l1 : x.f1.length ≤ c1) (g1 : k26.C w A1 x.f1.length x.f1) : k95.K w x [.string x.f0, .slice A1 x.f1.length c1] := ⟨[.string x.f0], [.slice A1 x.f1.length c1], rfl, rfl, ⟨A1, c1, rfl, l1, g1⟩⟩
theorem k95_mkM (w : World) (base : Nat) (ok : Nat → Prop) (x : S95) {v1 : Value} (g1 : k26.R 26 w base ok v1 x.f1) : k95.M w base ok x [.string x.f0, v1] := ⟨[.string x.f0], [v1], rfl, rfl, ⟨v1, rfl, g1⟩⟩
theorem k95_openF {W : World} {ok : Nat → Prop} {x : S95} {cs : List Value} (h : Kd.FK k95 W ok x cs) : ∃ A1 c1, cs = [.string x.f0, .slice A1 x.f1.length c1] ∧ x.f1.length ≤ c1 ∧ Kd.F k26 W ok A1 x.f1.length x.f1 := by
  obtain ⟨A1, c1, rfl, l1, _⟩ := k95_open (Kd.FK_now h)
  exact ⟨A1, c1, rfl, l1, (fun W' hW => by obtain ⟨A1_, c1_, he, l1_, g1_⟩ := k95_open (h W' hW); injection (Option.some.inj (show some (Value.slice A1 x.f1.length c1) = some (Value.slice A1_ x.f1.length c1_) from congrArg (fun l => l[1]?) he)) with ha_ _ _; rw [ha_]; exact g1_)⟩
theorem k95_mkF (W : World) (ok : Nat → Prop) (x : S95) {A1 : Option Addr} {c1 : Nat} (l1 : x.f1.length ≤ c1) (g1 : Kd.F k26 W ok A1 x.f1.length x.f1) : Kd.FK k95 W ok x [.string x.f0, .slice A1 x.f1.length c1] := fun W2 hW => k95_mk W2 x l1 (g1 W2 hW)
def rd_T95 (xs : List S95) (i : Int) : S95 := xs.getD i.toNat z95
theorem at_T95 {w : World} {A : Option Addr} {n : Nat} {xs : List S95} (h : Kd.C k95 w A n xs) (i : Int) (h0 : 0 ≤ i) (h1 : i < n) : ∃ ad A1 c1, A = some ad ∧ w.cell? (ad.add (i.toNat * 2)) = some (.string (rd_T95 xs i).f0) ∧ w.cell? ⟨(ad.add (i.toNat * 2)).block, (ad.add (i.toNat * 2)).off + 1, none⟩ = some (.slice A1 (rd_T95 xs i).f1.length c1) ∧ (rd_T95 xs i).f1.length ≤ c1 ∧ k26.C w A1 (rd_T95 xs i).f1.length (rd_T95 xs i).f1 := by
  obtain ⟨ad, c, e, _, hK, hc0⟩ := Kd.C_get h z95 i h0 h1
  have hc : ∀ j u, c[j]? = some u → w.cell? (ad.add (i.toNat * 2 + j)) = some u := hc0
  obtain ⟨A1, c1, rfl, l1, g1⟩ := k95_open hK
  exact ⟨ad, A1, c1, e, hc 0 _ rfl, by rw [← add_field _ _ 1 (by omega)]; exact hc 1 _ rfl, l1, g1⟩

/-! #### struct type 93 -/
structure S93 where
  f0 : Int
  f1 : S84
  f2 : S84
def z93 : S93 := ⟨(0 : Int), z84, z84⟩
def k93 : Kd S93 := Kd.iso (Kd.pair (Kd.int .i64) (Kd.pair k84 k84)) (fun x : S93 => (x.f0, x.f1, x.f2))
theorem k93_open {w : World} {x : S93} {cs : List Value} (h : k93.K w x cs) : ∃ A3 c3 A6 c6, cs = [.int .i64 x.f0, .int .i64 x.f1.f0, .string x.f1.f1, .slice A3 x.f1.f2.length c3, .int .i64 x.f2.f0, .string x.f2.f1, .slice A6 x.f2.f2.length c6] ∧ x.f1.f2.length ≤ c3 ∧ k84.C w A3 x.f1.f2.length x.f1.f2 ∧ x.f2.f2.length ≤ c6 ∧ k84.C w A6 x.f2.f2.length x.f2.f2 := by
  obtain ⟨_, _, rfl, rfl, ⟨_, _, rfl, s1, s4⟩⟩ := h
  obtain ⟨A3, c3, rfl, l3, g3⟩ := k84_open s1
  obtain ⟨A6, c6, rfl, l6, g6⟩ := k84_open s4
  exact ⟨A3, c3, A6, c6, rfl, l3, g3, l6, g6⟩
theorem k93_openM {w : World} {base : Nat} {ok : Nat → Prop} {x : S93} {cs : List Value} (h : k93.M w base ok x cs) : ∃ v3 v6, cs = [.int .i64 x.f0, .int .i64 x.f1.f0, .string x.f1.f1, v3, .int .i64 x.f2.f0, .string x.f2.f1, v6] ∧ k84.R 84 w base ok v3 x.f1.f2 ∧ k84.R 84 w base ok v6 x.f2.f2 := by
  obtain ⟨_, _, rfl, rfl, ⟨_, _, rfl, s1, s4⟩⟩ := h
  obtain ⟨v3, rfl, g3⟩ := k84_openM s1
  obtain ⟨v6, rfl, g6⟩ := k84_openM s4
  exact ⟨v3, v6, rfl, g3, g6⟩
theorem k93_mk (w : World) (x : S93) {A3 : Option Addr} {c3 : Nat} (l3 : x.f1.f2.length ≤ c3) (g3 : k84.C w A3 x.f1.f2.length x.f1.f2) {A6 : Option Addr} {c6 : Nat} (l6 : x.f2.f2.length ≤ c6) (g6 : k84.C w A6 x.f2.f2.length x.f2.f2) : k93.K w x [.int .i64 x.f0, .int .i64 x.f1.f0, .string x.f1.f1, .slice A3 x.f1.f2.length c3, .int .i64 x.f2.f0, .string x.f2.f1, .slice A6 x.f2.f2.length c6] := ⟨[.int .i64 x.f0], [.int .i64 x.f1.f0, .string x.f1.f1, .slice A3 x.f1.f2.length c3, .int .i64 x.f2.f0, .string x.f2.f1, .slice A6 x.f2.f2.length c6], rfl, rfl, ⟨[.int .i64 x.f1.f0, .string x.f1.f1, .slice A3 x.f1.f2.length c3], [.int .i64 x.f2.f0, .string x.f2.f1, .slice A6 x.f2.f2.length c6], rfl, (k84_mk w x.f1 l3 g3), (k84_mk w x.f2 l6 g6)⟩⟩
theorem k93_mkM (w : World) (base : Nat) (ok : Nat → Prop) (x : S93) {v3 : Value} (g3 : k84.R 84 w base ok v3 x.f1.f2) {v6 : Value} (g6 : k84.R 84 w base ok v6 x.f2.f2) : k93.M w base ok x [.int .i64 x.f0, .int .i64 x.f1.f0, .string x.f1.f1, v3, .int .i64 x.f2.f0, .string x.f2.f1, v6] := ⟨[.int .i64 x.f0], [.int .i64 x.f1.f0, .string x.f1.f1, v3, .int .i64 x.f2.f0, .string x.f2.f1, v6], rfl, rfl, ⟨[.int .i64 x.f1.f0, .string x.f1.f1, v3], [.int .i64 x.f2.f0, .string x.f2.f1, v6], rfl, (k84_mkM w base ok x.f1 g3), (k84_mkM w base ok x.f2 g6)⟩⟩
theorem k93_openF {W : World} {ok : Nat → Prop} {x : S93} {cs : List Value} (h : Kd.FK k93 W ok x cs) : ∃ A3 c3 A6 c6, cs = [.int .i64 x.f0, .int .i64 x.f1.f0, .string x.f1.f1, .slice A3 x.f1.f2.length c3, .int .i64 x.f2.f0, .string x.f2.f1, .slice A6 x.f2.f2.length c6] ∧ x.f1.f2.length ≤ c3 ∧ Kd.F k84 W ok A3 x.f1.f2.length x.f1.f2 ∧ x.f2.f2.length ≤ c6 ∧ Kd.F k84 W ok A6 x.f2.f2.length x.f2.f2 := by
  obtain ⟨A3, c3, A6, c6, rfl, l3, _, l6, _⟩ := k93_open (Kd.FK_now h)
  exact ⟨A3, c3, A6, c6, rfl, l3, (fun W' hW => by obtain ⟨A3_, c3_, A6_, c6_, he, l3_, g3_, l6_, g6_⟩ := k93_open (h W' hW); injection (Option.some.inj (show some (Value.slice A3 x.f1.f2.length c3) = some (Value.slice A3_ x.f1.f2.length c3_) from congrArg (fun l => l[3]?) he)) with ha_ _ _; rw [ha_]; exact g3_), l6, (fun W' hW => by obtain ⟨A3_, c3_, A6_, c6_, he, l3_, g3_, l6_, g6_⟩ := k93_open (h W' hW); injection (Option.some.inj (show some (Value.slice A6 x.f2.f2.length c6) = some (Value.slice A6_ x.f2.f2.length c6_) from congrArg (fun l => l[6]?) he)) with ha_ _ _; rw [ha_]; exact g6_)⟩
theorem k93_mkF (W : World) (ok : Nat → Prop) (x : S93) {A3 : Option Addr} {c3 : Nat} (l3 : x.f1.f2.length ≤ c3) (g3 : Kd.F k84 W ok A3 x.f1.f2.length x.f1.f2) {A6 : Option Addr} {c6 : Nat} (l6 : x.f2.f2.length ≤ c6) (g6 : Kd.F k84 W ok A6 x.f2.f2.length x.f2.f2) : Kd.FK k93 W ok x [.int .i64 x.f0, .int .i64 x.f1.f0, .string x.f1.f1, .slice A3 x.f1.f2.length c3, .int .i64 x.f2.f0, .string x.f2.f1, .slice A6 x.f2.f2.length c6] := fun W2 hW => k93_mk W2 x l3 (g3 W2 hW) l6 (g6 W2 hW)
def rd_T93 (xs : List S93) (i : Int) : S93 := xs.getD i.toNat z93
theorem at_T93 {w : World} {A : Option Addr} {n : Nat} {xs : List S93} (h : Kd.C k93 w A n xs) (i : Int) (h0 : 0 ≤ i) (h1 : i < n) : ∃ ad A3 c3 A6 c6, A = some ad ∧ w.cell? (ad.add (i.toNat * 7)) = some (.int .i64 (rd_T93 xs i).f0) ∧ w.cell? ⟨(ad.add (i.toNat * 7)).block, (ad.add (i.toNat * 7)).off + 1, none⟩ = some (.int .i64 (rd_T93 xs i).f1.f0) ∧ w.cell? ⟨(ad.add (i.toNat * 7)).block, (ad.add (i.toNat * 7)).off + 2, none⟩ = some (.string (rd_T93 xs i).f1.f1) ∧ w.cell? ⟨(ad.add (i.toNat * 7)).block, (ad.add (i.toNat * 7)).off + 3, none⟩ = some (.slice A3 (rd_T93 xs i).f1.f2.length c3) ∧ w.cell? ⟨(ad.add (i.toNat * 7)).block, (ad.add (i.toNat * 7)).off + 4, none⟩ = some (.int .i64 (rd_T93 xs i).f2.f0) ∧ w.cell? ⟨(ad.add (i.toNat * 7)).block, (ad.add (i.toNat * 7)).off + 5, none⟩ = some (.string (rd_T93 xs i).f2.f1) ∧ w.cell? ⟨(ad.add (i.toNat * 7)).block, (ad.add (i.toNat * 7)).off + 6, none⟩ = some (.slice A6 (rd_T93 xs i).f2.f2.length c6) ∧ (rd_T93 xs i).f1.f2.length ≤ c3 ∧ k84.C w A3 (rd_T93 xs i).f1.f2.length (rd_T93 xs i).f1.f2 ∧ (rd_T93 xs i).f2.f2.length ≤ c6 ∧ k84.C w A6 (rd_T93 xs i).f2.f2.length (rd_T93 xs i).f2.f2 := by
  obtain ⟨ad, c, e, _, hK, hc0⟩ := Kd.C_get h z93 i h0 h1
  have hc : ∀ j u, c[j]? = some u → w.cell? (ad.add (i.toNat * 7 + j)) = some u := hc0
  obtain ⟨A3, c3, A6, c6, rfl, l3, g3, l6, g6⟩ := k93_open hK
  exact ⟨ad, A3, c3, A6, c6, e, hc 0 _ rfl, by rw [← add_field _ _ 1 (by omega)]; exact hc 1 _ rfl, by rw [← add_field _ _ 2 (by omega)]; exact hc 2 _ rfl, by rw [← add_field _ _ 3 (by omega)]; exact hc 3 _ rfl, by rw [← add_field _ _ 4 (by omega)]; exact hc 4 _ rfl, by rw [← add_field _ _ 5 (by omega)]; exact hc 5 _ rfl, by rw [← add_field _ _ 6 (by omega)]; exact hc 6 _ rfl, l3, g3, l6, g6⟩

end Go.Proofs.YtijgifinhbbmaaaGreatDoor.Q
