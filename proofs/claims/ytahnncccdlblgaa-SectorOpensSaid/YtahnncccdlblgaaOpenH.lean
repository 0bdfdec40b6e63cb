/- A head of five numbers that comes in by value, read. Conditions: none. -/
import Derived.Test.YtahnncccdlblgaaProg
import Derived.Test.YtahnncccdlblgaaOpen
import Derived.Lib.SmallJoins
namespace Go.Proofs.Ytahnncccdlblgaa.Open
open Go.Joins Go.ChangeShapes Go.WideShapes Go.Deep Go.RowKit Go.Proofs.YtahnncccdlblgaaW.PrintWords
section
variable {H : Type} {enc : TypeId × Value → H} {w : World} {base : Nat} {spare : Nat → Bool} {held : Bool}
theorem open_head {r : Reach} {b0 : Nat} {v : Value} {d : DataW H} {p : List MemPlace} (hv : Value.okWide Try.prog w r b0 23 v) (h : DataW.Trod enc Try.prog w base spare held 23 v d p) :
    ∃ a0 a1 a2 a3 a4 : Int, v = .agg #[.int .i64 a0, .int .i64 a1, .int .i64 a2, .int .i64 a3, .int .i64 a4] ∧ (Lit.int .i64 a0).wf = true ∧ (Lit.int .i64 a1).wf = true ∧ (Lit.int .i64 a2).wf = true ∧ (Lit.int .i64 a3).wf = true ∧ (Lit.int .i64 a4).wf = true := by
  obtain ⟨cs, rfl, hsz⟩ := okWide_struct Try.underlying23 hv
  obtain ⟨fuel, hf⟩ := h
  obtain ⟨xs, n, _, _, _, hlen, hg⟩ := DataW.trod_struct Try.underlying23 hf
  have hone : oneCellFields Try.prog #[{ name := "Kind", type := 3, offset := 0, embedded := false, tag := "", pkgPath := "", byteOffset := 0 }, { name := "Epoch", type := 3, offset := 1, embedded := false, tag := "", pkgPath := "", byteOffset := 8 }, { name := "Seq", type := 3, offset := 2, embedded := false, tag := "", pkgPath := "", byteOffset := 16 }, { name := "Part", type := 3, offset := 3, embedded := false, tag := "", pkgPath := "", byteOffset := 24 }, { name := "Parts", type := 3, offset := 4, embedded := false, tag := "", pkgPath := "", byteOffset := 32 }] = true := by kernel_rfl
  have hn : Try.prog.cellsOf 23 = 5 := by kernel_rfl
  obtain ⟨l⟩ := cs
  have hl : l.length = 5 := hsz.trans hn
  match l, hl with
  | [c0, c1, c2, c3, c4], _ =>
    obtain ⟨o0, k0⟩ := hone_of hone 0 _ rfl
    obtain ⟨o1, k1⟩ := hone_of hone 1 _ rfl
    obtain ⟨o2, k2⟩ := hone_of hone 2 _ rfl
    obtain ⟨o3, k3⟩ := hone_of hone 3 _ rfl
    obtain ⟨o4, k4⟩ := hone_of hone 4 _ rfl
    have h0 := hg 0 _ rfl
    have h1 := hg 1 _ rfl
    have h2 := hg 2 _ rfl
    have h3 := hg 3 _ rfl
    have h4 := hg 4 _ rfl
    rw [o0, k0] at h0
    rw [o1, k1] at h1
    rw [o2, k2] at h2
    rw [o3, k3] at h3
    rw [o4, k4] at h4
    match xs, hlen with
    | [y0, y1, y2, y3, y4], _ =>
      obtain ⟨n0, e0, _, w0⟩ := DataW.trod_int Try.underlying3 (x := y0) h0
      obtain ⟨n1, e1, _, w1⟩ := DataW.trod_int Try.underlying3 (x := y1) h1
      obtain ⟨n2, e2, _, w2⟩ := DataW.trod_int Try.underlying3 (x := y2) h2
      obtain ⟨n3, e3, _, w3⟩ := DataW.trod_int Try.underlying3 (x := y3) h3
      obtain ⟨n4, e4, _, w4⟩ := DataW.trod_int Try.underlying3 (x := y4) h4
      have g0 : c0 = Value.int .i64 n0 := (List.cons.inj (show [c0] = [Value.int .i64 n0] from e0)).1
      have g1 : c1 = Value.int .i64 n1 := (List.cons.inj (show [c1] = [Value.int .i64 n1] from e1)).1
      have g2 : c2 = Value.int .i64 n2 := (List.cons.inj (show [c2] = [Value.int .i64 n2] from e2)).1
      have g3 : c3 = Value.int .i64 n3 := (List.cons.inj (show [c3] = [Value.int .i64 n3] from e3)).1
      have g4 : c4 = Value.int .i64 n4 := (List.cons.inj (show [c4] = [Value.int .i64 n4] from e4)).1
      exact ⟨n0, n1, n2, n3, n4, by rw [g0, g1, g2, g3, g4], w0, w1, w2, w3, w4⟩
end
end Go.Proofs.Ytahnncccdlblgaa.Open
