/- A server, and a list of servers, read as values. Conditions: none. -/
import Derived.Test.YtaappkompmdjnaaOpen
import Derived.Test.YtaappkompmdjnaaBPickx0
namespace Go.Proofs.Ytaappkompmdjnaa.Open
open Go.ChangeShapes Go.WideShapes Go.Deep Go.RowKit Go.Proofs.YtaappkompmdjnaaW.PrintWords Go.Proofs.Ytaappkompmdjnaa.BPick
section
variable {H : Type} {enc : TypeId × Value → H} {w : World} {base : Nat} {spare : Nat → Bool} {held : Bool}
/-- What is known of a server that came in. -/
def okTried (x : S42) : Prop := (x.f0.length * 1 ≤ 140737488351232 ∧ ∀ b ∈ x.f0, (Lit.int .u8 b).wf = true) ∧ (Lit.int .i64 x.f1).wf = true
theorem opens_tried : Opens enc Try.prog w base spare held 42 k42 okTried := by
  intro fuel cs x h hs
  obtain ⟨hl, hf⟩ := struct_cells Try.underlying42 (by kernel_rfl) (by kernel_rfl) h hs
  obtain ⟨v0, y0, n0, e0, t0, s0⟩ := hf 0 _ rfl
  obtain ⟨v1, y1, n1, e1, t1, s1⟩ := hf 1 _ rfl
  obtain ⟨v2, y2, n2, e2, t2, s2⟩ := hf 2 _ rfl
  obtain ⟨l, ⟨A, c, k0, hc, hC⟩, o0⟩ := opens_slice (d := Kd.int .u8) (B := 1) Try.underlying28 (by kernel_rfl) (by kernel_rfl) (opens_int Try.underlying5) _ _ _ t0 s0
  obtain ⟨n, k1, o1⟩ := opens_int Try.underlying3 _ _ _ t1 s1
  obtain ⟨b, k2, _⟩ := opens_bool Try.underlying4 _ _ _ t2 s2
  have k1 : [v1] = [.int .i64 n] := k1
  have k2 : [v2] = [.bool b] := k2
  injection k0 with k0 _
  injection k1 with k1 _
  injection k2 with k2 _
  subst k0 k1 k2
  obtain rfl : cs = [.slice A l.length c, .int .i64 n, .bool b] := by
    match cs, hl with
    | [c0, c1, c2], _ => simp only [List.getElem?_cons_zero, List.getElem?_cons_succ, Option.some.injEq] at e0 e1 e2; rw [e0, e1, e2]
  exact ⟨⟨l, n, b⟩, k42_mk w ⟨l, n, b⟩ hc hC, o0, o1⟩
theorem opens_tried_list : Opens enc Try.prog w base spare held 37 (Kd.slice 42 k42) (fun xs => xs.length * 40 ≤ 140737488351232 ∧ ∀ x ∈ xs, okTried x) :=
  opens_slice Try.underlying37 (by kernel_rfl) (by kernel_rfl) opens_tried
end
end Go.Proofs.Ytaappkompmdjnaa.Open
