/- Configurations as arguments, opened. Conditions: none. -/
import Derived.Test.YtjjbnmlhbbnhcaaOpen
import Derived.Test.YtjjbnmlhbbnhcaaKc
namespace Go.Proofs.Ytjjbnmlhbbnhcaa
open Go.RowKit Go.ChangeShapes Go.WideShapes G
/-- An argument that is a struct. -/
theorem Opens.argS {α H : Type} {P : Program} {w : World} {enc : TypeId × Value → H} {base : Nat} {spare : Nat → Bool} {held : Bool} {t : TypeId} {fs : Array Field} {E : Enc α} {D : α → Prop} {v : Value} {d : DataW H} {ps : List MemPlace} {b0 : Nat} {r : Reach}
    (ht : P.underlying t = some (.struct fs)) (h : Opens P w t E D) (hv : Value.okWide P w r b0 t v) (hd : DataW.Trod enc P w base spare held t v d ps) : ∃ a, v = .agg (E.enc a).toArray ∧ D a := by
  simp only [Value.okWide, ht] at hv
  obtain ⟨cs, rfl, _⟩ := hv
  obtain ⟨fuel, hf⟩ := hd
  obtain ⟨a, ha, hD⟩ := h.2 _ _ _ _ _ _ _ _ hf
  have ha' : cs.toList = E.enc a := ha
  exact ⟨a, by rw [← ha'], hD⟩
def RdSI (W : World) (s : SV Int) : Prop := Rd (kE .i64) W s.v s.l
theorem intO (W : World) : Opens Try.prog W 3 (kE .i64) (fun _ => True) := (Opens.int (k := .i64) Try.underlying3 (by kernel_rfl)).mono fun _ _ => trivial
theorem u64O (W : World) : Opens Try.prog W 42 (kE .u64) (fun _ => True) := (Opens.int (k := .u64) Try.underlying42 (by kernel_rfl)).mono fun _ _ => trivial
theorem intsO (W : World) : Opens Try.prog W 26 (svE Int) (RdSI W) := (Opens.slice Try.underlying26 (by kernel_rfl) (intO W)).mono fun s h => h.1
theorem intssO (W : World) : Opens Try.prog W 22 (svE (SV Int)) (fun s => Rd (svE Int) W s.v s.l ∧ ∀ x ∈ s.l, RdSI W x) := Opens.slice Try.underlying22 (by kernel_rfl) (intsO W)
theorem labO (W : World) : Opens Try.prog W 44 labE (fun _ => True) :=
  ((Opens.struct Try.underlying44 (by kernel_rfl) (OpensFs.cons rfl (intO W) (OpensFs.one rfl (u64O W)))).map (F := labE) (fun p => ⟨p.1, p.2⟩) (fun _ => rfl) rfl).mono fun _ _ => trivial
def DomD (W : World) (d : DomV) : Prop := (Rd (svE Int) W d.routes.v d.routes.l ∧ ∀ x ∈ d.routes.l, RdSI W x) ∧ RdSI W d.release
theorem domO (W : World) : Opens Try.prog W 46 domE (DomD W) :=
  ((Opens.struct Try.underlying46 (by kernel_rfl) (OpensFs.cons rfl (labO W) (OpensFs.cons rfl (intssO W) (OpensFs.cons rfl (intsO W) (OpensFs.cons rfl (intO W) (OpensFs.cons rfl (intO W) (OpensFs.cons rfl (intO W) (OpensFs.cons rfl (intO W) (OpensFs.cons rfl (intO W) (OpensFs.one rfl (intO W))))))))))).map (F := domE)
    (fun p => ⟨p.1, p.2.1, p.2.2.1, p.2.2.2.1, p.2.2.2.2.1, p.2.2.2.2.2.1, p.2.2.2.2.2.2.1, p.2.2.2.2.2.2.2.1, p.2.2.2.2.2.2.2.2⟩) (fun _ => rfl) rfl).mono fun d h => by
    obtain ⟨p, rfl, _, h1, h2, _⟩ := h
    exact ⟨h1, h2⟩
def confE : Enc ConfV := ⟨4, by decide, fun c => [.int .i64 c.frame, .int .i64 c.epoch, .slice c.plans.a c.plans.l.length c.plans.c, .slice c.domains.a c.domains.l.length c.domains.c], fun _ => rfl, by intro a u hu; simp at hu; rcases hu with rfl | rfl | rfl | rfl <;> rfl⟩
theorem confO (W : World) : Opens Try.prog W 25 confE (fun c => KC [old W] c) :=
  ((Opens.struct Try.underlying25 (by kernel_rfl) (OpensFs.cons rfl (intO W) (OpensFs.cons rfl (intO W) (OpensFs.cons rfl (intssO W) (OpensFs.one rfl (Opens.slice Try.underlying23 (by kernel_rfl) (domO W))))))).map (F := confE)
    (fun p => ⟨p.1, p.2.1, p.2.2.1, p.2.2.2⟩) (fun _ => rfl) rfl).mono fun c h => by
    obtain ⟨p, rfl, _, _, h1, h2⟩ := h
    exact ⟨KR.old h1.1 0 rfl, fun q hq => KR.old (h1.2 q hq) 0 rfl, KR.old h2.1 0 rfl, fun d hd => KR.old (h2.2 d hd).1.1 0 rfl, fun d hd r hr => KR.old ((h2.2 d hd).1.2 r hr) 0 rfl, fun d hd => KR.old (h2.2 d hd).2 0 rfl⟩
/-- What a law's walk gives. -/
def LawPost (W : World) (e : Ending) (w' : World) : Prop := e = .returned (.bool true) ∧ Below W.heap.size W w'
theorem lawPost {ι : Type} {P : Program} {f : FuncId} {vs : Array Value} {W : World} {Hx : ι → List SP} (hs : ∀ x w, Sat w (Hx x) → Sat w [old W]) (h : Calls P f vs W (Ret (fun _ : ι => .bool true) Hx)) : Calls P f vs W (LawPost W) :=
  h.mono fun _ w' ⟨x, he, hx⟩ => ⟨he, (hs x w' hx).below (i := 0) rfl⟩
end Go.Proofs.Ytjjbnmlhbbnhcaa
