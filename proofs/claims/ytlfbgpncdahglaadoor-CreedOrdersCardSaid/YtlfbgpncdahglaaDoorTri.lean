/- Three structures that lie apart, and a row of numbers beside them. -/
import Derived.Test.YtlfbgpncdahglaaDoorLaws
namespace Go.Proofs.YtlfbgpncdahglaaDoor
open Go Go.RowKit
set_option linter.unusedSimpArgs false
set_option linter.unusedVariables false
set_option linter.unusedSectionVars false

/-- The row's block is none of the structure's own. -/
def Off (v : Value) (g : Nat) (a p : Value) : Prop := ∀ b, v.ownBlock = some b → ¬ InB b g a p

theorem Off.new {w : World} {v : Value} {g : Nat} {s : PC} {A : Option Addr} {c : Nat} {A' : Option Addr} {c' : Nat} (h : CR w g s A c A' c') (hv : ∀ b, v.ownBlock = some b → w.heap.size ≤ b) : Off v g (.slice A s.vals.length c) (.slice A' s.pairs.length c') :=
  fun b e hb => by have := hv b e; have := h.inLt hb; omega
theorem OnlyC.off {w w' : World} {g : Nat} {a p a' p' v : Value} (h : OnlyC w w' g a p a' p') (ho : Off v g a p) (hv : ∀ b, v.ownBlock = some b → b < w.heap.size) : Off v g a' p' ∧ ∀ b, v.ownBlock = some b → w'.heap[b]? = w.heap[b]? := by
  refine ⟨fun b e hb => ?_, fun b e => ?_⟩
  · have hn := ho b e
    have hl := hv b e
    rcases hb with rfl | hb | hb
    · exact hn (Or.inl rfl)
    · rcases h.fv b hb with h' | h'
      · exact hn (Or.inr (Or.inl h'))
      · omega
    · rcases h.fp b hb with h' | h'
      · exact hn (Or.inr (Or.inr h'))
      · omega
  · have hn := ho b e
    exact h.block b (hv b e) (fun h' => hn (Or.inl h')) (fun h' => hn (Or.inr (Or.inl h'))) (fun h' => hn (Or.inr (Or.inr h')))

structure Tri (w0 w : World) (T : TypeId) (u : Value) (v : Value) (L : List Int) (g1 : Nat) (s1 : PC) (A1 : Option Addr) (c1 : Nat) (B1 : Option Addr) (d1 : Nat) (g2 : Nat) (s2 : PC) (A2 : Option Addr) (c2 : Nat) (B2 : Option Addr) (d2 : Nat) (g3 : Nat) (s3 : PC) (A3 : Option Addr) (c3 : Nat) (B3 : Option Addr) (d3 : Nat) : Prop where
  x : LW w0 w T u g1 s1 A1 c1 B1 d1
  y : LW w0 w T u g2 s2 A2 c2 B2 d2
  z : LW w0 w T u g3 s3 A3 c3 B3 d3
  xy : Apart g1 (.slice A1 s1.vals.length c1) (.slice B1 s1.pairs.length d1) g2 (.slice A2 s2.vals.length c2) (.slice B2 s2.pairs.length d2)
  xz : Apart g1 (.slice A1 s1.vals.length c1) (.slice B1 s1.pairs.length d1) g3 (.slice A3 s3.vals.length c3) (.slice B3 s3.pairs.length d3)
  yz : Apart g2 (.slice A2 s2.vals.length c2) (.slice B2 s2.pairs.length d2) g3 (.slice A3 s3.vals.length c3) (.slice B3 s3.pairs.length d3)
  own : Own w 3 1 v L.length (icells L)
  fresh : ∀ b, v.ownBlock = some b → w0.heap.size ≤ b
  ox : Off v g1 (.slice A1 s1.vals.length c1) (.slice B1 s1.pairs.length d1)
  oy : Off v g2 (.slice A2 s2.vals.length c2) (.slice B2 s2.pairs.length d2)
  oz : Off v g3 (.slice A3 s3.vals.length c3) (.slice B3 s3.pairs.length d3)

section
variable {w0 w w' : World} {T : TypeId} {u v : Value} {L : List Int} {g1 : Nat} {s1 : PC} {A1 : Option Addr} {c1 : Nat} {B1 : Option Addr} {d1 : Nat} {g2 : Nat} {s2 : PC} {A2 : Option Addr} {c2 : Nat} {B2 : Option Addr} {d2 : Nat} {g3 : Nat} {s3 : PC} {A3 : Option Addr} {c3 : Nat} {B3 : Option Addr} {d3 : Nat}
theorem Tri.more (h : Tri w0 w T u v L g1 s1 A1 c1 B1 d1 g2 s2 A2 c2 B2 d2 g3 s3 A3 c3 B3 d3) (hb : Below w.heap.size w w') : Tri w0 w' T u v L g1 s1 A1 c1 B1 d1 g2 s2 A2 c2 B2 d2 g3 s3 A3 c3 B3 d3 :=
  ⟨h.x.more hb, h.y.more hb, h.z.more hb, h.xy, h.xz, h.yz, h.own.below hb, h.fresh, h.ox, h.oy, h.oz⟩
theorem Tri.alloc (h : Tri w0 w T u v L g1 s1 A1 c1 B1 d1 g2 s2 A2 c2 B2 d2 g3 s3 A3 c3 B3 d3) (o : Obj) : Tri w0 (w.alloc o) T u v L g1 s1 A1 c1 B1 d1 g2 s2 A2 c2 B2 d2 g3 s3 A3 c3 B3 d3 :=
  h.more ((Below.refl _ _).alloc (Nat.le_refl _) _)
theorem Tri.drewN (h : Tri w0 w T u v L g1 s1 A1 c1 B1 d1 g2 s2 A2 c2 B2 d2 g3 s3 A3 c3 B3 d3) (n : Nat) : Tri w0 (w.drewN n) T u v L g1 s1 A1 c1 B1 d1 g2 s2 A2 c2 B2 d2 g3 s3 A3 c3 B3 d3 :=
  h.more (below_drewN (Below.refl _ _) n)
theorem Tri.drew (h : Tri w0 w T u v L g1 s1 A1 c1 B1 d1 g2 s2 A2 c2 B2 d2 g3 s3 A3 c3 B3 d3) : Tri w0 w.drew T u v L g1 s1 A1 c1 B1 d1 g2 s2 A2 c2 B2 d2 g3 s3 A3 c3 B3 d3 :=
  h.more (Below.refl _ _).drew
/-- What the first is asked. -/
theorem Tri.doX (h : Tri w0 w T u v L g1 s1 A1 c1 B1 d1 g2 s2 A2 c2 B2 d2 g3 s3 A3 c3 B3 d3) {s : PC} {A : Option Addr} {c : Nat} {B : Option Addr} {d : Nat} (h2 : CR w' g1 s A c B d)
    (o : OnlyC w w' g1 (.slice A1 s1.vals.length c1) (.slice B1 s1.pairs.length d1) (.slice A s.vals.length c) (.slice B s.pairs.length d)) (hok : POk s) : Tri w0 w' T u v L g1 s A c B d g2 s2 A2 c2 B2 d2 g3 s3 A3 c3 B3 d3 := by
  obtain ⟨y, xy⟩ := h.x.keep h.y h.xy o
  obtain ⟨z, xz⟩ := h.x.keep h.z h.xz o
  obtain ⟨ox, hk⟩ := o.off h.ox (fun b e => h.own.lt e)
  exact ⟨h.x.done h2 o hok, y, z, xy, xz, h.yz, h.own.kept hk, h.fresh, ox, h.oy, h.oz⟩
theorem Tri.swap (h : Tri w0 w T u v L g1 s1 A1 c1 B1 d1 g2 s2 A2 c2 B2 d2 g3 s3 A3 c3 B3 d3) : Tri w0 w T u v L g2 s2 A2 c2 B2 d2 g1 s1 A1 c1 B1 d1 g3 s3 A3 c3 B3 d3 :=
  ⟨h.y, h.x, h.z, h.xy.symm, h.yz, h.xz, h.own, h.fresh, h.oy, h.ox, h.oz⟩
theorem Tri.turn (h : Tri w0 w T u v L g1 s1 A1 c1 B1 d1 g2 s2 A2 c2 B2 d2 g3 s3 A3 c3 B3 d3) : Tri w0 w T u v L g3 s3 A3 c3 B3 d3 g2 s2 A2 c2 B2 d2 g1 s1 A1 c1 B1 d1 :=
  ⟨h.z, h.y, h.x, h.yz.symm, h.xz.symm, h.xy.symm, h.own, h.fresh, h.oz, h.oy, h.ox⟩
theorem Tri.doY (h : Tri w0 w T u v L g1 s1 A1 c1 B1 d1 g2 s2 A2 c2 B2 d2 g3 s3 A3 c3 B3 d3) {s : PC} {A : Option Addr} {c : Nat} {B : Option Addr} {d : Nat} (h2 : CR w' g2 s A c B d)
    (o : OnlyC w w' g2 (.slice A2 s2.vals.length c2) (.slice B2 s2.pairs.length d2) (.slice A s.vals.length c) (.slice B s.pairs.length d)) (hok : POk s) : Tri w0 w' T u v L g1 s1 A1 c1 B1 d1 g2 s A c B d g3 s3 A3 c3 B3 d3 :=
  (h.swap.doX h2 o hok).swap
theorem Tri.doZ (h : Tri w0 w T u v L g1 s1 A1 c1 B1 d1 g2 s2 A2 c2 B2 d2 g3 s3 A3 c3 B3 d3) {s : PC} {A : Option Addr} {c : Nat} {B : Option Addr} {d : Nat} (h2 : CR w' g3 s A c B d)
    (o : OnlyC w w' g3 (.slice A3 s3.vals.length c3) (.slice B3 s3.pairs.length d3) (.slice A s.vals.length c) (.slice B s.pairs.length d)) (hok : POk s) : Tri w0 w' T u v L g1 s1 A1 c1 B1 d1 g2 s2 A2 c2 B2 d2 g3 s A c B d :=
  (h.turn.doX h2 o hok).turn

theorem LW.grown {g : Nat} {s : PC} {A : Option Addr} {c : Nat} {A' : Option Addr} {c' : Nat} (h : LW w0 w T u g s A c A' c') (hg : w.grownBy w' v.ownBlock) (hf : ∀ b, v.ownBlock = some b → w0.heap.size ≤ b) (ho : Off v g (.slice A s.vals.length c) (.slice A' s.pairs.length c')) : LW w0 w' T u g s A c A' c' := by
  have hb := h.below.grown hg h.below.size hf
  have hk : ∀ b, InB b g (.slice A s.vals.length c) (.slice A' s.pairs.length c') → w'.heap[b]? = w.heap[b]? := fun b hb' =>
    hg.block b (h.r.inLt hb') (fun e => ho b e.symm hb')
  exact ⟨hb, (hb.cell (p := ⟨0, 0, none⟩) h.lt).trans ((h.below.cell (p := ⟨0, 0, none⟩) h.lt).symm.trans h.err), h.r.same (hk g (Or.inl rfl)) (fun b e => hk b (Or.inr (Or.inl e))) (fun b e => hk b (Or.inr (Or.inr e))), h.ok, h.lt, h.hg, h.hv, h.hp⟩
/-- The row grows. -/
theorem Tri.push (h : Tri w0 w T u v L g1 s1 A1 c1 B1 d1 g2 s2 A2 c2 B2 d2 g3 s3 A3 c3 B3 d3) {v' : Value} {L' : List Int} (hg : w.grownBy w' v.ownBlock) (ho : Own w' 3 1 v' L'.length (icells L')) (hf : Fresh w v v') :
    Tri w0 w' T u v' L' g1 s1 A1 c1 B1 d1 g2 s2 A2 c2 B2 d2 g3 s3 A3 c3 B3 d3 := by
  have hz := h.x.below.size
  have hh : ∀ {g : Nat} {s : PC} {A : Option Addr} {c : Nat} {B : Option Addr} {d : Nat}, LW w0 w T u g s A c B d → Off v g (.slice A s.vals.length c) (.slice B s.pairs.length d) → Off v' g (.slice A s.vals.length c) (.slice B s.pairs.length d) := fun hl hof b e hb => by
    rcases hf b e with h' | h'
    · exact hof b h' hb
    · have := hl.r.inLt hb; omega
  exact ⟨h.x.grown hg h.fresh h.ox, h.y.grown hg h.fresh h.oy, h.z.grown hg h.fresh h.oz, h.xy, h.xz, h.yz, ho, fun b e => by
    rcases hf b e with h' | h'
    · exact h.fresh b h'
    · omega, hh h.x h.ox, hh h.y h.oy, hh h.z h.oz⟩
end
end Go.Proofs.YtlfbgpncdahglaaDoor
