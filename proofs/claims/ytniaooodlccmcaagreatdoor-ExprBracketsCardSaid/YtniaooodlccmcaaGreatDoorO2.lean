import Derived.Test.YtniaooodlccmcaaGreatDoorO
import Derived.Test.YtniaooodlccmcaaGreatDoorQx0
namespace Go.Proofs.YtniaooodlccmcaaGreatDoor
open Go.Proofs.YtniaooodlccmcaaGreatDoorW.PrintWords
def Q.nodeSlice : Kd (List Q.S38) := Kd.slice 38 Q.k38
def O.NodeOk (l : List Q.S38) : Prop := l.length ≤ 140737488355328 ∧ ∀ t ∈ l, t.f1.size ≤ 140737488351232
theorem O.node38 : O.Opens Tryz.prog 38 Q.k38 (fun v : Q.S38 => v.f1.size ≤ 140737488351232) := by
 constructor
 intro H enc w base spare held fuel cs x h hw
 obtain ⟨v, h1, h2⟩ := (O.Opens.struct (g := fun v : Int × ByteArray × Int => (⟨v.1, v.2.1, v.2.2⟩ : Q.S38)) (f := fun x : Q.S38 => (x.f0, x.f1, x.f2)) Tryz.underlying38 (by kernel_rfl)
  (O.OpensF.cons rfl (by kernel_rfl) (O.Opens.int Tryz.underlying3) (O.OpensF.cons rfl (by kernel_rfl) (O.Opens.string Tryz.underlying9) (O.OpensF.last rfl (by kernel_rfl) (O.Opens.int Tryz.underlying3)))) (fun _ => rfl)).out h hw
 exact ⟨v, h1, h2.2.1⟩
theorem O.node_opens {H : Type} {enc : TypeId × Value → H} {w : World} {base : Nat} {spare : Nat → Bool} {held : Bool} {fuel : Nat} {cs : List Value} {x : DataW H × List MemPlace}
  (h : DataW.trod enc Tryz.prog w base spare held fuel 22 cs = some x) (hw : ∀ n ∈ x.1.weights Tryz.prog 22, n ≤ reachBytes) : ∃ l, Q.nodeSlice.K w l cs ∧ O.NodeOk l := by
 obtain ⟨l, h1, h2, h3, h4⟩ := (O.Opens.slice Tryz.underlying22 (by kernel_rfl) (B := 32) (by kernel_rfl) O.node38).out h hw
 exact ⟨l, h1, by omega, h4⟩
end Go.Proofs.YtniaooodlccmcaaGreatDoor

