/- A part of the proof of the tied card of ProfileRate (chapter 53): the law returns true whatever the input. -/
import Derived.Test.YtnbcnoabbdegpaaGreatDoorZK0
import Derived.Test.YtnbcnoabbdegpaaGreatDoorZK1
import Derived.Test.YtnbcnoabbdegpaaGreatDoorZK2
import Derived.Test.YtnbcnoabbdegpaaGreatDoorZK3
import Derived.Test.YtnbcnoabbdegpaaGreatDoorZK4
import Derived.Test.YtnbcnoabbdegpaaGreatDoorZK5
import Derived.Test.YtnbcnoabbdegpaaGreatDoorZK6
import Derived.Below
set_option linter.unusedVariables false
set_option linter.unusedSimpArgs false
namespace EV
open Go Go.Proofs
theorem Known.snoc {P:Program} {g:Nat} {L:List (P2 Nat Ent)} {f:Nat} {E:Ent} (hL:Known P g L) (h:EntOK P g f E):Known P g (L ++ [⟨f,E⟩]):=fun p hp => by
  rcases List.mem_append.1 hp with hp | hp
  · exact hL p hp
  · simp only [List.mem_singleton] at hp
    subst hp
    exact h
theorem kn0:Known Tryz.prog 6 ents0:=Known.nil
theorem k0:EntOK Tryz.prog 6 14 ent0:=known base53 kn0 run0
theorem kn1:Known Tryz.prog 6 ents1:=Known.snoc kn0 k0
theorem k1:EntOK Tryz.prog 6 204 ent1:=known base53 kn1 run1
theorem kn2:Known Tryz.prog 6 ents2:=Known.snoc kn1 k1
theorem k2:EntOK Tryz.prog 6 137 ent2:=known base53 kn2 run2
theorem kn3:Known Tryz.prog 6 ents3:=Known.snoc kn2 k2
theorem k3:EntOK Tryz.prog 6 93 ent3:=known base53 kn3 run3
theorem kn4:Known Tryz.prog 6 ents4:=Known.snoc kn3 k3
theorem k4:EntOK Tryz.prog 6 93 ent4:=known base53 kn4 run4
theorem kn5:Known Tryz.prog 6 ents5:=Known.snoc kn4 k4
theorem k5:EntOK Tryz.prog 6 137 ent5:=known base53 kn5 run5
theorem kn6:Known Tryz.prog 6 ents6:=Known.snoc kn5 k5
theorem k6:EntOK Tryz.prog 6 4 ent6:=known base53 kn6 run6
#print axioms k6
end EV
namespace EV
open Go Go.Proofs Go.RowKit
def pow10:List Nat:=[1,10,100,1000,10000,100000,1000000,10000000,100000000,1000000000,10000000000,100000000000,1000000000000,10000000000000,100000000000000,1000000000000000,10000000000000000,100000000000000000,1000000000000000000,10000000000000000000]
/-- The six variables stand,the first holds the powers of ten. -/
def TabOK (w:World):Prop:=6 ≤ w.heap.size ∧ ∃ cs:Array Value,w.heap[0]? = some (.cells cs 462 (0,0)) ∧ cs.toList = pow10.map fun (n:Nat) => Value.int .u64 (n:Int)
theorem TabOK.below {w w':World} (h:TabOK w) (hb:Below w.heap.size w w'):TabOK w':=by
  obtain ⟨h1,cs,h2,h3⟩:=h
  exact ⟨Nat.le_trans h1 hb.size,cs,(hb.block 0 (by omega)).trans h2,h3⟩
theorem ent6_2:ent6.2 = [⟨462,1,0,pow10.map fun n => (⟨23,n,0,X0⟩:AV)⟩]:=rfl
theorem awake53 (w:World) (h:TabOK w):Calls Tryz.prog 4 #[] w fun e w' => e = .returned (.bool true) ∧ Below w.heap.size w w':=by
  obtain ⟨h1,cs,h2,h3⟩:=h
  have hsz:cs.size = 20:=by rw [← Array.length_toList,h3];rfl
  have hk:=k6.2 w #[] [⟨0,0,20⟩] (fun b hb => by omega) (by rw [ent6_2];rfl) (fun i p hp => ?_) (by exact trivial)
  · refine hk.mono ?_
    rintro e w' ⟨rs,pls',rfl,hv,_,_,_,K⟩
    have hv:VRs (rhoL pls') [⟨2,1,0,X0⟩] rs:=hv
    match rs,hv with
    | [u],hv =>
      have hu:u = .bool (Nat.beq 1 1):=hv.1
      subst hu
      exact ⟨rfl,⟨K.os,K.tape,K.output,K.sz,fun j hj => K.kp j hj⟩⟩
  · rw [ent6_2] at hp
    match i,hp with
    | 0,hp =>
      cases hp
      refine ⟨⟨0,0,20⟩,rfl,by change 0 < _;omega,⟨fun _ => ⟨fun e => (by cases e),?_,Nat.le_refl _,by decide,fun i hi => ?_,fun e => (by rcases e with e | e <;> cases e)⟩,fun e => (by cases e),fun e => (by cases e)⟩,fun _ => ⟨rfl,rfl⟩⟩
      · change w.shape? 0 = some (462,0 + 20)
        unfold World.shape?
        rw [h2]
        simp [hsz]
      · change i < 20 at hi
        change ∃ u,w.cell? ⟨0,0 + i,none⟩ = some u ∧ u.oneCell' = true ∧ VR (rhoL [⟨0,0,20⟩]) ((setL (pow10.map fun n => (⟨23,n,0,X0⟩:AV)) 0 cells0).get i) u
        have hl:i < pow10.length:=hi
        refine ⟨.int .u64 ((pow10[i]:Nat):Int),?_,rfl,?_⟩
        · unfold World.cell?
          rw [h2]
          simp only [Nat.zero_add]
          rw [← Array.getElem?_toList,h3]
          simp [hl]
        · rw [setL_get _ _ _ _ (by decide) (by have:maxCells = 32768:=rfl;omega)]
          rw [if_pos ⟨Nat.zero_le _,by simpa using hl⟩]
          have e:(pow10.map fun n => (⟨23,n,0,X0⟩:AV)).getD (i - 0) undefA = ⟨23,pow10[i],0,X0⟩:=by simp [List.getD_eq_getElem?_getD,hl]
          rw [e]
          have hb:∀ n ∈ pow10,n < 18446744073709551616:=by decide
          have h:=hb _ (List.getElem_mem hl)
          refine (⟨.u64,rfl,h,?_⟩:∃ k:IntKind,23 = kc k ∧ pow10[i] < md k ∧ Value.int .u64 ((pow10[i]:Nat):Int) = .int k (toI k pow10[i]))
          unfold toI
          rw [if_pos (show pow10[i] < hf .u64 from h)]
end EV
