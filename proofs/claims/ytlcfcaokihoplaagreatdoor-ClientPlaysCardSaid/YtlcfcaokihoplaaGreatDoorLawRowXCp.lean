-- Cut.
import GoSem.Claim
import GoSem.ClaimJoined
import Derived.WalkKit
import Derived.ProofKit
import Derived.OpenShut
import Derived.Carry
import Derived.ChangeOld
import Derived.Below
import Derived.SizedLaws
import Derived.Handed
import Derived.LaidLaws
import Derived.LaidHandle
import Derived.Stop.Joined
namespace Go.Proofs.YtlcfcaokihoplaaGreatDoor.LawRow
open Go.ChangeShapes Go.WideShapes Go.ChangeAt Go.RowKit
section
variable {H : Type} {enc : TypeId × Value → H} {P : Program} {W W' : World}
theorem trodAll_stays (hl : laidOutB P = true) (hb : Below W.heap.size W W') : ∀ {ts : List TypeId} {vs : List Value} {ds : List (DataW H)} {ps : List MemPlace},
  (ts.all fun t => P.readableRec t && decide (t < P.types.size)) = true → DataW.TrodAll enc P W 0 (fun _ => true) true ts vs ds ps → (∀ x ∈ ps, x.block < W.heap.size) →
  DataW.TrodAll enc P W' 0 (fun b => decide (b < W.heap.size)) true ts vs ds ps
 | [], vs, ds, ps, _, h, _ => by
  cases vs <;> cases ds <;> simp [DataW.TrodAll] at h ⊢
  exact h
 | t :: ts, vs, ds, ps, hr, h, hlt => by
  obtain ⟨v, vs', d, ds', p, q, rfl, rfl, rfl, h1, h2⟩ := trodAll_cons h
  simp only [List.all_cons, Bool.and_eq_true, decide_eq_true_eq] at hr
  refine trodAll_cons_mk (Below.trod hl hr.1.1 hr.1.2 h1 hb (fun x hx => hlt x (by simp [hx]))) ?_
  exact trodAll_stays hl hb hr.2 h2 (fun x hx => hlt x (by simp [hx]))
end
theorem lifted {C : Checked} {os : Os} {f : FuncId} {fn : Func} {s : ChangeSpec} {tb : TypeId} {H : Type} {enc : TypeId × Value → H}
  (own : ownKnob C.prog.godebug = none) (started : os.Started) (noInit : C.prog.inits.idxOf? f = none) (hfn : C.prog.funcs[f]? = some fn)
  (hvars : s.vars = []) (hres : fn.resultTypes = #[tb]) (hb : C.prog.underlying tb = some .bool) (hlaid : laidOutB C.prog = true)
  (hread : (fn.params.toList.all fun t => C.prog.readableRec t && decide (t < C.prog.types.size)) = true)
  (hspec : ∀ ds : List (DataW H), ds.length = fn.params.size → s.fn H ds = { results := [.lit (.bool true)], args := ds })
  (witness : ∃ (w : World) (tape : Tape) (i : Input), w.os = os ∧ (w.forCall tape i).Shaped C.prog ∧ i.vars = [] ∧ Input.okWide C.prog (w.forCall tape i) .any w.heap.size f i ∧
   s.pre6 enc C.prog fn [] false (w.forCall tape i).memory i.args ∧ ({} : Assume).holds C.prog (lone (Frame.enter C.prog f i.args .normal) [] (w.forCall tape i)))
  (walk : ∀ (W : World) (base : Nat) (args : Array Value) (ds : List (DataW H)) (p : List MemPlace),
   (∀ (j : Nat) t v, fn.params[j]? = some t → args[j]? = some v → Value.okWide C.prog W .any base t v) →
   DataW.TrodAll enc C.prog W 0 (fun _ => true) true fn.params.toList args.toList ds p →
   (DataW.weightsEach C.prog fn.params.toList ds).all (· ≤ reachBytes) = true →
   Calls C.prog f args W fun e W' => e = .returned (.bool true) ∧ Below W.heap.size W W') :
  ReturnsInHanded {} C os f .any (s.pre6 enc C.prog fn [] false) (s.post enc C.prog fn false true false false) := by
 refine returnsInHanded_of_change_sized own started noInit hfn witness ?_
 intro W base args ds gs before hval hW hcnd hsz _
 have hW' := hW
 have hlt := hW.lt
 obtain ⟨p, q, hA, hV, rfl, hfz, hnd⟩ := hW
 rw [hvars] at hV
 obtain ⟨rfl, rfl⟩ := trodVars_none hV
 have hn : ds.length = fn.params.size := by
  have : ∀ {ts : List TypeId} {vs : List Value} {ds : List (DataW H)} {ps : List MemPlace}, DataW.TrodAll enc C.prog W 0 (fun _ => true) true ts vs ds ps → ds.length = ts.length := by
   intro ts
   induction ts with
   | nil => intro vs ds ps h; cases vs <;> cases ds <;> simp_all [DataW.TrodAll]
   | cons t ts ih =>
    intro vs ds ps h
    obtain ⟨v, vs', d, ds', p, q, rfl, rfl, rfl, h1, h2⟩ := trodAll_cons h
    simp [ih h2]
  rw [this hA]; simp
 have hvt : s.plain.varTypes C.prog = [] := by
  simp [DataSpec.varTypes, ChangeSpec.plain, hvars]
 rw [hvt, List.append_nil, List.append_nil] at hsz
 have hargs : ∀ (j : Nat) t v, fn.params[j]? = some t → args[j]? = some v → Value.okWide C.prog W .any base t v := hval
 refine (walk W base args ds p hargs hA hsz).mono fun e W' ⟨he, bel⟩ => ?_
 subst he
 have hs := hspec ds hn
 refine ⟨_, rfl, ds, [], p, [], p, [], ?_, ?_, ?_, ?_, bel.frame _, fun h => by cases h⟩
 ·rw [List.append_nil] at hW'; exact hW'
 ·rw [hres, List.append_nil, hs]
  exact trodAll_mk1 (shut_bool hb _)
 ·rw [List.append_nil, hs]
  exact trodAll_stays hlaid bel hread hA (fun x hx => hlt x (by simp [hx]))
 ·rw [hvars, List.append_nil, hs]; exact rfl
end Go.Proofs.YtlcfcaokihoplaaGreatDoor.LawRow

namespace Go.Proofs.YtlcfcaokihoplaaGreatDoor.LawRowX
open Go.ChangeShapes Go.WideShapes Go.ChangeAt Go.RowKit
theorem lifted {C : Checked} {L : List (String × DataW Unit)} {os : Os} {f : FuncId} {fn : Func} {s : ChangeSpec} {tb : TypeId} {H : Type} {enc : TypeId × Value → H}
  (own : ownKnob C.prog.godebug = none) (started : os.Started) (noInit : C.prog.inits.idxOf? f = none) (hfn : C.prog.funcs[f]? = some fn)
  (hvars : s.vars = []) (hres : fn.resultTypes = #[tb]) (hb : C.prog.underlying tb = some .bool) (hlaid : laidOutB C.prog = true)
  (hread : (fn.params.toList.all fun t => C.prog.readableRec t && decide (t < C.prog.types.size)) = true)
  (hspec : ∀ ds : List (DataW H), ds.length = fn.params.size → s.fn H ds = { results := [.lit (.bool true)], args := ds })
  (witness : ∃ (w : World) (tape : Tape) (i : Input), w.os = os ∧ (w.forCall tape i).Shaped C.prog ∧ i.vars = [] ∧ Input.okWide C.prog (w.forCall tape i) .any w.heap.size f i ∧
   ((s.pre enc C.prog fn [] false (w.forCall tape i).memory i.args ∧ laidMetH C.prog L (w.forCall tape i).memory) ∧ sizedMet enc C.prog fn (OpenSpec.ofChange s) false (w.forCall tape i).memory i.args) ∧ ({} : Assume).holds C.prog (lone (Frame.enter C.prog f i.args .normal) [] (w.forCall tape i)))
  (walk : ∀ (W : World) (base : Nat) (args : Array Value) (ds : List (DataW H)) (p : List MemPlace),
   (∀ (j : Nat) t v, fn.params[j]? = some t → args[j]? = some v → Value.okWide C.prog W .any base t v) →
   DataW.TrodAll enc C.prog W 0 (fun _ => true) true fn.params.toList args.toList ds p →
   (DataW.weightsEach C.prog fn.params.toList ds).all (· ≤ reachBytes) = true →
   Calls C.prog f args W fun e W' => e = .returned (.bool true) ∧ Below W.heap.size W W') :
  ReturnsInHanded {} C os f .any (fun w args => (s.pre enc C.prog fn [] false w args ∧ laidMetH C.prog L w) ∧ sizedMet enc C.prog fn (OpenSpec.ofChange s) false w args) (s.post enc C.prog fn false true false false) := by
 refine returnsInHanded_of_change_and (X := fun w _ => laidMetH C.prog L w) (fun _ _ _ hh h => h.of_heap hh) own started noInit hfn witness ?_
 intro W base args ds gs before hval hW hcnd hsz _ _
 have hW' := hW
 have hlt := hW.lt
 obtain ⟨p, q, hA, hV, rfl, hfz, hnd⟩ := hW
 rw [hvars] at hV
 obtain ⟨rfl, rfl⟩ := trodVars_none hV
 have hn : ds.length = fn.params.size := by
  have : ∀ {ts : List TypeId} {vs : List Value} {ds : List (DataW H)} {ps : List MemPlace}, DataW.TrodAll enc C.prog W 0 (fun _ => true) true ts vs ds ps → ds.length = ts.length := by
   intro ts
   induction ts with
   | nil => intro vs ds ps h; cases vs <;> cases ds <;> simp_all [DataW.TrodAll]
   | cons t ts ih =>
    intro vs ds ps h
    obtain ⟨v, vs', d, ds', p, q, rfl, rfl, rfl, h1, h2⟩ := trodAll_cons h
    simp [ih h2]
  rw [this hA]; simp
 have hvt : s.plain.varTypes C.prog = [] := by
  simp [DataSpec.varTypes, ChangeSpec.plain, hvars]
 rw [hvt, List.append_nil, List.append_nil] at hsz
 have hargs : ∀ (j : Nat) t v, fn.params[j]? = some t → args[j]? = some v → Value.okWide C.prog W .any base t v := hval
 refine (walk W base args ds p hargs hA hsz).mono fun e W' ⟨he, bel⟩ => ?_
 subst he
 have hs := hspec ds hn
 refine ⟨_, rfl, ds, [], p, [], p, [], ?_, ?_, ?_, ?_, bel.frame _, fun h => by cases h⟩
 ·rw [List.append_nil] at hW'; exact hW'
 ·rw [hres, List.append_nil, hs]
  exact trodAll_mk1 (shut_bool hb _)
 ·rw [List.append_nil, hs]
  exact LawRow.trodAll_stays hlaid bel hread hA (fun x hx => hlt x (by simp [hx]))
 ·rw [hvars, List.append_nil, hs]; exact rfl
end Go.Proofs.YtlcfcaokihoplaaGreatDoor.LawRowX
