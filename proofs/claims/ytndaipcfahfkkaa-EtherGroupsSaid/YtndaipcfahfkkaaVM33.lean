/- A law's contract, from the machine's answer. -/
import Derived.Test.YtndaipcfahfkkaaVM32
namespace Go.VM
open Go.RowKit Go.ChangeShapes Go.WideShapes

section
variable {H : Type} {enc : TypeId × Value → H} {P : Program}

/-- THE CONTRACT: for all arguments of its types the machine answers 'true'. -/
theorem contract_of_vm {F : Nat → Option Entry} (hF : TableOk P F) {f tb : Nat} {fn : Func} {vf : VF} {s : ChangeSpec} {apart fresh handsOn : Bool} (hf : F f = some (.code vf)) (hl : laidOutB P = true)
    (hps : (fn.params.toList.all fun t => okT P 30 t) = true) (hrd : (fn.params.toList.all fun t => P.readableRec t && decide (t < P.types.size)) = true) (hres : fn.resultTypes.toList = [tb]) (htb : P.underlying tb = some .bool) (hvars : s.vars = [])
    (hspec : ∀ (ds : List (DataW H)), ds.length = fn.params.toList.length → s.fn H ds = { results := [.lit (.bool true)], args := ds }) (hlaw : ∀ vs, TyVs P fn.params.toList vs → ∃ n, call F n f vs [] = some (.bool true, []))
    {W : World} {base : Nat} {args : Array Value} {ds gs : List (DataW H)} {before : List MemPlace} (hval : ∀ (j : Nat) t v, fn.params[j]? = some t → args[j]? = some v → Value.okWide P W .any base t v)
    (hW : DataW.Whole enc P fn.params.toList s.vars apart W args.toList ds gs before) :
    Calls P f args W fun e W' => ∃ v, e = .returned v ∧ s.post enc P fn apart fresh handsOn false W args v W' := by
  have hW0 := hW
  have hlt := hW.lt
  rw [hvars] at hW
  obtain ⟨p, q, hA, hV, rfl, _, _⟩ := hW
  obtain ⟨rfl, rfl⟩ := trodVars_none hV
  obtain ⟨us, k1, k2⟩ := trodAll_tyv hA (fun j t v h1 h2 => hval j t v (by rw [← Array.getElem?_toList]; exact h1) (by rw [← Array.getElem?_toList]; exact h2)) hps
  have hds := (trodAll_lens hA).2
  obtain ⟨n, hcall⟩ := hlaw us k2
  have hc := calls_of_vm hF (cs := args.toList) hf hcall k1
  refine hc.mono fun e W' ⟨he, hb⟩ => ⟨_, he, ds, [], p ++ [], [], p, [], hW0, ?_, ?_, ?_, hb.frame _, fun hh => by cases hh⟩
  · rw [List.append_nil, hspec ds hds, hres]
    have hsz : fn.resultTypes.size = 1 := by
      have := congrArg List.length hres
      simpa using this
    have hrl : (Value.bool true).resultList fn.resultTypes.size = [.bool true] := by
      rw [hsz]; rfl
    rw [hrl]
    exact ⟨[], [], ⟨1, by simp [DataW.trod, Value.cells, htb]⟩, rfl, rfl⟩
  · rw [List.append_nil, hspec ds hds]
    refine trodAll_stays hl hb hA hrd fun x hx => hlt x (List.mem_append.2 (.inl hx))
  · rw [List.append_nil, hspec ds hds, hvars]
    exact rfl
end
end Go.VM
