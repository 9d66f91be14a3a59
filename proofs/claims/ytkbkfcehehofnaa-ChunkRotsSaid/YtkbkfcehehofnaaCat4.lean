/- Before a call: the state in other words; statements that hold a label. No condition. -/
import Derived.Test.YtkbkfcehehofnaaCatV
import Derived.Scope
namespace Go.Cat
set_option linter.all false
open Go.RowKit
variable [M : Mono]

section
variable {P : Program}

theorem tab_rd1 {w : World} {F : Nat → Prop} {β : Nat → Value} {f : Nat → AV} : ∀ {L : List (Nat × AV)}, HasF f L → ∀ (t : Nat) (u : Value), Rd w F β (f t) u → Rd w F β (tab L t) u
  | [], _, _, _, _ => .junk
  | (d, x) :: r, h, t, u, hu => by
    simp only [tab]
    cases hb : Nat.beq t d with
    | true =>
      obtain rfl := Nat.eq_of_beq_eq_true hb
      exact h.1 _ _ _ _ hu
    | false => exact tab_rd1 h.2 t u hu

theorem CallOk.norm {g : FuncId} {xs ys : List AV} {st : ASt} {k : AV → ASt → Prop} {L : List (Nat × AV)} {H' : Hp} (hl : LeL xs ys) (hL : HasF st.f L) (hH : HasH st.H H') (hk : keysOk H' = true) (h : CallOk P g ys ⟨tab L, H'⟩ k) : CallOk P g xs st k := by
  obtain ⟨hlen, hz⟩ := hl.spec
  have hmem := hH.mem
  have hown : ∀ β b, Owned β H' b → Owned β st.H b := fun β b ⟨i, c, hm, hb⟩ => by obtain ⟨c0, h0, _⟩ := hmem i c hm; exact ⟨i, c0, h0, hb⟩
  refine ⟨h.1, fun w F β vs hI hs hv => ?_⟩
  have hI' : Inv w F β H' := ⟨hI.fsize, fun i c hm => by obtain ⟨c0, h0, hl⟩ := hmem i c hm; exact hl.holds (hI.holds i c0 h0), keysOk_nodup hk,
    fun b hb => hI.apart b (hown β b hb),
    fun i c i' c' b hm hm' hb hb' => by
      obtain ⟨c0, h0, _⟩ := hmem i c hm
      obtain ⟨c1, h1, _⟩ := hmem i' c' hm'
      exact hI.disj i c0 i' c1 b h0 h1 hb hb'⟩
  refine (h.2 w F β vs hI' (by omega) fun i hi => hz i (by omega) _ _ _ _ (hv i (by omega))).mono ?_
  rintro e w' ⟨v, rfl, r, st', F', β', hk, hr, hx⟩
  exact ⟨v, rfl, r, st', F', β', hk, hr, hx.os, hx.tape, hx.output, hx.size, fun b hb hno => hx.block b hb fun ho => hno (hown β b ho), hx.mono,
    fun b hb => (hx.new b hb).elim .inl fun h => h.elim (fun h => .inr (.inl h)) fun h => .inr (.inr (hown β b h)), fun b hb => (hx.owned b hb).elim .inl fun h => .inr (hown β b h),
    fun t u hu => hx.keep t u (tab_rd1 hL t u hu), hx.inv, hx.lab⟩

/-- No way back to a label. -/
def ng (Q : Exit → ASt → Prop) : Exit → ASt → Prop := fun e s => match e with
  | .goto _ => False
  | e => Q e s

theorem Ok.scope {n : Nat} {c : Code} {st : ASt} {Q : Exit → ASt → Prop} (h : Ok P n c st (ng Q)) : Ok P n (.scope c) st Q := ⟨fun C hn a w hr => by
  refine wp_scope_straight (wp_mono (h.h C hn a w hr) ?_)
  rintro e a' w' ⟨st', hr', hq⟩
  cases e with
  | goto l => exact hq.elim
  | _ => exact ⟨st', hr', hq⟩⟩
end
end Go.Cat
