/- OnceText: the text of the layer once is the text that the document has, each time that it is asked. No condition: the statement has no input. -/
import Derived.Test.YtelkpiadnoalcaaRows
import Derived.WalkKit
import Derived.ProofKit
import Derived.Below
import Derived.SizedLaws
namespace Go.Proofs.Ytelkpiadnoalcaa.OnceText
open Go.ChangeShapes Go.WideShapes Go.ChangeAt Go.RowKit

-- the constant that the layer's Text hands out, taken off its code
noncomputable def constOf (f : Func) : ByteArray := match f.body with
  | some (.seq _ (.seq (.region _ ops _) _)) => match ops[0]? with
    | some o => match o.op with
      | .assign (.const (.string b)) => b
      | _ => ⟨#[]⟩
    | none => ⟨#[]⟩
  | _ => ⟨#[]⟩

-- the constant that the law holds it against
noncomputable def litOf (f : Func) : ByteArray := match f.body with
  | some (.seq _ (.seq (.region _ ops _) _)) => match ops[1]? with
    | some o => match o.op with
      | .binOp _ _ _ (.const (.string b)) _ => b
      | _ => ⟨#[]⟩
    | none => ⟨#[]⟩
  | _ => ⟨#[]⟩

noncomputable def told : ByteArray := constOf Try.f7
noncomputable def held : ByteArray := litOf Try.f4

theorem same : told = held := by kernel_rfl

set_option maxHeartbeats 400000 in
theorem textCalls (w : World) : Calls Try.prog 7 #[] w fun e w' => e = .returned (.string held) ∧ w = w' := by
  go_enter Try.func7, Try.ntmps7
  go_wp2
  go_ret
  exact ⟨by rw [← same]; rfl, rfl⟩

-- the law's function, its long constant under a name
noncomputable def g : Func :=
  { Try.f4 with
    body := some (
      (Code.region 0
            #[{ dst := some 0, op := Op.assign (Operand.const (Value.bool false)), type := 4,
                pos := "law.go:25", after := #[], guard := none }]
            false).seq
        ((Code.region 1
              #[{ dst := some 1,
                  op := Op.call { callee := Callee.value (Operand.func 7), args := #[], argTypes := #[] },
                  type := 9, pos := "law.go:26", after := #[], guard := none },
                { dst := some 2,
                  op := Op.binOp BinOp.eql 9 (Operand.tmp 1) (Operand.const (Value.string held)) 9,
                  type := 4, pos := "law.go:26", after := #[{ on := 0, ground := Ground.data }], guard := none },
                { dst := some 3, op := Op.move (Operand.tmp 2), type := 4, pos := "law.go:26",
                  after := #[{ on := 1, ground := Ground.data }, { on := 0, ground := Ground.chain }],
                  guard := none },
                { dst := some 4,
                  op := Op.call { callee := Callee.value (Operand.func 7), args := #[], argTypes := #[] },
                  type := 9, pos := "law.go:26",
                  after := #[{ on := 2, ground := Ground.chain }, { on := 2, ground := Ground.guard }],
                  guard := some (2, true) },
                { dst := some 5,
                  op := Op.call { callee := Callee.value (Operand.func 7), args := #[], argTypes := #[] },
                  type := 9, pos := "law.go:26",
                  after := #[{ on := 3, ground := Ground.chain }, { on := 2, ground := Ground.guard }],
                  guard := some (2, true) },
                { dst := some 6, op := Op.binOp BinOp.eql 9 (Operand.tmp 4) (Operand.tmp 5) 9, type := 4,
                  pos := "law.go:26",
                  after :=
                    #[{ on := 3, ground := Ground.data }, { on := 4, ground := Ground.data },
                      { on := 2, ground := Ground.guard }],
                  guard := some (2, true) },
                { dst := some 7,
                  op := Op.pick (Operand.tmp 3) (Operand.tmp 6) (Operand.const (Value.bool false)),
                  type := 4, pos := "law.go:26",
                  after := #[{ on := 2, ground := Ground.data }, { on := 5, ground := Ground.data }],
                  guard := none },
                { dst := some 0, op := Op.assign (Operand.tmp 7), type := 4, pos := "law.go:26",
                  after :=
                    #[{ on := 6, ground := Ground.data }, { on := 4, ground := Ground.chain },
                      { on := 0, ground := Ground.phase }, { on := 1, ground := Ground.phase },
                      { on := 2, ground := Ground.phase }, { on := 3, ground := Ground.phase },
                      { on := 4, ground := Ground.phase }, { on := 5, ground := Ground.phase },
                      { on := 6, ground := Ground.phase }],
                  guard := none }]
              false).seq
          Code.ret)) }

theorem g_is : g = Try.f4 := by kernel_rfl
theorem func : Try.prog.funcs[4]? = some g := by rw [g_is]; exact Try.func4
theorem ntmps : g.ntmps = 8 := rfl

set_option maxHeartbeats 400000 in
theorem walk (w : World) : Calls Try.prog 4 #[] w fun e w' => e = .returned (.bool true) ∧ w = w' := by
  go_enter func, ntmps
  go_wp2_with (first | (go_at_call 7; refine (textCalls _).mono ?_; rintro e w' ⟨rfl, rfl⟩))
  go_ret
  exact ⟨by first | rfl | simp, rfl⟩

theorem own : ownKnob Try.prog.godebug = none := by kernel_rfl
set_option maxRecDepth 100000 in
theorem lifted (os : Os) (started : os.Started) (H : Type) (enc : TypeId × Value → H) :
    ReturnsInHanded {} Try.checked os 4 .any (Rows.onceTextSpec.pre6 enc Try.prog Try.f4 Rows.onceTextRow.domain false) (Rows.onceTextSpec.post enc Try.prog Try.f4 false true false false) := by
  refine returnsInHanded_of_change_sized (C := Try.checked) own started (by kernel_rfl) Try.func4
    (ChangeSpec.witness6 (enc := enc) (C := Try.checked) false ⟨#[], #[], []⟩ 8 (by kernel_rfl) (by kernel_rfl) (by kernel_rfl) (by kernel_rfl)) ?_
  intro W base args ds gs before hval0 hW hcnd hsz0 _
  have hval : ∀ (j : Nat) t v, Try.f4.params[j]? = some t → args[j]? = some v → Value.okWide Try.prog W .any base t v := hval0
  have hW' := hW
  obtain ⟨p, q, hA0, hV, rfl, hfz, hnd⟩ := hW
  have hA : DataW.TrodAll enc Try.prog W 0 (fun _ => true) true Try.f4.params.toList args.toList ds p := hA0
  rw [Try.params4] at hA hval
  obtain ⟨rfl, rfl, rfl⟩ := trodAll_none hA
  obtain ⟨rfl, rfl⟩ := trodVars_none hV
  clear hA0 hval0 hsz0
  refine (walk W).mono fun e W' ⟨he, bel⟩ => ?_
  subst he; subst bel
  exact ⟨_, rfl, _, _, _, [], _, [], hW', trodAll_mk1 (shut_bool Try.underlying4 _), trodAll_mk0, rfl, World.keptBut_refl _ _, fun h => by cases h⟩
theorem proved : Rows.OnceTextSaid :=
  OpenClaim.holds_of_wide 4 Try.f4 rfl rfl rfl rfl rfl rfl rfl ⟨rfl, rfl, rfl, rfl, rfl⟩ rfl rfl rfl rfl rfl (by kernel_rfl) Try.func4 (by kernel_rfl)
    (of_decide_eq_true (by kernel_rfl)) (by unfold Func.isWrapper; first | (rw [if_pos (by decide +kernel)]; kernel_rfl) | (rw [if_neg (by decide +kernel)]; exact ⟨rfl, rfl⟩))
    (fun os started H enc _ => lifted os started H enc)
end Go.Proofs.Ytelkpiadnoalcaa.OnceText
namespace Go.Proofs.Ytelkpiadnoalcaa
/-- The row, under a short name, for the claim. -/
theorem onceText_holds : Rows.OnceTextSaid := OnceText.proved
end Go.Proofs.Ytelkpiadnoalcaa
#print axioms Go.Proofs.Ytelkpiadnoalcaa.onceText_holds
