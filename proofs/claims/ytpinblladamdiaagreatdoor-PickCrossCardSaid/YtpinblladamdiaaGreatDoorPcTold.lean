/- plain.Told: of no error 0; of one of the project's own numbers that number. errors.As is walked as it stands, at a target of that number's type. -/
import Derived.Test.YtpinblladamdiaaGreatDoorPcx0
import Derived.LaidEql
import Derived.Stop.Asserts
import Derived.RowKitTokens
namespace Go.Proofs.YtpinblladamdiaaGreatDoor.Pc
open Go.RowKit Go.Extern.Stop Go.Stop Go.Extern Go.Proofs.YtpinblladamdiaaGreatDoorW.PrintWords Go.Proofs.YtpinblladamdiaaGreatDoorW.PrintLast Go.Proofs.YtpinblladamdiaaGreatDoorW.PrintMore
set_option linter.unusedVariables false
theorem valueOfP (t : Addr) (w : World) : (ReflectliteValue.unpack (.iface 54 (.pointer (some t)))).run Tryz.prog w
  = .ok (.agg #[.pointer (some ⟨10, 54, none⟩), .pointer (some ⟨w.heap.size, 0, none⟩), .int .u64 150]) (w.alloc (.cells #[.pointer (some t)] 54)) := by kernel_rfl
theorem typeP (a : Addr) (w : World) : (ReflectliteValue.methodAny (ReflectliteValue.valueError "reflectlite.Value.Type" 0) (fun t _ _ _ => ReflectliteType.toType t) #[.agg #[.pointer (some ⟨10, 54, none⟩), .pointer (some a), .int .u64 150]]).run Tryz.prog w
  = .ok (.iface 99 (.agg #[.pointer (some ⟨10, 54, none⟩)])) w := by kernel_rfl
theorem methodKind (h : Value) (w : World) : (Go.method 345 99 (.agg #[h]) "Kind").run Tryz.prog w = .ok (182, h) w := by kernel_rfl
theorem kindP (w : World) : ((ReflectliteType.abiMethod fun t => (fun a : Nat => Value.int IntKind.u8 (a : Int)) <$> Rtype.kind t) #[.pointer (some ⟨10, 54, none⟩)]).run Tryz.prog w = .ok (.int .u8 22) w := by kernel_rfl
theorem kindE (w : World) : ((ReflectliteType.abiMethod fun t => (fun a : Nat => Value.int IntKind.u8 (a : Int)) <$> Rtype.kind t) #[.pointer (some ⟨10, 44, none⟩)]).run Tryz.prog w = .ok (.int .u8 2) w := by kernel_rfl
theorem rlm (z : Sem Value) (f : TypeId → Addr → Nat → Nat → Sem Value) (v : Value) :
  ReflectliteValue.method z f #[v] = (do match ← ReflectliteValue.parts v with | none => z | some (t, a, fl) => f t a fl (fl % 32)) := rfl
theorem partsP (a : Addr) (w : World) : (ReflectliteValue.parts (.agg #[.pointer (some ⟨10, 54, none⟩), .pointer (some a), .int .u64 150])).run Tryz.prog w = .ok (some (54, a, 150)) w := by kernel_rfl
theorem isNilP (a p : Addr) (W : World) (ha : W.cell? a = some (.pointer (some p))) :
  (ReflectliteValue.method (ReflectliteValue.valueError "reflectlite.Value.IsNil" 0) ReflectliteValue.isNil #[.agg #[.pointer (some ⟨10, 54, none⟩), .pointer (some a), .int .u64 150]]).run Tryz.prog W = .ok (.bool false) W := by
 rw [rlm]
 simp only [Sem.run_bind, partsP, Result.andThen]
 simp [ReflectliteValue.isNil, loadVar, isAgg, underlying, Tryz.underlying54, ha, Result.andThen]
theorem methodElem (h : Value) (w : World) : (Go.method 345 99 (.agg #[h]) "Elem").run Tryz.prog w = .ok (192, .agg #[h]) w := by kernel_rfl
theorem methodImplements (h : Value) (w : World) : (Go.method 345 99 (.agg #[h]) "Implements").run Tryz.prog w = .ok (193, .agg #[h]) w := by kernel_rfl
theorem methodAssignableTo (h : Value) (w : World) : (Go.method 345 99 (.agg #[h]) "AssignableTo").run Tryz.prog w = .ok (190, .agg #[h]) w := by kernel_rfl
theorem elemTP (w : World) : (ReflectliteType.method ReflectliteType.elem #[.agg #[.pointer (some ⟨10, 54, none⟩)]]).run Tryz.prog w = .ok (.iface 99 (.agg #[.pointer (some ⟨10, 44, none⟩)])) w := by kernel_rfl
theorem implementsE (w : World) : (ReflectliteType.relation "Implements" ReflectliteType.implements_ #[.agg #[.pointer (some ⟨10, 44, none⟩)], .iface 99 (.agg #[.pointer (some ⟨10, 28, none⟩)])]).run Tryz.prog w = .ok (.bool true) w := by kernel_rfl
theorem typeOfE (v : Value) (w : World) : (ReflectliteType.typeOf #[.iface 44 v]).run Tryz.prog w = .ok (.iface 99 (.agg #[.pointer (some ⟨10, 44, none⟩)])) w := by kernel_rfl
theorem assignableE (w : World) : (ReflectliteType.relation "AssignableTo" ReflectliteType.assignableTo #[.agg #[.pointer (some ⟨10, 44, none⟩)], .iface 99 (.agg #[.pointer (some ⟨10, 44, none⟩)])]).run Tryz.prog w = .ok (.bool true) w := by kernel_rfl
theorem valueOfE (c : Int) (w : World) : (ReflectliteValue.unpack (.iface 44 (.int .i64 c))).run Tryz.prog w
  = .ok (.agg #[.pointer (some ⟨10, 44, none⟩), .pointer (some ⟨w.heap.size, 0, none⟩), .int .u64 130]) (w.alloc (.cells #[.int .i64 c] 44)) := by kernel_rfl
theorem elemOfP (w : World) : (Rtype.elem? 54).run Tryz.prog w = .ok (some 44) w := by kernel_rfl
theorem mkE (p : Addr) (w : World) : (ReflectliteValue.mk 44 p ReflectliteValue.flagAddr).run Tryz.prog w = .ok (.agg #[.pointer (some ⟨10, 44, none⟩), .pointer (some p), .int .u64 386]) w := by kernel_rfl
theorem elemVP (a p : Addr) (W : World) (ha : W.cell? a = some (.pointer (some p))) :
  (ReflectliteValue.method (ReflectliteValue.valueError "reflectlite.Value.Elem" 0) ReflectliteValue.elem #[.agg #[.pointer (some ⟨10, 54, none⟩), .pointer (some a), .int .u64 150]]).run Tryz.prog W
   = .ok (.agg #[.pointer (some ⟨10, 44, none⟩), .pointer (some p), .int .u64 386]) W := by
 rw [rlm]
 simp only [Sem.run_bind, partsP, Result.andThen]
 simp [ReflectliteValue.elem, loadVar, isAgg, underlying, Tryz.underlying54, ha, Result.andThen, elemOfP, mkE]
theorem rls (v x : Value) : ReflectliteValue.set #[v, x] = (do
  let (some (dst, a, fl), some (src, b, _)) := (← ReflectliteValue.parts v, ← ReflectliteValue.parts x)
   | unsupported (.noEntry "extern/(internal/reflectlite.Value).Set.zeroValue")
  if fl / ReflectliteValue.flagAddr % 2 == 0 then unsupported (.noEntry "extern/(internal/reflectlite.Value).Set.unaddressable")
  let val ← loadVar src b
  if ← Rtype.directlyAssignable dst src then storeVar dst a val
  else if ← Rtype.implements dst src then
   if (← Rtype.kind src) == 20 then
    match val with
    | .nilIface => unsupported (.noEntry "extern/reflectlite: a nil value of one interface type handed on as a value of another")
    | _ => storeVar dst a val
   else storeVar dst a (.iface src val)
  else panicString ("reflectlite.Set: value of type " ++ (← Rtype.spelt src) ++ " is not assignable to type " ++ (← Rtype.spelt dst))
  pure (.tuple #[])) := rfl
theorem partsEa (a : Addr) (w : World) : (ReflectliteValue.parts (.agg #[.pointer (some ⟨10, 44, none⟩), .pointer (some a), .int .u64 386])).run Tryz.prog w = .ok (some (44, a, 386)) w := by kernel_rfl
theorem partsE (a : Addr) (w : World) : (ReflectliteValue.parts (.agg #[.pointer (some ⟨10, 44, none⟩), .pointer (some a), .int .u64 130])).run Tryz.prog w = .ok (some (44, a, 130)) w := by kernel_rfl
theorem directE (w : World) : (Rtype.directlyAssignable 44 44).run Tryz.prog w = .ok true w := by kernel_rfl
theorem setE (ta b : Addr) (c : Int) (old : Value) (W : World) (hb : W.cell? b = some (.int .i64 c)) (ht : W.cell? ta = some old) (hf : W.frozen? ta = false) :
  (ReflectliteValue.set #[.agg #[.pointer (some ⟨10, 44, none⟩), .pointer (some ta), .int .u64 386], .agg #[.pointer (some ⟨10, 44, none⟩), .pointer (some b), .int .u64 130]]).run Tryz.prog W
   = .ok (.tuple #[]) (W.setCell ta (.int .i64 c)) := by
 rw [rls]
 simp only [Sem.run_bind, partsEa, partsE, Result.andThen]
 simp [ReflectliteValue.flagAddr, loadVar, isAgg, underlying, Tryz.underlying44, hb, Result.andThen, directE, storeVar, Value.cells, storeCells, Addr.add]
 rw [run_store Tryz.prog W ta _ _ (by rfl)]
 simp [ht, hf]
set_option maxHeartbeats 4000000 in
set_option maxRecDepth 100000 in
/-- errors.As, where the error's own type is the target's: true, and the target's variable gets the number. -/
theorem as_hit (c : Int) (t : Addr) (old : Value) (w : World) (hg : w.cell? ⟨0, 0, none⟩ = some (.iface 99 (.agg #[.pointer (some ⟨10, 28, none⟩)]))) (ht0 : w.cell? t = some old) (hf0 : w.frozen? t = false) :
  Calls Tryz.prog 26 #[.iface 44 (.int .i64 c), .iface 54 (.pointer (some t))] w fun ev w' => ev = .returned (.bool true) ∧ w' = ((((w.alloc (.cells #[.pointer (some t)] 54)).alloc (.cells #[.pointer (some ⟨10, 54, none⟩), .pointer (some ⟨w.heap.size, 0, none⟩), .int .u64 150] 67)).alloc (.cells #[.pointer (some ⟨10, 54, none⟩), .pointer (some ⟨w.heap.size, 0, none⟩), .int .u64 150] 67)).alloc (.cells #[.int .i64 c] 44)).setCell t (.int .i64 c) := by
 have h6 := @run_callFunc_extern Tryz.prog 38 _ (fun args => ReflectliteValue.unpack (args.getD 0 (.tuple #[]))) Tryz.func38 (by kernel_rfl) (by kernel_rfl) (by kernel_rfl) (by kernel_rfl)
 have h7 := @run_callFunc_extern Tryz.prog 39 _ (ReflectliteValue.methodAny (ReflectliteValue.valueError "reflectlite.Value.Type" 0) (fun t _ _ _ => ReflectliteType.toType t)) Tryz.func39 (by kernel_rfl) (by kernel_rfl) (by kernel_rfl) (by kernel_rfl)
 have h8 := @run_callFunc_extern Tryz.prog 40 _ (ReflectliteValue.method (ReflectliteValue.valueError "reflectlite.Value.IsNil" 0) ReflectliteValue.isNil) Tryz.func40 (by kernel_rfl) (by kernel_rfl) (by kernel_rfl) (by kernel_rfl)
 have h27 := @run_callFunc_extern Tryz.prog 182 _ (ReflectliteType.abiMethod fun t => do pure (.int .u8 (← Rtype.kind t))) Tryz.func182 (by kernel_rfl) (by kernel_rfl) (by kernel_rfl) (by kernel_rfl)
 have h37 := @run_callFunc_extern Tryz.prog 192 _ (ReflectliteType.method ReflectliteType.elem) Tryz.func192 (by kernel_rfl) (by kernel_rfl) (by kernel_rfl) (by kernel_rfl)
 have h38 := @run_callFunc_extern Tryz.prog 193 _ (ReflectliteType.relation "Implements" ReflectliteType.implements_) Tryz.func193 (by kernel_rfl) (by kernel_rfl) (by kernel_rfl) (by kernel_rfl)
 have h10 := @run_callFunc_extern Tryz.prog 70 _ ReflectliteType.typeOf Tryz.func70 (by kernel_rfl) (by kernel_rfl) (by kernel_rfl) (by kernel_rfl)
 have h35 := @run_callFunc_extern Tryz.prog 190 _ (ReflectliteType.relation "AssignableTo" ReflectliteType.assignableTo) Tryz.func190 (by kernel_rfl) (by kernel_rfl) (by kernel_rfl) (by kernel_rfl)
 have h11 := @run_callFunc_extern Tryz.prog 71 _ (ReflectliteValue.method (ReflectliteValue.valueError "reflectlite.Value.Elem" 0) ReflectliteValue.elem) Tryz.func71 (by kernel_rfl) (by kernel_rfl) (by kernel_rfl) (by kernel_rfl)
 have h12 := @run_callFunc_extern Tryz.prog 72 _ ReflectliteValue.set Tryz.func72 (by kernel_rfl) (by kernel_rfl) (by kernel_rfl) (by kernel_rfl)
 have tO := typeOfE
 have mA := methodAssignableTo
 have a25 := assignableE
 have v25 := valueOfE
 have f6 := valueOfP
 have f7 := typeP
 have mK := methodKind
 have mE := methodElem
 have mI := methodImplements
 have k27 := kindP
 have k25 := kindE
 have e27 := elemTP
 have i25 := implementsE
 have n8 := isNilP ⟨w.heap.size, 0, none⟩ t ((w.alloc (.cells #[.pointer (some t)] 54)).alloc (.cells #[.pointer (some ⟨10, 54, none⟩), .pointer (some ⟨w.heap.size, 0, none⟩), .int .u64 150] 67)) (by simp)
 have hlt : 0 < w.heap.size := by
  rcases Nat.lt_or_ge 0 w.heap.size with h | h
  ·exact h
  ·simp [World.cell?, Array.getElem?_eq_none h] at hg
 have hg2 : ((w.alloc (.cells #[.pointer (some t)] 54)).alloc (.cells #[.pointer (some ⟨10, 54, none⟩), .pointer (some ⟨w.heap.size, 0, none⟩), .int .u64 150] 67)).cell? ⟨0, 0, none⟩ = some (.iface 99 (.agg #[.pointer (some ⟨10, 28, none⟩)])) := by
  rw [World.cell?_alloc_lt _ _ ⟨0, 0, none⟩ (by simp <;> omega), World.cell?_alloc_lt _ _ ⟨0, 0, none⟩ hlt]; exact hg
 have htl : t.block < w.heap.size := by
  rcases Nat.lt_or_ge t.block w.heap.size with h | h
  ·exact h
  ·simp [World.cell?, Array.getElem?_eq_none h] at ht0
 have el := elemVP ⟨w.heap.size, 0, none⟩ t (((w.alloc (.cells #[.pointer (some t)] 54)).alloc (.cells #[.pointer (some ⟨10, 54, none⟩), .pointer (some ⟨w.heap.size, 0, none⟩), .int .u64 150] 67)).alloc (.cells #[.pointer (some ⟨10, 54, none⟩), .pointer (some ⟨w.heap.size, 0, none⟩), .int .u64 150] 67)) (by rw [World.cell?_alloc_lt _ _ ⟨w.heap.size, 0, none⟩ (by simp <;> omega)]; simp)
 have st := setE t ⟨w.heap.size + 1 + 1 + 1, 0, none⟩ c old ((((w.alloc (.cells #[.pointer (some t)] 54)).alloc (.cells #[.pointer (some ⟨10, 54, none⟩), .pointer (some ⟨w.heap.size, 0, none⟩), .int .u64 150] 67)).alloc (.cells #[.pointer (some ⟨10, 54, none⟩), .pointer (some ⟨w.heap.size, 0, none⟩), .int .u64 150] 67)).alloc (.cells #[.int .i64 c] 44))
  (by rw [World.cell?_alloc_at _ _ _ _ (by simp)]; rfl)
  (by rw [World.cell?_alloc_lt _ _ t (by simp <;> omega), World.cell?_alloc_lt _ _ t (by simp <;> omega), World.cell?_alloc_lt _ _ t (by simp <;> omega), World.cell?_alloc_lt _ _ t htl]; exact ht0)
  (by rw [World.frozen?_alloc_old _ _ t (by simp <;> omega), World.frozen?_alloc_old _ _ t (by simp <;> omega), World.frozen?_alloc_old _ _ t (by simp <;> omega), World.frozen?_alloc_old _ _ t (Nat.ne_of_lt htl)]; exact hf0)
 go_enter Tryz.func26, Tryz.ntmps26
 go_wp2
 refine wp_loop_rounds 1 ?_
 rw [rounds_succ]
 go_wp2
 go_ret
 exact ⟨rfl, rfl⟩
def plain_Told.f (a0 : Option Int) : Option (Int) := match a0 with
 | none => some 0
 | some c => some c
set_option maxHeartbeats 4000000 in
set_option maxRecDepth 100000 in
theorem plain_Told.calls (a0 : Option Int) (r : Int) (w : World) (h : plain_Told.f a0 = some r) (hGL : GL w := by repeat (first | assumption | exact GL.of_below (by assumption) (by assumption) | exact GL.of_below (by assumption) (Aside0.out (by assumption)) | with_reducible apply GL.drewN | with_reducible apply GL.drew | with_reducible apply GL.alloc | with_reducible refine GL.set (by assumption) (by assumption) ?_ _ _)) :
  Calls Tryz.prog 16 #[errW a0] w fun e w' => e = .returned (.int .i64 r) ∧ Below w.heap.size w w' := by
 cases a0 with
 | none =>
  obtain rfl : 0 = r := Option.some.inj h
  rw [errW_none]
  clear hGL
  go_enter Tryz.func16, Tryz.ntmps16
  go_wp2
  go_ret
  exact ⟨rfl, Below.refl _ _⟩
 | some c =>
  obtain rfl : c = r := Option.some.inj h
  rw [errW_some]
  have hg := hGL.errType
  have hlt : 0 < w.heap.size := by
   rcases Nat.lt_or_ge 0 w.heap.size with h | h
   ·exact h
   ·simp [World.cell?, Array.getElem?_eq_none h] at hg
  have hgA : (w.alloc (.cells #[.int .i64 0] 44)).cell? ⟨0, 0, none⟩ = some (.iface 99 (.agg #[.pointer (some ⟨10, 28, none⟩)])) := by
   rw [World.cell?_alloc_lt _ _ ⟨0, 0, none⟩ hlt]; exact hg
  have htA : (w.alloc (.cells #[.int .i64 0] 44)).cell? ⟨w.heap.size, 0, none⟩ = some (.int .i64 0) := by simp
  have hfA : (w.alloc (.cells #[.int .i64 0] 44)).frozen? ⟨w.heap.size, 0, none⟩ = false := by simp
  clear hGL hg
  go_enter Tryz.func16, Tryz.ntmps16
  go_wp2_with (go_at_call 26; refine (as_hit c _ (.int .i64 0) _ hgA htA hfA).mono ?_; rintro e w' ⟨rfl, rfl⟩)
  go_ret
  exact ⟨rfl, (((((Below.refl _ _).alloc (Nat.le_refl _) _).alloc (by simp) _).alloc (by simp <;> omega) _).alloc (by simp <;> omega) _).alloc (by simp <;> omega) _⟩
end Go.Proofs.YtpinblladamdiaaGreatDoor.Pc
