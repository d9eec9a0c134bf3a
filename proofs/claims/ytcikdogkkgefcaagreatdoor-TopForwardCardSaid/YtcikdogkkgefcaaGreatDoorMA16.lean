/- valid.token at a Dh, and at a psk. -/
import Derived.Test.YtcikdogkkgefcaaGreatDoorMA14
namespace Go.Proofs.YtcikdogkkgefcaaGreatDoor
set_option maxRecDepth 8000
set_option maxHeartbeats 16000000
set_option linter.unusedVariables false
set_option linter.unusedSimpArgs false
open Go Go.RowKit
section
variable {we w:World}{ρ:List (Nat × Obj)}{σ F:List HP}{v:Value}
theorem zWL (hS:St we ρ σ w):Cl Tryz.prog 286 [pI 3] w fun u w'=>u = .agg #[pI 1,pI 1]∧St we ρ σ w':=zDq (t:=3) (by decide) hS
theorem zWK (hS:St we ρ σ w):Cl Tryz.prog 286 [pI 4] w fun u w'=>u = .agg #[pI 1,pI 2]∧St we ρ σ w':=zDq (t:=4) (by decide) hS
theorem zWJ (hS:St we ρ σ w):Cl Tryz.prog 286 [pI 5] w fun u w'=>u = .agg #[pI 2,pI 1]∧St we ρ σ w':=zDq (t:=5) (by decide) hS
theorem zWI (hS:St we ρ σ w):Cl Tryz.prog 286 [pI 6] w fun u w'=>u = .agg #[pI 2,pI 2]∧St we ρ σ w':=zDq (t:=6) (by decide) hS
theorem zS9 {s:VS}{b:Nat}{who t:Int}(hw:who=0∨who=1)(ht:t=3∨t=4∨t=5∨t=6)(hS:St we ρ (Row b (vsL s) 343::F) w) :
 Cl Tryz.prog 271 [pP b,pI who,pI t] w fun u w'=>u = pI (zAx s who t).2∧St we ρ (Row b (vsL (zAx s who t).1) 343::F) w':=by
 rcases ht with rfl|rfl|rfl|rfl
 all_goals rcases hw with rfl|rfl
 all_goals
  refine Run.calls3 (n:=109) Tryz.func271 rfl rfl rfl ?_;repeat' first|(refine Run.regionQ_of hS (by rfl) (by kernel_rfl) ?_;clear hS)|(apply RQ.callF;rfl;rfl;rfl;(show ∀w,_→Cl _ 286 _ _ _;exact fun w hS=>zWL hS))|(apply RQ.callF;rfl;rfl;rfl;(show ∀w,_→Cl _ 286 _ _ _;exact fun w hS=>zWK hS))|(apply RQ.callF;rfl;rfl;rfl;(show ∀w,_→Cl _ 286 _ _ _;exact fun w hS=>zWJ hS))|(apply RQ.callF;rfl;rfl;rfl;(show ∀w,_→Cl _ 286 _ _ _;exact fun w hS=>zWI hS))|(apply RO.loadB hS;rfl;rfl;(exact Rd.any);rfl;rfl;all_goals(intro hb;try exact Bool.noConfusion hb))|(apply RQ.loadB;rfl;rfl;(exact Rd.any);rfl;rfl;all_goals(intro hb;try exact Bool.noConfusion hb))|(refine Ql ?_ (h:=Sx))|(refine RQ.still Sx rfl ?_)|(refine RQ.split ?_ ?_<;>intro hc<;>try exact No)|(refine RQ.nil ?_;(try clear hS);intro w1 hS)|refine RQ.still (by exact Still.any) rfl ?_|refine RQ.yes rfl rfl ?_|refine RQ.no rfl rfl rfl rfl ?_|apply Qs|apply Qr|(apply Rs<;>intro hc<;>try exact No)|apply Qn|refine Ql ?_|(refine Qd ?_;clear hS;intro w1 hS)|refine Qy ?_|refine Qt ?_|refine Qf ?_|apply Qk|apply Qb|apply Qi
  all_goals
   refine Qw Tryz.func271 ?_;refine⟨?_,hS.cast ?_⟩;all_goals clear hS
   all_goals simp_all [zAx,VS.has,VS.met,zEM,zEL,VS.add,VS.meet,tup,vsL]
theorem zQu {s:VS}{b:Nat}{who t:Int}(hw:who=0∨who=1)(ht:t=7)(hS:St we ρ (Row b (vsL s) 343::F) w) :
 Cl Tryz.prog 271 [pP b,pI who,pI t] w fun u w'=>u = pI (zAx s who t).2∧St we ρ (Row b (vsL (zAx s who t).1) 343::F) w':=by
 rcases ht with rfl;all_goals rcases hw with rfl|rfl
 all_goals
  refine Run.calls3 (n:=109) Tryz.func271 rfl rfl rfl ?_;repeat' first|(refine Run.regionQ_of hS (by rfl) (by kernel_rfl) ?_;clear hS)|(refine Ql ?_ (h:=Sx))|(refine RQ.split ?_ ?_<;>intro hc<;>try exact No)|(refine RQ.nil ?_;(try clear hS);intro w1 hS)|refine RQ.still (by exact Still.any) rfl ?_|refine RQ.no rfl rfl rfl rfl ?_|refine RQ.noUndef rfl rfl rfl ?_|apply Qs|apply Qr|(apply Rs<;>intro hc<;>try exact No)|apply Qn|refine Ql ?_|(refine Qd ?_;clear hS;intro w1 hS)|refine Qy ?_|refine Qz ?_|refine Qf ?_|apply Qk|apply Qb|apply Qi
  all_goals
   refine Qw Tryz.func271 ?_;refine⟨?_,hS.cast ?_⟩;all_goals clear hS
   all_goals simp_all [zAx,VS.has,VS.met,zEM,zEL,VS.add,VS.meet,tup,vsL]
end
end Go.Proofs.YtcikdogkkgefcaaGreatDoor
