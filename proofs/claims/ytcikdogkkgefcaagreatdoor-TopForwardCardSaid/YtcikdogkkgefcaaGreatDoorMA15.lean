/- valid.token. -/
import Derived.Test.YtcikdogkkgefcaaGreatDoorMA14
namespace Go.Proofs.YtcikdogkkgefcaaGreatDoor
set_option maxRecDepth 8000
set_option maxHeartbeats 16000000
set_option linter.unusedVariables false
set_option linter.unusedSimpArgs false
open Go Go.RowKit
section
variable {we w:World}{ρ:List (Nat × Obj)}{σ F:List HP}{v:Value}
theorem zOR (s:VS)(who:Int):zFa s who=0∨0<zFa s who:=by have:=zKW s who;omega
theorem zS8 {s:VS}{b:Nat}{who t:Int}(hw:who=0∨who=1)(ht:t=1∨t=2)(hS:St we ρ (Row b (vsL s) 343::F) w) :
 Cl Tryz.prog 271 [pP b,pI who,pI t] w fun u w'=>u = pI (zAx s who t).2∧St we ρ (Row b (vsL (zAx s who t).1) 343::F) w':=by
 rcases ht with rfl|rfl
 all_goals rcases hw with rfl|rfl
 all_goals rcases zOR s 0 with hq0|hq0<;>rcases zOR s 1 with hq1|hq1
 all_goals
  refine Run.calls3 (n:=109) Tryz.func271 rfl rfl rfl ?_;repeat' first|(refine Qv 272 (zBh (who:=0) (Or.inl rfl) hS.tk) ?_;clear hS;intro w1 hS)|(refine Qv 272 (zBh (who:=1) (Or.inr rfl) hS.tk) ?_;clear hS;intro w1 hS)|(apply RO.loadB hS;rfl;rfl;(exact Rd.any);rfl;rfl;all_goals(intro hb;try exact Bool.noConfusion hb))|(refine Ql ?_ (h:=Sx))|apply Qs|apply Qr|(apply Rs<;>intro hc<;>try exact No)|apply Qn|refine Ql ?_|(refine Qd ?_;clear hS;intro w1 hS)|refine Qy ?_|refine Qz ?_|refine Qu ?_|refine Qt ?_|refine Qf ?_|apply Qk|apply Qb
  all_goals
   refine Qw Tryz.func271 ?_;refine⟨?_,hS.cast ?_⟩;all_goals clear hS
   all_goals simp_all [zAx,VS.has,VS.met,zEM,zEL,VS.add,VS.meet,tup,vsL]
end
end Go.Proofs.YtcikdogkkgefcaaGreatDoor
