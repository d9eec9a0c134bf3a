/- The layer of recipes in the program: parts, right, used. -/
import Derived.Test.YtcikdogkkgefcaaGreatDoorMA09
import Derived.Test.YtcikdogkkgefcaaGreatDoorMA10
namespace Go.Proofs.YtcikdogkkgefcaaGreatDoor
set_option maxRecDepth 8000
set_option maxHeartbeats 16000000
set_option linter.unusedVariables false
set_option linter.unusedSimpArgs false
open Go Go.RowKit
section
variable {we w:World}{ρ:List (Nat × Obj)}{σ F:List HP}{kb p lim cb:Nat}{L:List Nd}{K:Int→Bool}{u v:Value}{heard made:List Int}
theorem zAm (hS:St we ρ σ w):Cl Tryz.prog 202 [] w fun v w'=>v = .agg zUP.toArray∧St we ρ σ w':=by
 refine Run.calls0 (n:=2) Tryz.func202 rfl rfl ?_;repeat' first|apply Qs|apply Qr|apply Qn|refine Ql ?_|(refine Qa ?_;clear hS;intro b w1 hS)|(refine Qd ?_;clear hS;intro w1 hS)
 refine Qw Tryz.func202 ?_;exact Xp
theorem zU2 {n x y z:Int}(hn:0≤n∧n≤18446744073709551615)(hS:St we ρ σ w):Cl Tryz.prog 200 [.agg ([Value.int .i64 0,Value.int .u64 n,Value.int .i64 x,Value.int .i64 y,Value.int .i64 z]).toArray] w fun v w'=>v = .bool (decide (n=0∧y=0∧z=0))∧St we ρ σ w':=by
 refine Run.calls1 (n:=86) Tryz.func200 rfl rfl rfl ?_;repeat' first|(refine Run.regionQ_of hS (by rfl) (by kernel_rfl) ?_;clear hS)|(apply RQ.callF;rfl;rfl;rfl;(show ∀w,_→Cl _ 202 _ _ _;exact fun w hS=>zAm hS))|(refine RQ.nil ?_;(try clear hS);intro w1 hS)|refine RQ.still (by exact Still.any) rfl ?_|apply Qs|apply Qr|(apply Rs<;>intro hc<;>try exact No)|apply Qn|refine Ql ?_|(refine Qx ?_;clear hS;intro b w1 hS)|refine Qy ?_|refine Qz ?_|refine Qu ?_|refine Qt ?_|refine Qf ?_|apply Qk
 all_goals
  refine Qw Tryz.func200 ?_;refine⟨?_,hS.pk⟩;first|(rw[decide_eq_true (show n=0∧y=0∧z=0 by omega)];rfl)|(rw[decide_eq_false (show ¬(n=0∧y=0∧z=0) by omega)];rfl)
theorem zU1 {n x y z:Int}(hn:0≤n∧n≤18446744073709551615)(hS:St we ρ σ w):Cl Tryz.prog 200 [.agg ([Value.int .i64 1,Value.int .u64 n,Value.int .i64 x,Value.int .i64 y,Value.int .i64 z]).toArray] w fun v w'=>v = .bool (decide (n<1048576∧x=0∧y=0∧z=0))∧St we ρ σ w':=by
 refine Run.calls1 (n:=86) Tryz.func200 rfl rfl rfl ?_;repeat' first|(refine Run.regionQ_of hS (by rfl) (by kernel_rfl) ?_;clear hS)|(apply RQ.callF;rfl;rfl;rfl;(show ∀w,_→Cl _ 202 _ _ _;exact fun w hS=>zAm hS))|(refine RQ.nil ?_;(try clear hS);intro w1 hS)|refine RQ.still (by exact Still.any) rfl ?_|apply Qs|apply Qr|(apply Rs<;>intro hc<;>try exact No)|apply Qn|refine Ql ?_|(refine Qx ?_;clear hS;intro b w1 hS)|refine Qy ?_|refine Qz ?_|refine Qu ?_|refine Qt ?_|refine Qf ?_|apply Qk
 all_goals
  refine Qw Tryz.func200 ?_;refine⟨?_,hS.pk⟩;first|(rw[decide_eq_true (show n<1048576∧x=0∧y=0∧z=0 by omega)];rfl)|(rw[decide_eq_false (show ¬(n<1048576∧x=0∧y=0∧z=0) by omega)];rfl)
theorem zU0 {n x y z:Int}(hn:0≤n∧n≤18446744073709551615)(hS:St we ρ σ w):Cl Tryz.prog 200 [.agg ([Value.int .i64 2,Value.int .u64 n,Value.int .i64 x,Value.int .i64 y,Value.int .i64 z]).toArray] w fun v w'=>v = .bool (decide (n=0∧y=0∧z=0))∧St we ρ σ w':=by
 refine Run.calls1 (n:=86) Tryz.func200 rfl rfl rfl ?_;repeat' first|(refine Run.regionQ_of hS (by rfl) (by kernel_rfl) ?_;clear hS)|(apply RQ.callF;rfl;rfl;rfl;(show ∀w,_→Cl _ 202 _ _ _;exact fun w hS=>zAm hS))|(refine RQ.nil ?_;(try clear hS);intro w1 hS)|refine RQ.still (by exact Still.any) rfl ?_|apply Qs|apply Qr|(apply Rs<;>intro hc<;>try exact No)|apply Qn|refine Ql ?_|(refine Qx ?_;clear hS;intro b w1 hS)|refine Qy ?_|refine Qz ?_|refine Qu ?_|refine Qf ?_|apply Qk
 all_goals
  refine Qw Tryz.func200 ?_;refine⟨?_,hS.pk⟩;first|(rw[decide_eq_true (show n=0∧y=0∧z=0 by omega)];rfl)|(rw[decide_eq_false (show ¬(n=0∧y=0∧z=0) by omega)];rfl)
theorem zUz {n x y z:Int}(hn:0≤n∧n≤18446744073709551615)(hS:St we ρ σ w):Cl Tryz.prog 200 [.agg ([Value.int .i64 3,Value.int .u64 n,Value.int .i64 x,Value.int .i64 y,Value.int .i64 z]).toArray] w fun v w'=>v = .bool (decide (n=0∧z=0))∧St we ρ σ w':=by
 refine Run.calls1 (n:=86) Tryz.func200 rfl rfl rfl ?_;repeat' first|(refine Run.regionQ_of hS (by rfl) (by kernel_rfl) ?_;clear hS)|(apply RQ.callF;rfl;rfl;rfl;(show ∀w,_→Cl _ 202 _ _ _;exact fun w hS=>zAm hS))|(refine RQ.nil ?_;(try clear hS);intro w1 hS)|refine RQ.still (by exact Still.any) rfl ?_|apply Qs|apply Qr|(apply Rs<;>intro hc<;>try exact No)|apply Qn|refine Ql ?_|(refine Qx ?_;clear hS;intro b w1 hS)|refine Qy ?_|refine Qz ?_|refine Qu ?_|refine Qf ?_|apply Qk
 all_goals
  refine Qw Tryz.func200 ?_;refine⟨?_,hS.pk⟩;first|(rw[decide_eq_true (show n=0∧z=0 by omega)];rfl)|(rw[decide_eq_false (show ¬(n=0∧z=0) by omega)];rfl)
theorem zUy {n x y z:Int}(hn:0≤n∧n≤18446744073709551615)(hS:St we ρ σ w):Cl Tryz.prog 200 [.agg ([Value.int .i64 5,Value.int .u64 n,Value.int .i64 x,Value.int .i64 y,Value.int .i64 z]).toArray] w fun v w'=>v = .bool (decide (n=0∧z=0))∧St we ρ σ w':=by
 refine Run.calls1 (n:=86) Tryz.func200 rfl rfl rfl ?_;repeat' first|(refine Run.regionQ_of hS (by rfl) (by kernel_rfl) ?_;clear hS)|(apply RQ.callF;rfl;rfl;rfl;(show ∀w,_→Cl _ 202 _ _ _;exact fun w hS=>zAm hS))|(refine RQ.nil ?_;(try clear hS);intro w1 hS)|refine RQ.still (by exact Still.any) rfl ?_|apply Qs|apply Qr|(apply Rs<;>intro hc<;>try exact No)|apply Qn|refine Ql ?_|(refine Qx ?_;clear hS;intro b w1 hS)|refine Qy ?_|refine Qz ?_|refine Qu ?_|refine Qf ?_|apply Qk
 all_goals
  refine Qw Tryz.func200 ?_;refine⟨?_,hS.pk⟩;first|(rw[decide_eq_true (show n=0∧z=0 by omega)];rfl)|(rw[decide_eq_false (show ¬(n=0∧z=0) by omega)];rfl)
theorem zUx {n x y z:Int}(hn:0≤n∧n≤18446744073709551615)(hS:St we ρ σ w):Cl Tryz.prog 200 [.agg ([Value.int .i64 6,Value.int .u64 n,Value.int .i64 x,Value.int .i64 y,Value.int .i64 z]).toArray] w fun v w'=>v = .bool (decide (z=0))∧St we ρ σ w':=by
 refine Run.calls1 (n:=86) Tryz.func200 rfl rfl rfl ?_;repeat' first|(refine Run.regionQ_of hS (by rfl) (by kernel_rfl) ?_;clear hS)|(apply RQ.callF;rfl;rfl;rfl;(show ∀w,_→Cl _ 202 _ _ _;exact fun w hS=>zAm hS))|(refine RQ.nil ?_;(try clear hS);intro w1 hS)|refine RQ.still (by exact Still.any) rfl ?_|apply Qs|apply Qr|(apply Rs<;>intro hc<;>try exact No)|apply Qn|refine Ql ?_|(refine Qx ?_;clear hS;intro b w1 hS)|refine Qy ?_|refine Qz ?_|refine Qf ?_|apply Qk
 all_goals
  refine Qw Tryz.func200 ?_;refine⟨?_,hS.pk⟩;first|(rw[decide_eq_true (show z=0 by omega)];rfl)|(rw[decide_eq_false (show ¬(z=0) by omega)];rfl)
theorem zUw {n x y z:Int}(hn:0≤n∧n≤18446744073709551615)(hS:St we ρ σ w):Cl Tryz.prog 200 [.agg ([Value.int .i64 7,Value.int .u64 n,Value.int .i64 x,Value.int .i64 y,Value.int .i64 z]).toArray] w fun v w'=>v = .bool (decide (True))∧St we ρ σ w':=by
 refine Run.calls1 (n:=86) Tryz.func200 rfl rfl rfl ?_;repeat' first|(refine Run.regionQ_of hS (by rfl) (by kernel_rfl) ?_;clear hS)|(apply RQ.callF;rfl;rfl;rfl;(show ∀w,_→Cl _ 202 _ _ _;exact fun w hS=>zAm hS))|(refine RQ.nil ?_;(try clear hS);intro w1 hS)|refine RQ.still (by exact Still.any) rfl ?_|apply Qs|apply Qr|(apply Rs<;>intro hc<;>try exact No)|apply Qn|refine Ql ?_|(refine Qx ?_;clear hS;intro b w1 hS)|refine Qy ?_|refine Qz ?_|refine Qf ?_|apply Qk
 all_goals
  refine Qw Tryz.func200 ?_;refine⟨?_,hS.pk⟩;first|(rw[decide_eq_true (trivial:True)];rfl)
theorem zUv {n x y z:Int}(hn:0≤n∧n≤18446744073709551615)(hS:St we ρ σ w):Cl Tryz.prog 200 [.agg ([Value.int .i64 8,Value.int .u64 n,Value.int .i64 x,Value.int .i64 y,Value.int .i64 z]).toArray] w fun v w'=>v = .bool (decide (n=0∧z=0))∧St we ρ σ w':=by
 refine Run.calls1 (n:=86) Tryz.func200 rfl rfl rfl ?_;repeat' first|(refine Run.regionQ_of hS (by rfl) (by kernel_rfl) ?_;clear hS)|(apply RQ.callF;rfl;rfl;rfl;(show ∀w,_→Cl _ 202 _ _ _;exact fun w hS=>zAm hS))|(refine RQ.nil ?_;(try clear hS);intro w1 hS)|refine RQ.still (by exact Still.any) rfl ?_|apply Qs|apply Qr|(apply Rs<;>intro hc<;>try exact No)|apply Qn|refine Ql ?_|(refine Qx ?_;clear hS;intro b w1 hS)|refine Qy ?_|refine Qz ?_|refine Qu ?_|refine Qf ?_|apply Qk
 all_goals
  refine Qw Tryz.func200 ?_;refine⟨?_,hS.pk⟩;first|(rw[decide_eq_true (show n=0∧z=0 by omega)];rfl)|(rw[decide_eq_false (show ¬(n=0∧z=0) by omega)];rfl)
theorem zUu {n x y z:Int}(hn:0≤n∧n≤18446744073709551615)(hS:St we ρ σ w):Cl Tryz.prog 200 [.agg ([Value.int .i64 9,Value.int .u64 n,Value.int .i64 x,Value.int .i64 y,Value.int .i64 z]).toArray] w fun v w'=>v = .bool (decide (x=0∧y=0∧z=0))∧St we ρ σ w':=by
 refine Run.calls1 (n:=86) Tryz.func200 rfl rfl rfl ?_;repeat' first|(refine Run.regionQ_of hS (by rfl) (by kernel_rfl) ?_;clear hS)|(apply RQ.callF;rfl;rfl;rfl;(show ∀w,_→Cl _ 202 _ _ _;exact fun w hS=>zAm hS))|(refine RQ.nil ?_;(try clear hS);intro w1 hS)|refine RQ.still (by exact Still.any) rfl ?_|apply Qs|apply Qr|(apply Rs<;>intro hc<;>try exact No)|apply Qn|refine Ql ?_|(refine Qx ?_;clear hS;intro b w1 hS)|refine Qy ?_|refine Qz ?_|refine Qu ?_|refine Qf ?_|apply Qk
 all_goals
  refine Qw Tryz.func200 ?_;refine⟨?_,hS.pk⟩;first|(rw[decide_eq_true (show x=0∧y=0∧z=0 by omega)];rfl)|(rw[decide_eq_false (show ¬(x=0∧y=0∧z=0) by omega)];rfl)
theorem zTK {n x y z:Int}(hn:0≤n∧n≤18446744073709551615)(hS:St we ρ σ w):Cl Tryz.prog 200 [.agg ([Value.int .i64 10,Value.int .u64 n,Value.int .i64 x,Value.int .i64 y,Value.int .i64 z]).toArray] w fun v w'=>v = .bool (decide (n=0∧y=0∧z=0))∧St we ρ σ w':=by
 refine Run.calls1 (n:=86) Tryz.func200 rfl rfl rfl ?_;repeat' first|(refine Run.regionQ_of hS (by rfl) (by kernel_rfl) ?_;clear hS)|(apply RQ.callF;rfl;rfl;rfl;(show ∀w,_→Cl _ 202 _ _ _;exact fun w hS=>zAm hS))|(refine RQ.nil ?_;(try clear hS);intro w1 hS)|refine RQ.still (by exact Still.any) rfl ?_|apply Qs|apply Qr|(apply Rs<;>intro hc<;>try exact No)|apply Qn|refine Ql ?_|(refine Qx ?_;clear hS;intro b w1 hS)|refine Qy ?_|refine Qz ?_|refine Qu ?_|refine Qf ?_|apply Qk
 all_goals
  refine Qw Tryz.func200 ?_;refine⟨?_,hS.pk⟩;first|(rw[decide_eq_true (show n=0∧y=0∧z=0 by omega)];rfl)|(rw[decide_eq_false (show ¬(n=0∧y=0∧z=0) by omega)];rfl)
theorem zTJ {n x y z:Int}(hn:0≤n∧n≤18446744073709551615)(hS:St we ρ σ w):Cl Tryz.prog 200 [.agg ([Value.int .i64 11,Value.int .u64 n,Value.int .i64 x,Value.int .i64 y,Value.int .i64 z]).toArray] w fun v w'=>v = .bool (decide (n=0∧y=0∧z=0))∧St we ρ σ w':=by
 refine Run.calls1 (n:=86) Tryz.func200 rfl rfl rfl ?_;repeat' first|(refine Run.regionQ_of hS (by rfl) (by kernel_rfl) ?_;clear hS)|(apply RQ.callF;rfl;rfl;rfl;(show ∀w,_→Cl _ 202 _ _ _;exact fun w hS=>zAm hS))|(refine RQ.nil ?_;(try clear hS);intro w1 hS)|refine RQ.still (by exact Still.any) rfl ?_|apply Qs|apply Qr|(apply Rs<;>intro hc<;>try exact No)|apply Qn|refine Ql ?_|(refine Qx ?_;clear hS;intro b w1 hS)|refine Qy ?_|refine Qz ?_|refine Qu ?_|refine Qf ?_|apply Qk
 all_goals
  refine Qw Tryz.func200 ?_;refine⟨?_,hS.pk⟩;first|(rw[decide_eq_true (show n=0∧y=0∧z=0 by omega)];rfl)|(rw[decide_eq_false (show ¬(n=0∧y=0∧z=0) by omega)];rfl)
theorem zTI {n x y z:Int}(hn:0≤n∧n≤18446744073709551615)(hS:St we ρ σ w):Cl Tryz.prog 200 [.agg ([Value.int .i64 12,Value.int .u64 n,Value.int .i64 x,Value.int .i64 y,Value.int .i64 z]).toArray] w fun v w'=>v = .bool (decide (n=0∧z=0))∧St we ρ σ w':=by
 refine Run.calls1 (n:=86) Tryz.func200 rfl rfl rfl ?_;repeat' first|(refine Run.regionQ_of hS (by rfl) (by kernel_rfl) ?_;clear hS)|(apply RQ.callF;rfl;rfl;rfl;(show ∀w,_→Cl _ 202 _ _ _;exact fun w hS=>zAm hS))|(refine RQ.nil ?_;(try clear hS);intro w1 hS)|refine RQ.still (by exact Still.any) rfl ?_|apply Qs|apply Qr|(apply Rs<;>intro hc<;>try exact No)|apply Qn|refine Ql ?_|(refine Qx ?_;clear hS;intro b w1 hS)|refine Qy ?_|refine Qz ?_|refine Qu ?_|refine Qf ?_|apply Qk
 all_goals
  refine Qw Tryz.func200 ?_;refine⟨?_,hS.pk⟩;first|(rw[decide_eq_true (show n=0∧z=0 by omega)];rfl)|(rw[decide_eq_false (show ¬(n=0∧z=0) by omega)];rfl)
theorem zTH {n x y z:Int}(hn:0≤n∧n≤18446744073709551615)(hS:St we ρ σ w):Cl Tryz.prog 200 [.agg ([Value.int .i64 13,Value.int .u64 n,Value.int .i64 x,Value.int .i64 y,Value.int .i64 z]).toArray] w fun v w'=>v = .bool (decide (n=0∧x=0∧y=0∧z=0))∧St we ρ σ w':=by
 refine Run.calls1 (n:=86) Tryz.func200 rfl rfl rfl ?_;repeat' first|(refine Run.regionQ_of hS (by rfl) (by kernel_rfl) ?_;clear hS)|(apply RQ.callF;rfl;rfl;rfl;(show ∀w,_→Cl _ 202 _ _ _;exact fun w hS=>zAm hS))|(refine RQ.nil ?_;(try clear hS);intro w1 hS)|refine RQ.still (by exact Still.any) rfl ?_|apply Qs|apply Qr|(apply Rs<;>intro hc<;>try exact No)|apply Qn|refine Ql ?_|(refine Qx ?_;clear hS;intro b w1 hS)|refine Qy ?_|refine Qz ?_|refine Qu ?_|refine Qf ?_|apply Qk
 all_goals
  refine Qw Tryz.func200 ?_;refine⟨?_,hS.pk⟩;first|(rw[decide_eq_true (show n=0∧x=0∧y=0∧z=0 by omega)];rfl)|(rw[decide_eq_false (show ¬(n=0∧x=0∧y=0∧z=0) by omega)];rfl)
theorem zPR {s:Stp}(hin:¬(0≤s.op∧s.op≤13∧s.op≠4))(hS:St we ρ σ w):Cl Tryz.prog 200 [.agg (stpL s).toArray] w fun v w'=>v = .bool false∧St we ρ σ w':=by
 obtain⟨op,n,x,y,z⟩:=s;simp only at hin;show Cl _ _ [.agg [Value.int .i64 op,Value.int .u64 n,Value.int .i64 x,Value.int .i64 y,Value.int .i64 z].toArray] _ _;have h3:op<0∨(0≤op∧13<op)∨op=4:=by omega
 rcases h3 with h3|h3|h3
 all_goals
  refine Run.calls1 (n:=86) Tryz.func200 rfl rfl rfl ?_;repeat' first|apply Qs|apply Qr|(apply Rs<;>intro hc<;>try exact No)|apply Qn|refine Ql ?_|(refine Qx ?_;clear hS;intro b w1 hS)|refine Qy ?_|refine Qz ?_|refine Qu ?_|refine Qt ?_
  refine Qw Tryz.func200 ?_;exact Xp
theorem zHJ {s:Stp}(hn:0≤s.n∧s.n≤18446744073709551615)(hS:St we ρ σ w):Cl Tryz.prog 200 [.agg (stpL s).toArray] w fun v w'=>v = .bool (decide (zAf s))∧St we ρ σ w':=by
 by_cases hin:0≤s.op∧s.op≤13∧s.op≠4;rotate_left
 · rw[decide_eq_false (fun h=>hin h.1)]
   exact zPR hin hS
 obtain⟨op,n,a,b,c⟩:=s;simp only at hn hin;have hcs:op=0∨op=1∨op=2∨op=3∨op=5∨op=6∨op=7∨op=8∨op=9∨op=10∨op=11∨op=12∨op=13:=by omega
 rcases hcs with rfl|rfl|rfl|rfl|rfl|rfl|rfl|rfl|rfl|rfl|rfl|rfl|rfl
 · rw[show decide (zAf ⟨0,n,a,b,c⟩)=decide (n=0∧b=0∧c=0) from decide_eq_decide.2 (by simp[zAf])]
   exact zU2 hn hS
 · rw[show decide (zAf ⟨1,n,a,b,c⟩)=decide (n<1048576∧a=0∧b=0∧c=0) from decide_eq_decide.2 (by simp[zAf])]
   exact zU1 hn hS
 · rw[show decide (zAf ⟨2,n,a,b,c⟩)=decide (n=0∧b=0∧c=0) from decide_eq_decide.2 (by simp[zAf])]
   exact zU0 hn hS
 · rw[show decide (zAf ⟨3,n,a,b,c⟩)=decide (n=0∧c=0) from decide_eq_decide.2 (by simp[zAf])]
   exact zUz hn hS
 · rw[show decide (zAf ⟨5,n,a,b,c⟩)=decide (n=0∧c=0) from decide_eq_decide.2 (by simp[zAf])]
   exact zUy hn hS
 · rw[show decide (zAf ⟨6,n,a,b,c⟩)=decide (c=0) from decide_eq_decide.2 (by simp[zAf])]
   exact zUx hn hS
 · rw[show decide (zAf ⟨7,n,a,b,c⟩)=decide (True) from decide_eq_decide.2 (by simp[zAf])]
   exact zUw hn hS
 · rw[show decide (zAf ⟨8,n,a,b,c⟩)=decide (n=0∧c=0) from decide_eq_decide.2 (by simp[zAf])]
   exact zUv hn hS
 · rw[show decide (zAf ⟨9,n,a,b,c⟩)=decide (a=0∧b=0∧c=0) from decide_eq_decide.2 (by simp[zAf])]
   exact zUu hn hS
 · rw[show decide (zAf ⟨10,n,a,b,c⟩)=decide (n=0∧b=0∧c=0) from decide_eq_decide.2 (by simp[zAf])]
   exact zTK hn hS
 · rw[show decide (zAf ⟨11,n,a,b,c⟩)=decide (n=0∧b=0∧c=0) from decide_eq_decide.2 (by simp[zAf])]
   exact zTJ hn hS
 · rw[show decide (zAf ⟨12,n,a,b,c⟩)=decide (n=0∧c=0) from decide_eq_decide.2 (by simp[zAf])]
   exact zTI hn hS
 · rw[show decide (zAf ⟨13,n,a,b,c⟩)=decide (n=0∧a=0∧b=0∧c=0) from decide_eq_decide.2 (by simp[zAf])]
   exact zTH hn hS
end
end Go.Proofs.YtcikdogkkgefcaaGreatDoor
