/- A session's turn: why a message can't be. -/
import Derived.Test.YtcikdogkkgefcaaGreatDoorMA24
namespace Go.Proofs.YtcikdogkkgefcaaGreatDoor
set_option maxRecDepth 8000
set_option maxHeartbeats 16000000
set_option linter.unusedVariables false
set_option linter.unusedSimpArgs false
open Go Go.RowKit
theorem zRK {ρ:List (Nat × Obj)}{r:Rep}{h:Sh}(hr:ShR ρ r h)(hne:h.p.msgs≠[]):r.nm=h.p.msgs.length ∧
 ∃mb off cs el fr m,r.qm=some ⟨mb,off,none⟩∧(mb,Obj.cells (List.toArray cs) el fr) ∈ ρ∧cs[off]? = some (pI m.who)∧h.p.msgs[0]? = some m:=by
 have hp:=hr.pat;generalize hv:Value.agg (patL r h.p.name).toArray=v at hp;obtain⟨hl0,hl1,hlm,hrr⟩:=hp;rename_i v0 v1 vm ms;unfold patL at hv;obtain⟨-,-,hvm⟩:_∧_∧Value.slice r.qm r.nm r.cm=vm:=by simpa using hv
 subst hvm;have hlen:=hrr.length;have hpos:0<h.p.msgs.length:=List.length_pos_iff.2 hne;obtain⟨q,c,hq,-⟩:=hlm.val;simp only[Value.slice.injEq]at hq;obtain⟨-,hnm,-⟩:=hq;rw[hnm]at hlm;obtain⟨mb,off,cs,el,fr,m',tv,h1,h2,h3,h4,h5,h6,h7⟩:=zEm hlm hrr (i:=0) (by omega);exact⟨by omega,mb,off,cs,el,fr,m',h1,h2,by simpa using h3,h6⟩
def zK1 (h:Sh):Int:=match h.p.msgs[0]? with|some m=>m.who|none=>0
def zUN (s:Ss)(own:Bool)(wa wc:Int):Bool:=decide (wa≤zG9 (zA1 s) (zBs s own)) && decide (wc≤zFt (zA1 s) (zBs s own))
def zWT (s:Ss)(own:Bool):Bool:=if zBz s then decide (s.h.p.msgs.length=1) && decide (zK1 s.h≠zBs s own) else !(zDf s.h == own)
def zD5 (s:Ss)(own:Bool)(wa wc:Int):Int:=if s.dead then 6 else if zWT s own then 5 else if zUN s own wa wc=false then 9 else 0
section
variable {we w:World}{ρ:List (Nat × Obj)}{σ F:List HP}{sb p db:Nat}{r:Rep}{s x:Ss}{own:Bool}{wa wc:Int}
theorem zE4 (ho:ShOk s.h)(hr:ShR ρ r s.h)(hS:St we ρ (Row sb (sesL r s p db) 102::F) w) :
 Cl Tryz.prog 26 [pP sb,.bool own,lvV wa wc] w fun v w'=>v = pI (zD5 s own wa wc)∧St we ρ (Row sb (sesL r s p db) 102::F) w':=by
 have hne:=(zAs ho.right).2.2.1;obtain⟨hnm,mb,off,cs,el,fr,m,hqm,hmem,g1,g4⟩:=zRK hr hne;have hfw:zK1 s.h=m.who:=by unfold zK1;rw[g4]
 have hrl:0<r.nm:=by rw[hnm];exact List.length_pos_iff.2 hne
 have kD:∀{F w},St we ρ (Row sb (sesL r s p db) 102::F) w→_:=fun hS=>zBg hr hS
 have kF:∀{F w},St we ρ (Row sb (sesL r s p db) 102::F) w→_:=fun hS=>zED (own:=own) ho.role hS
 have kN:∀{F w},St we ρ (Row sb (sesL r s p db) 102::F) w→_:=fun hS=>zE8 (own:=own) ho hr hS
 have kM:∀{σ:List HP} {w:World},St we ρ σ w→_:=fun hS=>zIW hr hS
 unfold zD5 zWT zUN;rw[hfw,← hnm];generalize zBz s=dn at kD;generalize zBs s own=f at kF kN;generalize zG9 (zA1 s) f=la at kN;generalize zFt (zA1 s) f=lc at kN;generalize zDf s.h=mi at kM;have kR:∀{σ:List HP} {w:World},St we ρ σ w→_:=fun hS=>zND (a:=la) (c:=lc) (a':=wa) (c':=wc) hS
 generalize (decide (wa≤la) && decide (wc≤lc))=rb at kR;cases hdd:s.dead with
 | true =>
   simp only[if_true];refine Run.calls3 (n:=65) Tryz.func26 rfl rfl rfl ?_;repeat' first|(apply RO.loadB hS;rfl;rfl;(exact Rd.any);rfl;rfl;all_goals(intro hb;first|(exfalso;rw[hdd]at hb;exact Bool.noConfusion hb)|skip))|(refine Qm ?_)|apply Qs|apply Qr|(apply Rs<;>intro hc<;>try exact No)|apply Qn|refine Ql ?_|(refine Qx ?_;clear hS;intro b w1 hS)|refine Qt ?_|apply Qb
   all_goals
    refine Qw Tryz.func26 ?_;exact Xp
 | false =>
   simp only[Bool.false_eq_true,if_false];cases dn
   · cases mi<;>cases own<;>cases rb
     all_goals
      refine Run.calls3 (n:=65) Tryz.func26 rfl rfl rfl ?_;repeat' first|(apply RO.loadB hS;rfl;rfl;(exact Rd.any);rfl;rfl;all_goals(intro hb;first|(exfalso;rw[hdd]at hb;exact Bool.noConfusion hb)|skip))|(refine Qv 27 (kD hS.tk) ?_;clear hS;intro w1 hS)|(refine Qv 54 (kM hS) ?_;clear hS;intro w1 hS)|(refine Run.regionQ_of hS (by rfl) (by kernel_rfl) ?_;clear hS)|(apply RQ.callF;rfl;rfl;rfl;(show ∀w,_→Cl _ 27 _ _ _;exact fun w hS=>(kD hS.tk).mono fun v w' h=>⟨h.1,h.2.pk⟩))|(apply RQ.callF;rfl;rfl;rfl;(show ∀w,_→Cl _ 57 _ _ _;exact fun w hS=>(kN hS.tk).mono fun v w' h=>⟨h.1,h.2.pk⟩))|(apply RQ.callF;rfl;rfl;rfl;(show ∀w,_→Cl _ 56 _ _ _;exact fun w hS=>kR hS))|(refine RQ.nil ?_;(try clear hS);intro w1 hS)|refine RQ.still (by exact Still.any) rfl ?_|refine RQ.no rfl rfl rfl rfl ?_|(refine Qm ?_)|apply Qs|apply Qr|(apply Rs<;>intro hc<;>try exact No)|apply Qn|refine Ql ?_|(refine Qx ?_;clear hS;intro b w1 hS)|refine Qy ?_|refine Qt ?_|refine Qf ?_|apply Qk|apply Qb|apply Qi
      all_goals
       refine Qw Tryz.func26 ?_;exact Xp
   · by_cases h1:r.nm=1<;>by_cases h2:m.who=f<;>cases rb
     all_goals
      refine Run.calls3 (n:=65) Tryz.func26 rfl rfl rfl ?_;repeat' first|(apply RO.loadB hS;rfl;rfl;(exact Rd.any);rfl;rfl;all_goals(intro hb;first|(exfalso;rw[hdd]at hb;exact Bool.noConfusion hb)|skip))|(refine Qv 27 (kD hS.tk) ?_;clear hS;intro w1 hS)|(refine Run.regionQ_of hS (by rfl) (by kernel_rfl) ?_;clear hS)|(refine RQ.still (by apply Still.load (v:=.slice (some ⟨mb,off,none⟩) r.nm r.cm);rfl;rfl;(exact Rd.any);(rw[← hqm];rfl)) rfl ?_)|(refine RQ.still (by apply Still.load;rfl;rfl;exact Rd.ro hmem;exact g1) rfl ?_)|(apply RQ.callF;rfl;rfl;rfl;(show ∀w,_→Cl _ 27 _ _ _;exact fun w hS=>(kD hS.tk).mono fun v w' h=>⟨h.1,h.2.pk⟩))|(apply RQ.callF;rfl;rfl;rfl;(show ∀w,_→Cl _ 55 _ _ _;exact fun w hS=>(kF hS.tk).mono fun v w' h=>⟨h.1,h.2.pk⟩))|(apply RQ.callF;rfl;rfl;rfl;(show ∀w,_→Cl _ 57 _ _ _;exact fun w hS=>(kN hS.tk).mono fun v w' h=>⟨h.1,h.2.pk⟩))|(apply RQ.callF;rfl;rfl;rfl;(show ∀w,_→Cl _ 56 _ _ _;exact fun w hS=>kR hS))|(refine RQ.split ?_ ?_<;>intro hc<;>try exact No)|(refine RQ.nil ?_;(try clear hS);intro w1 hS)|refine RQ.still (by exact Still.any) rfl ?_|refine RQ.yes rfl rfl ?_|refine RQ.no rfl rfl rfl rfl ?_|(refine Qm ?_)|apply Qs|apply Qr|(apply Rs<;>intro hc<;>try exact No)|apply Qn|refine Ql ?_|(refine Qx ?_;clear hS;intro b w1 hS)|refine Qz ?_|refine Qt ?_|refine Qf ?_|apply Qk|apply Qb|apply Qi
      all_goals
       refine Qw Tryz.func26 ?_;refine⟨?_,hS.pk⟩;simp[h1,h2,tup]
end
end Go.Proofs.YtcikdogkkgefcaaGreatDoor
