/- shake.mix at a Dh; send, receive, parts. The plain words of shake.Write, Read, Ciphers: what they come to, and what stays. shake.Ciphers, Write. -/
import Derived.Test.YtcikdogkkgefcaaGreatDoorMA19
namespace Go.Proofs.YtcikdogkkgefcaaGreatDoor
set_option maxRecDepth 8000
set_option maxHeartbeats 16000000
set_option linter.unusedVariables false
set_option linter.unusedSimpArgs false
open Go Go.RowKit
def zA9 (lim:Nat)(L:List Nd)(h:Sh)(t:Int):List Nd × Sh × Int × Int :=
 if t=1∧h.e=0 then(L,h,0,10)
 else if(zAk lim L h h.role t).2.2≠0 then((zAk lim L h h.role t).1,h,0,(zAk lim L h h.role t).2.2)
 else if t=2 then zAU lim (zAk lim L h h.role t).1 h (zAk lim L h h.role t).2.1
 else((zA3 lim (zAk lim L h h.role t).1 h (zAk lim L h h.role t).2.1 true).1,(zA3 lim (zAk lim L h h.role t).1 h (zAk lim L h h.role t).2.1 true).2.1,(zAk lim L h h.role t).2.1,(zA3 lim (zAk lim L h h.role t).1 h (zAk lim L h h.role t).2.1 true).2.2)
def zAe (lim:Nat)(L:List Nd)(h:Sh)(t part:Int):List Nd × Sh × Int :=
 if t=1 then zA3 lim L { h with re:=part } part true
 else((zAO lim L h part).1,{ (zAO lim L h part).2.1 with rs:=(zAO lim L h part).2.2.1 },(zAO lim L h part).2.2.2)
def zBL (l:List Int):Int:=1+(l.filter fun t=>decide (t≤2)).length
section
variable {we w:World}{ρ:List (Nat × Obj)}{σ F:List HP}{p lim:Nat}{L L1 L2:List Nd}{r:Rep}{h:Sh}{x e who t:Int}{y1 y2:Sy}
theorem zRl (hro:h.role=0∨h.role=1)(ht:t=3∨t=4∨t=5∨t=6)(hS:St we ρ (zAA p lim L::F) w) :
 Cl Tryz.prog 102 [.agg (shL r h).toArray,pP p,pI t] w fun v w'=>v = .tuple #[.agg (zAg r (zAR lim L h t).2.1 (zAR lim L h t).2.2).toArray,pI (zAR lim L h t).2.2]∧St we ρ (zAA p lim (zAR lim L h t).1::F) w':=by
 unfold zAR;rw[if_neg (by omega)];have k0:∀{σ:List HP} {w:World},St we ρ σ w→_:=fun hS=>zLe (r:=r) (h:=h) (t:=t) hro ht hS
 generalize zBT h t=pr at k0;obtain⟨z1,z2⟩:=pr;simp only at k0 ⊢;have k1:∀{F w},St we ρ (zAA p lim L::F) w→_:=fun hS=>zH9 (x:=z1) (y:=z2) hS
 generalize share lim L z1 z2=a1 at k1;obtain⟨L1,x,e1⟩:=a1;simp only at k1 ⊢;have k2:∀{F w},St we ρ (zAA p lim L1::F) w→_:=fun hS=>zHV (s:=h.y) (x:=x) hS
 generalize zBK lim L1 h.y x=a2 at k2;obtain⟨L2,y2,e2⟩:=a2;simp only at k2 ⊢;have hn7:¬t=7:=by omega
 clear ht;by_cases he1:e1=0
 · subst he1
   by_cases he2:e2=0
   · subst he2
     simp only[ne_eq,not_true_eq_false,if_false,zAg,if_true];refine Run.calls3 (n:=58) Tryz.func102 rfl rfl rfl ?_;repeat' first|(refine Qv 154 (k0 hS) ?_;clear hS;intro w1 hS)|(refine Qv 153 (k1 hS.tk) ?_;clear hS;intro w1 hS)|(refine Qv 155 (k2 hS.tk) ?_;clear hS;intro w1 hS)|(refine Qm ?_)|apply Qs|apply Qr|(apply Rs<;>intro hc<;>try exact No)|apply Qn|refine Ql ?_|(refine Qx ?_;clear hS;intro b w1 hS)|(refine Qa ?_;clear hS;intro b w1 hS)|(refine Qd ?_;clear hS;intro w1 hS)|refine Qt ?_|refine Qf ?_|apply Qk
     refine Qw Tryz.func102 ?_;exact Xp
   · simp only[ne_eq,not_true_eq_false,he2,not_false_eq_true,if_true,if_false,zAg]
     refine Run.calls3 (n:=58) Tryz.func102 rfl rfl rfl ?_;repeat' first|(refine Qv 154 (k0 hS) ?_;clear hS;intro w1 hS)|(refine Qv 153 (k1 hS.tk) ?_;clear hS;intro w1 hS)|(refine Qv 155 (k2 hS.tk) ?_;clear hS;intro w1 hS)|(refine Qm ?_)|apply Qs|apply Qr|(apply Rs<;>intro hc<;>try exact No)|apply Qn|refine Ql ?_|(refine Qx ?_;clear hS;intro b w1 hS)|(refine Qa ?_;clear hS;intro b w1 hS)|(refine Qd ?_;clear hS;intro w1 hS)|refine Qt ?_|refine Qf ?_
     refine Qw Tryz.func102 ?_;exact Xp
 · simp only[ne_eq,he1,not_false_eq_true,if_true,if_false,zAg]
   refine Run.calls3 (n:=58) Tryz.func102 rfl rfl rfl ?_;repeat' first|(refine Qv 154 (k0 hS) ?_;clear hS;intro w1 hS)|(refine Qv 153 (k1 hS.tk) ?_;clear hS;intro w1 hS)|(refine Qm ?_)|apply Qs|apply Qr|(apply Rs<;>intro hc<;>try exact No)|apply Qn|refine Ql ?_|(refine Qx ?_;clear hS;intro b w1 hS)|(refine Qa ?_;clear hS;intro b w1 hS)|(refine Qd ?_;clear hS;intro w1 hS)|refine Qt ?_|refine Qf ?_|apply Qk
   refine Qw Tryz.func102 ?_;exact Xp
theorem zHT (hro:h.role=0∨h.role=1)(ht:3≤t∧t≤7)(hr:ShR ρ r h)(hx:t=7→h.next<h.psks.length)(hS:St we ρ (zAA p lim L::F) w) :
 Cl Tryz.prog 102 [.agg (shL r h).toArray,pP p,pI t] w fun v w'=>v = .tuple #[.agg (zAg r (zAR lim L h t).2.1 (zAR lim L h t).2.2).toArray,pI (zAR lim L h t).2.2]∧St we ρ (zAA p lim (zAR lim L h t).1::F) w':=by
 by_cases h7:t=7
 · subst h7;exact zPp hr (hx rfl) hS
 · exact zRl hro (by omega) hS
theorem zJZ (ht:t=1∨t=2)(hr:ShR ρ r h)(hS:St we ρ (zAA p lim L::F) w) :
 Cl Tryz.prog 198 [.agg (shL r h).toArray,pP p,pI t] w fun v w'=>v = .tuple #[.agg (zAg r (zA9 lim L h t).2.1 (zA9 lim L h t).2.2.2).toArray,pI (zA9 lim L h t).2.2.1,pI (zA9 lim L h t).2.2.2]∧St we ρ (zAA p lim (zA9 lim L h t).1::F) w':=by
 unfold zA9;have k1:∀{F w},St we ρ (zAA p lim L::F) w→_:=fun hS=>zHL (r:=r) (h:=h) (who:=h.role) (t:=t) hS
 generalize zAk lim L h h.role t=a1 at k1;obtain⟨L1,x,e1⟩:=a1;simp only at k1 ⊢;have k2:∀{F w},St we ρ (zAA p lim L1::F) w→_:=fun hS=>zFO (r:=r) (h:=h) (x:=x) hS
 generalize zAU lim L1 h x=a2 at k2;obtain⟨L2,h2,z2,e2⟩:=a2;have k3:∀{F w},St we ρ (zAA p lim L1::F) w→_:=fun hS=>zEf (h:=h) (x:=x) (eph:=true) hr hS
 generalize zA3 lim L1 h x true=a3 at k3;obtain⟨L3,h3,e3⟩:=a3;simp only at k2 k3 ⊢;by_cases he:t=1∧h.e=0
 · obtain⟨rfl,hz⟩:=he
   rw[if_pos ⟨rfl,hz⟩];simp only[zAg];refine Run.calls3 (n:=54) Tryz.func198 rfl rfl rfl ?_;repeat' first|apply Qs|apply Qr|(apply Rs<;>intro hc<;>try exact No)|apply Qn|refine Ql ?_|(refine Qx ?_;clear hS;intro b w1 hS)|(refine Qa ?_;clear hS;intro b w1 hS)|(refine Qd ?_;clear hS;intro w1 hS)|refine Qy ?_|refine Qt ?_
   refine Qw Tryz.func198 ?_;exact Xp
 rw[if_neg he];by_cases he1:e1=0;rotate_left
 · simp only[ne_eq,he1,not_false_eq_true,if_true,zAg,if_false]
   rcases ht with rfl|rfl
   all_goals
    try have hz:¬h.e=0:=fun hz=>he ⟨rfl,hz⟩
    refine Run.calls3 (n:=54) Tryz.func198 rfl rfl rfl ?_;repeat' first|(refine Qv 246 (k1 hS.tk) ?_;clear hS;intro w1 hS)|(refine Qm ?_)|apply Qs|apply Qr|(apply Rs<;>intro hc<;>try exact No)|apply Qn|refine Ql ?_|(refine Qx ?_;clear hS;intro b w1 hS)|(refine Qa ?_;clear hS;intro b w1 hS)|(refine Qd ?_;clear hS;intro w1 hS)|refine Qy ?_|refine Qz ?_|refine Qt ?_|refine Qf ?_|apply Qk|apply Qb
    refine Qw Tryz.func198 ?_;exact Xp
 subst he1;simp only[ne_eq,not_true_eq_false,if_false];rcases ht with rfl|rfl
 · have hz:¬h.e=0:=fun hz=>he ⟨rfl,hz⟩
   rw[if_neg (by omega)];by_cases he3:e3=0
   · subst he3
     simp only[zAg,if_true]at k3 ⊢;refine Run.calls3 (n:=54) Tryz.func198 rfl rfl rfl ?_;repeat' first|(refine Qv 246 (k1 hS.tk) ?_;clear hS;intro w1 hS)|(refine Qv 156 (k3 hS.tk) ?_;clear hS;intro w1 hS)|(refine Qm ?_)|apply Qs|apply Qr|(apply Rs<;>intro hc<;>try exact No)|apply Qn|refine Ql ?_|(refine Qx ?_;clear hS;intro b w1 hS)|(refine Qa ?_;clear hS;intro b w1 hS)|(refine Qd ?_;clear hS;intro w1 hS)|refine Qy ?_|refine Qf ?_|apply Qk|apply Qb|apply Qi
     refine Qw Tryz.func198 ?_;exact Xp
   · simp only[zAg,if_neg he3]at k3 ⊢
     refine Run.calls3 (n:=54) Tryz.func198 rfl rfl rfl ?_;repeat' first|(refine Qv 246 (k1 hS.tk) ?_;clear hS;intro w1 hS)|(refine Qv 156 (k3 hS.tk) ?_;clear hS;intro w1 hS)|(refine Qm ?_)|apply Qs|apply Qr|(apply Rs<;>intro hc<;>try exact No)|apply Qn|refine Ql ?_|(refine Qx ?_;clear hS;intro b w1 hS)|(refine Qa ?_;clear hS;intro b w1 hS)|(refine Qd ?_;clear hS;intro w1 hS)|refine Qy ?_|refine Qf ?_|apply Qk|apply Qb|apply Qi
     refine Qw Tryz.func198 ?_;exact Xp
 · rw[if_pos rfl]
   simp only;by_cases he2:e2=0
   · subst he2
     simp only[zAg,if_true]at k2 ⊢;refine Run.calls3 (n:=54) Tryz.func198 rfl rfl rfl ?_;repeat' first|(refine Qv 246 (k1 hS.tk) ?_;clear hS;intro w1 hS)|(refine Qv 199 (k2 hS.tk) ?_;clear hS;intro w1 hS)|(refine Qm ?_)|apply Qs|apply Qr|(apply Rs<;>intro hc<;>try exact No)|apply Qn|refine Ql ?_|(refine Qx ?_;clear hS;intro b w1 hS)|(refine Qa ?_;clear hS;intro b w1 hS)|(refine Qd ?_;clear hS;intro w1 hS)|refine Qz ?_|refine Qt ?_|refine Qf ?_|apply Qk|apply Qb
     refine Qw Tryz.func198 ?_;exact Xp
   · simp only[zAg,if_neg he2]at k2 ⊢
     refine Run.calls3 (n:=54) Tryz.func198 rfl rfl rfl ?_;repeat' first|(refine Qv 246 (k1 hS.tk) ?_;clear hS;intro w1 hS)|(refine Qv 199 (k2 hS.tk) ?_;clear hS;intro w1 hS)|(refine Qm ?_)|apply Qs|apply Qr|(apply Rs<;>intro hc<;>try exact No)|apply Qn|refine Ql ?_|(refine Qx ?_;clear hS;intro b w1 hS)|(refine Qa ?_;clear hS;intro b w1 hS)|(refine Qd ?_;clear hS;intro w1 hS)|refine Qz ?_|refine Qt ?_|refine Qf ?_|apply Qk|apply Qb
     refine Qw Tryz.func198 ?_;exact Xp
theorem zNN {lim:Nat}{L:List Nd}{h:Sh}{x:Int}(he:(zAO lim L h x).2.2.2≠0):(zAO lim L h x).2.2.1=0:=by
 unfold zAO at he ⊢;split
 · rfl
 · rename_i h0;rw[if_neg h0]at he;exact absurd rfl he
theorem zKZ (ht:t=1∨t=2)(hr:ShR ρ r h)(hS:St we ρ (zAA p lim L::F) w) :
 Cl Tryz.prog 103 [.agg (shL r h).toArray,pP p,pI t,pI x] w fun v w'=>v = .tuple #[.agg (zAg r (zAe lim L h t x).2.1 (zAe lim L h t x).2.2).toArray,pI (zAe lim L h t x).2.2]∧St we ρ (zAA p lim (zAe lim L h t x).1::F) w':=by
 unfold zAe;rcases ht with rfl|rfl
 · rw[if_pos rfl]
   have hr':ShR ρ r { h with re:=x }:=⟨hr.pat,hr.psk⟩
   have k3:∀{F w},St we ρ (zAA p lim L::F) w→_:=fun hS=>zEf (h:={ h with re:=x }) (x:=x) (eph:=true) hr' hS
   generalize zA3 lim L { h with re:=x } x true=a3 at k3;obtain⟨L3,h3,e3⟩:=a3;simp only at k3 ⊢;by_cases he3:e3=0
   · subst he3
     simp only[zAg,if_true]at k3 ⊢;refine Run.calls4 (n:=36) Tryz.func103 rfl rfl rfl ?_;repeat' first|(refine Qv 156 (k3 hS.tk) ?_;clear hS;intro w1 hS)|(refine Qm ?_)|apply Qs|apply Qr|(apply Rs<;>intro hc<;>try exact No)|apply Qn|refine Ql ?_|(refine Qx ?_;clear hS;intro b w1 hS)|(refine Qa ?_;clear hS;intro b w1 hS)|(refine Qd ?_;clear hS;intro w1 hS)|refine Qt ?_
     refine Qw Tryz.func103 ?_;exact Xp
   · simp only[zAg,if_neg he3]at k3 ⊢
     refine Run.calls4 (n:=36) Tryz.func103 rfl rfl rfl ?_;repeat' first|(refine Qv 156 (k3 hS.tk) ?_;clear hS;intro w1 hS)|(refine Qm ?_)|apply Qs|apply Qr|(apply Rs<;>intro hc<;>try exact No)|apply Qn|refine Ql ?_|(refine Qx ?_;clear hS;intro b w1 hS)|(refine Qa ?_;clear hS;intro b w1 hS)|(refine Qd ?_;clear hS;intro w1 hS)|refine Qt ?_
     refine Qw Tryz.func103 ?_;exact Xp
 · rw[if_neg (by omega)]
   have k3:∀{F w},St we ρ (zAA p lim L::F) w→_:=fun hS=>zFQ (r:=r) (h:=h) (x:=x) hS
   have hno:=zNN (lim:=lim) (L:=L) (h:=h) (x:=x);generalize zAO lim L h x=a3 at k3 hno;obtain⟨L3,h3,z3,e3⟩:=a3;simp only at k3 hno ⊢;by_cases he3:e3=0
   · subst he3
     simp only[zAg,if_true]at k3 ⊢;refine Run.calls4 (n:=36) Tryz.func103 rfl rfl rfl ?_;repeat' first|(refine Qv 104 (k3 hS.tk) ?_;clear hS;intro w1 hS)|(refine Qm ?_)|apply Qs|apply Qr|(apply Rs<;>intro hc<;>try exact No)|apply Qn|refine Ql ?_|(refine Qx ?_;clear hS;intro b w1 hS)|(refine Qa ?_;clear hS;intro b w1 hS)|(refine Qd ?_;clear hS;intro w1 hS)|refine Qf ?_|apply Qk
     refine Qw Tryz.func103 ?_;exact Xp
   · obtain rfl:=hno he3
     simp only[zAg,if_neg he3]at k3 ⊢;refine Run.calls4 (n:=36) Tryz.func103 rfl rfl rfl ?_;repeat' first|(refine Qv 104 (k3 hS.tk) ?_;clear hS;intro w1 hS)|(refine Qm ?_)|apply Qs|apply Qr|(apply Rs<;>intro hc<;>try exact No)|apply Qn|refine Ql ?_|(refine Qx ?_;clear hS;intro b w1 hS)|(refine Qa ?_;clear hS;intro b w1 hS)|(refine Qd ?_;clear hS;intro w1 hS)|refine Qf ?_|apply Qk
     refine Qw Tryz.func103 ?_;exact Xp
theorem zNH {l:List Int}{i:Nat}(hi:i<l.length):zBL (l.take (i+1))=zBL (l.take i)+if l[i]≤2 then 1 else 0:=by
 unfold zBL;rw[List.take_succ_eq_append_getElem hi,List.filter_append,List.length_append];by_cases h:l[i]≤2<;>simp[h]<;>omega
theorem zGF (l:List Int):1≤zBL l∧zBL l≤1+l.length:=by
 unfold zBL;have:=List.length_filter_le (fun t:Int=>decide (t≤2)) l;omega
theorem zF6 {v:Value}{l:List Int}(hl:Sl ρ intL 1 v l)(hm:l.length≤12)(hS:St we ρ σ w):Cl Tryz.prog 101 [v] w fun u w'=>u = pI (zBL l)∧St we ρ σ w':=by
 obtain⟨p1,c1,rfl,k1,k2,-⟩:=hl.val;unfold maxLen at k2;refine Run.calls1 (n:=18) Tryz.func101 rfl rfl rfl ?_;repeat' first|apply Qs|apply Qr|apply Qn|refine Ql ?_|apply Qb
 refine Run.while (fun i:Nat=>[(3,pI (zBL (l.take i))),(6,.slice p1 l.length c1),(7,pI l.length),(8,pI i)])
  (fun i w=>i≤l.length∧St we ρ σ w) (fun i=>l.length - i) 0 ⟨by omega,hS.pk⟩ (by exact Sb) ?_
 clear hS;rintro i w ⟨hi,hS⟩ ih;by_cases hlt:i<l.length
 · obtain⟨b0,o0,cs0,e0,f0,rfl,m0,h0⟩:=hl.int hlt
   have hput:=zNH hlt;have hbd:=zGF (l.take i);have hle:(l.take i).length≤12:=by rw[List.length_take];omega
   have ih2:=ih (i+1);generalize l[i]=x at h0 hput;generalize zBL (l.take i)=s at hput hbd ⊢;rw[hput]at ih2;by_cases hx2:x≤2
   · rw[if_pos hx2]at ih2
     repeat' first|(refine Ql ?_ (h:=by apply Still.load;rfl;rfl;exact Rd.ro m0;exact h0))|apply Qs|apply Qr|(apply Rs<;>intro hc<;>try exact No)|apply Qn|refine Ql ?_|refine Qt ?_|apply Qk|apply Qb|apply Qi
     exact Run.weaken (by exact Sb) (ih2 _ ⟨by omega,hS⟩ (by omega))
   · rw[if_neg hx2,Int.add_zero]at ih2
     repeat' first|(refine Ql ?_ (h:=by apply Still.load;rfl;rfl;exact Rd.ro m0;exact h0))|apply Qs|apply Qr|(apply Rs<;>intro hc<;>try exact No)|apply Qn|refine Ql ?_|refine Qt ?_|refine Qf ?_|apply Qk|apply Qb|apply Qi
     exact Run.weaken (by exact Sb) (ih2 _ ⟨by omega,hS⟩ (by omega))
 · obtain rfl:i=l.length:=by omega
   rw[List.take_of_length_le (Nat.le_refl _)];repeat' first|apply Qs|apply Qr|(apply Rs<;>intro hc<;>try exact No)|apply Qn|refine Ql ?_|refine Qf ?_|refine Qe ?_
   refine Qw Tryz.func101 ?_;exact Xp
end
structure Stay (h h':Sh):Prop where
 p:h'.p=h.p
 psks:h'.psks=h.psks
 role:h'.role=h.role
 at_:h'.at_=h.at_
theorem Stay.refl (h:Sh):Stay h h:=⟨rfl,rfl,rfl,rfl⟩
theorem Stay.trans {a b c:Sh}(h1:Stay a b)(h2:Stay b c):Stay a c:=⟨h2.p.trans h1.p,h2.psks.trans h1.psks,h2.role.trans h1.role,h2.at_.trans h1.at_⟩
theorem ShR.stay {ρ:List (Nat × Obj)}{r:Rep}{h h':Sh}(hr:ShR ρ r h)(hs:Stay h h'):ShR ρ r h':=by
 refine⟨?_,?_⟩
 · rw[hs.p];exact hr.pat
 · rw[hs.psks];exact hr.psk
theorem zF4 (lim:Nat)(L:List Nd)(h:Sh)(x:Int)(eph:Bool):Stay h (zA3 lim L h x eph).2.1∧(zA3 lim L h x eph).2.1.next=h.next:=by
 unfold zA3;(repeat' split)<;>exact⟨⟨rfl,rfl,rfl,rfl⟩,rfl⟩
theorem zFW (lim:Nat)(L:List Nd)(h:Sh)(x:Int):Stay h (zAU lim L h x).2.1∧(zAU lim L h x).2.1.next=h.next:=by
 unfold zAU;(repeat' split)<;>exact⟨⟨rfl,rfl,rfl,rfl⟩,rfl⟩
theorem zFX (lim:Nat)(L:List Nd)(h:Sh)(x:Int):Stay h (zAO lim L h x).2.1∧(zAO lim L h x).2.1.next=h.next:=by
 unfold zAO;(repeat' split)<;>exact⟨⟨rfl,rfl,rfl,rfl⟩,rfl⟩
theorem zHh (lim:Nat)(L:List Nd)(h:Sh)(t:Int):Stay h (zAR lim L h t).2.1∧(zAR lim L h t).2.1.next≤h.next+(if t=7 then 1 else 0):=by
 unfold zAR;by_cases ht:t=7
 · simp only[ht,if_true];(repeat' split)<;>exact⟨⟨rfl,rfl,rfl,rfl⟩,by simp⟩
 · simp only[ht,if_false];(repeat' split)<;>exact⟨⟨rfl,rfl,rfl,rfl⟩,by simp⟩
theorem zF3 (lim:Nat)(L:List Nd)(h:Sh)(t:Int):Stay h (zA9 lim L h t).2.1∧(zA9 lim L h t).2.1.next=h.next:=by
 unfold zA9;(repeat' split)
 · exact⟨Stay.refl _,rfl⟩
 · exact⟨Stay.refl _,rfl⟩
 · exact zFW ..
 · exact zF4 ..
theorem zHD (lim:Nat)(L:List Nd)(h:Sh)(t x:Int):Stay h (zAe lim L h t x).2.1∧(zAe lim L h t x).2.1.next=h.next:=by
 unfold zAe;split
 · have h1:=zF4 lim L { h with re:=x } x true
   exact⟨⟨h1.1.p,h1.1.psks,h1.1.role,h1.1.at_⟩,h1.2⟩
 · have h1:=zFX lim L h x
   exact⟨⟨h1.1.p,h1.1.psks,h1.1.role,h1.1.at_⟩,h1.2⟩
def zCb (l:List Int):Nat:=(l.filter fun t=>decide (t=7)).length
theorem zC7 (t:Int)(l:List Int):zCb (t::l)=(if t=7 then 1 else 0)+zCb l:=by
 unfold zCb;by_cases h:t=7<;>simp[h,Nat.add_comm]
def zAJ (lim:Nat)(e:Int):List Nd→Sh→List Int→List Int→List Nd × Sh × List Int × Int
 | L,h,m,[]=>(L,h,m,0)
 | L,h,m,t::l =>
   if 2<t then if(zAR lim L h t).2.2≠0 then((zAR lim L h t).1,h,m,(zAR lim L h t).2.2) else zAJ lim e (zAR lim L h t).1 (zAR lim L h t).2.1 m l
   else if t=1 then
    if(zA9 lim L { h with e:=e } t).2.2.2≠0 then((zA9 lim L { h with e:=e } t).1,h,m,(zA9 lim L { h with e:=e } t).2.2.2) else zAJ lim e (zA9 lim L { h with e:=e } t).1 (zA9 lim L { h with e:=e } t).2.1 (m++[(zA9 lim L { h with e:=e } t).2.2.1]) l
   else if(zA9 lim L h t).2.2.2≠0 then((zA9 lim L h t).1,h,m,(zA9 lim L h t).2.2.2) else zAJ lim e (zA9 lim L h t).1 (zA9 lim L h t).2.1 (m++[(zA9 lim L h t).2.2.1]) l
def zAq (h:Sh):List Int:=match h.p.msgs[h.at_]? with|some m=>m.t|none=>[]
def zAK (lim:Nat)(L:List Nd)(h:Sh)(e x:Int):List Nd × Sh × List Int × Int :=
 if zDf h=false then(L,h,[],5)
 else if(has L e && has L x)=false then(L,h,[],1)
 else if(zAJ lim e L h [] (zAq h)).2.2.2≠0 then((zAJ lim e L h [] (zAq h)).1,h,[],(zAJ lim e L h [] (zAq h)).2.2.2)
 else
  let w:=zAJ lim e L h [] (zAq h)
  if(zAU lim w.1 w.2.1 x).2.2.2≠0 then((zAU lim w.1 w.2.1 x).1,h,[],(zAU lim w.1 w.2.1 x).2.2.2)
  else((zAU lim w.1 w.2.1 x).1,{ (zAU lim w.1 w.2.1 x).2.1 with at_:=(zAU lim w.1 w.2.1 x).2.1.at_+1 },w.2.2.1++[(zAU lim w.1 w.2.1 x).2.2.1],0)
def zAY (lim:Nat)(msg:List Int):List Nd→Sh→Nat→List Int→List Nd × Sh × Nat × Int
 | L,h,n,[]=>(L,h,n,0)
 | L,h,n,t::l =>
   if 2<t then if(zAR lim L h t).2.2≠0 then((zAR lim L h t).1,h,n,(zAR lim L h t).2.2) else zAY lim msg (zAR lim L h t).1 (zAR lim L h t).2.1 n l
   else if(zAe lim L h t (msg.getD n 0)).2.2≠0 then((zAe lim L h t (msg.getD n 0)).1,h,n,(zAe lim L h t (msg.getD n 0)).2.2)
   else zAY lim msg (zAe lim L h t (msg.getD n 0)).1 (zAe lim L h t (msg.getD n 0)).2.1 (n+1) l
def zAN (lim:Nat)(L:List Nd)(h:Sh)(msg:List Int):List Nd × Sh × Int × Int :=
 if h.p.msgs.length≤h.at_∨zDf h=true then(L,h,0,5)
 else if msg.all (has L)=false then(L,h,0,1)
 else if(msg.length:Int)≠zBL (zAq h)then(L,h,0,7)
 else if(zAY lim msg L h 0 (zAq h)).2.2.2≠0 then((zAY lim msg L h 0 (zAq h)).1,h,0,(zAY lim msg L h 0 (zAq h)).2.2.2)
 else
  let w:=zAY lim msg L h 0 (zAq h)
  if(zAO lim w.1 w.2.1 (msg.getD w.2.2.1 0)).2.2.2≠0 then((zAO lim w.1 w.2.1 (msg.getD w.2.2.1 0)).1,h,0,(zAO lim w.1 w.2.1 (msg.getD w.2.2.1 0)).2.2.2)
  else((zAO lim w.1 w.2.1 (msg.getD w.2.2.1 0)).1,{ (zAO lim w.1 w.2.1 (msg.getD w.2.2.1 0)).2.1 with at_:=(zAO lim w.1 w.2.1 (msg.getD w.2.2.1 0)).2.1.at_+1 },(zAO lim w.1 w.2.1 (msg.getD w.2.2.1 0)).2.2.1,0)
def zBM (lim:Nat)(L:List Nd)(h:Sh):List Nd × Cph × Cph × Int :=
 if h.at_<h.p.msgs.length then(L,.z,.z,5)
 else if h.role=1 then((zBx lim L h.y).1,(zBx lim L h.y).2.2.1,(zBx lim L h.y).2.1,(zBx lim L h.y).2.2.2)
 else zBx lim L h.y
section
variable {we w:World}{ρ:List (Nat × Obj)}{σ F:List HP}{p lim:Nat}{L L1 L2:List Nd}{r:Rep}{h:Sh}{x e who t:Int}{y1 y2:Sy}
theorem zK7 (hro:h.role=0∨h.role=1)(hr:ShR ρ r h)(hn:r.nm=h.p.msgs.length)(hS:St we ρ (zAA p lim L::F) w) :
 Cl Tryz.prog 160 [.agg (shL r h).toArray,pP p] w fun v w'=>v = .tuple #[cphV (zBM lim L h).2.1,cphV (zBM lim L h).2.2.1,pI (zBM lim L h).2.2.2]∧St we ρ (zAA p lim (zBM lim L h).1::F) w':=by
 unfold zBM;have k0:∀{σ:List HP} {w:World},St we ρ σ w→_:=fun hS=>zCC (r:=r) (h:=h) hn hS
 by_cases hd:h.at_<h.p.msgs.length
 · rw[if_pos hd]
   rw[decide_eq_false (by omega)]at k0;refine Run.calls2 (n:=28) Tryz.func160 rfl rfl rfl ?_;repeat' first|(refine Qv 58 (k0 hS) ?_;clear hS;intro w1 hS)|(refine Qm ?_)|apply Qs|apply Qr|apply Qn|refine Ql ?_|(refine Qx ?_;clear hS;intro b w1 hS)|(refine Qa ?_;clear hS;intro b w1 hS)|(refine Qd ?_;clear hS;intro w1 hS)|refine Qt ?_
   refine Qw Tryz.func160 ?_;exact Xp
 · rw[if_neg hd]
   rw[decide_eq_true (by omega)]at k0;have k1:∀{F w},St we ρ (zAA p lim L::F) w→_:=fun hS=>zMu (s:=h.y) hS
   generalize zBx lim L h.y=a1 at k1;obtain⟨L1,d1,d2,e1⟩:=a1;simp only at k1 ⊢;rcases hro with hro|hro
   · rw[if_neg (by omega)]
     unfold shL at k0 ⊢;rw[hro]at k0 ⊢;refine Run.calls2 (n:=28) Tryz.func160 rfl rfl rfl ?_;repeat' first|(refine Qv 58 (k0 hS) ?_;clear hS;intro w1 hS)|(refine Qv 212 (k1 hS.tk) ?_;clear hS;intro w1 hS)|(refine Qm ?_)|apply Qs|apply Qr|(apply Rs<;>intro hc<;>try exact No)|apply Qn|refine Ql ?_|(refine Qx ?_;clear hS;intro b w1 hS)|(refine Qa ?_;clear hS;intro b w1 hS)|(refine Qd ?_;clear hS;intro w1 hS)|refine Qf ?_|apply Qk
     refine Run.regionH_of hS (.cons_cons _ (.cons _ (.cons _ (List.Sublist.refl _)))) (by rfl) (by rfl) (by rfl) ?_;clear hS;intro w1 hS;repeat' first|(refine Yt 0 2 ?_)|(refine Zb 4 0 1 ?_ ?_)|(refine Jo ?_)|(refine Zb 5 1 3 ?_ ?_)|(refine Za 7 3 ?_)|(refine Za 15 4 ?_)|(refine Yt 31 5 ?_)|(refine Yd 63 ?_)|(refine Za 13 1 ?_)|(refine Za 6 0 ?_)|(refine RH.relist (listed':=bm 6 0) (by kernel_rfl) ?_)|(refine Od ?_;clear hS;intro w1 hS;refine Xh ?_)|(refine Ol (Xh ?_))
     all_goals
      refine Qw Tryz.func160 ?_;exact Xp
   · rw[if_pos hro]
     unfold shL at k0 ⊢;rw[hro]at k0 ⊢;refine Run.calls2 (n:=28) Tryz.func160 rfl rfl rfl ?_;repeat' first|(refine Qv 58 (k0 hS) ?_;clear hS;intro w1 hS)|(refine Qv 212 (k1 hS.tk) ?_;clear hS;intro w1 hS)|(refine Qm ?_)|apply Qs|apply Qr|(apply Rs<;>intro hc<;>try exact No)|apply Qn|refine Ql ?_|(refine Qx ?_;clear hS;intro b w1 hS)|(refine Qa ?_;clear hS;intro b w1 hS)|(refine Qd ?_;clear hS;intro w1 hS)|refine Qt ?_|refine Qf ?_|apply Qk
     refine Run.regionH_of hS (.cons_cons _ (.cons _ (.cons _ (List.Sublist.refl _)))) (by rfl) (by rfl) (by rfl) ?_;clear hS;intro w1 hS;repeat' first|(refine Yt 0 2 ?_)|(refine Zb 4 0 1 ?_ ?_)|(refine Jo ?_)|(refine Zb 5 1 3 ?_ ?_)|(refine Za 7 3 ?_)|(refine Za 15 4 ?_)|(refine Yt 31 5 ?_)|(refine Yd 63 ?_)|(refine Za 13 1 ?_)|(refine Za 6 0 ?_)|(refine RH.relist (listed':=bm 6 0) (by kernel_rfl) ?_)|(refine Od ?_;clear hS;intro w1 hS;refine Xh ?_)|(refine Ol (Xh ?_))
     all_goals
      refine Qw Tryz.func160 ?_;exact Xp
end
end Go.Proofs.YtcikdogkkgefcaaGreatDoor
