/- The closures that tell what can be made: can, open, looks. -/
import Derived.Test.YtcikdogkkgefcaaGreatDoorMA05
import Derived.Test.YtcikdogkkgefcaaGreatDoorMA07
namespace Go.Proofs.YtcikdogkkgefcaaGreatDoor
set_option maxRecDepth 8000
set_option maxHeartbeats 16000000
set_option linter.unusedVariables false
set_option linter.unusedSimpArgs false
open Go Go.RowKit
theorem zE5:∀{σ1 σ2:List HP} {w:World} {X:List Nat},sep (σ1 ++ σ2) w X↔∃X1 X2,X=X1++X2∧sep σ1 w X1∧sep σ2 w X2
 | [],σ2,w,X=>⟨fun h=>⟨[],X,rfl,rfl,h⟩,fun⟨X1,X2,e,h1,h2⟩=>by
    have:X1=[]:=h1;subst this;rw[e];exact h2⟩
 | A :: σ1,σ2,w,X=>by
   constructor
   · rintro⟨X1,X2,rfl,ha,h⟩
     obtain⟨Y1,Y2,rfl,h1,h2⟩:=zE5.1 h;exact⟨X1++Y1,Y2,by simp,⟨X1,Y1,rfl,ha,h1⟩,h2⟩
   · rintro⟨X1,X2,rfl,⟨Y1,Y2,rfl,ha,h1⟩,h2⟩
     exact⟨Y1,Y2++X2,by simp,ha,zE5.2 ⟨Y2,X2,rfl,h1,h2⟩⟩
def HP.all (σ:List HP):HP:=⟨fun w X=>sep σ w X,fun h hk=>zIB h hk⟩
theorem St.all {we w:World}{ρ:List (Nat × Obj)}{σ1 F:List HP}:St we ρ (HP.all σ1::F) w↔St we ρ (σ1++F) w:=by
 constructor
 · rintro⟨hb,⟨X,⟨X1,X2,rfl,h1,h2⟩,h⟩,hro⟩
   exact⟨hb,⟨X1++X2,zE5.2 ⟨X1,X2,rfl,h1,h2⟩,h⟩,hro⟩
 · rintro⟨hb,⟨X,hs,h⟩,hro⟩
   obtain⟨X1,X2,rfl,h1,h2⟩:=zE5.1 hs;exact⟨hb,⟨X1++X2,⟨X1,X2,rfl,h1,h2⟩,h⟩,hro⟩
structure Lay where
 bk:Nat
 bh:Nat
 bc:Nat
 bo:Nat
 bl:Nat
 kb:Nat
 mh:Nat
 km:Nat
 p:Nat
 lim:Nat
 hv:Value
def canV (y:Lay):Value:=.func (.func 40) #[] #[pP y.bh,pP y.bk,pP y.bl]
def zWn (y:Lay):Value:=.func (.func 41) #[] #[pP y.bk,pP y.bc]
def zWQ (y:Lay):Value:=.func (.func 43) #[] #[pP y.bk,pP y.bc,pP y.bo]
abbrev lkL (y:Lay)(L:List Nd)(kv:List (Int × Bool))(st:List Nat)(c:Nat)(kvK:List (Int × Bool))(stK:List Nat)(cK:Nat):List HP :=
 [zAA y.p y.lim L,BMap y.km kvK stK cK,Row y.kb [pP y.p,y.hv,.map (some y.km)] 130,BMap y.mh kv st c,
  Row y.bl [zWQ y] 43,Row y.bo [zWn y] 43,Row y.bc [canV y] 43,Row y.bh [.map (some y.mh)] 45,Row y.bk [pP y.kb] 41]
abbrev Lk (y:Lay)(L:List Nd)(kv:List (Int × Bool))(st:List Nat)(c:Nat)(kvK:List (Int × Bool))(stK:List Nat)(cK:Nat):HP:=HP.all (lkL y L kv st c kvK stK cK)
section
variable {we w:World}{ρ:List (Nat × Obj)}{σ F:List HP}{L:List Nd}{y:Lay}{kv kvK:List (Int × Bool)}{st stK:List Nat}{c cK:Nat}{K:Int→Bool}
theorem zWi {A1 A2 A3 A4 A5 A6 A7 A8 A9:HP}{F1 F2 F3 F4 F5 F6 F7 F8 F9:List HP}(h:St we ρ σ w)(t1:Take A1 σ F1)(t2:Take A2 F1 F2)(t3:Take A3 F2 F3)(t4:Take A4 F3 F4)(t5:Take A5 F4 F5)(t6:Take A6 F5 F6)(t7:Take A7 F6 F7)(t8:Take A8 F7 F8)(t9:Take A9 F8 F9) :
 St we ρ (HP.all [A9,A8,A7,A6,A5,A4,A3,A2,A1]::F9) w :=
 St.all.2 (((((((((h.take t1).take (.tail t2)).take (.tail (.tail t3))).take (.tail (.tail (.tail t4)))).take (.tail (.tail (.tail (.tail t5))))).take (.tail (.tail (.tail (.tail (.tail t6)))))).take
  (.tail (.tail (.tail (.tail (.tail (.tail t7))))))).take (.tail (.tail (.tail (.tail (.tail (.tail (.tail t8)))))))).take (.tail (.tail (.tail (.tail (.tail (.tail (.tail (.tail t9)))))))))
theorem zBA {A1 A2 A3 A4 A5 A6 A7 A8 A9:HP}{F1 F2 F3 F4 F5 F6 F7 F8 F9:List HP}(h:St we ρ σ w)(t1:Take A1 σ F1:=by exact An)(t2:Take A2 F1 F2:=by exact An)(t3:Take A3 F2 F3:=by exact An)(t4:Take A4 F3 F4:=by exact An)(t5:Take A5 F4 F5:=by exact An)(t6:Take A6 F5 F6:=by exact An)(t7:Take A7 F6 F7:=by exact An)(t8:Take A8 F7 F8:=by exact An)(t9:Take A9 F8 F9:=by exact An) :
 St we ρ (HP.all [A9,A8,A7,A6,A5,A4,A3,A2,A1]::F9) w:=zWi h t1 t2 t3 t4 t5 t6 t7 t8 t9
def CanC (we:World)(ρ:List (Nat × Obj))(y:Lay)(L:List Nd)(kvK:List (Int × Bool))(stK:List Nat)(cK:Nat)(K:Int→Bool)(n:Nat):Prop :=
 ∀(x:Int) (w:World) (F:List HP) (kv:List (Int × Bool)) (st:List Nat) (c:Nat),(has L x=true→x.toNat<n)→Tells (can L K) kv st→St we ρ (Lk y L kv st c kvK stK cK::F) w →
  Cl Tryz.prog 40 [pI x,pP y.bh,pP y.bk,pP y.bl] w
   fun v w'=>∃kv' st' c',v = .bool (can L K x)∧Tells (can L K) kv' st'∧St we ρ (Lk y L kv' st' c' kvK stK cK::F) w'
theorem zRV {n:Nat}(hK:Knows K kvK stK)(ih:CanC we ρ y L kvK stK cK K n){x:Int}(hn:has L x=true→x.toNat<n)(ht:Tells (can L K) kv st)(hS:St we ρ (Lk y L kv st c kvK stK cK::F) w) :
 Cl Tryz.prog 41 [pI x,pP y.bk,pP y.bc] w
  fun v w'=>∃kv' st' c',v = .bool (pubK L K x || can L K x)∧Tells (can L K) kv' st'∧St we ρ (Lk y L kv' st' c' kvK stK cK::F) w':=by
 replace hS:=St.all.1 hS;simp only[lkL,List.cons_append,List.nil_append]at hS;have hfd:∀z,zBN (fun u=>decide (z=intK u)) (ents kfB vfB kvK stK) 0=(zAM kvK z 0).map fun r=>(r.1,vfB r.2):=fun z=>zBc (kf:=kfB) (vf:=vfB) (kof:=intK) zAT 0 hK.len
 cases hf:find L ⟨2,0,x,0,0⟩with
 | none =>
   have hp:pubK L K x=false:=by unfold pubK;rw[hf]
   rw[hp,Bool.false_or];refine Run.calls3 (n:=31) Tryz.func41 rfl rfl rfl ?_;repeat' first|(refine Qv 42 (zFF (n:=⟨2,0,x,0,0⟩) hS.tk) ?_;clear hS;intro w1 hS;rw[hf])|(apply RO.op;apply OP.callV;rfl;rfl;rfl;rfl;exact ih x _ _ _ _ _ hn ht (zBA hS);clear hS;rintro v w1 ⟨kv',st',c',rfl,ht',hS⟩)|apply Qs|apply Qr|apply Qn|refine Ql ?_|refine Qy ?_|refine Qz ?_
   refine Qw Tryz.func41 ?_;exact⟨kv',st',c',rfl,ht',hS.pk⟩
 | some i =>
   have hp:pubK L K x=K i:=by unfold pubK;rw[hf]
   have hkf:=zG2 hK (i:Int);rw[hp];cases hk:K (i:Int)with
   | true =>
     rw[hk]at hkf;rw[Bool.true_or];refine Run.calls3 (n:=31) Tryz.func41 rfl rfl rfl ?_;repeat' first|(refine Qv 42 (zFF (n:=⟨2,0,x,0,0⟩) hS.tk) ?_;clear hS;intro w1 hS;rw[hf])|(refine Ql ?_ (h:=by apply Still.lookup;rfl;rfl;rfl;rfl;(exact Rd.any);exact KeyIs.int (f:=intK) rfl (zAS zAT);exact hfd _;exact hkf))|apply Qs|apply Qr|apply Qn|refine Ql ?_|refine Qy ?_|refine Qz ?_
     refine Qw Tryz.func41 ?_;have hS2:St we ρ (Lk y L kv st c kvK stK cK::_) _:=zBA hS;exact⟨kv,st,c,rfl,ht,hS2.pk⟩
   | false =>
     rw[hk]at hkf;rw[Bool.false_or];refine Run.calls3 (n:=31) Tryz.func41 rfl rfl rfl ?_;repeat' first|(refine Qv 42 (zFF (n:=⟨2,0,x,0,0⟩) hS.tk) ?_;clear hS;intro w1 hS;rw[hf])|(refine Ql ?_ (h:=by apply Still.lookup;rfl;rfl;rfl;rfl;(exact Rd.any);exact KeyIs.int (f:=intK) rfl (zAS zAT);exact hfd _;exact hkf))|(apply RO.op;apply OP.callV;rfl;rfl;rfl;rfl;exact ih x _ _ _ _ _ hn ht (zBA hS);clear hS;rintro v w1 ⟨kv',st',c',rfl,ht',hS⟩)|apply Qs|apply Qr|apply Qn|refine Ql ?_|refine Qy ?_
     refine Qw Tryz.func41 ?_;exact⟨kv',st',c',rfl,ht',hS.pk⟩
theorem zMY {x:Int}{c:Int→Bool}(h:(nd L x).k=0∨(nd L x).k=9):canR L K c x=true:=by unfold canR;rw[if_pos h]
theorem zTf {n:Nat}(hK:Knows K kvK stK)(ih:CanC we ρ y L kvK stK cK K n)(g:Good y.lim L){x:Int}(hn:has L x=true→x.toNat≤n)(ht:Tells (can L K) kv st)(hS:St we ρ (Lk y L kv st c kvK stK cK::F) w) :
 Cl Tryz.prog 43 [pI x,pP y.bk,pP y.bc,pP y.bo] w
  fun v w'=>∃kv' st' c',v = .bool (has L x && canR L K (can L K) x)∧Tells (can L K) kv' st'∧St we ρ (Lk y L kv' st' c' kvK stK cK::F) w':=by
 replace hS:=St.all.1 hS;simp only[lkL,List.cons_append,List.nil_append]at hS;cases hx:has L x with
 | false =>
   refine Run.calls4 (n:=87) Tryz.func43 rfl rfl rfl ?_;repeat' first|(refine Qv 10 (zA0 hS.tk) ?_;clear hS;intro w1 hS;rw[hx])|apply Qs|apply Qr|apply Qn|refine Ql ?_|(refine Qa ?_;clear hS;intro b w1 hS)|(refine Qd ?_;clear hS;intro w1 hS)|refine Qt ?_
   refine Qw Tryz.func43 ?_;have hS2:St we ρ (Lk y L kv st c kvK stK cK::_) _:=zBA hS;exact⟨kv,st,c,rfl,ht,hS2.pk⟩
 | true =>
   have hx2:=zAV.1 hx;have hn:=hn hx;rw[Bool.true_and];rcases zCG g hx with h0|⟨p1,p2,p3,q1,q2,q3⟩
   · rw[zMY (.inl h0)]
     refine Run.calls4 (n:=87) Tryz.func43 rfl rfl rfl ?_;repeat' first|(refine Qv 10 (zA0 hS.tk) ?_;clear hS;intro w1 hS;rw[hx])|apply Qs|apply Qr|(apply Rs<;>intro hc<;>try exact No)|apply Qn|refine Ql ?_|(refine Qa ?_;clear hS;intro b w1 hS)|(refine Qd ?_;clear hS;intro w1 hS)|refine Qt ?_|refine Qf ?_|apply Qk|apply Qb
     refine Qw Tryz.func43 ?_;have hS2:St we ρ (Lk y L kv st c kvK stK cK::_) _:=zBA hS;exact⟨kv,st,c,rfl,ht,hS2.pk⟩
   have r1:=zAV.1 p1;have r2:=zAV.1 p2;have r3:=zAV.1 p3;have iha:∀(w:World) (F:List HP) (kv:List (Int × Bool)) (st:List Nat) (c:Nat),Tells (can L K) kv st→St we ρ (Lk y L kv st c kvK stK cK::F) w→_:=fun w F kv st c=>ih (nd L x).a w F kv st c (fun _=>by omega)
   have ihb:∀(w:World) (F:List HP) (kv:List (Int × Bool)) (st:List Nat) (c:Nat),Tells (can L K) kv st→St we ρ (Lk y L kv st c kvK stK cK::F) w→_:=fun w F kv st c=>ih (nd L x).b w F kv st c (fun _=>by omega)
   have ihc:∀(w:World) (F:List HP) (kv:List (Int × Bool)) (st:List Nat) (c:Nat),Tells (can L K) kv st→St we ρ (Lk y L kv st c kvK stK cK::F) w→_:=fun w F kv st c=>ih (nd L x).c w F kv st c (fun _=>by omega)
   obtain⟨ca,hca⟩:∃b,can L K (nd L x).a=b:=⟨_,rfl⟩
   obtain⟨cb,hcb⟩:∃b,can L K (nd L x).b=b:=⟨_,rfl⟩
   obtain⟨cc,hcc⟩:∃b,can L K (nd L x).c=b:=⟨_,rfl⟩
   obtain⟨pa,hpa⟩:∃b,pubK L K (nd L x).a=b:=⟨_,rfl⟩
   obtain⟨pb,hpb⟩:∃b,pubK L K (nd L x).b=b:=⟨_,rfl⟩
   simp only[hca,hcb,hcc]at iha ihb ihc;by_cases k9:(nd L x).k=0∨(nd L x).k=9
   · rw[zMY k9]
     rcases k9 with k9|k9
     all_goals
      refine Run.calls4 (n:=87) Tryz.func43 rfl rfl rfl ?_;repeat' first|(refine Qv 10 (zA0 hS.tk) ?_;clear hS;intro w1 hS;rw[hx])|apply Qs|apply Qr|(apply Rs<;>intro hc<;>try exact No)|apply Qn|refine Ql ?_|(refine Qa ?_;clear hS;intro b w1 hS)|(refine Qd ?_;clear hS;intro w1 hS)|refine Qt ?_|refine Qf ?_|apply Qk|apply Qb
      all_goals
       refine Qw Tryz.func43 ?_;have hS2:St we ρ (Lk y L _ _ _ kvK stK cK::_) _:=zBA hS;exact⟨_,_,_,rfl,by assumption,hS2.pk⟩
   by_cases k1:(nd L x).k=1
   · have hcan:canR L K (can L K) x=decide (4294967296≤(nd L x).n):=by unfold canR;rw[if_neg k9,if_pos k1]
     rw[hcan];all_goals
      refine Run.calls4 (n:=87) Tryz.func43 rfl rfl rfl ?_;repeat' first|(refine Qv 10 (zA0 hS.tk) ?_;clear hS;intro w1 hS;rw[hx])|apply Qs|apply Qr|(apply Rs<;>intro hc<;>try exact No)|apply Qn|refine Ql ?_|(refine Qa ?_;clear hS;intro b w1 hS)|(refine Qd ?_;clear hS;intro w1 hS)|refine Qt ?_|refine Qf ?_|apply Qk|apply Qb
      all_goals
       refine Qw Tryz.func43 ?_;have hS2:St we ρ (Lk y L _ _ _ kvK stK cK::_) _:=zBA hS;first|(rw[decide_eq_true (by assumption:4294967296≤(nd L x).n)];exact⟨_,_,_,rfl,by assumption,hS2.pk⟩)|(rw[decide_eq_false (by assumption:¬ 4294967296≤(nd L x).n)];exact⟨_,_,_,rfl,by assumption,hS2.pk⟩)
   by_cases k2:(nd L x).k=2
   · have hcan:canR L K (can L K) x=ca:=by unfold canR;rw[if_neg k9,if_neg k1,if_pos k2,hca]
     rw[hcan];cases ca;all_goals
      refine Run.calls4 (n:=87) Tryz.func43 rfl rfl rfl ?_;repeat' first|(refine Qv 10 (zA0 hS.tk) ?_;clear hS;intro w1 hS;rw[hx])|(apply RO.op;apply OP.callV;rfl;rfl;rfl;rfl;exact iha _ _ _ _ _ (by assumption) (zBA hS);clear hS;rintro v w1 ⟨kv',st',c',rfl,ht',hS⟩;replace hS:=St.all.1 hS;simp only[lkL,List.cons_append,List.nil_append]at hS)|apply Qs|apply Qr|(apply Rs<;>intro hc<;>try exact No)|apply Qn|refine Ql ?_|(refine Qa ?_;clear hS;intro b w1 hS)|(refine Qd ?_;clear hS;intro w1 hS)|refine Qt ?_|refine Qf ?_|apply Qk|apply Qb
      all_goals
       refine Qw Tryz.func43 ?_;have hS2:St we ρ (Lk y L _ _ _ kvK stK cK::_) _:=zBA hS;exact⟨_,_,_,rfl,by assumption,hS2.pk⟩
   by_cases k3:(nd L x).k=3
   · have hcan:canR L K (can L K) x=((ca && (pb || cb)) || (cb && (pa || ca))):=by unfold canR;rw[if_neg k9,if_neg k1,if_neg k2,if_pos k3,hca,hcb,hpa,hpb]
     rw[hcan];have ioa:∀(w:World) (F:List HP) (kv:List (Int × Bool)) (st:List Nat) (c:Nat),Tells (can L K) kv st→St we ρ (Lk y L kv st c kvK stK cK::F) w→_:=fun w F kv st c h1 h2=>zRV hK ih (x:=(nd L x).a) (fun _=>by omega) h1 h2
     have iob:∀(w:World) (F:List HP) (kv:List (Int × Bool)) (st:List Nat) (c:Nat),Tells (can L K) kv st→St we ρ (Lk y L kv st c kvK stK cK::F) w→_:=fun w F kv st c h1 h2=>zRV hK ih (x:=(nd L x).b) (fun _=>by omega) h1 h2
     simp only[hca,hcb,hpa,hpb]at ioa iob;cases ca<;>cases cb<;>cases pa<;>cases pb;all_goals
      refine Run.calls4 (n:=87) Tryz.func43 rfl rfl rfl ?_;repeat' first|(refine Qv 10 (zA0 hS.tk) ?_;clear hS;intro w1 hS;rw[hx])|(apply RO.op;apply OP.callV;rfl;rfl;rfl;rfl;exact iha _ _ _ _ _ (by assumption) (zBA hS);clear hS;rintro v w1 ⟨kv',st',c',rfl,ht',hS⟩;replace hS:=St.all.1 hS;simp only[lkL,List.cons_append,List.nil_append]at hS)|(apply RO.op;apply OP.callV;rfl;rfl;rfl;rfl;exact ihb _ _ _ _ _ (by assumption) (zBA hS);clear hS;rintro v w1 ⟨kv',st',c',rfl,ht',hS⟩;replace hS:=St.all.1 hS;simp only[lkL,List.cons_append,List.nil_append]at hS)|(apply RO.op;apply OP.callV;rfl;rfl;rfl;rfl;exact ioa _ _ _ _ _ (by assumption) (zBA hS);clear hS;rintro v w1 ⟨kv',st',c',rfl,ht',hS⟩;replace hS:=St.all.1 hS;simp only[lkL,List.cons_append,List.nil_append]at hS)|(apply RO.op;apply OP.callV;rfl;rfl;rfl;rfl;exact iob _ _ _ _ _ (by assumption) (zBA hS);clear hS;rintro v w1 ⟨kv',st',c',rfl,ht',hS⟩;replace hS:=St.all.1 hS;simp only[lkL,List.cons_append,List.nil_append]at hS)|apply Qs|apply Qr|(apply Rs<;>intro hc<;>try exact No)|apply Qn|refine Ql ?_|(refine Qa ?_;clear hS;intro b w1 hS)|(refine Qd ?_;clear hS;intro w1 hS)|refine Qy ?_|refine Qz ?_|refine Qu ?_|refine Qt ?_|refine Qf ?_|apply Qk|apply Qb
      all_goals
       refine Qw Tryz.func43 ?_;have hS2:St we ρ (Lk y L _ _ _ kvK stK cK::_) _:=zBA hS;exact⟨_,_,_,rfl,by assumption,hS2.pk⟩
   by_cases k7:(nd L x).k=7
   · have hcan:canR L K (can L K) x=(ca && cb && cc):=by unfold canR;rw[if_neg k9,if_neg k1,if_neg k2,if_neg k3,if_pos k7,hca,hcb,hcc]
     rw[hcan];cases ca<;>cases cb<;>cases cc;all_goals
      refine Run.calls4 (n:=87) Tryz.func43 rfl rfl rfl ?_;repeat' first|(refine Qv 10 (zA0 hS.tk) ?_;clear hS;intro w1 hS;rw[hx])|(apply RO.op;apply OP.callV;rfl;rfl;rfl;rfl;exact iha _ _ _ _ _ (by assumption) (zBA hS);clear hS;rintro v w1 ⟨kv',st',c',rfl,ht',hS⟩;replace hS:=St.all.1 hS;simp only[lkL,List.cons_append,List.nil_append]at hS)|(apply RO.op;apply OP.callV;rfl;rfl;rfl;rfl;exact ihb _ _ _ _ _ (by assumption) (zBA hS);clear hS;rintro v w1 ⟨kv',st',c',rfl,ht',hS⟩;replace hS:=St.all.1 hS;simp only[lkL,List.cons_append,List.nil_append]at hS)|(apply RO.op;apply OP.callV;rfl;rfl;rfl;rfl;exact ihc _ _ _ _ _ (by assumption) (zBA hS);clear hS;rintro v w1 ⟨kv',st',c',rfl,ht',hS⟩;replace hS:=St.all.1 hS;simp only[lkL,List.cons_append,List.nil_append]at hS)|apply Qs|apply Qr|(apply Rs<;>intro hc<;>try exact No)|apply Qn|refine Ql ?_|(refine Qa ?_;clear hS;intro b w1 hS)|(refine Qd ?_;clear hS;intro w1 hS)|refine Qy ?_|refine Qz ?_|refine Qt ?_|refine Qf ?_|apply Qk|apply Qb
      all_goals
       refine Qw Tryz.func43 ?_;have hS2:St we ρ (Lk y L _ _ _ kvK stK cK::_) _:=zBA hS;exact⟨_,_,_,rfl,by assumption,hS2.pk⟩
   · have hcan:canR L K (can L K) x=(ca && cb):=by unfold canR;rw[if_neg k9,if_neg k1,if_neg k2,if_neg k3,if_neg k7,hca,hcb]
     rw[hcan];have k90:¬(nd L x).k=0:=fun h=>k9 (.inl h)
     have k99:¬(nd L x).k=9:=fun h=>k9 (.inr h)
     cases ca<;>cases cb;all_goals
      refine Run.calls4 (n:=87) Tryz.func43 rfl rfl rfl ?_;repeat' first|(refine Qv 10 (zA0 hS.tk) ?_;clear hS;intro w1 hS;rw[hx])|(apply RO.op;apply OP.callV;rfl;rfl;rfl;rfl;exact iha _ _ _ _ _ (by assumption) (zBA hS);clear hS;rintro v w1 ⟨kv',st',c',rfl,ht',hS⟩;replace hS:=St.all.1 hS;simp only[lkL,List.cons_append,List.nil_append]at hS)|(apply RO.op;apply OP.callV;rfl;rfl;rfl;rfl;exact ihb _ _ _ _ _ (by assumption) (zBA hS);clear hS;rintro v w1 ⟨kv',st',c',rfl,ht',hS⟩;replace hS:=St.all.1 hS;simp only[lkL,List.cons_append,List.nil_append]at hS)|apply Qs|apply Qr|(apply Rs<;>intro hc<;>try exact No)|apply Qn|refine Ql ?_|(refine Qa ?_;clear hS;intro b w1 hS)|(refine Qd ?_;clear hS;intro w1 hS)|refine Qy ?_|refine Qz ?_|refine Qf ?_|apply Qk|apply Qb|apply Qi
      all_goals
       refine Qw Tryz.func43 ?_;have hS2:St we ρ (Lk y L _ _ _ kvK stK cK::_) _:=zBA hS;exact⟨_,_,_,rfl,by assumption,hS2.pk⟩
end
end Go.Proofs.YtcikdogkkgefcaaGreatDoor
