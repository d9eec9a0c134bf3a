/- Handshakes: their words, and the program's public, mode, open, told, Done, Mine, pair. shake.mode, open, told, pair. shake.pair, mix, sealed, opened. -/
import Derived.Test.YtcikdogkkgefcaaGreatDoorMA18
namespace Go.Proofs.YtcikdogkkgefcaaGreatDoor
set_option maxRecDepth 8000
set_option maxHeartbeats 16000000
set_option linter.unusedVariables false
set_option linter.unusedSimpArgs false
open Go Go.RowKit
structure Sh where
 role:Int
 at_:Nat
 next:Nat
 p:Pat
 s:Int
 e:Int
 rs:Int
 re:Int
 psks:List Int
 y:Sy
structure Rep where
 q0:Option Addr
 n0:Nat
 c0:Nat
 q1:Option Addr
 n1:Nat
 c1:Nat
 qm:Option Addr
 nm:Nat
 cm:Nat
 qk:Option Addr
 nk:Nat
 ck:Nat
def patL (r:Rep)(nm:ByteArray):List Value:=[.string nm,.slice r.q0 r.n0 r.c0,.slice r.q1 r.n1 r.c1,.slice r.qm r.nm r.cm]
def shL (r:Rep)(h:Sh):List Value:=[pI h.role,pI h.at_,pI h.next,.string h.p.name,.slice r.q0 r.n0 r.c0,.slice r.q1 r.n1 r.c1,.slice r.qm r.nm r.cm,
 pI h.s,pI h.e,pI h.rs,pI h.re,.slice r.qk r.nk r.ck,pI h.y.ck,pI h.y.h,pI h.y.c.key,.bool h.y.c.has,.int .u64 h.y.c.n]
def shZ:List Value:=[pI 0,pI 0,pI 0,.string ByteArray.empty,.slice none 0 0,.slice none 0 0,.slice none 0 0,pI 0,pI 0,pI 0,pI 0,.slice none 0 0,
 pI 0,pI 0,pI 0,.bool false,.int .u64 0]
structure ShR (ρ:List (Nat × Obj))(r:Rep)(h:Sh):Prop where
 pat:PatR ρ (.agg (patL r h.p.name).toArray) h.p
 psk:Sl ρ intL 1 (.slice r.qk r.nk r.ck) h.psks
def zAg (r:Rep)(h:Sh)(e:Int):List Value:=if e=0 then shL r h else shZ
def zPn (p:Pat):Bool:=p.msgs.any fun m=>decide ((7:Int)∈m.t)
def zAk (lim:Nat)(L:List Nd)(h:Sh)(who t:Int):List Nd × Int × Int :=
 if who≠h.role then(L,if t=1 then h.re else h.rs,0) else mk lim L ⟨2,0,if t=1 then h.e else h.s,0,0⟩
def zA3 (lim:Nat)(L:List Nd)(h:Sh)(x:Int)(eph:Bool):List Nd × Sh × Int :=
 if(zAW lim L h.y x).2.2≠0 then((zAW lim L h.y x).1,h,(zAW lim L h.y x).2.2)
 else if(eph && zPn h.p)=true then((zBK lim (zAW lim L h.y x).1 (zAW lim L h.y x).2.1 x).1,{ h with y:=(zBK lim (zAW lim L h.y x).1 (zAW lim L h.y x).2.1 x).2.1 },(zBK lim (zAW lim L h.y x).1 (zAW lim L h.y x).2.1 x).2.2)
 else((zAW lim L h.y x).1,{ h with y:=(zAW lim L h.y x).2.1 },0)
def zEk (role t:Int):Bool:=(decide (t=5) && decide (role=0)) || (decide (t=4) && decide (role=1)) || decide (t=6)
def zBT (h:Sh)(t:Int):Int × Int:=(if zEk h.role t then h.s else h.e,if zEk (1 - h.role) t then h.rs else h.re)
section
variable {we w:World}{ρ:List (Nat × Obj)}{σ F:List HP}{p lim:Nat}{L L1 L2:List Nd}{r:Rep}{h:Sh}{x e who t:Int}{y1 y2:Sy}
theorem zHL (hS:St we ρ (zAA p lim L::F) w) :
 Cl Tryz.prog 246 [.agg (shL r h).toArray,pP p,pI who,pI t] w fun v w'=>v = .tuple #[pI (zAk lim L h who t).2.1,pI (zAk lim L h who t).2.2]∧St we ρ (zAA p lim (zAk lim L h who t).1::F) w':=by
 unfold zAk;by_cases hw:who=h.role
 · by_cases ht:t=1
   all_goals
    simp only[hw,ht,ne_eq,not_true_eq_false,if_false,if_true];refine Run.calls4 (n:=49) Tryz.func246 rfl rfl rfl ?_;repeat' first|(refine Qv 80 (zB6 (n:=⟨2,0,h.e,0,0⟩) hS.tk) ?_;clear hS;intro w1 hS)|(refine Qv 80 (zB6 (n:=⟨2,0,h.s,0,0⟩) hS.tk) ?_;clear hS;intro w1 hS)|apply Qs|apply Qr|(apply Rs<;>intro hc<;>try exact No)|apply Qn|refine Ql ?_|(refine Qx ?_;clear hS;intro b w1 hS)|refine Qz ?_|refine Qt ?_|refine Qf ?_|apply Qk|apply Qb|apply Qi
    refine Qw Tryz.func246 ?_;exact Xp
 · by_cases ht:t=1
   all_goals
    simp only[hw,ht,ne_eq,not_false_eq_true,if_true,if_false];refine Run.calls4 (n:=49) Tryz.func246 rfl rfl rfl ?_;repeat' first|apply Qs|apply Qr|(apply Rs<;>intro hc<;>try exact No)|apply Qn|refine Ql ?_|(refine Qx ?_;clear hS;intro b w1 hS)|refine Qy ?_|refine Qt ?_|refine Qf ?_|apply Qb
    refine Qw Tryz.func246 ?_;exact Xp
theorem zCC (hn:r.nm=h.p.msgs.length)(hS:St we ρ σ w) :
 Cl Tryz.prog 58 [.agg (shL r h).toArray] w fun v w'=>v = .bool (decide (h.p.msgs.length≤h.at_))∧St we ρ σ w':=by
 rw[← hn];refine Run.calls1 (n:=10) Tryz.func58 rfl rfl rfl ?_;repeat' first|apply Qs|apply Qr|(apply Rs<;>intro hc<;>try exact No)|apply Qn|refine Ql ?_|(refine Qx ?_;clear hS;intro b w1 hS)
 · have hq:r.nm≤h.at_:=by omega
   refine Qw Tryz.func58 ?_;exact⟨by rw[decide_eq_true hq];rfl,hS.pk⟩
 · have hq:¬r.nm≤h.at_:=by omega
   refine Qw Tryz.func58 ?_;exact⟨by rw[decide_eq_false hq];rfl,hS.pk⟩
def zDf (h:Sh):Bool:=match h.p.msgs[h.at_]? with|some m=>decide (m.who=h.role)|none=>false
theorem zIW (hr:ShR ρ r h)(hS:St we ρ σ w) :
 Cl Tryz.prog 54 [.agg (shL r h).toArray] w fun v w'=>v = .bool (zDf h)∧St we ρ σ w':=by
 have hp:=hr.pat;refine Run.calls1 (n:=10) Tryz.func54 rfl rfl rfl ?_;repeat' first|(refine Qv 99 (zM3 hp hS) ?_;clear hS;intro w1 hS)|apply Qs|apply Qr|apply Qn|refine Ql ?_|(refine Qx ?_;clear hS;intro b w1 hS)
 refine Qw Tryz.func54 ?_;exact Xp
end
section
variable {we w:World}{ρ:List (Nat × Obj)}{σ F:List HP}{p lim:Nat}{L L1 L2:List Nd}{r:Rep}{h:Sh}{x e who t:Int}{y1 y2:Sy}
theorem zMy {x:Int × Value}{m:Msg}(h1:x.1=m.who)(h2:Sl ρ intL 1 x.2 m.t)(hS:St we ρ σ w) :
 Cl Tryz.prog 249 [.agg (msgL x).toArray] w fun u w'=>u = .bool (decide ((7:Int)∈m.t))∧St we ρ σ w':=by
 obtain⟨wh,tv⟩:=x;simp only at h1 h2;refine Run.calls1 (n:=6) Tryz.func249 rfl rfl rfl ?_;repeat' first|(refine Qv 60 (zFs h2 hS) ?_;clear hS;intro w1 hS)|apply Qs|apply Qr|(apply Rs<;>intro hc<;>try exact No)|apply Qn|refine Ql ?_|(refine Qx ?_;clear hS;intro b w1 hS)
 all_goals
  have hd:=hc;refine Qw Tryz.func249 ?_;exact⟨by simp[hd,tup],hS.pk⟩
theorem zGw {p:Pat}{v:Value}{b:Bool}(hb:zPn p=b)(hv:PatR ρ v p)(hS:St we ρ σ w) :
 Cl Tryz.prog 210 [v] w fun u w'=>u = .bool b∧St we ρ σ w':=by
 subst hb;obtain⟨hl0,hl1,hlm,hr⟩:=hv;rename_i v0 v1 vm ms;have hlen:=hr.length;have hany:(p.msgs.map fun m=>decide ((7:Int)∈m.t)).any id=zPn p:=by simp[zPn,List.any_map,Function.comp_def]
 have hw:∀(i:Nat) (h:i<ms.length) (h':i<(p.msgs.map fun m=>decide ((7:Int)∈m.t)).length) (σ:List HP) (w:World),St we ρ σ w →
  Cl Tryz.prog 249 (([]:List Value)++[Value.agg (msgL ms[i]).toArray]++[]) w fun v w'=>v = .bool (p.msgs.map fun m=>decide ((7:Int)∈m.t))[i]∧St we ρ σ w':=by
  intro i h h' σ w hS;obtain⟨m,v,e1,e2,e3⟩:=hr.at h;have e4:(p.msgs.map fun m=>decide ((7:Int)∈m.t))[i]=decide ((7:Int)∈m.t):=by
   rw[List.getElem_map];have:=List.getElem?_eq_some_iff.1 e1;rw[this.2]
  rw[e4,e2];exact zMy (x:=(m.who,v)) rfl e3 hS
 have hq:(p.msgs.map fun m=>decide ((7:Int)∈m.t)).length=ms.length:=by simp[hlen]
 have hC:=fun σ w hS=>zCp (we:=we) (ρ := ρ) (σ := σ) (w:=w) (cs:=[]) (p.msgs.map fun m=>decide ((7:Int)∈m.t)) hq hlm rfl (fun i h h' w hS=>hw i h h' _ _ hS) hS
 rw[hany]at hC;obtain⟨qm,cm,rfl,-⟩:=hlm.val;refine Run.calls1 (n:=6) Tryz.func210 rfl rfl rfl ?_;repeat' first|(refine Qv 248 (hC _ _ hS) ?_;clear hS;intro w1 hS)|apply Qs|apply Qr|apply Qn|refine Ql ?_|(refine Qx ?_;clear hS;intro b w1 hS)
 refine Qw Tryz.func210 ?_;exact Xp
theorem zEf {eph:Bool}(hr:ShR ρ r h)(hS:St we ρ (zAA p lim L::F) w) :
 Cl Tryz.prog 156 [.agg (shL r h).toArray,pP p,pI x,.bool eph] w fun v w'=>v = .tuple #[.agg (zAg r (zA3 lim L h x eph).2.1 (zA3 lim L h x eph).2.2).toArray,pI (zA3 lim L h x eph).2.2]∧St we ρ (zAA p lim (zA3 lim L h x eph).1::F) w':=by
 have hp:=hr.pat;unfold zA3;generalize h1:zAW lim L h.y x=a1;obtain⟨L1,y1,e1⟩:=a1;by_cases he1:e1=0
 · subst he1
   simp only[ne_eq,not_true_eq_false,if_false];generalize hm:zPn h.p=md;cases eph<;>cases md;rotate_left 3
   · generalize h2:zBK lim L1 y1 x=a2
     obtain⟨L2,y2,e2⟩:=a2;have k2:∀{F w},St we ρ (zAA p lim L1::F) w→Cl Tryz.prog 155 [syV y1,pP p,pI x] w fun v w'=>v = .tuple #[syV y2,pI e2]∧St we ρ (zAA p lim L2::F) w':=fun hS=>by
      have:=zHV (s:=y1) (x:=x) hS;rwa [h2]at this
     simp only[Bool.and_self,if_true];by_cases he2:e2=0
     · subst he2
       refine Run.calls4 (n:=44) Tryz.func156 rfl rfl rfl ?_;repeat' first|(refine Qv 209 (zCR (s:=h.y) h1 hS.tk) ?_;clear hS;intro w1 hS)|(refine Qv 155 (k2 hS.tk) ?_;clear hS;intro w1 hS)|(refine Qv 210 (zGw hm hp hS) ?_;clear hS;intro w1 hS)|(refine Qm ?_)|apply Qs|apply Qr|(apply Rs<;>intro hc<;>try exact No)|apply Qn|refine Ql ?_|(refine Qx ?_;clear hS;intro b w1 hS)|(refine Qa ?_;clear hS;intro b w1 hS)|(refine Qd ?_;clear hS;intro w1 hS)|refine Qy ?_|refine Qt ?_|refine Qf ?_|apply Qk
       refine Qw Tryz.func156 ?_;exact Xp
     · refine Run.calls4 (n:=44) Tryz.func156 rfl rfl rfl ?_
       repeat' first|(refine Qv 209 (zCR (s:=h.y) h1 hS.tk) ?_;clear hS;intro w1 hS)|(refine Qv 155 (k2 hS.tk) ?_;clear hS;intro w1 hS)|(refine Qv 210 (zGw hm hp hS) ?_;clear hS;intro w1 hS)|(refine Qm ?_)|apply Qs|apply Qr|(apply Rs<;>intro hc<;>try exact No)|apply Qn|refine Ql ?_|(refine Qx ?_;clear hS;intro b w1 hS)|(refine Qa ?_;clear hS;intro b w1 hS)|(refine Qd ?_;clear hS;intro w1 hS)|refine Qy ?_|refine Qt ?_
       refine Qw Tryz.func156 ?_;refine⟨?_,hS.pk⟩;rw[zAg,if_neg he2];rfl
   all_goals
    simp only[Bool.and_false,Bool.false_and,Bool.false_eq_true,if_false];refine Run.calls4 (n:=44) Tryz.func156 rfl rfl rfl ?_;repeat' first|(refine Qv 209 (zCR (s:=h.y) h1 hS.tk) ?_;clear hS;intro w1 hS)|(refine Qv 210 (zGw hm hp hS) ?_;clear hS;intro w1 hS)|(refine Qm ?_)|apply Qs|apply Qr|(apply Rs<;>intro hc<;>try exact No)|apply Qn|refine Ql ?_|(refine Qx ?_;clear hS;intro b w1 hS)|(refine Qa ?_;clear hS;intro b w1 hS)|(refine Qd ?_;clear hS;intro w1 hS)|refine Qy ?_|refine Qz ?_|refine Qf ?_|apply Qk
    refine Qw Tryz.func156 ?_;exact Xp
 · simp only[ne_eq,he1,not_false_eq_true,if_true]
   refine Run.calls4 (n:=44) Tryz.func156 rfl rfl rfl ?_;repeat' first|(refine Qv 209 (zCR (s:=h.y) h1 hS.tk) ?_;clear hS;intro w1 hS)|(refine Qm ?_)|apply Qs|apply Qr|(apply Rs<;>intro hc<;>try exact No)|apply Qn|refine Ql ?_|(refine Qx ?_;clear hS;intro b w1 hS)|(refine Qa ?_;clear hS;intro b w1 hS)|(refine Qd ?_;clear hS;intro w1 hS)|refine Qz ?_|refine Qt ?_|refine Qf ?_|apply Qk
   refine Qw Tryz.func156 ?_;refine⟨?_,hS.pk⟩;rw[zAg,if_neg he1];rfl
def zB9 (lim:Nat)(L:List Nd)(h:Sh)(who t:Int):List Nd × Sh × Int :=
 if(zAk lim L h who t).2.2≠0 then((zAk lim L h who t).1,h,(zAk lim L h who t).2.2) else zA3 lim (zAk lim L h who t).1 h (zAk lim L h who t).2.1 (decide (t=1))
theorem zLb (hr:ShR ρ r h)(hS:St we ρ (zAA p lim L::F) w) :
 Cl Tryz.prog 195 [.agg (shL r h).toArray,pP p,pI who,pI t] w fun v w'=>v = .tuple #[.agg (zAg r (zB9 lim L h who t).2.1 (zB9 lim L h who t).2.2).toArray,pI (zB9 lim L h who t).2.2]∧St we ρ (zAA p lim (zB9 lim L h who t).1::F) w':=by
 unfold zB9;have k1:∀{F w},St we ρ (zAA p lim L::F) w→_:=fun hS=>zHL (h:=h) (r:=r) (who:=who) (t:=t) hS
 generalize zAk lim L h who t=a1 at k1;obtain⟨L1,x,e1⟩:=a1;simp only at k1 ⊢;have k2:∀{F w},St we ρ (zAA p lim L1::F) w→_:=fun hS=>zEf (x:=x) (eph:=decide (t=1)) hr hS
 by_cases he1:e1=0
 · subst he1
   simp only[ne_eq,not_true_eq_false,if_false];by_cases ht:t=1;all_goals
    simp only[ht,decide_true,decide_false]at k1 k2 ⊢;generalize zA3 lim L1 h x _=a2 at k2;obtain⟨L2,h2,e2⟩:=a2;simp only at k2 ⊢;by_cases he2:e2=0
    · subst he2
      simp only[zAg,if_true]at k2 ⊢;refine Run.calls4 (n:=32) Tryz.func195 rfl rfl rfl ?_;repeat' first|(refine Qv 246 (k1 hS.tk) ?_;clear hS;intro w1 hS)|(refine Qv 156 (k2 hS.tk) ?_;clear hS;intro w1 hS)|(refine Qm ?_)|apply Qs|apply Qr|(apply Rs<;>intro hc<;>try exact No)|apply Qn|refine Ql ?_|(refine Qx ?_;clear hS;intro b w1 hS)|(refine Qa ?_;clear hS;intro b w1 hS)|(refine Qd ?_;clear hS;intro w1 hS)|refine Qf ?_|apply Qk
      refine Qw Tryz.func195 ?_;exact Xp
    · simp only[zAg,if_neg he2]at k2 ⊢
      refine Run.calls4 (n:=32) Tryz.func195 rfl rfl rfl ?_;repeat' first|(refine Qv 246 (k1 hS.tk) ?_;clear hS;intro w1 hS)|(refine Qv 156 (k2 hS.tk) ?_;clear hS;intro w1 hS)|(refine Qm ?_)|apply Qs|apply Qr|(apply Rs<;>intro hc<;>try exact No)|apply Qn|refine Ql ?_|(refine Qx ?_;clear hS;intro b w1 hS)|(refine Qa ?_;clear hS;intro b w1 hS)|(refine Qd ?_;clear hS;intro w1 hS)|refine Qf ?_|apply Qk
      refine Qw Tryz.func195 ?_;exact Xp
 · simp only[ne_eq,he1,not_false_eq_true,if_true]
   refine Run.calls4 (n:=32) Tryz.func195 rfl rfl rfl ?_;repeat' first|(refine Qv 246 (k1 hS.tk) ?_;clear hS;intro w1 hS)|(refine Qm ?_)|apply Qs|apply Qr|(apply Rs<;>intro hc<;>try exact No)|apply Qn|refine Ql ?_|(refine Qx ?_;clear hS;intro b w1 hS)|(refine Qa ?_;clear hS;intro b w1 hS)|(refine Qd ?_;clear hS;intro w1 hS)|refine Qt ?_
   refine Qw Tryz.func195 ?_;refine⟨?_,hS.pk⟩;rw[zAg,if_neg he1];rfl
end
def zAR (lim:Nat)(L:List Nd)(h:Sh)(t:Int):List Nd × Sh × Int :=
 if t=7 then
  if(zBG lim L h.y (h.psks.getD h.next 0)).2.2≠0 then((zBG lim L h.y (h.psks.getD h.next 0)).1,h,(zBG lim L h.y (h.psks.getD h.next 0)).2.2)
  else((zBG lim L h.y (h.psks.getD h.next 0)).1,{ h with next:=h.next+1,y:=(zBG lim L h.y (h.psks.getD h.next 0)).2.1 },0)
 else if(share lim L (zBT h t).1 (zBT h t).2).2.2≠0 then((share lim L (zBT h t).1 (zBT h t).2).1,h,(share lim L (zBT h t).1 (zBT h t).2).2.2)
 else if(zBK lim (share lim L (zBT h t).1 (zBT h t).2).1 h.y (share lim L (zBT h t).1 (zBT h t).2).2.1).2.2≠0 then
  ((zBK lim (share lim L (zBT h t).1 (zBT h t).2).1 h.y (share lim L (zBT h t).1 (zBT h t).2).2.1).1,h,(zBK lim (share lim L (zBT h t).1 (zBT h t).2).1 h.y (share lim L (zBT h t).1 (zBT h t).2).2.1).2.2)
 else((zBK lim (share lim L (zBT h t).1 (zBT h t).2).1 h.y (share lim L (zBT h t).1 (zBT h t).2).2.1).1,{ h with y:=(zBK lim (share lim L (zBT h t).1 (zBT h t).2).1 h.y (share lim L (zBT h t).1 (zBT h t).2).2.1).2.1 },0)
def zAU (lim:Nat)(L:List Nd)(h:Sh)(x:Int):List Nd × Sh × Int × Int :=
 if(zAy lim L h.y x).2.2.2≠0 then((zAy lim L h.y x).1,h,0,(zAy lim L h.y x).2.2.2) else((zAy lim L h.y x).1,{ h with y:=(zAy lim L h.y x).2.1 },(zAy lim L h.y x).2.2.1,0)
def zAO (lim:Nat)(L:List Nd)(h:Sh)(x:Int):List Nd × Sh × Int × Int :=
 if(zBB lim L h.y x).2.2.2≠0 then((zBB lim L h.y x).1,h,0,(zBB lim L h.y x).2.2.2) else((zBB lim L h.y x).1,{ h with y:=(zBB lim L h.y x).2.1 },(zBB lim L h.y x).2.2.1,0)
section
variable {we w:World}{ρ:List (Nat × Obj)}{σ F:List HP}{p lim:Nat}{L L1 L2:List Nd}{r:Rep}{h:Sh}{x e who t:Int}{y1 y2:Sy}
theorem zLe (hro:h.role=0∨h.role=1)(ht:t=3∨t=4∨t=5∨t=6)(hS:St we ρ σ w) :
 Cl Tryz.prog 154 [.agg (shL r h).toArray,pI t] w fun v w'=>v = .tuple #[pI (zBT h t).1,pI (zBT h t).2]∧St we ρ σ w':=by
 rcases hro with hro|hro
 all_goals rcases ht with rfl|rfl|rfl|rfl
 all_goals
  unfold shL zBT;rw[hro];refine Run.calls2 (n:=38) Tryz.func154 rfl rfl rfl ?_;repeat' first|(refine Run.regionQ_of hS (by rfl) (by kernel_rfl) ?_;clear hS)|(refine Ql ?_ (h:=by apply Still.indexAgg;rfl;rfl;rfl;rfl;(exact zAi);omega;omega;rfl))|(refine Ql ?_ (h:=Sx))|(refine RQ.nil ?_;(try clear hS);intro w1 hS)|refine RQ.still (by exact Still.any) rfl ?_|apply Qs|apply Qr|apply Qn|refine Ql ?_|(refine Qx ?_;clear hS;intro b w1 hS)|(refine Qa ?_;clear hS;intro b w1 hS)|(refine Qd ?_;clear hS;intro w1 hS)|refine Qt ?_|refine Qf ?_|apply Qk
  refine Qw Tryz.func154 ?_;exact Xp
theorem zFO (hS:St we ρ (zAA p lim L::F) w) :
 Cl Tryz.prog 199 [.agg (shL r h).toArray,pP p,pI x] w fun v w'=>v = .tuple #[.agg (zAg r (zAU lim L h x).2.1 (zAU lim L h x).2.2.2).toArray,pI (zAU lim L h x).2.2.1,pI (zAU lim L h x).2.2.2]∧St we ρ (zAA p lim (zAU lim L h x).1::F) w':=by
 unfold zAU;have k1:∀{F w},St we ρ (zAA p lim L::F) w→_:=fun hS=>zKL (s:=h.y) (q:=x) hS
 generalize zAy lim L h.y x=a1 at k1;obtain⟨L1,y1,z,e1⟩:=a1;simp only at k1 ⊢;by_cases he1:e1=0
 · subst he1
   simp only[ne_eq,not_true_eq_false,if_false,zAg,if_true];refine Run.calls3 (n:=29) Tryz.func199 rfl rfl rfl ?_;repeat' first|(refine Qv 247 (k1 hS.tk) ?_;clear hS;intro w1 hS)|(refine Qm ?_)|apply Qs|apply Qr|(apply Rs<;>intro hc<;>try exact No)|apply Qn|refine Ql ?_|(refine Qx ?_;clear hS;intro b w1 hS)|(refine Qa ?_;clear hS;intro b w1 hS)|(refine Qd ?_;clear hS;intro w1 hS)|refine Qf ?_|apply Qk
   refine Qw Tryz.func199 ?_;exact Xp
 · simp only[ne_eq,he1,not_false_eq_true,if_true,zAg,if_false]
   refine Run.calls3 (n:=29) Tryz.func199 rfl rfl rfl ?_;repeat' first|(refine Qv 247 (k1 hS.tk) ?_;clear hS;intro w1 hS)|(refine Qm ?_)|apply Qs|apply Qr|(apply Rs<;>intro hc<;>try exact No)|apply Qn|refine Ql ?_|(refine Qx ?_;clear hS;intro b w1 hS)|(refine Qa ?_;clear hS;intro b w1 hS)|(refine Qd ?_;clear hS;intro w1 hS)|refine Qt ?_
   refine Qw Tryz.func199 ?_;exact Xp
theorem zFQ (hS:St we ρ (zAA p lim L::F) w) :
 Cl Tryz.prog 104 [.agg (shL r h).toArray,pP p,pI x] w fun v w'=>v = .tuple #[.agg (zAg r (zAO lim L h x).2.1 (zAO lim L h x).2.2.2).toArray,pI (zAO lim L h x).2.2.1,pI (zAO lim L h x).2.2.2]∧St we ρ (zAA p lim (zAO lim L h x).1::F) w':=by
 unfold zAO;have k1:∀{F w},St we ρ (zAA p lim L::F) w→_:=fun hS=>zKM (s:=h.y) (x:=x) hS
 generalize zBB lim L h.y x=a1 at k1;obtain⟨L1,y1,z,e1⟩:=a1;simp only at k1 ⊢;by_cases he1:e1=0
 · subst he1
   simp only[ne_eq,not_true_eq_false,if_false,zAg,if_true];refine Run.calls3 (n:=29) Tryz.func104 rfl rfl rfl ?_;repeat' first|(refine Qv 157 (k1 hS.tk) ?_;clear hS;intro w1 hS)|(refine Qm ?_)|apply Qs|apply Qr|(apply Rs<;>intro hc<;>try exact No)|apply Qn|refine Ql ?_|(refine Qx ?_;clear hS;intro b w1 hS)|(refine Qa ?_;clear hS;intro b w1 hS)|(refine Qd ?_;clear hS;intro w1 hS)|refine Qf ?_|apply Qk
   refine Qw Tryz.func104 ?_;exact Xp
 · simp only[ne_eq,he1,not_false_eq_true,if_true,zAg,if_false]
   refine Run.calls3 (n:=29) Tryz.func104 rfl rfl rfl ?_;repeat' first|(refine Qv 157 (k1 hS.tk) ?_;clear hS;intro w1 hS)|(refine Qm ?_)|apply Qs|apply Qr|(apply Rs<;>intro hc<;>try exact No)|apply Qn|refine Ql ?_|(refine Qx ?_;clear hS;intro b w1 hS)|(refine Qa ?_;clear hS;intro b w1 hS)|(refine Qd ?_;clear hS;intro w1 hS)|refine Qt ?_
   refine Qw Tryz.func104 ?_;exact Xp
theorem zPp (hr:ShR ρ r h)(hx:h.next<h.psks.length)(hS:St we ρ (zAA p lim L::F) w) :
 Cl Tryz.prog 102 [.agg (shL r h).toArray,pP p,pI 7] w fun v w'=>v = .tuple #[.agg (zAg r (zAR lim L h 7).2.1 (zAR lim L h 7).2.2).toArray,pI (zAR lim L h 7).2.2]∧St we ρ (zAA p lim (zAR lim L h 7).1::F) w':=by
 unfold zAR;rw[if_pos rfl];have hps:=hr.psk;obtain⟨q',c',hq,k1',k2',-⟩:=hps.val;simp only[Value.slice.injEq]at hq;obtain⟨e1',hnk,e3'⟩:=hq;subst e1' e3';unfold maxLen at k2';rw[hnk]at hps;obtain⟨pb,po,pcs,pe,pf,hqk,pm,pg⟩:=hps.int hx;have hgd:h.psks.getD h.next 0=h.psks[h.next]:=by simp[List.getD_eq_getElem?_getD,hx]
 rw[hgd];generalize h.psks[h.next]=xx at pg;have k1:∀{F w},St we ρ (zAA p lim L::F) w→_:=fun hS=>zKo (s:=h.y) (x:=xx) hS
 generalize zBG lim L h.y xx=a1 at k1;obtain⟨L1,y1,e1⟩:=a1;simp only at k1 ⊢;have hnl:h.next<r.nk:=by omega
 by_cases he1:e1=0
 · subst he1
   simp only[ne_eq,not_true_eq_false,if_false,zAg,if_true];unfold shL;rw[hqk];refine Run.calls3 (n:=58) Tryz.func102 rfl rfl rfl ?_;repeat' first|apply Qs|apply Qr|(apply Rs<;>intro hc<;>try exact No)|apply Qn|refine Ql ?_|(refine Qx ?_;clear hS;intro b w1 hS)|(refine Qa ?_;clear hS;intro b w1 hS)|refine Qt ?_
   rename_i b3 w9 b6 w8;obtain⟨b8,hb8⟩:∃x,x=b:=⟨_,rfl⟩
   subst hb8;refine(Run.regionH_cut (fun _:Unit=>Row b8 (syL y1) 90::Row b6 shZ 92::Row b3 [pI h.role,pI h.at_,pI h.next,.string h.p.name,.slice r.q0 r.n0 r.c0,.slice r.q1 r.n1 r.c1,.slice r.qm r.nm r.cm,pI h.s,pI h.e,pI h.rs,pI h.re,.slice (some ⟨pb,po,none⟩) r.nk r.ck,pI h.y.ck,pI h.y.h,pI h.y.c.key,.bool h.y.c.has,.int .u64 h.y.c.n] 92::zAA p lim L1::F)
    (fun _=>[(1,pP p),(2,pI 7),(3,pP b3),(6,pP b6),(7,pI 0),(8,pP b8),(9,pI 0)])
    hS (.cons _ (.cons_cons _ (.cons_cons _ (.cons _ (List.Sublist.refl _))))) (by rfl) (by rfl) (by rfl) ?_ ?_)
   · clear hS
     intro w1 hS;refine RH.relist (listed':=bm 16 0) (by kernel_rfl) ?_;repeat' first|refine Yl 0 0 ?_|(refine Yt 1 1 ?_ (h:=by first|(apply Still.load;rfl;rfl;exact Rd.ro pm;exact pg)|exact Still.an))|refine Yt 3 2 ?_|refine Yl 7 3 ?_|refine Yl 15 4 ?_|(refine Yt 31 5 ?_ (h:=by first|(apply Still.load;rfl;rfl;exact Rd.ro pm;exact pg)|exact Still.an))|refine Yl 63 6 ?_|(refine Yt 127 7 ?_ (h:=by first|(apply Still.load;rfl;rfl;exact Rd.ro pm;exact pg)|exact Still.an))|(refine Yt 255 8 ?_ (h:=by first|exact Sx|exact Still.any))|(refine Yt 511 9 ?_ (h:=by first|(apply Still.load;rfl;rfl;exact Rd.ro pm;exact pg)|exact Still.an))|refine Yt 2047 11 ?_|refine Yt 4095 12 ?_|refine Yt 8191 13 ?_|refine Yt 32767 15 ?_|(refine Ov 152 (k1 hS.tk) ?_;clear hS;intro w1 hS;refine Xh ?_)|(refine Od ?_;clear hS;intro w1 hS;refine Xh ?_)|refine Jo ?_|refine Za 1023 10 ?_|refine Za 16383 14 ?_|(refine Yd 65535 ?_;exact⟨(),Sb,hS.pk⟩)
   clear hS;rintro - w1 hS;repeat' first|(refine Qm ?_)|apply Qs|apply Qr|(apply Rs<;>intro hc<;>try exact No)|apply Qn|refine Ql ?_|(refine Qd ?_;clear hS;intro w1 hS)|refine Qf ?_|apply Qk
   refine Qw Tryz.func102 ?_;exact Xp
 · simp only[ne_eq,he1,not_false_eq_true,if_true,zAg,if_false]
   unfold shL;rw[hqk];refine Run.calls3 (n:=58) Tryz.func102 rfl rfl rfl ?_;repeat' first|apply Qs|apply Qr|(apply Rs<;>intro hc<;>try exact No)|apply Qn|refine Ql ?_|(refine Qx ?_;clear hS;intro b w1 hS)|(refine Qa ?_;clear hS;intro b w1 hS)|refine Qt ?_
   rename_i b3 w9 b6 w8;obtain⟨b8,hb8⟩:∃x,x=b:=⟨_,rfl⟩
   subst hb8;refine(Run.regionH_cut (fun _:Unit=>Row b8 (syL y1) 90::Row b6 shZ 92::Row b3 [pI h.role,pI h.at_,pI h.next,.string h.p.name,.slice r.q0 r.n0 r.c0,.slice r.q1 r.n1 r.c1,.slice r.qm r.nm r.cm,pI h.s,pI h.e,pI h.rs,pI h.re,.slice (some ⟨pb,po,none⟩) r.nk r.ck,pI h.y.ck,pI h.y.h,pI h.y.c.key,.bool h.y.c.has,.int .u64 h.y.c.n] 92::zAA p lim L1::F)
    (fun _=>[(1,pP p),(2,pI 7),(3,pP b3),(6,pP b6),(7,pI 0),(8,pP b8),(9,pI e1)])
    hS (.cons _ (.cons_cons _ (.cons_cons _ (.cons _ (List.Sublist.refl _))))) (by rfl) (by rfl) (by rfl) ?_ ?_)
   · clear hS
     intro w1 hS;refine RH.relist (listed':=bm 16 0) (by kernel_rfl) ?_;repeat' first|refine Yl 0 0 ?_|(refine Yt 1 1 ?_ (h:=by first|(apply Still.load;rfl;rfl;exact Rd.ro pm;exact pg)|exact Still.an))|refine Yt 3 2 ?_|refine Yl 7 3 ?_|refine Yl 15 4 ?_|(refine Yt 31 5 ?_ (h:=by first|(apply Still.load;rfl;rfl;exact Rd.ro pm;exact pg)|exact Still.an))|refine Yl 63 6 ?_|(refine Yt 127 7 ?_ (h:=by first|(apply Still.load;rfl;rfl;exact Rd.ro pm;exact pg)|exact Still.an))|(refine Yt 255 8 ?_ (h:=by first|exact Sx|exact Still.any))|(refine Yt 511 9 ?_ (h:=by first|(apply Still.load;rfl;rfl;exact Rd.ro pm;exact pg)|exact Still.an))|refine Yt 2047 11 ?_|refine Yt 4095 12 ?_|refine Yt 8191 13 ?_|refine Yt 32767 15 ?_|(refine Ov 152 (k1 hS.tk) ?_;clear hS;intro w1 hS;refine Xh ?_)|(refine Od ?_;clear hS;intro w1 hS;refine Xh ?_)|refine Jo ?_|refine Za 1023 10 ?_|refine Za 16383 14 ?_|(refine Yd 65535 ?_;exact⟨(),Sb,hS.pk⟩)
   clear hS;rintro - w1 hS;repeat' first|apply Qs|apply Qr|(apply Rs<;>intro hc<;>try exact No)|apply Qn|refine Ql ?_|(refine Qd ?_;clear hS;intro w1 hS)|refine Qt ?_
   refine Qw Tryz.func102 ?_;exact Xp
end
end Go.Proofs.YtcikdogkkgefcaaGreatDoor
