/- shake.Write, Read of any handshake that may be: the program does what the words say. What is sealed behind a handshake: trans.Of, seal, Seal, Open, Rekey. -/
import Derived.Test.YtcikdogkkgefcaaGreatDoorMA21
namespace Go.Proofs.YtcikdogkkgefcaaGreatDoor
set_option maxRecDepth 8000
set_option maxHeartbeats 16000000
set_option linter.unusedVariables false
set_option linter.unusedSimpArgs false
open Go Go.RowKit
def zD9 (l:List Msg):Nat:=(l.map fun m=>zCb m.t).sum
structure ShOk (h:Sh):Prop where
 role:h.role=0∨h.role=1
 right:zBS h.p=true
 at_:h.at_≤h.p.msgs.length
 left:h.next+zD9 (h.p.msgs.drop h.at_)≤h.psks.length
theorem ShOk.msg {h:Sh}(ho:ShOk h)(hlt:h.at_<h.p.msgs.length):∃m,h.p.msgs[h.at_]? = some m∧zAq h=m.t∧m.t.length≤12∧(∀t∈m.t,1≤t∧t≤7)∧h.next+zCb m.t≤h.psks.length∧zDf h=decide (m.who=h.role)∧h.at_≤100:=by
 obtain⟨p1,p2,p3,p4,p5,p6,p7⟩:=zAs ho.right;have hm:h.p.msgs[h.at_]? = some h.p.msgs[h.at_]:=List.getElem?_eq_getElem hlt;have h5:=p5 _ (List.getElem_mem hlt);have hl:=ho.left;rw[List.drop_eq_getElem_cons hlt]at hl;unfold zD9 at hl;rw[List.map_cons,List.sum_cons]at hl;refine⟨_,hm,?_,h5.2.2.1,h5.2.2.2,by omega,?_,by omega⟩
 · unfold zAq;rw[hm]
 · unfold zDf;rw[hm]
section
variable {we w:World}{ρ:List (Nat × Obj)}{σ F:List HP}{p lim:Nat}{L L1 L2:List Nd}{r:Rep}{h:Sh}{x e who t:Int}{y1 y2:Sy}
theorem zKY (hr:ShR ρ r h){m:Msg}(hlt:h.at_<h.p.msgs.length)(hm:h.p.msgs[h.at_]? = some m):r.nm=h.p.msgs.length ∧
 ∃mb off cs el fr qt ct,r.qm=some ⟨mb,off,none⟩∧(mb,Obj.cells (List.toArray cs) el fr) ∈ ρ∧cs[off+h.at_*2+1]? = some (.slice qt m.t.length ct)∧Sl ρ intL 1 (.slice qt m.t.length ct) m.t:=by
 have hp:=hr.pat;generalize hv:Value.agg (patL r h.p.name).toArray=v at hp;obtain⟨hl0,hl1,hlm,hrr⟩:=hp;rename_i v0 v1 vm ms;unfold patL at hv;simp only[Value.agg.injEq,List.toArray_inj,List.cons.injEq,and_true,true_and]at hv;obtain⟨-,-,hvm⟩:_∧_∧Value.slice r.qm r.nm r.cm=vm:=by simpa using hv
 subst hvm;have hlen:=hrr.length;obtain⟨q,c,hq,-⟩:=hlm.val;simp only[Value.slice.injEq]at hq;obtain⟨-,hnm,-⟩:=hq;rw[hnm]at hlm;obtain⟨mb,off,cs,el,fr,m',tv,h1,h2,h3,h4,h5,h6,h7⟩:=zEm hlm hrr (i:=h.at_) (by omega);rw[hm]at h6;obtain rfl:=Option.some.inj h6;obtain⟨qt,ct,rfl,-⟩:=h7.val;exact⟨by omega,mb,off,cs,el,fr,qt,ct,h1,h2,h4,h7⟩
theorem zIH (hr:ShR ρ r h):r.nm=h.p.msgs.length:=by
 have hp:=hr.pat;generalize hv:Value.agg (patL r h.p.name).toArray=v at hp;obtain⟨hl0,hl1,hlm,hrr⟩:=hp;rename_i v0 v1 vm ms;unfold patL at hv;obtain⟨-,-,hvm⟩:_∧_∧Value.slice r.qm r.nm r.cm=vm:=by simpa using hv
 subst hvm;have hlen:=hrr.length;obtain⟨q,c,hq,-⟩:=hlm.val;simp only[Value.slice.injEq]at hq;omega
theorem zKQ (ho:ShOk h)(hr:ShR ρ r h)(hS:St we ρ (zAA p lim L::F) w) :
 Cl Tryz.prog 149 [.agg (shL r h).toArray,pP p,pI e,pI x] w fun v w'=>∃mv,v = .tuple #[.agg (zAg r (zAK lim L h e x).2.1 (zAK lim L h e x).2.2.2).toArray,mv,pI (zAK lim L h e x).2.2.2]∧St we ρ (Vec 3 1 mv (zAK lim L h e x).2.2.1.length ((zAK lim L h e x).2.2.1.flatMap intL)::zAA p lim (zAK lim L h e x).1::F) w':=by
 have kM:∀{σ:List HP} {w:World},St we ρ σ w→_:=fun hS=>zIW hr hS
 cases hmi:zDf h with
 | false =>
   rw[hmi]at kM;have hW:zAK lim L h e x=(L,h,[],5):=by unfold zAK;rw[if_pos hmi]
   rw[hW];refine Run.calls4 (n:=93) Tryz.func149 rfl rfl rfl ?_;repeat' first|(refine Qv 54 (kM hS) ?_;clear hS;intro w1 hS)|(refine Qm ?_)|apply Qs|apply Qr|apply Qn|refine Ql ?_|(refine Qx ?_;clear hS;intro b w1 hS)|(refine Qa ?_;clear hS;intro b w1 hS)|(refine Qd ?_;clear hS;intro w1 hS)|refine Qt ?_
   refine Qw Tryz.func149 ?_;exact⟨.slice none 0 0,rfl,zAh hS.pk⟩
 | true =>
   cases hh:(has L e && has L x)with
   | false =>
     rw[hmi]at kM;have hh2:[e,x].all (has L)=false:=by simpa using hh
     have hW:zAK lim L h e x=(L,h,[],1):=by unfold zAK;rw[if_neg (by rw[hmi];decide),if_pos hh]
     rw[hW];refine Run.calls4 (n:=93) Tryz.func149 rfl rfl rfl ?_;repeat' first|(refine Qv 54 (kM hS) ?_;clear hS;intro w1 hS)|(refine Qv 22 (zUX hh2 hS.tk (by exact Rd.any)) ?_;clear hS;intro w1 hS)|(refine Qm ?_)|apply Qs|apply Qr|apply Qn|refine Ql ?_|(refine Qx ?_;clear hS;intro b w1 hS)|(refine Qa ?_;clear hS;intro b w1 hS)|(refine Qd ?_;clear hS;intro w1 hS)|(refine Qg ?_;clear hS;intro b w1 hS)|refine Qt ?_|refine Qf ?_|apply Qk
     refine Qw Tryz.func149 ?_;exact⟨.slice none 0 0,rfl,zAh hS.pk⟩
   | true =>
     have hlt:h.at_<h.p.msgs.length:=by
      by_cases hlt:h.at_<h.p.msgs.length
      · exact hlt
      · unfold zDf at hmi
        rw[List.getElem?_eq_none (by omega)]at hmi;cases hmi
     obtain⟨m,hm,hta,hlen,htk,hsv,hmv,hat⟩:=ho.msg hlt;obtain⟨hnm,mb,off,cs,el,fr,qt,ct,hqm,hmem,g2,g5⟩:=zKY hr hlt hm;exact zS2 ho.role hr hmi hh hqm (by omega) hmem g2 g5 hta hlen htk hsv hat hS
theorem zLd {msg:List Int}{v:Value}(ho:ShOk h)(hr:ShR ρ r h)(hms:Sl ρ intL 1 v msg)(hS:St we ρ (zAA p lim L::F) w) :
 Cl Tryz.prog 59 [.agg (shL r h).toArray,pP p,v] w fun v w'=>v = .tuple #[.agg (zAg r (zAN lim L h msg).2.1 (zAN lim L h msg).2.2.2).toArray,pI (zAN lim L h msg).2.2.1,pI (zAN lim L h msg).2.2.2]∧St we ρ (zAA p lim (zAN lim L h msg).1::F) w':=by
 have kM:∀{σ:List HP} {w:World},St we ρ σ w→_:=fun hS=>zIW hr hS
 have hn:=zIH hr;have kD:∀{σ:List HP} {w:World},St we ρ σ w→_:=fun hS=>zCC (r:=r) (h:=h) hn hS
 obtain⟨mq,mc,rfl,q1,q2,-⟩:=hms.val;unfold maxLen at q2;by_cases hd:h.p.msgs.length≤h.at_
 · rw[decide_eq_true hd]at kD
   have hW:zAN lim L h msg=(L,h,0,5):=by unfold zAN;rw[if_pos (.inl hd)]
   rw[hW];refine Run.calls3 (n:=103) Tryz.func59 rfl rfl rfl ?_;repeat' first|(refine Qv 58 (kD hS) ?_;clear hS;intro w1 hS)|(refine Qm ?_)|apply Qs|apply Qr|apply Qn|refine Ql ?_|(refine Qx ?_;clear hS;intro b w1 hS)|(refine Qa ?_;clear hS;intro b w1 hS)|(refine Qd ?_;clear hS;intro w1 hS)|refine Qz ?_|refine Qt ?_|apply Qb
   refine Qw Tryz.func59 ?_;exact Xp
 have hlt:h.at_<h.p.msgs.length:=by omega
 rw[decide_eq_false hd]at kD;cases hmi:zDf h with
 | true =>
   rw[hmi]at kM;have hW:zAN lim L h msg=(L,h,0,5):=by unfold zAN;rw[if_pos (.inr hmi)]
   rw[hW];refine Run.calls3 (n:=103) Tryz.func59 rfl rfl rfl ?_;repeat' first|(refine Qv 58 (kD hS) ?_;clear hS;intro w1 hS)|(refine Qv 54 (kM hS) ?_;clear hS;intro w1 hS)|(refine Qm ?_)|apply Qs|apply Qr|apply Qn|refine Ql ?_|(refine Qx ?_;clear hS;intro b w1 hS)|(refine Qa ?_;clear hS;intro b w1 hS)|(refine Qd ?_;clear hS;intro w1 hS)|refine Qy ?_|refine Qt ?_|apply Qb
   refine Qw Tryz.func59 ?_;exact Xp
 | false =>
   rw[hmi]at kM;have hno:¬(h.p.msgs.length≤h.at_∨zDf h=true):=by rw[hmi];simp;omega
   cases hh:msg.all (has L)with
   | false =>
     have hW:zAN lim L h msg=(L,h,0,1):=by unfold zAN;rw[if_neg hno,if_pos hh]
     rw[hW];refine Run.calls3 (n:=103) Tryz.func59 rfl rfl rfl ?_;repeat' first|(refine Qv 58 (kD hS) ?_;clear hS;intro w1 hS)|(refine Qv 54 (kM hS) ?_;clear hS;intro w1 hS)|(refine Qv 22 (zOm hh hms hS.tk) ?_;clear hS;intro w1 hS)|(refine Qm ?_)|apply Qs|apply Qr|apply Qn|refine Ql ?_|(refine Qx ?_;clear hS;intro b w1 hS)|(refine Qa ?_;clear hS;intro b w1 hS)|(refine Qd ?_;clear hS;intro w1 hS)|refine Qy ?_|refine Qt ?_|refine Qf ?_|apply Qb
     refine Qw Tryz.func59 ?_;exact Xp
   | true =>
     obtain⟨m,hm,hta,hlen,htk,hsv,hmv,hat⟩:=ho.msg hlt;obtain⟨hnm,mb,off,cs,el,fr,qt,ct,hqm,hmem,g2,g5⟩:=zKY hr hlt hm;by_cases hpa:(msg.length:Int)=zBL m.t
     · exact zU5 ho.role hr hn hmi hh hqm (by omega) hmem g2 g5 hta hlen htk hsv hat hms hpa hS
     · have hW:zAN lim L h msg=(L,h,0,7):=by unfold zAN;rw[if_neg hno,if_neg (by rw[hh];simp),hta,if_pos hpa]
       rw[hW];have hbp:=zGF m.t;refine Run.calls3 (n:=103) Tryz.func59 rfl rfl rfl ?_;repeat' first|(refine Qv 58 (kD hS) ?_;clear hS;intro w1 hS)|(refine Qv 54 (kM hS) ?_;clear hS;intro w1 hS)|(refine Qv 22 (zOm hh hms hS.tk) ?_;clear hS;intro w1 hS)|(refine Qv 101 (zF6 g5 hlen hS) ?_;clear hS;intro w1 hS)|(refine Ql ?_ (h:=by apply Still.load (v:=.slice (some ⟨mb,off,none⟩) r.nm r.cm);rfl;rfl;(exact Rd.any);(rw[← hqm];rfl)))|(refine Ql ?_ (h:=by apply Still.load;rfl;rfl;exact Rd.ro hmem;exact g2))|(refine Qm ?_)|apply Qs|apply Qr|(apply Rs<;>intro hc<;>try exact No)|apply Qn|refine Ql ?_|(refine Qx ?_;clear hS;intro b w1 hS)|(refine Qa ?_;clear hS;intro b w1 hS)|(refine Qd ?_;clear hS;intro w1 hS)|refine Qy ?_|refine Qt ?_|refine Qf ?_|apply Qb
       refine Qw Tryz.func59 ?_;exact Xp
end
structure Tr where
 s:Cph
 r:Cph
deriving DecidableEq
def trL (t:Tr):List Value:=[pI t.s.key,.bool t.s.has,.int .u64 t.s.n,pI t.r.key,.bool t.r.has,.int .u64 t.r.n]
def Tr.z:Tr:=⟨.z,.z⟩
def zGl (lim:Nat)(L:List Nd)(h:Sh):List Nd × Tr × Int :=
 if(zBM lim L h).2.2.2=0 then((zBM lim L h).1,⟨(zBM lim L h).2.1,(zBM lim L h).2.2.1⟩,0) else((zBM lim L h).1,.z,(zBM lim L h).2.2.2)
def zB8 (lim:Nat)(L:List Nd)(t:Tr)(q:Int):List Nd × Tr × Int × Int :=
 if(zBE lim L t.s 0 q).2.2.2=0 then((zBE lim L t.s 0 q).1,⟨(zBE lim L t.s 0 q).2.1,t.r⟩,(zBE lim L t.s 0 q).2.2.1,0) else((zBE lim L t.s 0 q).1,.z,0,(zBE lim L t.s 0 q).2.2.2)
def zCk (L:List Nd)(t:Tr)(x:Int):Tr × Int × Int :=
 if(zCB L t.r 0 x).2.2=0 then(⟨t.s,(zCB L t.r 0 x).1⟩,(zCB L t.r 0 x).2.1,0) else(.z,0,(zCB L t.r 0 x).2.2)
def zBV (lim:Nat)(L:List Nd)(t:Tr)(send:Bool):List Nd × Tr × Int :=
 if(zBm lim L (if send then t.s else t.r)).2.2=0 then((zBm lim L (if send then t.s else t.r)).1,if send then⟨(zBm lim L (if send then t.s else t.r)).2.1,t.r⟩ else⟨t.s,(zBm lim L (if send then t.s else t.r)).2.1⟩,0)
 else((zBm lim L (if send then t.s else t.r)).1,.z,(zBm lim L (if send then t.s else t.r)).2.2)
section
variable {we w:World}{ρ:List (Nat × Obj)}{σ F:List HP}{p lim:Nat}{L L1 L2:List Nd}{r:Rep}{h:Sh}{x q e:Int}{t:Tr}{c1:Cph}{b3 b4 b5:Nat}
theorem zPB (hro:h.role=0∨h.role=1)(hr:ShR ρ r h)(hS:St we ρ (zAA p lim L::F) w) :
 Cl Tryz.prog 107 [pP p,.agg (shL r h).toArray] w fun v w'=>v = .tuple #[.agg (trL (zGl lim L h).2.1).toArray,pI (zGl lim L h).2.2]∧St we ρ (zAA p lim (zGl lim L h).1::F) w':=by
 unfold zGl;have k1:∀{F w},St we ρ (zAA p lim L::F) w→_:=fun hS=>zK7 hro hr (zIH hr) hS
 generalize zBM lim L h=a1 at k1;obtain⟨L1,d1,d2,e1⟩:=a1;simp only at k1 ⊢;by_cases he:e1=0
 · subst he
   simp only[if_true];refine Run.calls2 (n:=23) Tryz.func107 rfl rfl rfl ?_;repeat' first|(refine Qv 160 (k1 hS.tk) ?_;clear hS;intro w1 hS)|(refine Qm ?_)|apply Qs|apply Qr|(apply Rs<;>intro hc<;>try exact No)|apply Qn|refine Ql ?_|(refine Qx ?_;clear hS;intro b w1 hS)|(refine Qa ?_;clear hS;intro b w1 hS)|(refine Qd ?_;clear hS;intro w1 hS)|refine Qf ?_|apply Qk
   refine Qw Tryz.func107 ?_;exact Xp
 · simp only[if_neg he]
   refine Run.calls2 (n:=23) Tryz.func107 rfl rfl rfl ?_;repeat' first|(refine Qv 160 (k1 hS.tk) ?_;clear hS;intro w1 hS)|(refine Qm ?_)|apply Qs|apply Qr|(apply Rs<;>intro hc<;>try exact No)|apply Qn|refine Ql ?_|(refine Qx ?_;clear hS;intro b w1 hS)|(refine Qa ?_;clear hS;intro b w1 hS)|(refine Qd ?_;clear hS;intro w1 hS)|refine Qt ?_
   refine Qw Tryz.func107 ?_;exact Xp
theorem zLK (hq:zBE lim L t.s 0 q=(L1,c1,x,e))(hS:St we ρ (Row b3 (trL t) 94::Row b4 [pP p] 38::Row b5 [pI q] 3::zAA p lim L::F) w) :
 Cl Tryz.prog 196 [pP b3,pP b4,pP b5] w fun v w'=>v = .tuple #[cphV c1,pI x,pI e]∧St we ρ (Row b3 (trL t) 94::Row b4 [pP p] 38::Row b5 [pI q] 3::zAA p lim L1::F) w':=by
 refine Run.calls3 (n:=14) Tryz.func196 rfl rfl rfl ?_;repeat' first|(refine Qv 197 (zM4 (c:=t.s) hq hS.tk) ?_;clear hS;intro w1 hS)|apply Qs|apply Qr|apply Qn|refine Ql ?_|(refine Qa ?_;clear hS;intro b w1 hS)|(refine Qd ?_;clear hS;intro w1 hS)
 refine Qw Tryz.func196 ?_;exact Xp
theorem zO9 (hq:zBE lim L t.s 0 q=(L1,c1,x,e))(hS:St we ρ (Row b3 (trL t) 94::Row b4 [pP p] 38::Row b5 [pI q] 3::zAA p lim L::F) w) :
 Cl Tryz.prog 63 [.agg (trL t).toArray,pP b3,.func (.func 196) #[] #[pP b3,pP b4,pP b5]] w
  fun v w'=>v = .tuple #[pI x,pI e]∧St we ρ (Row b3 (trL (if e=0 then⟨c1,t.r⟩ else t)) 94::Row b4 [pP p] 38::Row b5 [pI q] 3::zAA p lim L1::F) w':=by
 have k1:∀{F w},St we ρ (Row b3 (trL t) 94::Row b4 [pP p] 38::Row b5 [pI q] 3::zAA p lim L::F) w→_:=fun hS=>zLK (c1:=c1) (x:=x) (e:=e) hq hS
 by_cases he:e=0
 · subst he
   rw[if_pos rfl];refine Run.calls3 (n:=24) Tryz.func63 rfl rfl rfl ?_;repeat' first|(apply RO.op;apply OP.callV (first:=[]) (cap:=[_,_,_]);rfl;rfl;rfl;rfl;exact k1 (tke4 hS An An An An);clear hS;rintro v w1 ⟨rfl,hS⟩)|apply Qs|apply Qr|(apply Rs<;>intro hc<;>try exact No)|apply Qn|refine Ql ?_|(refine Qx ?_;clear hS;intro b w1 hS)|(refine Qa ?_;clear hS;intro b w1 hS)|(refine Qd ?_;clear hS;intro w1 hS)|refine Qt ?_
   refine Qw Tryz.func63 ?_;exact Xp
 · rw[if_neg he]
   refine Run.calls3 (n:=24) Tryz.func63 rfl rfl rfl ?_;repeat' first|(apply RO.op;apply OP.callV (first:=[]) (cap:=[_,_,_]);rfl;rfl;rfl;rfl;exact k1 (tke4 hS An An An An);clear hS;rintro v w1 ⟨rfl,hS⟩)|apply Qs|apply Qr|(apply Rs<;>intro hc<;>try exact No)|apply Qn|refine Ql ?_|(refine Qx ?_;clear hS;intro b w1 hS)|(refine Qa ?_;clear hS;intro b w1 hS)|(refine Qd ?_;clear hS;intro w1 hS)|refine Qf ?_|apply Qk
   refine Qw Tryz.func63 ?_;exact Xp
theorem zQq (hq:zBE lim L t.s 0 q=(L1,c1,x,e))(hS:St we ρ (zAA p lim L::F) w) :
 Cl Tryz.prog 148 [.agg (trL t).toArray,pP p,pI q] w fun v w'=>v = .tuple #[.agg (trL (if e=0 then⟨c1,t.r⟩ else .z)).toArray,pI (if e=0 then x else 0),pI e]∧St we ρ (zAA p lim L1::F) w':=by
 have k1:∀{b3 b4 b5:Nat} {F:List HP} {w:World},St we ρ (Row b3 (trL t) 94::Row b4 [pP p] 38::Row b5 [pI q] 3::zAA p lim L::F) w→_:=fun hS=>zO9 (c1:=c1) (x:=x) (e:=e) hq hS
 by_cases he:e=0
 · subst he
   simp only[if_true]at k1 ⊢;refine Run.calls3 (n:=24) Tryz.func148 rfl rfl rfl ?_;repeat' first|(refine Qv 63 (k1 (tke4 hS An An An An)) ?_;clear hS;intro w1 hS)|apply Qs|apply Qr|(apply Rs<;>intro hc<;>try exact No)|apply Qn|refine Ql ?_|(refine Qx ?_;clear hS;intro b w1 hS)|(refine Qa ?_;clear hS;intro b w1 hS)|(refine Qd ?_;clear hS;intro w1 hS)|refine Qf ?_|apply Qk
   refine Qw Tryz.func148 ?_;exact Xp
 · simp only[if_neg he]at k1 ⊢
   refine Run.calls3 (n:=24) Tryz.func148 rfl rfl rfl ?_;repeat' first|(refine Qv 63 (k1 (tke4 hS An An An An)) ?_;clear hS;intro w1 hS)|apply Qs|apply Qr|(apply Rs<;>intro hc<;>try exact No)|apply Qn|refine Ql ?_|(refine Qx ?_;clear hS;intro b w1 hS)|(refine Qa ?_;clear hS;intro b w1 hS)|(refine Qd ?_;clear hS;intro w1 hS)|refine Qt ?_
   refine Qw Tryz.func148 ?_;exact Xp
theorem zLM (hq:zCB L t.r 0 q=(c1,x,e))(hS:St we ρ (Row b3 (trL t) 94::Row b4 [pP p] 38::Row b5 [pI q] 3::zAA p lim L::F) w) :
 Cl Tryz.prog 64 [pP b3,pP b4,pP b5] w fun v w'=>v = .tuple #[cphV c1,pI x,pI e]∧St we ρ (Row b3 (trL t) 94::Row b4 [pP p] 38::Row b5 [pI q] 3::zAA p lim L::F) w':=by
 refine Run.calls3 (n:=14) Tryz.func64 rfl rfl rfl ?_;repeat' first|(refine Qv 65 (zNO (c:=t.r) hq hS.tk) ?_;clear hS;intro w1 hS)|apply Qs|apply Qr|apply Qn|refine Ql ?_|(refine Qa ?_;clear hS;intro b w1 hS)|(refine Qd ?_;clear hS;intro w1 hS)
 refine Qw Tryz.func64 ?_;exact Xp
theorem zPA (hq:zCB L t.r 0 q=(c1,x,e))(hS:St we ρ (Row b3 (trL t) 94::Row b4 [pP p] 38::Row b5 [pI q] 3::zAA p lim L::F) w) :
 Cl Tryz.prog 63 [.agg (trL t).toArray,.pointer (some ⟨b3,3,none⟩),.func (.func 64) #[] #[pP b3,pP b4,pP b5]] w
  fun v w'=>v = .tuple #[pI x,pI e]∧St we ρ (Row b3 (trL (if e=0 then⟨t.s,c1⟩ else t)) 94::Row b4 [pP p] 38::Row b5 [pI q] 3::zAA p lim L::F) w':=by
 have k1:∀{F w},St we ρ (Row b3 (trL t) 94::Row b4 [pP p] 38::Row b5 [pI q] 3::zAA p lim L::F) w→_:=fun hS=>zLM (c1:=c1) (x:=x) (e:=e) hq hS
 by_cases he:e=0
 · subst he
   rw[if_pos rfl];refine Run.calls3 (n:=24) Tryz.func63 rfl rfl rfl ?_;repeat' first|(apply RO.op;apply OP.callV (first:=[]) (cap:=[_,_,_]);rfl;rfl;rfl;rfl;exact k1 (tke4 hS An An An An);clear hS;rintro v w1 ⟨rfl,hS⟩)|apply Qs|apply Qr|(apply Rs<;>intro hc<;>try exact No)|apply Qn|refine Ql ?_|(refine Qx ?_;clear hS;intro b w1 hS)|(refine Qa ?_;clear hS;intro b w1 hS)|(refine Qd ?_;clear hS;intro w1 hS)|refine Qt ?_
   refine Qw Tryz.func63 ?_;exact Xp
 · rw[if_neg he]
   refine Run.calls3 (n:=24) Tryz.func63 rfl rfl rfl ?_;repeat' first|(apply RO.op;apply OP.callV (first:=[]) (cap:=[_,_,_]);rfl;rfl;rfl;rfl;exact k1 (tke4 hS An An An An);clear hS;rintro v w1 ⟨rfl,hS⟩)|apply Qs|apply Qr|(apply Rs<;>intro hc<;>try exact No)|apply Qn|refine Ql ?_|(refine Qx ?_;clear hS;intro b w1 hS)|(refine Qa ?_;clear hS;intro b w1 hS)|(refine Qd ?_;clear hS;intro w1 hS)|refine Qf ?_|apply Qk
   refine Qw Tryz.func63 ?_;exact Xp
theorem zQr (hq:zCB L t.r 0 q=(c1,x,e))(hS:St we ρ (zAA p lim L::F) w) :
 Cl Tryz.prog 29 [.agg (trL t).toArray,pP p,pI q] w fun v w'=>v = .tuple #[.agg (trL (if e=0 then⟨t.s,c1⟩ else .z)).toArray,pI (if e=0 then x else 0),pI e]∧St we ρ (zAA p lim L::F) w':=by
 have k1:∀{b3 b4 b5:Nat} {F:List HP} {w:World},St we ρ (Row b3 (trL t) 94::Row b4 [pP p] 38::Row b5 [pI q] 3::zAA p lim L::F) w→_:=fun hS=>zPA (c1:=c1) (x:=x) (e:=e) hq hS
 by_cases he:e=0
 · subst he
   simp only[if_true]at k1 ⊢;refine Run.calls3 (n:=24) Tryz.func29 rfl rfl rfl ?_;repeat' first|(refine Qv 63 (k1 (tke4 hS An An An An)) ?_;clear hS;intro w1 hS)|apply Qs|apply Qr|(apply Rs<;>intro hc<;>try exact No)|apply Qn|refine Ql ?_|(refine Qx ?_;clear hS;intro b w1 hS)|(refine Qa ?_;clear hS;intro b w1 hS)|(refine Qd ?_;clear hS;intro w1 hS)|refine Qf ?_|apply Qk
   refine Qw Tryz.func29 ?_;exact Xp
 · simp only[if_neg he]at k1 ⊢
   refine Run.calls3 (n:=24) Tryz.func29 rfl rfl rfl ?_;repeat' first|(refine Qv 63 (k1 (tke4 hS An An An An)) ?_;clear hS;intro w1 hS)|apply Qs|apply Qr|(apply Rs<;>intro hc<;>try exact No)|apply Qn|refine Ql ?_|(refine Qx ?_;clear hS;intro b w1 hS)|(refine Qa ?_;clear hS;intro b w1 hS)|(refine Qd ?_;clear hS;intro w1 hS)|refine Qt ?_
   refine Qw Tryz.func29 ?_;exact Xp
theorem zLL (hS:St we ρ (zAA p lim L::F) w) :
 Cl Tryz.prog 148 [.agg (trL t).toArray,pP p,pI q] w fun v w'=>v = .tuple #[.agg (trL (zB8 lim L t q).2.1).toArray,pI (zB8 lim L t q).2.2.1,pI (zB8 lim L t q).2.2.2]∧St we ρ (zAA p lim (zB8 lim L t q).1::F) w':=by
 unfold zB8;generalize hq:zBE lim L t.s 0 q=a;obtain⟨L1,c1,x,e⟩:=a;have:=zQq hq hS;by_cases he:e=0
 · subst he;simpa using this
 · simpa[he]using this
theorem zLN (hS:St we ρ (zAA p lim L::F) w) :
 Cl Tryz.prog 29 [.agg (trL t).toArray,pP p,pI q] w fun v w'=>v = .tuple #[.agg (trL (zCk L t q).1).toArray,pI (zCk L t q).2.1,pI (zCk L t q).2.2]∧St we ρ (zAA p lim L::F) w':=by
 unfold zCk;generalize hq:zCB L t.r 0 q=a;obtain⟨c1,x,e⟩:=a;have:=zQr hq hS;by_cases he:e=0
 · subst he;simpa using this
 · simpa[he]using this
theorem zKK {send:Bool}(hS:St we ρ (zAA p lim L::F) w) :
 Cl Tryz.prog 151 [.agg (trL t).toArray,pP p,.bool send] w fun v w'=>v = .tuple #[.agg (trL (zBV lim L t send).2.1).toArray,pI (zBV lim L t send).2.2]∧St we ρ (zAA p lim (zBV lim L t send).1::F) w':=by
 unfold zBV;cases send
 · simp only[Bool.false_eq_true,if_false,if_true]
   have k1:∀{F w},St we ρ (zAA p lim L::F) w→_:=fun hS=>zII (c:=t.r) hS
   generalize zBm lim L t.r=a1 at k1;obtain⟨L1,c1,e1⟩:=a1;(try simp only at k1 ⊢)
   by_cases he:e1=0
   · subst he
     (try simp only[if_true])
     refine Run.calls3 (n:=30) Tryz.func151 rfl rfl rfl ?_;repeat' first|(refine Qv 206 (k1 hS.tk) ?_;clear hS;intro w1 hS)|apply Qs|apply Qr|(apply Rs<;>intro hc<;>try exact No)|apply Qn|refine Ql ?_|(refine Qx ?_;clear hS;intro b w1 hS)|(refine Qa ?_;clear hS;intro b w1 hS)|(refine Qd ?_;clear hS;intro w1 hS)|refine Qf ?_|apply Qk
     refine Qw Tryz.func151 ?_;exact Xp
   · (try simp only[if_neg he])
     refine Run.calls3 (n:=30) Tryz.func151 rfl rfl rfl ?_;repeat' first|(refine Qv 206 (k1 hS.tk) ?_;clear hS;intro w1 hS)|apply Qs|apply Qr|(apply Rs<;>intro hc<;>try exact No)|apply Qn|refine Ql ?_|(refine Qx ?_;clear hS;intro b w1 hS)|(refine Qa ?_;clear hS;intro b w1 hS)|(refine Qd ?_;clear hS;intro w1 hS)|refine Qt ?_|refine Qf ?_|apply Qk
     refine Qw Tryz.func151 ?_;exact Xp
 · simp only[Bool.false_eq_true,if_false,if_true]
   have k1:∀{F w},St we ρ (zAA p lim L::F) w→_:=fun hS=>zII (c:=t.s) hS
   generalize zBm lim L t.s=a1 at k1;obtain⟨L1,c1,e1⟩:=a1;(try simp only at k1 ⊢)
   by_cases he:e1=0
   · subst he
     (try simp only[if_true])
     refine Run.calls3 (n:=30) Tryz.func151 rfl rfl rfl ?_;repeat' first|(refine Qv 206 (k1 hS.tk) ?_;clear hS;intro w1 hS)|apply Qs|apply Qr|(apply Rs<;>intro hc<;>try exact No)|apply Qn|refine Ql ?_|(refine Qx ?_;clear hS;intro b w1 hS)|(refine Qa ?_;clear hS;intro b w1 hS)|(refine Qd ?_;clear hS;intro w1 hS)|refine Qt ?_|refine Qf ?_|apply Qk
     refine Qw Tryz.func151 ?_;exact Xp
   · (try simp only[if_neg he])
     refine Run.calls3 (n:=30) Tryz.func151 rfl rfl rfl ?_;repeat' first|(refine Qv 206 (k1 hS.tk) ?_;clear hS;intro w1 hS)|apply Qs|apply Qr|(apply Rs<;>intro hc<;>try exact No)|apply Qn|refine Ql ?_|(refine Qx ?_;clear hS;intro b w1 hS)|(refine Qa ?_;clear hS;intro b w1 hS)|(refine Qd ?_;clear hS;intro w1 hS)|refine Qt ?_
     refine Qw Tryz.func151 ?_;exact Xp
end
end Go.Proofs.YtcikdogkkgefcaaGreatDoor
