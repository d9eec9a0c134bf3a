/- Sessions: their words, and the program's Done, from, mixed, Next, turn, key. The plain words of a handshake's start, and of a session's. Clone of a slice that is read alone; what is kept of keys. -/
import Derived.Test.YtcikdogkkgefcaaGreatDoorMA22
import Derived.Test.YtcikdogkkgefcaaGreatDoorMA23
namespace Go.Proofs.YtcikdogkkgefcaaGreatDoor
set_option maxRecDepth 8000
set_option maxHeartbeats 16000000
set_option linter.unusedVariables false
set_option linter.unusedSimpArgs false
open Go Go.RowKit
structure Nt where
 sent:Bool
 index:Int
 part:Int
 payload:Int
 key:Int
 auth:Int
 conf:Int
 peer:Int
 own:Int
 rs:Int
 re:Int
deriving DecidableEq
def ntL (n:Nt):List Value:=[.bool n.sent,pI n.index,pI n.part,pI n.payload,pI n.key,pI n.auth,pI n.conf,pI n.peer,pI n.own,pI n.rs,pI n.re]
structure Ss where
 h:Sh
 way:Tr
 track:Trk
 index:Int
 peer:Int
 dead:Bool
 note:Nt
def ssL (r:Rep)(s:Ss):List Value:=[pI s.h.role,pI s.h.at_,pI s.h.next,.string s.h.p.name,.slice r.q0 r.n0 r.c0,.slice r.q1 r.n1 r.c1,.slice r.qm r.nm r.cm,pI s.h.s,pI s.h.e,pI s.h.rs,pI s.h.re,.slice r.qk r.nk r.ck,pI s.h.y.ck,pI s.h.y.h,pI s.h.y.c.key,.bool s.h.y.c.has,.int .u64 s.h.y.c.n,pI s.way.s.key,.bool s.way.s.has,.int .u64 s.way.s.n,pI s.way.r.key,.bool s.way.r.has,.int .u64 s.way.r.n,.bool s.track.m0,.bool s.track.m1,.bool s.track.m2,.bool s.track.m3,.bool s.track.m4,.bool s.track.m5,.bool s.track.m6,.bool s.track.m7,pI s.track.l0,pI s.track.l1,pI s.index,pI s.peer,.bool s.dead,.bool s.note.sent,pI s.note.index,pI s.note.part,pI s.note.payload,pI s.note.key,pI s.note.auth,pI s.note.conf,pI s.note.peer,pI s.note.own,pI s.note.rs,pI s.note.re]
def sesL (r:Rep)(s:Ss)(p db:Nat):List Value:=[pI s.h.role,pI s.h.at_,pI s.h.next,.string s.h.p.name,.slice r.q0 r.n0 r.c0,.slice r.q1 r.n1 r.c1,.slice r.qm r.nm r.cm,pI s.h.s,pI s.h.e,pI s.h.rs,pI s.h.re,.slice r.qk r.nk r.ck,pI s.h.y.ck,pI s.h.y.h,pI s.h.y.c.key,.bool s.h.y.c.has,.int .u64 s.h.y.c.n,pI s.way.s.key,.bool s.way.s.has,.int .u64 s.way.s.n,pI s.way.r.key,.bool s.way.r.has,.int .u64 s.way.r.n,.bool s.track.m0,.bool s.track.m1,.bool s.track.m2,.bool s.track.m3,.bool s.track.m4,.bool s.track.m5,.bool s.track.m6,.bool s.track.m7,pI s.track.l0,pI s.track.l1,pI s.index,pI s.peer,.bool s.dead,.bool s.note.sent,pI s.note.index,pI s.note.part,pI s.note.payload,pI s.note.key,pI s.note.auth,pI s.note.conf,pI s.note.peer,pI s.note.own,pI s.note.rs,pI s.note.re,pP p,pP db]
def zBz (s:Ss):Bool:=decide (s.h.p.msgs.length≤s.h.at_)
def zBs (s:Ss)(own:Bool):Int:=if own then s.h.role else 1 - s.h.role
def zA1 (s:Ss):Trk:=if zBz s then s.track else mixT s.track (zAq s.h)
def keyS (s x:Ss)(own:Bool):Int:=if zBz s then(if own then s.way.s.key else s.way.r.key) else if x.h.y.c.has then x.h.y.c.key else 0
section
variable {we w:World}{ρ:List (Nat × Obj)}{σ F:List HP}{sb p db:Nat}{r:Rep}{s x:Ss}{own:Bool}
theorem zBg (hr:ShR ρ r s.h)(hS:St we ρ (Row sb (sesL r s p db) 102::F) w) :
 Cl Tryz.prog 27 [pP sb] w fun v w'=>v = .bool (zBz s)∧St we ρ (Row sb (sesL r s p db) 102::F) w':=by
 have k0:∀{σ:List HP} {w:World},St we ρ σ w→Cl Tryz.prog 58 [.agg (shL r s.h).toArray] w fun v w'=>v = .bool (zBz s)∧St we ρ σ w':=fun hS=>zCC (r:=r) (h:=s.h) (zIH hr) hS
 generalize zBz s=d at k0;refine Run.calls1 (n:=9) Tryz.func27 rfl rfl rfl ?_;repeat' first|(refine Qv 58 (k0 hS) ?_;clear hS;intro w1 hS)|(refine Qm ?_)|apply Qs|apply Qr|apply Qn|refine Ql ?_
 refine Qw Tryz.func27 ?_;exact Xp
theorem zED (hro:s.h.role=0∨s.h.role=1)(hS:St we ρ (Row sb (sesL r s p db) 102::F) w) :
 Cl Tryz.prog 55 [pP sb,.bool own] w fun v w'=>v = pI (zBs s own)∧St we ρ (Row sb (sesL r s p db) 102::F) w':=by
 have hw:IntKind.i64.wrap (1 - s.h.role)=1 - s.h.role:=zA8 (by omega) (by omega);cases own;all_goals
  refine Run.calls2 (n:=19) Tryz.func55 rfl rfl rfl ?_;repeat' first|(refine Ql ?_ (h:=by apply Still.sub (c:=1 - s.h.role);rfl;rfl;exact hw))|apply Qs|apply Qr|apply Qn|refine Ql ?_|refine Qt ?_|refine Qf ?_|apply Qk
  refine Qw Tryz.func55 ?_;exact Xp
theorem zLl (hr:ShR ρ r s.h)(hS:St we ρ (Row sb (sesL r s p db) 102::F) w) :
 Cl Tryz.prog 66 [pP sb,.agg (ssL r x).toArray,.bool own] w fun v w'=>v = pI (keyS s x own)∧St we ρ (Row sb (sesL r s p db) 102::F) w':=by
 have k0:∀{F w},St we ρ (Row sb (sesL r s p db) 102::F) w→_:=fun hS=>zBg hr hS
 unfold keyS;generalize zBz s=d at k0;cases d
 · cases hh:x.h.y.c.has
   all_goals
    simp only[Bool.false_eq_true,if_false,if_true];refine Run.calls3 (n:=41) Tryz.func66 rfl rfl rfl ?_;repeat' first|(refine Qv 27 (k0 hS.tk) ?_;clear hS;intro w1 hS)|(apply RO.loadB hS;rfl;rfl;(exact Rd.any);rfl;rfl;all_goals(intro hb;first|(exfalso;rw[hh]at hb;exact Bool.noConfusion hb)|skip))|(refine Qm ?_)|apply Qs|apply Qr|apply Qn|refine Ql ?_|(refine Qx ?_;clear hS;intro b w1 hS)|refine Qz ?_|refine Qt ?_|refine Qf ?_|apply Qk|apply Qb|apply Qi
    refine Qw Tryz.func66 ?_;exact Xp
 · cases own
   all_goals
    simp only[Bool.false_eq_true,if_false,if_true];refine Run.calls3 (n:=41) Tryz.func66 rfl rfl rfl ?_;repeat' first|(refine Qv 27 (k0 hS.tk) ?_;clear hS;intro w1 hS)|(refine Qm ?_)|apply Qs|apply Qr|apply Qn|refine Ql ?_|(refine Qx ?_;clear hS;intro b w1 hS)|refine Qy ?_|refine Qt ?_|refine Qf ?_|apply Qb
    refine Qw Tryz.func66 ?_;exact Xp
theorem zIV (ho:ShOk s.h)(hr:ShR ρ r s.h)(hS:St we ρ σ w) :
 Cl Tryz.prog 67 [.agg (ssL r s).toArray] w fun v w'=>v=trkV (zA1 s)∧St we ρ σ w':=by
 have k0:∀{σ:List HP} {w:World},St we ρ σ w→Cl Tryz.prog 58 [.agg (shL r s.h).toArray] w fun v w'=>v = .bool (zBz s)∧St we ρ σ w':=fun hS=>zCC (r:=r) (h:=s.h) (zIH hr) hS
 unfold zA1;cases hd:zBz s with
 | true =>
   rw[hd]at k0;simp only[if_true];refine Run.calls1 (n:=21) Tryz.func67 rfl rfl rfl ?_;repeat' first|(refine Qv 58 (k0 hS) ?_;clear hS;intro w1 hS)|(refine Qm ?_)|apply Qs|apply Qr|apply Qn|refine Ql ?_|(refine Qx ?_;clear hS;intro b w1 hS)|(refine Qa ?_;clear hS;intro b w1 hS)|(refine Qd ?_;clear hS;intro w1 hS)|refine Qt ?_
   refine Qw Tryz.func67 ?_;exact Xp
 | false =>
   rw[hd]at k0;have hlt:s.h.at_<s.h.p.msgs.length:=by
    unfold zBz at hd;have:=of_decide_eq_false hd;omega
   obtain⟨m,hm,hta,hlen,htk,hsv,hmv,hat⟩:=ho.msg hlt;obtain⟨hnm,mb,off,cs,el,fr,qt,ct,hqm,hmem,g2,g5⟩:=zKY hr hlt hm;have hlt0:s.h.at_<r.nm:=by omega
   simp only[Bool.false_eq_true,if_false,hta];refine Run.calls1 (n:=21) Tryz.func67 rfl rfl rfl ?_;repeat' first|(refine Qv 58 (k0 hS) ?_;clear hS;intro w1 hS)|(refine Qm ?_)|apply Qs|apply Qr|apply Qn|refine Ql ?_|(refine Qx ?_;clear hS;intro b w1 hS)|(refine Qa ?_;clear hS;intro b w1 hS)|refine Qf ?_|apply Qk
   rename_i b1 w9 w8;obtain⟨b2,hb2⟩:∃x,x=b:=⟨_,rfl⟩
   subst hb2;refine(Run.regionH_cut (fun _:Unit=>Row b2 (trkL (mixT s.track m.t)) 98::Row b1 (ssL r s) 100 :: σ)
    (fun _=>[(2,pP b2)])
    hS (.cons _ (List.Sublist.refl _)) (by rfl) (by rfl) (by rfl) ?_ ?_)
   · clear hS
     intro w1 hS;refine RH.relist (listed':=bm 14 0) (by kernel_rfl) ?_;repeat' first|refine Yl 0 0 ?_|(refine Yt 1 1 ?_ (h:=by first|(apply Still.load (v:=.slice (some ⟨mb,off,none⟩) r.nm r.cm);rfl;rfl;(exact Rd.any);(rw[← hqm];rfl))|(apply Still.load;rfl;rfl;exact Rd.ro hmem;exact g2)|exact Still.an))|refine Yl 3 2 ?_|refine Yl 7 3 ?_|refine Yl 15 4 ?_|(refine Yt 31 5 ?_ (h:=by first|(apply Still.load (v:=.slice (some ⟨mb,off,none⟩) r.nm r.cm);rfl;rfl;(exact Rd.any);(rw[← hqm];rfl))|(apply Still.load;rfl;rfl;exact Rd.ro hmem;exact g2)|exact Still.an))|refine Yl 63 6 ?_|refine Yl 127 7 ?_|(refine Yt 255 8 ?_ (h:=by first|(apply Still.load (v:=.slice (some ⟨mb,off,none⟩) r.nm r.cm);rfl;rfl;(exact Rd.any);(rw[← hqm];rfl))|(apply Still.load;rfl;rfl;exact Rd.ro hmem;exact g2)|exact Still.an))|(refine Yt 511 9 ?_ (h:=by first|exact Sx|exact Still.any))|refine Yl 1023 10 ?_|(refine Yt 2047 11 ?_ (h:=by first|(apply Still.load (v:=.slice (some ⟨mb,off,none⟩) r.nm r.cm);rfl;rfl;(exact Rd.any);(rw[← hqm];rfl))|(apply Still.load;rfl;rfl;exact Rd.ro hmem;exact g2)|exact Still.an))|(refine Ov 110 (zRk (t:=s.track) g5 hS) ?_;clear hS;intro w1 hS;refine Xh ?_)|(refine Od ?_;clear hS;intro w1 hS;refine Xh ?_)|refine Jo ?_|refine Za 4095 12 ?_|refine Za 8191 13 ?_|(refine Yd 16383 ?_;exact⟨(),Sb,hS.pk⟩)
   clear hS;rintro - w1 hS;refine Qw Tryz.func67 ?_;exact Xp
theorem zE8 (ho:ShOk s.h)(hr:ShR ρ r s.h)(hS:St we ρ (Row sb (sesL r s p db) 102::F) w) :
 Cl Tryz.prog 57 [pP sb,.bool own] w fun v w'=>v=lvV (zG9 (zA1 s) (zBs s own)) (zFt (zA1 s) (zBs s own))∧St we ρ (Row sb (sesL r s p db) 102::F) w':=by
 have hf:zBs s own=0∨zBs s own=1:=by have:=ho.role;unfold zBs;split<;>omega
 have k1:∀{F w},St we ρ (Row sb (sesL r s p db) 102::F) w→_:=fun hS=>zED (own:=own) ho.role hS
 have k2:∀{σ:List HP} {w:World},St we ρ σ w→_:=fun hS=>zIV ho hr hS
 generalize zBs s own=f at k1 hf;refine Run.calls2 (n:=14) Tryz.func57 rfl rfl rfl ?_;repeat' first|(refine Qv 67 (k2 hS) ?_;clear hS;intro w1 hS)|(refine Qv 55 (k1 hS.tk) ?_;clear hS;intro w1 hS)|(refine Qv 100 (zWo hf hS) ?_;clear hS;intro w1 hS)|(refine Ql ?_ (h:=by apply Still.loadAgg (m:=47);rfl;rfl;rfl;(exact Rd.any);rfl;rfl))|apply Qs|apply Qr|apply Qn|refine Ql ?_|(refine Qa ?_;clear hS;intro b w1 hS)|(refine Qd ?_;clear hS;intro w1 hS)
 refine Qw Tryz.func57 ?_;exact Xp
end
structure Ks where
 s:Int
 e:Int
 rs:Int
 re:Int
 psks:List Int
def zR8 (k:Ks):NK:=⟨decide (0<k.s),decide (0<k.e),decide (0<k.rs),decide (0<k.re),k.psks.length⟩
def zHf (n:NK)(k:Ks):Ks:=⟨if n.s then k.s else 0,if n.e then k.e else 0,if n.rs then k.rs else 0,if n.re then k.re else 0,k.psks⟩
def zAl (lim:Nat)(who:Int):List Nd→Sh→List Int→List Nd × Sh × Int
 | L,h,[]=>(L,h,0)
 | L,h,t::l=>if(zB9 lim L h who t).2.2=0 then zAl lim who (zB9 lim L h who t).1 (zB9 lim L h who t).2.1 l else zB9 lim L h who t
def sh0 (role:Int)(p:Pat)(k:Ks)(y:Sy):Sh:=⟨role,0,0,p,k.s,k.e,k.rs,k.re,k.psks,y⟩
def Pat.z:Pat:=⟨ByteArray.empty,[],[],[]⟩
def Sh.z:Sh:=sh0 0 .z ⟨0,0,0,0,[]⟩ .z
def zAu (lim:Nat)(p:Pat)(role:Int)(k:Ks)(q:List Nd × Sy × Int):List Nd × Sh × Int :=
 if q.2.2≠0 then(q.1,.z,q.2.2)
 else
  let a:=zAl lim 0 q.1 (sh0 role p k q.2.1) p.pre0
  if a.2.2≠0 then(a.1,.z,a.2.2) else
   let b:=zAl lim 1 a.1 a.2.1 p.pre1
   if b.2.2≠0 then(b.1,.z,b.2.2) else b
def zBY (lim:Nat)(L:List Nd)(p:Pat)(role pr:Int)(k:Ks):List Nd × Sh × Int :=
 if(zBH p role).2≠0 then(L,.z,(zBH p role).2)
 else if([pr,k.s,k.e,k.rs,k.re].all (has L) && k.psks.all (has L))=false then(L,.z,1)
 else if zFq (zBH p role).1 (zR8 k)=false then(L,.z,10)
 else zAu lim p role (zHf (zBH p role).1 k) (zBX lim L p.name pr)
def zKU (n:NK)(d:Dv)(peer:Int):Ks :=
 ⟨d.secret,0,if n.rs then getV d.peers peer else 0,0,if 0<n.psks∧getV d.psks peer=0 then [] else List.replicate n.psks.toNat (getV d.psks peer)⟩
def nt0:Nt:=⟨false,0,0,0,0,0,0,-1,0,0,0⟩
def ss0 (h:Sh)(who:Int):Ss:=⟨h,.z,.z,0,who,false,nt0⟩
def zAX (lim:Nat)(L:List Nd)(d:Dv)(p:Pat)(role peer pr:Int):List Nd × Ss × Int :=
 if peer ≠ -1∧hasV d.peers peer=false then(L,ss0 .z 0,4)
 else if peer ≠ -1∧(zDj d (getV d.peers peer)).2≠0 then(L,ss0 .z 0,(zDj d (getV d.peers peer)).2)
 else
  let n:=(zBH p role).1
  let q:=zBY lim L p role pr (zKU n d peer)
  (q.1,ss0 q.2.1 (if n.rs then peer else -1),q.2.2)
section
variable {we w:World}{ρ:List (Nat × Obj)}{σ F:List HP}
theorem zMD (a:Int):∀c∈intL a,one c=true:=by
 intro c hc;simp[intL]at hc;subst hc;rfl
theorem zGf {v:Value}{l:List Int}(hl:Sl ρ intL 1 v l)(hn:l.length≤100000)(hS:St we ρ σ w) :
 Cl Tryz.prog 95 [v] w fun u w'=>St we ρ (Vec 3 1 u l.length (l.flatMap intL) :: σ) w':=by
 have hl2:=hl;obtain⟨p,cap,rfl,hle,hcm,hrow⟩:=hl.val;cases p with
 | none =>
   have h0:l=[]:=by
    refine List.eq_nil_of_length_eq_zero ?_;refine Nat.eq_zero_of_not_pos fun h=>?_
    obtain⟨b,off,cs,el,fr,h1,-⟩:=hrow h;simp at h1
   subst h0;refine Run.calls1 (n:=8) Tryz.func95 rfl rfl rfl ?_;repeat' first|apply Qs|apply Qr|apply Qn|refine Ql ?_|refine Qt ?_
   refine Qw Tryz.func95 ?_;exact zAh hS.pk
 | some a =>
   refine Run.calls1 (n:=8) Tryz.func95 rfl rfl rfl ?_;repeat' first|(apply RO.op;apply OP.appendSl (size:=1) (bytes:=8) (m:=0) (xs:=[]) (zBF (size:=1) (xs:=[]) (l:=[]) (cap:=0) hS (Nat.le_refl _) (Nat.zero_le _) rfl rfl) hl2 (fun _=>rfl) zMD;rfl;rfl;rfl;rfl;rfl;rfl;rfl;rfl;exact(by omega);exact An;exact(by unfold maxLen;omega);exact(by omega);rfl;clear hS;intro v' w1 hS)|apply Qs|apply Qr|apply Qn|refine Ql ?_|(refine Qg ?_;clear hS;intro b w1 hS)|refine Qf ?_|apply Qk
   refine Qw Tryz.func95 ?_;rw[Nat.zero_add,List.nil_append]at hS;exact hS.pk
def ksL (k:Ks)(q:Value):List Value:=[pI k.s,pI k.e,pI k.rs,pI k.re,q]
def zVf (n:NK)(k:Ks)(q:Value)(i:Nat):List Value:=[pI (if(decide (0<i) && n.s)=true then k.s else 0),pI (if(decide (1<i) && n.e)=true then k.e else 0),pI (if(decide (2<i) && n.rs)=true then k.rs else 0),pI (if(decide (3<i) && n.re)=true then k.re else 0),q]
theorem zP0 {n:NK}{k:Ks}{pv:Value}(hl:Sl ρ intL 1 pv k.psks)(hn:k.psks.length≤100000)(hS:St we ρ σ w) :
 Cl Tryz.prog 193 [.agg (nkL n).toArray,.agg (ksL k pv).toArray] w fun v w'=>∃q,v = .agg (ksL (zHf n k) q).toArray∧St we ρ (Vec 3 1 q k.psks.length (k.psks.flatMap intL) :: σ) w':=by
 refine Run.calls2 (n:=49) Tryz.func193 rfl rfl rfl ?_;repeat' first|(refine Qc 95 (c:=zGf hl hn hS) (k':=?_);clear hS;rintro q w1 hS;obtain⟨qk,qc,rfl⟩:=zAG hS)|apply Qs|apply Qr|apply Qn|refine Ql ?_|(refine Qx ?_;clear hS;intro b w1 hS)|(refine Qa ?_;clear hS;intro b w1 hS)|(refine Qd ?_;clear hS;intro w1 hS)|(refine Qg ?_;clear hS;intro b w1 hS)|apply Qb
 rename_i b2 w9 b3 w8 b4 w7 w6 b5 w5 w4;obtain⟨s,e,rs,re,ps⟩:=n;obtain⟨bC,hbC⟩:∃x,x=b:=⟨_,rfl⟩
 subst hbC;obtain⟨C,hC⟩:∃C:List Value,C=[.bool s,pP b5,pP b3,.bool e,.pointer (some ⟨b5,1,none⟩),.pointer (some ⟨b3,1,none⟩),.bool rs,.pointer (some ⟨b5,2,none⟩),.pointer (some ⟨b3,2,none⟩),.bool re,.pointer (some ⟨b5,3,none⟩),.pointer (some ⟨b3,3,none⟩)]:=⟨_,rfl⟩
 have hS2:St we ρ (Row b5 (zVf ⟨s,e,rs,re,ps⟩ k (.slice qk k.psks.length qc) 0) 86::Row bC C 353::Row b3 (ksL k pv) 86::Row b4 (ksL ⟨0,0,0,0,[]⟩ (.slice none 0 0)) 86::Vec 3 1 (.slice qk k.psks.length qc) k.psks.length (k.psks.flatMap intL) :: σ) w1:=by
  subst hC;exact hS.pk
 clear hS;refine Run.while (fun i:Nat=>[(34,pI i),(33,pI 4),(32,.slice (some ⟨bC,0,none⟩) 4 4),(4,pP b4),(5,pP b5)])
  (fun i w=>i≤4∧St we ρ (Row b5 (zVf ⟨s,e,rs,re,ps⟩ k (.slice qk k.psks.length qc) i) 86::Row bC C 353::Row b3 (ksL k pv) 86::Row b4 (ksL ⟨0,0,0,0,[]⟩ (.slice none 0 0)) 86::Vec 3 1 (.slice qk k.psks.length qc) k.psks.length (k.psks.flatMap intL) :: σ) w)
  (fun i=>4 - i) 0 ⟨by omega,hS2⟩ (by exact Sb) ?_
 clear hS2;rintro i w ⟨hi,hS⟩ ih;by_cases h4:i=4
 · subst h4
   repeat' first|apply Qs|apply Qr|(apply Rs<;>intro hc<;>try exact No)|apply Qn|refine Ql ?_|(refine Qd ?_;clear hS;intro w1 hS)|refine Qf ?_|refine Qe ?_
   refine Qw Tryz.func193 ?_;exact⟨_,rfl,hS.pk⟩
 have h04:i=0∨i=1∨i=2∨i=3:=by omega
 obtain⟨X,hX⟩:∃X,X=zVf ⟨s,e,rs,re,ps⟩ k (.slice qk k.psks.length qc) (i+1):=⟨_,rfl⟩
 replace ih:=ih (i+1);obtain⟨iv,hiv⟩:∃iv:Int,iv=(i:Int):=⟨_,rfl⟩
 rw[← hX]at ih;have h8:(i=0∧s=false)∨(i=0∧s=true)∨(i=1∧e=false)∨(i=1∧e=true)∨(i=2∧rs=false)∨(i=2∧rs=true)∨(i=3∧re=false)∨(i=3∧re=true):=by
  cases s<;>cases e<;>cases rs<;>cases re<;>simp<;>omega
 clear h04;rcases h8 with ⟨rfl,rfl⟩|⟨rfl,rfl⟩|⟨rfl,rfl⟩|⟨rfl,rfl⟩|⟨rfl,rfl⟩|⟨rfl,rfl⟩|⟨rfl,rfl⟩|⟨rfl,rfl⟩
 all_goals
  obtain⟨D,hD⟩:∃D,D=C:=⟨_,rfl⟩
  rw[← hD]at ih;rw[hC]at hD hS;repeat' first|(apply RO.loadB hS;rfl;rfl;(exact Rd.any);rfl;rfl;all_goals(intro hb;try exact Bool.noConfusion hb))|apply Qs|apply Qr|(apply Rs<;>intro hc<;>try exact No)|apply Qn|refine Ql ?_|(refine Qa ?_;clear hS;intro b w1 hS)|(refine Qd ?_;clear hS;intro w1 hS)|refine Qt ?_|refine Qf ?_|apply Qk|apply Qb|apply Qi
 all_goals first|exact Run.weaken (by exact Sb) (ih _ ⟨by omega,by rw[hX,hD];exact hS.pk⟩ (by omega))|skip
 all_goals
  refine(Run.regionH_cut (fun _:Unit=>Row b5 X 86::Row bC D 353::Row b3 (ksL k pv) 86::Row b4 (ksL ⟨0,0,0,0,[]⟩ (.slice none 0 0)) 86::Vec 3 1 (.slice qk k.psks.length qc) k.psks.length (k.psks.flatMap intL) :: σ)
   (fun _=>[(34,pI iv),(33,pI 4),(32,.slice (some ⟨bC,0,none⟩) 4 4),(4,pP b4),(5,pP b5)])
   hS (.cons_cons _ (.cons _ (List.Sublist.refl _))) (by rfl) (by rfl) (by rfl) ?_ ?_)
  · clear hS
    intro w1 hS;refine RH.relist (listed':=bm 8 0) (by kernel_rfl) ?_;repeat' first|refine Yl 0 0 ?_|refine Yl 1 1 ?_|refine Yl 3 2 ?_|refine Yl 7 3 ?_|refine Yt 15 4 ?_|refine Yl 31 5 ?_|refine Yt 63 6 ?_|(refine Od ?_;clear hS;intro w1 hS;refine Xh ?_)|refine Jo ?_|refine Za 127 7 ?_|(refine Yd 255 ?_;exact⟨(),(by rw[hiv];focus((repeat(first|exact .nil|refine .cons rfl ?_));done)),by rw[hX,hD];exact hS.pk⟩)
  clear hS;rintro - w1 hS;repeat' first|apply Qr|apply Qn|refine Ql ?_|apply Qi
  subst hiv;exact Run.weaken (by exact Sb) (ih _ ⟨by omega,hS.pk⟩ (by omega))
end
end Go.Proofs.YtcikdogkkgefcaaGreatDoor
