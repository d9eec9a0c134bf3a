/- What a session's message leaves: done (a way, once the handshake is). A session's Rekey. What a session's message leaves: had. A session's Write. A session's read: a message of the handshake. -/
import Derived.Test.YtcikdogkkgefcaaGreatDoorMA25
namespace Go.Proofs.YtcikdogkkgefcaaGreatDoor
set_option maxRecDepth 8000
set_option maxHeartbeats 16000000
set_option linter.unusedVariables false
set_option linter.unusedSimpArgs false
open Go Go.RowKit
def ssZ:List Value:=[pI 0,pI 0,pI 0,.string ByteArray.empty,.slice none 0 0,.slice none 0 0,.slice none 0 0,pI 0,pI 0,pI 0,pI 0,.slice none 0 0,pI 0,pI 0,pI 0,.bool false,.int .u64 0,pI 0,.bool false,.int .u64 0,pI 0,.bool false,.int .u64 0,.bool false,.bool false,.bool false,.bool false,.bool false,.bool false,.bool false,.bool false,pI 0,pI 0,pI 0,pI 0,.bool false,.bool false,pI 0,pI 0,pI 0,pI 0,pI 0,pI 0,pI 0,pI 0,pI 0,pI 0]
def zAI (lim:Nat)(L:List Nd)(s x:Ss):List Nd × Ss × Int :=
 if(zBz s || !zBz x)=true then(L,x,0) else((zGl lim L x.h).1,{ x with way:=(zGl lim L x.h).2.1 },(zGl lim L x.h).2.2)
section
variable {we w:World}{ρ:List (Nat × Obj)}{σ F:List HP}{sb p db lim:Nat}{L:List Nd}{r:Rep}{s x:Ss}{own:Bool}{wa wc:Int}
theorem zFU (hro:x.h.role=0∨x.h.role=1)(hr:ShR ρ r s.h)(hx:ShR ρ r x.h)(hS:St we ρ (Row sb (sesL r s p db) 102::zAA p lim L::F) w) :
 Cl Tryz.prog 62 [pP sb,.agg (ssL r x).toArray] w fun v w'=>v = .tuple #[.agg (ssL r (zAI lim L s x).2.1).toArray,pI (zAI lim L s x).2.2]∧St we ρ (Row sb (sesL r s p db) 102::zAA p lim (zAI lim L s x).1::F) w':=by
 have kD:∀{F w},St we ρ (Row sb (sesL r s p db) 102::F) w→_:=fun hS=>zBg hr hS
 have kX:∀{σ:List HP} {w:World},St we ρ σ w→Cl Tryz.prog 58 [.agg (shL r x.h).toArray] w fun v w'=>v = .bool (zBz x)∧St we ρ σ w':=fun hS=>zCC (r:=r) (h:=x.h) (zIH hx) hS
 have kT:∀{F w},St we ρ (zAA p lim L::F) w→_:=fun hS=>zPB hro hx hS
 unfold zAI;generalize zBz s=ds at kD;generalize zBz x=dx at kX;generalize zGl lim L x.h=a at kT;obtain⟨L1,way,e⟩:=a;simp only at kT ⊢;cases ds<;>cases dx;rotate_left
 · simp only[Bool.false_or,Bool.not_true,Bool.false_eq_true,if_false]
   refine Run.calls2 (n:=31) Tryz.func62 rfl rfl rfl ?_;repeat' first|(refine Qv 27 (kD hS.tk) ?_;clear hS;intro w1 hS)|(refine Qv 58 (kX hS) ?_;clear hS;intro w1 hS)|(refine Qm ?_)|apply Qs|apply Qr|apply Qn|refine Ql ?_|(refine Qx ?_;clear hS;intro b w1 hS)|(refine Qa ?_;clear hS;intro b w1 hS)|refine Qy ?_|refine Qf ?_|apply Qk
   rename_i b3 w9 w8 w7;obtain⟨b4,hb4⟩:∃x,x=b:=⟨_,rfl⟩
   subst hb4;refine(Run.regionH_cut (fun b6:Nat=>Row b6 (trL way) 94::zAA p lim L1::Row sb (sesL r s p db) 102::Row b4 ssZ 100::Row b3 (ssL r x) 100::F)
    (fun b6=>[(0,pP sb),(3,pP b3),(4,pP b4),(6,pP b6),(7,pI e)])
    hS (.cons_cons _ (.cons_cons _ (.cons_cons _ (.cons _ (List.Sublist.refl _))))) (by rfl) (by rfl) (by rfl) ?_ ?_)
   · clear hS
     intro w1 hS;refine RH.relist (listed':=bm 13 0) (by kernel_rfl) ?_;repeat' first|refine Yt 0 0 ?_|refine Yt 1 1 ?_|refine Yl 3 2 ?_|(refine Yt 7 3 ?_ (h:=by first|(apply Still.loadAgg (m:=17);rfl;rfl;rfl;(exact Rd.any);rfl;rfl)|exact Still.an))|refine Yl 15 4 ?_|(refine Yt 31 5 ?_ (h:=by first|(apply Still.loadAgg (m:=17);rfl;rfl;rfl;(exact Rd.any);rfl;rfl)|exact Still.an))|refine Yt 127 7 ?_|refine Yt 255 8 ?_|refine Yt 511 9 ?_|refine Yt 4095 12 ?_|refine Yt 1151 7 ?_|refine Yt 1279 8 ?_|refine Yt 1535 9 ?_|(refine Ov 107 (kT hS.tk) ?_;clear hS;intro w1 hS;refine Xh ?_)|(refine Oa ?_;clear hS;intro b w1 hS;refine Xh ?_)|(refine Od ?_;clear hS;intro w1 hS;refine Xh ?_)|refine Jo ?_|refine Zb 63 6 10 ?_ ?_|refine Za 1023 10 ?_|refine Za 2047 11 ?_|refine Za 1087 6 ?_|(refine Yd 8191 ?_;exact⟨_,Sb,hS.pk⟩)
   clear hS;rintro b6 w1 hS;repeat' first|(refine Ql ?_ (h:=by apply Still.loadAgg (m:=47);rfl;rfl;rfl;(exact Rd.any);rfl;rfl))|(refine Qm ?_)|apply Qs|apply Qr|apply Qn|refine Ql ?_|(refine Qd ?_;clear hS;intro w1 hS)
   refine Qw Tryz.func62 ?_;exact Xp
 all_goals
  simp only[Bool.false_or,Bool.not_false,Bool.true_or,if_true];refine Run.calls2 (n:=31) Tryz.func62 rfl rfl rfl ?_;repeat' first|(refine Qv 27 (kD hS.tk) ?_;clear hS;intro w1 hS)|(refine Qv 58 (kX hS) ?_;clear hS;intro w1 hS)|(refine Ql ?_ (h:=by apply Still.loadAgg (m:=47);rfl;rfl;rfl;(exact Rd.any);rfl;rfl))|(refine Qm ?_)|apply Qs|apply Qr|apply Qn|refine Ql ?_|(refine Qx ?_;clear hS;intro b w1 hS)|(refine Qa ?_;clear hS;intro b w1 hS)|(refine Qd ?_;clear hS;intro w1 hS)|refine Qy ?_|refine Qz ?_|refine Qt ?_
  refine Qw Tryz.func62 ?_;exact Xp
end
def zAb (lim:Nat)(L:List Nd)(s:Ss)(send:Bool):List Nd × Ss × Int :=
 if s.dead then(L,s,6) else if zBz s=false then(L,s,5)
 else if(zBV lim L s.way send).2.2=0 then((zBV lim L s.way send).1,{ s with way:=(zBV lim L s.way send).2.1 },0) else((zBV lim L s.way send).1,s,(zBV lim L s.way send).2.2)
section
variable {we w:World}{ρ:List (Nat × Obj)}{σ F:List HP}{sb p db lim:Nat}{L:List Nd}{r:Rep}{s x:Ss}{own send:Bool}{wa wc:Int}
theorem zI9 (hr:ShR ρ r s.h)(hS:St we ρ (Row sb (sesL r s p db) 102::zAA p lim L::F) w) :
 Cl Tryz.prog 98 [pP sb,.bool send] w fun v w'=>v = pI (zAb lim L s send).2.2∧St we ρ (Row sb (sesL r (zAb lim L s send).2.1 p db) 102::zAA p lim (zAb lim L s send).1::F) w':=by
 have kD:∀{F w},St we ρ (Row sb (sesL r s p db) 102::F) w→_:=fun hS=>zBg hr hS
 have kT:∀{F w},St we ρ (zAA p lim L::F) w→_:=fun hS=>zKK (t:=s.way) (send:=send) hS
 unfold zAb;generalize zBz s=ds at kD;generalize zBV lim L s.way send=a at kT;obtain⟨L1,way,e⟩:=a;simp only at kT ⊢;by_cases hdd:s.dead=true
 · rw[if_pos hdd]
   refine Run.calls2 (n:=39) Tryz.func98 rfl rfl rfl ?_;repeat' first|(apply RO.loadB hS;rfl;rfl;(exact Rd.any);rfl;rfl;all_goals(intro hb;first|(exfalso;rw[hdd]at hb;exact Bool.noConfusion hb)|skip))|(refine Qm ?_)|apply Qs|apply Qr|apply Qn|refine Ql ?_|refine Qt ?_|apply Qb
   refine Qw Tryz.func98 ?_;exact Xp
 · rw[if_neg hdd]
   replace hdd:s.dead=false:=by simpa using hdd
   cases ds
   · simp only[if_true]
     refine Run.calls2 (n:=39) Tryz.func98 rfl rfl rfl ?_;repeat' first|(apply RO.loadB hS;rfl;rfl;(exact Rd.any);rfl;rfl;all_goals(intro hb;first|(exfalso;rw[hdd]at hb;exact Bool.noConfusion hb)|skip))|(refine Qv 27 (kD hS.tk) ?_;clear hS;intro w1 hS)|(refine Qm ?_)|apply Qs|apply Qr|apply Qn|refine Ql ?_|refine Qt ?_|refine Qf ?_|apply Qb
     refine Qw Tryz.func98 ?_;exact Xp
   · simp only[Bool.true_eq_false,if_false]
     refine Run.calls2 (n:=39) Tryz.func98 rfl rfl rfl ?_;repeat' first|(apply RO.loadB hS;rfl;rfl;(exact Rd.any);rfl;rfl;all_goals(intro hb;first|(exfalso;rw[hdd]at hb;exact Bool.noConfusion hb)|skip))|(refine Qv 27 (kD hS.tk) ?_;clear hS;intro w1 hS)|(refine Qm ?_)|apply Qs|apply Qr|apply Qn|refine Ql ?_|refine Qf ?_|apply Qk|apply Qb|apply Qi
     refine(Run.regionH_cut (fun b5:Nat=>Row b5 (trL way) 94::zAA p lim L1::Row sb (sesL r s p db) 102::F)
      (fun b5=>[(0,pP sb),(5,pP b5),(6,pI e)])
      hS (.cons_cons _ (.cons _ (List.Sublist.refl _))) (by rfl) (by rfl) (by rfl) ?_ ?_)
     · clear hS
       intro w1 hS;refine RH.relist (listed':=bm 17 0) (by kernel_rfl) ?_;repeat' first|refine Yt 0 0 ?_|refine Yt 1 1 ?_|refine Yl 3 2 ?_|refine Yl 7 3 ?_|(refine Yt 15 4 ?_ (h:=by first|(apply Still.loadAgg (m:=6);rfl;rfl;rfl;(exact Rd.any);rfl;rfl)|exact Still.an))|refine Yt 31 5 ?_|refine Yt 63 6 ?_|refine Yl 127 7 ?_|(refine Yt 255 8 ?_ (h:=by first|(apply Still.loadAgg (m:=6);rfl;rfl;rfl;(exact Rd.any);rfl;rfl)|exact Still.an))|refine Yt 511 9 ?_|refine Yt 2047 11 ?_|refine Yt 4095 12 ?_|refine Yt 8191 13 ?_|refine Yt 65535 16 ?_|refine Yt 18431 11 ?_|refine Yt 20479 12 ?_|refine Yt 24575 13 ?_|(refine Ov 151 (kT hS.tk) ?_;clear hS;intro w1 hS;refine Xh ?_)|(refine Oa ?_;clear hS;intro b w1 hS;refine Xh ?_)|(refine Od ?_;clear hS;intro w1 hS;refine Xh ?_)|refine Jo ?_|refine Zb 1023 10 14 ?_ ?_|refine Za 16383 14 ?_|refine Za 32767 15 ?_|refine Za 17407 10 ?_|(refine Yd 131071 ?_;exact⟨_,Sb,hS.pk⟩)
     clear hS;rintro b5 w1 hS;by_cases he:e=0
     · subst he
       rw[if_pos rfl];repeat' first|(refine Ql ?_ (h:=by apply Still.loadAgg (m:=6);rfl;rfl;rfl;(exact Rd.any);rfl;rfl))|(refine Qm ?_)|apply Qs|apply Qr|(apply Rs<;>intro hc<;>try exact No)|apply Qn|refine Ql ?_|(refine Qd ?_;clear hS;intro w1 hS)|refine Qt ?_
       refine Qw Tryz.func98 ?_;exact Xp
     · rw[if_neg he]
       repeat' first|apply Qs|apply Qr|(apply Rs<;>intro hc<;>try exact No)|apply Qn|refine Ql ?_|refine Qf ?_|apply Qk
       refine Qw Tryz.func98 ?_;exact Xp
end
def ssN (r:Rep)(x:Ss)(nt:Nt):List Value:=[pI x.h.role,pI x.h.at_,pI x.h.next,.string x.h.p.name,.slice r.q0 r.n0 r.c0,.slice r.q1 r.n1 r.c1,.slice r.qm r.nm r.cm,pI x.h.s,pI x.h.e,pI x.h.rs,pI x.h.re,.slice r.qk r.nk r.ck,pI x.h.y.ck,pI x.h.y.h,pI x.h.y.c.key,.bool x.h.y.c.has,.int .u64 x.h.y.c.n,pI x.way.s.key,.bool x.way.s.has,.int .u64 x.way.s.n,pI x.way.r.key,.bool x.way.r.has,.int .u64 x.way.r.n,.bool x.track.m0,.bool x.track.m1,.bool x.track.m2,.bool x.track.m3,.bool x.track.m4,.bool x.track.m5,.bool x.track.m6,.bool x.track.m7,pI x.track.l0,pI x.track.l1,pI x.index,pI x.peer,.bool x.dead,.bool nt.sent,pI nt.index,pI nt.part,pI nt.payload,pI nt.key,pI nt.auth,pI nt.conf,pI nt.peer,pI nt.own,pI nt.rs,pI nt.re]
theorem Still.ex {P:Program}{n:Nat}{e:Env}{op:Op}{ty:TypeId}{v:Value}{α:Type}{S : α→World→Prop}(h:∀a,Still P n e (S a) op ty v):Still P n e (fun w=>∃a,S a w) op ty v :=
 ⟨fun a w ha ⟨q,hq⟩=>(h q).go a w ha hq⟩
def zPd (s x:Ss)(own:Bool)(pa pl:Int):Nt:=⟨own,s.index,pa,pl,keyS s x own,zG9 (zA1 s) (zBs s own),zFt (zA1 s) (zBs s own),x.peer,x.h.e,x.h.rs,x.h.re⟩
def hadS (s x:Ss)(own:Bool)(pa pl:Int):Ss:=⟨x.h,x.way,zKV (zA1 s) (zBs s own),x.index+1,x.peer,x.dead,zPd s x own pa pl⟩
section
variable {we w:World}{ρ:List (Nat × Obj)}{σ F:List HP}{sb p db lim:Nat}{L:List Nd}{r:Rep}{s x:Ss}{own:Bool}{pa pl:Int}
theorem zR9 (ho:ShOk s.h)(hr:ShR ρ r s.h)(hix:0≤x.index∧x.index≤100000)(hS:St we ρ (Row sb (sesL r s p db) 102::F) w) :
 Cl Tryz.prog 30 [pP sb,.agg (ssN r x x.note).toArray,.bool own,pI pa,pI pl] w fun v w'=>v = .tuple #[]∧St we ρ (Row sb (sesL r (hadS s x own pa pl) p db) 102::F) w':=by
 have hf:zBs s own=0∨zBs s own=1:=by have:=ho.role;unfold zBs;split<;>omega
 have kK:∀{F w},St we ρ (Row sb (sesL r s p db) 102::F) w→Cl Tryz.prog 66 [pP sb,.agg (ssN r x x.note).toArray,.bool own] w fun v w'=>v = pI (keyS s x own)∧St we ρ (Row sb (sesL r s p db) 102::F) w':=fun hS=>zLl (x:=x) (own:=own) hr hS
 have kN:∀{F w},St we ρ (Row sb (sesL r s p db) 102::F) w→_:=fun hS=>zE8 (own:=own) ho hr hS
 have kF:∀{F w},St we ρ (Row sb (sesL r s p db) 102::F) w→_:=fun hS=>zED (own:=own) ho.role hS
 have kM:∀{σ:List HP} {w:World},St we ρ σ w→_:=fun hS=>zIV ho hr hS
 unfold hadS zPd;generalize keyS s x own=kk at kK;generalize zG9 (zA1 s) (zBs s own)=la at kN;generalize zFt (zA1 s) (zBs s own)=lc at kN;generalize zA1 s=mx at kM;generalize zBs s own=f at kF hf;have tok:True:=trivial;refine Run.calls5 (n:=59) Tryz.func30 rfl rfl rfl ?_;repeat' first|(have _:=tok;clear tok;refine Qx ?_;clear hS;intro b6 w1 hS)|apply Qs|apply Qr|apply Qn
 refine Run.regionH (fun w=>∃nt,St we ρ (Row b6 (ssN r x nt) 100::Row sb (sesL r s p db) 102::F) w)
  (Cut we ρ (fun _:Unit=>Row b6 (ssN r x ⟨own,s.index,pa,pl,kk,la,lc,x.peer,x.h.e,x.h.rs,x.h.re⟩) 100::Row sb (sesL r s p db) 102::F) (fun _=>[(0,pP sb),(2,.bool own),(6,pP b6)]))
  (fun e w ⟨q,h1,h2⟩=>Run.weaken h1 ?_) (by rfl) (by rfl) (by rfl) ?_
 rotate_left
 · replace hS:=hS.drew
   refine RH.relist (listed':=bm 32 0) (by kernel_rfl) ?_;repeat' first|(refine Wt 0 0 ?_ (hS:=by first|exact⟨x.note,hS⟩|exact⟨⟨own,s.index,pa,pl,kk,la,lc,x.peer,x.h.e,x.h.rs,x.h.re⟩,hS⟩) (h:=Ea))|(refine Wt 1 1 ?_ (hS:=by first|exact⟨x.note,hS⟩|exact⟨⟨own,s.index,pa,pl,kk,la,lc,x.peer,x.h.e,x.h.rs,x.h.re⟩,hS⟩) (h:=Ea))|(refine Wt 3 2 ?_ (hS:=by first|exact⟨x.note,hS⟩|exact⟨⟨own,s.index,pa,pl,kk,la,lc,x.peer,x.h.e,x.h.rs,x.h.re⟩,hS⟩) (h:=Ea))|(refine Wt 7 3 ?_ (hS:=by first|exact⟨x.note,hS⟩|exact⟨⟨own,s.index,pa,pl,kk,la,lc,x.peer,x.h.e,x.h.rs,x.h.re⟩,hS⟩) (h:=Ee))|(refine Wt 15 4 ?_ (hS:=by first|exact⟨x.note,hS⟩|exact⟨⟨own,s.index,pa,pl,kk,la,lc,x.peer,x.h.e,x.h.rs,x.h.re⟩,hS⟩) (h:=Ee))|(refine Wt 31 5 ?_ (hS:=by first|exact⟨x.note,hS⟩|exact⟨⟨own,s.index,pa,pl,kk,la,lc,x.peer,x.h.e,x.h.rs,x.h.re⟩,hS⟩) (h:=by apply Still.ex;intro nt;first|(apply Still.loadAgg (m:=47);rfl;rfl;rfl;(exact Rd.any);rfl;rfl)|exact Still.an))|(refine Wt 63 6 ?_ (hS:=by first|exact⟨x.note,hS⟩|exact⟨⟨own,s.index,pa,pl,kk,la,lc,x.peer,x.h.e,x.h.rs,x.h.re⟩,hS⟩) (h:=Ea))|(refine Wt 127 7 ?_ (hS:=by first|exact⟨x.note,hS⟩|exact⟨⟨own,s.index,pa,pl,kk,la,lc,x.peer,x.h.e,x.h.rs,x.h.re⟩,hS⟩) (h:=Ea))|(refine Wt 255 8 ?_ (hS:=by first|exact⟨x.note,hS⟩|exact⟨⟨own,s.index,pa,pl,kk,la,lc,x.peer,x.h.e,x.h.rs,x.h.re⟩,hS⟩) (h:=Ea))|(refine Wt 511 10 ?_ (hS:=by first|exact⟨x.note,hS⟩|exact⟨⟨own,s.index,pa,pl,kk,la,lc,x.peer,x.h.e,x.h.rs,x.h.re⟩,hS⟩) (h:=Ea))|(refine Wt 1535 12 ?_ (hS:=by first|exact⟨x.note,hS⟩|exact⟨⟨own,s.index,pa,pl,kk,la,lc,x.peer,x.h.e,x.h.rs,x.h.re⟩,hS⟩) (h:=Ea))|(refine Wt 5631 13 ?_ (hS:=by first|exact⟨x.note,hS⟩|exact⟨⟨own,s.index,pa,pl,kk,la,lc,x.peer,x.h.e,x.h.rs,x.h.re⟩,hS⟩) (h:=Ea))|(refine Wt 13823 15 ?_ (hS:=by first|exact⟨x.note,hS⟩|exact⟨⟨own,s.index,pa,pl,kk,la,lc,x.peer,x.h.e,x.h.rs,x.h.re⟩,hS⟩) (h:=Ee))|(refine Wt 46591 16 ?_ (hS:=by first|exact⟨x.note,hS⟩|exact⟨⟨own,s.index,pa,pl,kk,la,lc,x.peer,x.h.e,x.h.rs,x.h.re⟩,hS⟩) (h:=by apply Still.ex;intro nt;first|(apply Still.loadAgg (m:=47);rfl;rfl;rfl;(exact Rd.any);rfl;rfl)|exact Still.an))|(refine Wt 112127 17 ?_ (hS:=by first|exact⟨x.note,hS⟩|exact⟨⟨own,s.index,pa,pl,kk,la,lc,x.peer,x.h.e,x.h.rs,x.h.re⟩,hS⟩) (h:=Ee))|(refine Wt 243199 18 ?_ (hS:=by first|exact⟨x.note,hS⟩|exact⟨⟨own,s.index,pa,pl,kk,la,lc,x.peer,x.h.e,x.h.rs,x.h.re⟩,hS⟩) (h:=Ee))|(refine Wt 505343 19 ?_ (hS:=by first|exact⟨x.note,hS⟩|exact⟨⟨own,s.index,pa,pl,kk,la,lc,x.peer,x.h.e,x.h.rs,x.h.re⟩,hS⟩) (h:=Ee))|(refine Wt 1029631 20 ?_ (hS:=by first|exact⟨x.note,hS⟩|exact⟨⟨own,s.index,pa,pl,kk,la,lc,x.peer,x.h.e,x.h.rs,x.h.re⟩,hS⟩) (h:=by apply Still.ex;intro nt;first|(apply Still.loadAgg (m:=47);rfl;rfl;rfl;(exact Rd.any);rfl;rfl)|exact Still.an))|(refine Wt 2078207 21 ?_ (hS:=by first|exact⟨x.note,hS⟩|exact⟨⟨own,s.index,pa,pl,kk,la,lc,x.peer,x.h.e,x.h.rs,x.h.re⟩,hS⟩) (h:=Ee))|(refine Wt 4175359 22 ?_ (hS:=by first|exact⟨x.note,hS⟩|exact⟨⟨own,s.index,pa,pl,kk,la,lc,x.peer,x.h.e,x.h.rs,x.h.re⟩,hS⟩) (h:=Ee))|(refine Wt 8369663 23 ?_ (hS:=by first|exact⟨x.note,hS⟩|exact⟨⟨own,s.index,pa,pl,kk,la,lc,x.peer,x.h.e,x.h.rs,x.h.re⟩,hS⟩) (h:=Ee))|(refine Wt 16758271 24 ?_ (hS:=by first|exact⟨x.note,hS⟩|exact⟨⟨own,s.index,pa,pl,kk,la,lc,x.peer,x.h.e,x.h.rs,x.h.re⟩,hS⟩) (h:=by apply Still.ex;intro nt;first|(apply Still.loadAgg (m:=47);rfl;rfl;rfl;(exact Rd.any);rfl;rfl)|exact Still.an))|(refine Wt 33535487 25 ?_ (hS:=by first|exact⟨x.note,hS⟩|exact⟨⟨own,s.index,pa,pl,kk,la,lc,x.peer,x.h.e,x.h.rs,x.h.re⟩,hS⟩) (h:=Ee))|(refine Wt 67089919 26 ?_ (hS:=by first|exact⟨x.note,hS⟩|exact⟨⟨own,s.index,pa,pl,kk,la,lc,x.peer,x.h.e,x.h.rs,x.h.re⟩,hS⟩) (h:=Ee))|(refine Wt 134198783 27 ?_ (hS:=by first|exact⟨x.note,hS⟩|exact⟨⟨own,s.index,pa,pl,kk,la,lc,x.peer,x.h.e,x.h.rs,x.h.re⟩,hS⟩) (h:=Ee))|(refine Wt 268416511 28 ?_ (hS:=by first|exact⟨x.note,hS⟩|exact⟨⟨own,s.index,pa,pl,kk,la,lc,x.peer,x.h.e,x.h.rs,x.h.re⟩,hS⟩) (h:=by apply Still.ex;intro nt;first|(apply Still.loadAgg (m:=47);rfl;rfl;rfl;(exact Rd.any);rfl;rfl)|exact Still.an))|(refine Wt 536870911 29 ?_ (hS:=by first|exact⟨x.note,hS⟩|exact⟨⟨own,s.index,pa,pl,kk,la,lc,x.peer,x.h.e,x.h.rs,x.h.re⟩,hS⟩) (h:=by apply Still.ex;intro nt;first|(apply Still.loadAgg (m:=47);rfl;rfl;rfl;(exact Rd.any);rfl;rfl)|exact Still.any))|(refine Wt 1073741823 30 ?_ (hS:=by first|exact⟨x.note,hS⟩|exact⟨⟨own,s.index,pa,pl,kk,la,lc,x.peer,x.h.e,x.h.rs,x.h.re⟩,hS⟩) (h:=Ee))|(refine Ol ⟨(by first|exact⟨x.note,hS⟩|exact⟨⟨own,s.index,pa,pl,kk,la,lc,x.peer,x.h.e,x.h.rs,x.h.re⟩,hS⟩),?_⟩ (h:=by first|(apply Still.loadAgg (m:=47);rfl;rfl;rfl;(exact Rd.any);rfl;rfl)|exact Still.an))|(refine Ov 66 (kK hS.tk) ?_;clear hS;intro w1 hS;replace hS:=hS.take (A:=Row b6 (ssN r x x.note) 100) An;refine⟨(by first|exact⟨x.note,hS⟩|exact⟨⟨own,s.index,pa,pl,kk,la,lc,x.peer,x.h.e,x.h.rs,x.h.re⟩,hS⟩),?_⟩)|(refine Ov 57 (kN hS.tk) ?_;clear hS;intro w1 hS;replace hS:=hS.take (A:=Row b6 (ssN r x x.note) 100) An;refine⟨(by first|exact⟨x.note,hS⟩|exact⟨⟨own,s.index,pa,pl,kk,la,lc,x.peer,x.h.e,x.h.rs,x.h.re⟩,hS⟩),?_⟩)|(refine Od ?_;clear hS;intro w1 hS;refine⟨(by first|exact⟨x.note,hS⟩|exact⟨⟨own,s.index,pa,pl,kk,la,lc,x.peer,x.h.e,x.h.rs,x.h.re⟩,hS⟩),?_⟩)|refine Jo ?_|refine Za 536851967 9 ?_|refine Za 536852479 11 ?_|refine Za 536854527 14 ?_|refine Za 2147483647 31 ?_|(refine Yd 4294967295 ?_;exact⟨(),Sb,hS.pk⟩)
 have hS:=h2;clear h2;have hwi:IntKind.i64.wrap (x.index+1)=x.index+1:=zA8 (by omega) (by omega);repeat' first|(refine Qv 67 (kM hS) ?_;clear hS;intro w1 hS)|(refine Qv 55 (kF hS.tk) ?_;clear hS;intro w1 hS)|(refine Qv 68 (zPK hf hS) ?_;clear hS;intro w1 hS)|(refine Ql ?_ (h:=by apply Still.add (c:=x.index+1);rfl;rfl;exact hwi))|(refine Ql ?_ (h:=by apply Still.loadAgg (m:=47);rfl;rfl;rfl;(exact Rd.any);rfl;rfl))|(refine Qm ?_)|apply Qs|apply Qr|apply Qn|refine Ql ?_|(refine Qd ?_;clear hS;intro w1 hS)
 refine Run.done Tryz.func30 rfl .nil ?_;exact Xp
end
def zAL (lim:Nat)(L:List Nd)(s:Ss)(e pl:Int):List Nd × Ss × List Int × Int :=
 if zBz s then((zB8 lim L s.way pl).1,{ s with way:=(zB8 lim L s.way pl).2.1 },[(zB8 lim L s.way pl).2.2.1],(zB8 lim L s.way pl).2.2.2)
 else((zAK lim L s.h e pl).1,{ s with h:=(zAK lim L s.h e pl).2.1 },(zAK lim L s.h e pl).2.2.1,(zAK lim L s.h e pl).2.2.2)
def zBR (lim:Nat)(s:Ss)(pl:Int)(q:List Nd × Ss × List Int × Int):List Nd × Ss × List Int × Int :=
 if q.2.2.2≠0 then(q.1,s,[],q.2.2.2)
 else if(zAI lim q.1 s q.2.1).2.2≠0 then((zAI lim q.1 s q.2.1).1,s,[],(zAI lim q.1 s q.2.1).2.2)
 else((zAI lim q.1 s q.2.1).1,hadS s (zAI lim q.1 s q.2.1).2.1 true (q.2.2.1.getLastD 0) pl,q.2.2.1,0)
def zAE (lim:Nat)(L:List Nd)(s:Ss)(e pl wa wc:Int):List Nd × Ss × List Int × Int :=
 if zD5 s true wa wc≠0 then(L,s,[],zD5 s true wa wc) else zBR lim s pl (zAL lim L s e pl)
def zAc (lim:Nat)(L:List Nd)(s:Ss)(d:Dv)(msg:List Int):List Nd × Ss × Int × Int :=
 if(zAN lim L s.h msg).2.2.2≠0 then((zAN lim L s.h msg).1,s,(zAN lim L s.h msg).2.2.1,(zAN lim L s.h msg).2.2.2)
 else if(2:Int)∈zAq s.h then((zAN lim L s.h msg).1,{ s with h:=(zAN lim L s.h msg).2.1,peer:=(zDj d (zAN lim L s.h msg).2.1.rs).1 },(zAN lim L s.h msg).2.2.1,(zDj d (zAN lim L s.h msg).2.1.rs).2)
 else((zAN lim L s.h msg).1,{ s with h:=(zAN lim L s.h msg).2.1 },(zAN lim L s.h msg).2.2.1,0)
def zAr (lim:Nat)(L:List Nd)(s:Ss)(d:Dv)(msg:List Int):List Nd × Ss × Int × Int :=
 let q:=zAc lim L s d msg
 if q.2.2.2≠0 then q else((zAI lim q.1 s q.2.1).1,(zAI lim q.1 s q.2.1).2.1,q.2.2.1,(zAI lim q.1 s q.2.1).2.2)
def zSY (e:Int):Bool:=decide (e≠0) && decide (e≠5) && decide (e≠1)
def zAo (lim:Nat)(L:List Nd)(s:Ss)(d:Dv)(msg:List Int):List Nd × Ss × Ss × Int × Int :=
 if zBz s=false then((zAr lim L s d msg).1,{ s with dead:=zSY (zAr lim L s d msg).2.2.2 },(zAr lim L s d msg).2.1,(zAr lim L s d msg).2.2.1,(zAr lim L s d msg).2.2.2)
 else if msg.length≠1 then(L,s,s,0,7)
 else(L,s,{ s with way:=(zCk L s.way (msg.getD 0 0)).1 },(zCk L s.way (msg.getD 0 0)).2.1,(zCk L s.way (msg.getD 0 0)).2.2)
def zEB (msg:List Int)(q:List Nd × Ss × Ss × Int × Int):List Nd × Ss × Int × Int :=
 if q.2.2.2.2≠0 then(q.1,q.2.1,0,q.2.2.2.2) else(q.1,hadS q.2.1 q.2.2.1 false (msg.getLastD 0) q.2.2.2.1,q.2.2.2.1,0)
def zAP (lim:Nat)(L:List Nd)(s:Ss)(d:Dv)(msg:List Int)(wa wc:Int):List Nd × Ss × Int × Int :=
 if zD5 s false wa wc≠0 then(L,s,0,zD5 s false wa wc) else zEB msg (zAo lim L s d msg)
theorem zCY (lim:Nat)(e:Int):∀(l:List Int) (L:List Nd) (h:Sh) (m:List Int),Stay h (zAJ lim e L h m l).2.1∧(zAJ lim e L h m l).2.1.next≤h.next+zCb l
 | [],L,h,m=>⟨Stay.refl _,by simp[zAJ,zCb]⟩
 | t::l,L,h,m=>by
   rw[zC7];unfold zAJ;have hmx:=zHh lim L h t;split
   · split
     · exact⟨Stay.refl _,by simp only;omega⟩
     · have:=zCY lim e l (zAR lim L h t).1 (zAR lim L h t).2.1 m
       exact⟨hmx.1.trans this.1,by omega⟩
   · split
     · have h1:=zF3 lim L { h with e:=e } t
       have h2:Stay h { h with e:=e }:=⟨rfl,rfl,rfl,rfl⟩
       split
       · exact⟨Stay.refl _,by simp only;omega⟩
       · have:=zCY lim e l (zA9 lim L { h with e:=e } t).1 (zA9 lim L { h with e:=e } t).2.1 (m++[(zA9 lim L { h with e:=e } t).2.2.1])
         exact⟨(h2.trans h1.1).trans this.1,by have:=h1.2;simp only at this;omega⟩
     · have h1:=zF3 lim L h t
       split
       · exact⟨Stay.refl _,by simp only;omega⟩
       · have:=zCY lim e l (zA9 lim L h t).1 (zA9 lim L h t).2.1 (m++[(zA9 lim L h t).2.2.1])
         exact⟨h1.1.trans this.1,by omega⟩
theorem zD8 (lim:Nat)(msg:List Int):∀(l:List Int) (L:List Nd) (h:Sh) (n:Nat),Stay h (zAY lim msg L h n l).2.1∧(zAY lim msg L h n l).2.1.next≤h.next+zCb l
 | [],L,h,n=>⟨Stay.refl _,by simp[zAY,zCb]⟩
 | t::l,L,h,n=>by
   rw[zC7];unfold zAY;have hmx:=zHh lim L h t;split
   · split
     · exact⟨Stay.refl _,by simp only;omega⟩
     · have:=zD8 lim msg l (zAR lim L h t).1 (zAR lim L h t).2.1 n
       exact⟨hmx.1.trans this.1,by omega⟩
   · have h1:=zHD lim L h t (msg.getD n 0)
     split
     · exact⟨Stay.refl _,by simp only;omega⟩
     · have:=zD8 lim msg l (zAe lim L h t (msg.getD n 0)).1 (zAe lim L h t (msg.getD n 0)).2.1 (n+1)
       exact⟨h1.1.trans this.1,by omega⟩
structure Fwd (h h':Sh):Prop where
 p:h'.p=h.p
 psks:h'.psks=h.psks
 role:h'.role=h.role
theorem Fwd.refl (h:Sh):Fwd h h:=⟨rfl,rfl,rfl⟩
theorem ShR.fwd {ρ:List (Nat × Obj)}{r:Rep}{h h':Sh}(hr:ShR ρ r h)(hs:Fwd h h'):ShR ρ r h':=by
 refine⟨?_,?_⟩
 · rw[hs.p];exact hr.pat
 · rw[hs.psks];exact hr.psk
theorem zLf {l:List Msg}{i:Nat}(hi:i<l.length):zD9 (l.drop i)=zCb l[i].t+zD9 (l.drop (i+1)):=by
 unfold zD9;rw[List.drop_eq_getElem_cons hi,List.map_cons,List.sum_cons]
theorem zNY {h:Sh}(hm:zDf h=true):h.at_<h.p.msgs.length:=by
 unfold zDf at hm;split at hm
 · rename_i m hx
   exact(List.getElem?_eq_some_iff.1 hx).1
 · exact Bool.noConfusion hm
theorem zGR (lim:Nat)(e:Int):∀(l:List Int) (L:List Nd) (h:Sh) (m:List Int),(zAJ lim e L h m l).2.2.1.length≤m.length+l.length
 | [],L,h,m=>by simp[zAJ]
 | t::l,L,h,m=>by
   unfold zAJ;rw[List.length_cons];(repeat' split)<;>first|(simp only;omega)|(refine Nat.le_trans (zGR lim e l _ _ _) ?_;(try simp only[List.length_append,List.length_cons,List.length_nil]);omega)
theorem zIa {lim:Nat}{L:List Nd}{h:Sh}{e x:Int}(ho:ShOk h):(zAK lim L h e x).2.2.1.length≤13:=by
 have hw:=zGR lim e (zAq h) L h [];unfold zAK;split
 · simp
 · rename_i hmi
   have hlt:=zNY (h:=h) (by simpa using hmi);obtain⟨m,hm,ht,h12,-⟩:=ho.msg hlt;rw[ht]at hw ⊢;simp only[List.length_nil]at hw;split
   · simp
   · split
     · simp
     · simp only
       generalize zAJ lim e L h [] m.t=a at hw ⊢;split
       · simp
       · simp only[List.length_nil,List.length_append,List.length_cons];omega
theorem zJj {h h':Sh}(ho:ShOk h)(hlt:h.at_<h.p.msgs.length)(hs:Stay h h')(hn:h'.next≤h.next+zCb (zAq h)):ShOk { h' with at_:=h'.at_+1 }:=by
 obtain⟨m,hm,ht,-⟩:=ho.msg hlt;have hg:h.p.msgs[h.at_]=m:=by rw[List.getElem?_eq_getElem hlt]at hm;exact Option.some.inj hm
 have hl:=ho.left;rw[zLf hlt,hg,← ht]at hl;refine⟨by rw[hs.role];exact ho.role,by rw[hs.p];exact ho.right,by simp only[hs.p,hs.at_];omega,?_⟩;simp only[hs.p,hs.at_,hs.psks];omega
theorem zJX {lim:Nat}{L:List Nd}{h:Sh}{e x:Int}(ho:ShOk h):Fwd h (zAK lim L h e x).2.1∧((zAK lim L h e x).2.2.2=0→ShOk (zAK lim L h e x).2.1∧(zAK lim L h e x).2.1.at_=h.at_+1∧(zAK lim L h e x).2.2.1≠[]):=by
 have hw:=zCY lim e (zAq h) L h [];unfold zAK;split
 · exact⟨Fwd.refl _,fun q=>by simp at q⟩
 · rename_i hmi
   have hlt:=zNY (h:=h) (by simpa using hmi);split
   · exact⟨Fwd.refl _,fun q=>by simp at q⟩
   · split
     · rename_i hz;exact⟨Fwd.refl _,fun q=>absurd q hz⟩
     · simp only
       generalize zAJ lim e L h [] (zAq h)=a at hw ⊢;have hs:=zFW lim a.1 a.2.1 x;split
       · rename_i hz;exact⟨Fwd.refl _,fun q=>absurd q hz⟩
       · have hst:=hw.1.trans hs.1
         exact⟨⟨hst.p,hst.psks,hst.role⟩,fun _=>⟨zJj ho hlt hst (by rw[hs.2];exact hw.2),by simp[hst.at_],by simp⟩⟩
theorem zF5 {lim:Nat}{L:List Nd}{h:Sh}{msg:List Int}(ho:ShOk h):Fwd h (zAN lim L h msg).2.1∧((zAN lim L h msg).2.2.2=0→ShOk (zAN lim L h msg).2.1∧(zAN lim L h msg).2.1.at_=h.at_+1∧msg≠[]∧h.at_<h.p.msgs.length):=by
 have hw:=zD8 lim msg (zAq h) L h 0;unfold zAN;split
 · exact⟨Fwd.refl _,fun q=>by simp at q⟩
 · rename_i hmi
   have hlt:h.at_<h.p.msgs.length:=by omega
   split
   · exact⟨Fwd.refl _,fun q=>by simp at q⟩
   · split
     · exact⟨Fwd.refl _,fun q=>by simp at q⟩
     · rename_i hpl
       have hne:msg≠[]:=by
        rintro rfl;have:1≤zBL (zAq h):=by
         generalize zAq h=l;induction l with
         | nil=>decide
         | cons t l ih=>rw[zIN];split<;>omega
        simp at hpl;omega
       split
       · rename_i hz;exact⟨Fwd.refl _,fun q=>absurd q hz⟩
       · simp only
         generalize zAY lim msg L h 0 (zAq h)=a at hw ⊢;have hs:=zFX lim a.1 a.2.1 (msg.getD a.2.2.1 0);split
         · rename_i hz;exact⟨Fwd.refl _,fun q=>absurd q hz⟩
         · have hst:=hw.1.trans hs.1
           exact⟨⟨hst.p,hst.psks,hst.role⟩,fun _=>⟨zJj ho hlt hst (by rw[hs.2];exact hw.2),by show _+1=_;rw[hst.at_],hne,hlt⟩⟩
theorem Run.midP {P:Program}{f:FuncId}{n:Nat}{R:Ending→World→Prop}{k:List Item}{e:Env}{w:World}{c:Code}{α:Type}(Q : α→World→Prop)(e2 : α→Env)(hpost:∀a w,Q a w→Run P f n R k (e2 a) w)
 (h:(∀a w,Q a w→Run P f n R k (e2 a) w)→Run P f n R (.code c::k) e w):Run P f n R (.code c::k) e w:=h hpost
section
variable {we w:World}{ρ:List (Nat × Obj)}{σ F:List HP}{sb p db lim:Nat}{L:List Nd}{r:Rep}{s x:Ss}{e pl wa wc:Int}
theorem zMz (ho:ShOk s.h)(hr:ShR ρ r s.h)(ht:zD5 s true wa wc≠0)(hS:St we ρ (Row sb (sesL r s p db) 102::zAA p lim L::F) w) :
 Cl Tryz.prog 90 [pP sb,pI e,pI pl,lvV wa wc] w fun v w'=>v = .tuple #[.slice none 0 0,pI (zD5 s true wa wc)]∧St we ρ (Row sb (sesL r s p db) 102::zAA p lim L::F) w':=by
 have kT:∀{F w},St we ρ (Row sb (sesL r s p db) 102::F) w→_:=fun hS=>zE4 (own:=true) (wa:=wa) (wc:=wc) ho hr hS
 generalize zD5 s true wa wc=te at kT ht;refine Run.calls4 (n:=85) Tryz.func90 rfl rfl rfl ?_;repeat' first|(refine Qv 26 (kT hS.tk) ?_;clear hS;intro w1 hS)|apply Qs|apply Qr|(apply Rs<;>intro hc<;>try exact No)|apply Qn|refine Ql ?_|(refine Qx ?_;clear hS;intro b w1 hS)|refine Qt ?_
 refine Qw Tryz.func90 ?_;exact Xp
theorem zVc {msg:List Int}(hne:msg≠[])(spare:List Value):(msg.flatMap intL++spare)[((msg.length:Int) - 1).toNat]? = some (pI (msg.getLastD 0)):=by
 obtain⟨ms,z,rfl⟩:∃ms z,msg=ms++[z]:=⟨_,_,(List.dropLast_concat_getLast hne).symm⟩
 have h1:(((ms++[z]).length:Int) - 1).toNat=ms.length:=by simp only[List.length_append,List.length_cons,List.length_nil];omega
 rw[h1,List.getLastD_concat,zB4];simp
theorem zLh (ho:ShOk s.h)(hr:ShR ρ r s.h):∀{L1:List Nd} {x:Ss} {msg:List Int} {no:Int},zAL lim L s e pl=(L1,x,msg,no)→x.note=s.note∧x.index=s.index∧ShR ρ r x.h∧(x.h.role=0∨x.h.role=1)∧msg.length≤13∧(no=0→msg≠[]):=by
 intro L1 x msg no hq;have hfw:=zJX (lim:=lim) (L:=L) (e:=e) (x:=pl) ho;have hln:=zIa (lim:=lim) (L:=L) (e:=e) (x:=pl) ho;unfold zAL at hq;split at hq
 · obtain⟨rfl,rfl,rfl,rfl⟩:=by simpa only[Prod.mk.injEq]using hq
   exact⟨rfl,rfl,hr,ho.role,by simp,by simp⟩
 · obtain⟨rfl,rfl,rfl,rfl⟩:=by simpa only[Prod.mk.injEq]using hq
   exact⟨rfl,rfl,hr.fwd hfw.1,by rw[hfw.1.role];exact ho.role,hln,fun h=>(hfw.2 h).2.2⟩
theorem zET:(zAI lim L s x).2.1.note=x.note∧(zAI lim L s x).2.1.index=x.index∧(zAI lim L s x).2.1.h=x.h∧(zAI lim L s x).2.1.track=x.track∧(zAI lim L s x).2.1.peer=x.peer∧(zAI lim L s x).2.1.dead=x.dead:=by
 unfold zAI;split<;>exact⟨rfl,rfl,rfl,rfl,rfl,rfl⟩
theorem zUZ (ho:ShOk s.h)(hr:ShR ρ r s.h){own:Bool}{pa:Int}{nt:Nt}(hn:x.note=nt)(hix:0≤x.index∧x.index≤100000)(hS:St we ρ (Row sb (sesL r s p db) 102::F) w) :
 Cl Tryz.prog 30 [pP sb,.agg (ssL r x).toArray,.bool own,pI pa,pI pl] w fun v w'=>v = .tuple #[]∧St we ρ (Row sb (sesL r (hadS s x own pa pl) p db) 102::F) w' :=
 zR9 ho hr hix hS
theorem zM0 (ho:ShOk s.h)(hr:ShR ρ r s.h)(hix:0≤s.index∧s.index≤100000)(ht:zD5 s true wa wc=0)(hS:St we ρ (Row sb (sesL r s p db) 102::zAA p lim L::F) w) :
 Cl Tryz.prog 90 [pP sb,pI e,pI pl,lvV wa wc] w fun v w'=>∃mv,v = .tuple #[mv,pI (zBR lim s pl (zAL lim L s e pl)).2.2.2] ∧
  St we ρ (Vec 3 1 mv (zBR lim s pl (zAL lim L s e pl)).2.2.1.length ((zBR lim s pl (zAL lim L s e pl)).2.2.1.flatMap intL)::Row sb (sesL r (zBR lim s pl (zAL lim L s e pl)).2.1 p db) 102::zAA p lim (zBR lim s pl (zAL lim L s e pl)).1::F) w':=by
 have kT:∀{F w},St we ρ (Row sb (sesL r s p db) 102::F) w→_:=fun hS=>zE4 (own:=true) (wa:=wa) (wc:=wc) ho hr hS
 rw[ht]at kT;have kD:∀{F w},St we ρ (Row sb (sesL r s p db) 102::F) w→_:=fun hS=>zBg hr hS
 have kS:∀{F w},St we ρ (zAA p lim L::F) w→_:=fun hS=>zLL (t:=s.way) (q:=pl) hS
 have kW:∀{F w},St we ρ (zAA p lim L::F) w→_:=fun hS=>zKQ (e:=e) (x:=pl) ho hr hS
 obtain⟨q,hq⟩:∃q,zAL lim L s e pl=q:=⟨_,rfl⟩
 obtain⟨L1,x1,msg,no⟩:=q;obtain⟨hn1,hi1,hr1,hro1,h13,hne⟩:=zLh ho hr hq;rw[hq];obtain⟨ds,hds⟩:∃x,zBz s=x:=⟨_,rfl⟩
 rw[hds]at kD;refine Run.calls4 (n:=85) Tryz.func90 rfl rfl rfl ?_;repeat' first|(refine Qv 26 (kT hS.tk) ?_;clear hS;intro w1 hS)|(refine Qv 27 (kD hS.tk) ?_;clear hS;intro w1 hS)|(refine Ql ?_ (h:=by apply Still.loadAgg (m:=47);rfl;rfl;rfl;(exact Rd.any);rfl;rfl))|apply Qs|apply Qr|(apply Rs<;>intro hc<;>try exact No)|apply Qn|refine Ql ?_|(refine Qx ?_;clear hS;intro b w1 hS)|(refine Qa ?_;clear hS;intro b w1 hS)|(refine Qd ?_;clear hS;intro w1 hS)|refine Qf ?_|apply Qk
 obtain⟨b11,hb11⟩:∃x,x=b:=⟨_,rfl⟩
 subst hb11;refine Run.midP (α:=Nat × Value × List Value) (fun a w=>a.2.2.length=47∧(no=0→a.2.2=ssL r x1)∧St we ρ (Row a.1 a.2.2 100::Vec 3 1 a.2.1 msg.length (msg.flatMap intL)::Row sb (sesL r s p db) 102::zAA p lim L1::F) w)
  (fun a=>[(0,pP sb),(2,pI pl),(11,pP a.1),(12,a.2.1),(13,pI no)]) ?_ ?_
 · clear hS hq kT kD kS kW
   rintro⟨b,mv,cells⟩ w ⟨hcl,hcs,hS⟩;simp only at hcl hcs hS ⊢;unfold zBR;simp only;by_cases h0:no=0
   · subst h0
     obtain rfl:=hcs rfl;replace hne:=hne rfl;rw[if_neg (by simp)];have kN:∀{F w},St we ρ (Row sb (sesL r s p db) 102::zAA p lim L1::F) w→_:=fun hS=>zFU (s:=s) hro1 hr hr1 hS
     have hdo:=zET (lim:=lim) (L:=L1) (s:=s) (x:=x1);generalize zAI lim L1 s x1=a2 at kN hdo;obtain⟨L2,x2,e2⟩:=a2;simp only at kN hdo ⊢;by_cases h2:e2=0
     · subst h2
       rw[if_neg (by simp)];obtain⟨hfl,⟨rfl,hz,-,-⟩|⟨g,cap,spare,rfl,c1,c2,c3,hS2⟩⟩:=zBP (hS.take (A:=Vec 3 1 mv msg.length (msg.flatMap intL)) An)
       · exact absurd (List.eq_nil_of_length_eq_zero hz) hne
       clear hS;have hS:=hS2;clear hS2;have hpos:0<msg.length:=List.length_pos_iff.2 hne;have hlast:(msg.flatMap intL++spare)[((msg.length:Int) - 1).toNat]? = some (pI (msg.getLastD 0)):=by
        exact zVc hne spare
       have kH:∀{F w},St we ρ (Row sb (sesL r s p db) 102::F) w→_:=fun hS=>zUZ (x:=x2) (own:=true) (pa:=msg.getLastD 0) (pl:=pl) (nt:=s.note) ho hr (by rw[hdo.1,hn1]) (by rw[hdo.2.1,hi1];exact hix) hS
       generalize msg.getLastD 0=zl at hlast kH;obtain⟨cs,hcs2⟩:∃x,x=msg.flatMap intL++spare:=⟨_,rfl⟩
       rw[← hcs2]at hS hlast;repeat' first|(refine Qv 62 (kN hS.tk2) ?_;clear hS;intro w1 hS)|(refine Ql ?_ (h:=by apply Still.loadAgg (m:=47);rfl;rfl;rfl;(exact Rd.any);rfl;rfl))|apply Qs|apply Qr|(apply Rs<;>intro hc<;>try exact No)|apply Qn|refine Ql ?_|(refine Qd ?_;clear hS;intro w1 hS)|refine Qt ?_|refine Qf ?_|apply Qk
       refine(Run.regionH_cut (fun _:Unit=>Row sb (sesL r (hadS s x2 true zl pl) p db) 102::zAA p lim L2::Row g cs 3::F)
        (fun _=>[(12,.slice (some ⟨g,0,none⟩) msg.length cap)])
        hS (.cons _ (List.Sublist.refl _)) (by rfl) (by rfl) (by rfl) ?_ ?_)
       · clear hS
         intro w1 hS;refine RH.relist (listed':=bm 10 0) (by kernel_rfl) ?_;repeat' first|(apply Rh<;>intro hc<;>try exact No)|refine Yt 0 0 ?_|(refine Yt 1 1 ?_ (h:=by first|(apply Still.load;rfl;rfl;(exact Rd.any);exact hlast)|(apply Still.loadAgg (m:=47);rfl;rfl;rfl;(exact Rd.any);rfl;rfl)|exact Still.an))|refine Yt 3 2 ?_|refine Yt 7 3 ?_|(refine Yt 15 4 ?_ (h:=by first|(apply Still.load;rfl;rfl;(exact Rd.any);exact hlast)|(apply Still.loadAgg (m:=47);rfl;rfl;rfl;(exact Rd.any);rfl;rfl)|exact Still.any))|refine Yl 31 5 ?_|(refine Yt 63 6 ?_ (h:=by first|exact Sx|exact Still.any))|(refine Yt 127 7 ?_ (h:=by first|(apply Still.load;rfl;rfl;(exact Rd.any);exact hlast)|(apply Still.loadAgg (m:=47);rfl;rfl;rfl;(exact Rd.any);rfl;rfl)|exact Still.an))|refine Yt 255 8 ?_|(refine Ov 30 (kH hS.tk) ?_;clear hS;intro w1 hS;refine Xh ?_)|refine Jo ?_|refine Za 511 9 ?_|(refine Yd 1023 ?_;exact⟨(),Sb,hS.pk⟩)
       clear hS;rintro - w1 hS;subst hcs2;have hV:=zBF (size:=1) (hS.take (A:=Row g (msg.flatMap intL++spare) 3) An) c1 c2 (by rw[List.length_append,hfl,c3];omega) (List.take_left' hfl);clear hS;have hS:=hV;clear hV;have hon:∀u∈msg.flatMap intL,one u=true:=by rw[zB4];exact zOj
       repeat' first|(refine Qc 95 (c:=zJ8 (n:=msg.length) (xs:=msg.flatMap intL) (Nat.le_trans h13 (by decide)) hon An hS) (k':=?_);clear hS;rintro v w1 hS)|apply Qs|apply Qr|apply Qn|refine Ql ?_
       refine Qw Tryz.func90 ?_;exact⟨_,rfl,hS.pk⟩
     · rw[if_pos (by simpa using h2)]
       repeat' first|(refine Qv 62 (kN hS.tk2) ?_;clear hS;intro w1 hS)|(refine Ql ?_ (h:=by apply Still.loadAgg (m:=47);rfl;rfl;rfl;(exact Rd.any);rfl;rfl))|apply Qs|apply Qr|(apply Rs<;>intro hc<;>try exact No)|apply Qn|refine Ql ?_|(refine Qd ?_;clear hS;intro w1 hS)|refine Qt ?_
       refine Qw Tryz.func90 ?_;exact⟨.slice none 0 0,rfl,zAh hS.pk⟩
   · rw[if_pos (by simpa using h0)]
     repeat' first|apply Qs|apply Qr|(apply Rs<;>intro hc<;>try exact No)|apply Qn|refine Ql ?_|refine Qt ?_|refine Qf ?_|apply Qk
     refine Qw Tryz.func90 ?_;exact⟨.slice none 0 0,rfl,zAh hS.pk⟩
 · intro hpost
   have hS2:St we ρ (Row sb (sesL r s p db) 102::Row b11 (ssL r s) 100::zAA p lim L::F) _:=hS.pk;clear hS;have hS:=hS2;clear hS2;cases ds
   · unfold zAL at hq
     rw[if_neg (by rw[hds];decide)]at hq;generalize zAK lim L s.h e pl=a at kW hq;obtain⟨L2,h2,m2,e2⟩:=a;obtain⟨rfl,rfl,rfl,rfl⟩:=by simpa only[Prod.mk.injEq]using hq
     simp only at kW;repeat' first|refine Qf ?_
     by_cases h0:e2=0
     · subst h0
       simp only[zAg,if_true]at kW;refine(Run.regionH_cut (fun mv:Value=>Row b11 (ssL r { s with h:=h2 }) 100::Vec 3 1 mv m2.length (m2.flatMap intL)::Row sb (sesL r s p db) 102::zAA p lim L2::F)
        (fun mv=>[(0,pP sb),(2,pI pl),(11,pP b11),(12,mv),(13,pI 0)])
        hS (.cons_cons _ (.cons _ (.cons _ (List.Sublist.refl _)))) (by rfl) (by rfl) (by rfl) ?_ ?_)
       · clear hS
         intro w1 hS;refine RH.relist (listed':=bm 20 0) (by kernel_rfl) ?_;repeat' first|refine Yt 0 0 ?_|refine Yt 1 1 ?_|refine Yl 3 2 ?_|refine Yl 7 3 ?_|(refine Yt 15 4 ?_ (h:=by first|(apply Still.loadAgg (m:=17);rfl;rfl;rfl;(exact Rd.any);rfl;rfl)|exact Still.an))|refine Yt 31 5 ?_|refine Yt 63 6 ?_|refine Yl 127 7 ?_|(refine Yt 255 8 ?_ (h:=by first|(apply Still.loadAgg (m:=17);rfl;rfl;rfl;(exact Rd.any);rfl;rfl)|exact Still.an))|refine Yt 511 9 ?_|refine Yt 1023 10 ?_|refine Yt 4095 12 ?_|refine Yt 8191 13 ?_|refine Yt 16383 14 ?_|refine Yt 32767 15 ?_|refine Yl 65535 16 ?_|refine Yt 262143 18 ?_|refine Yt 524287 19 ?_|(refine Oc 149 (c:=kW hS.tk) (k':=?_);clear hS;rintro v w1 ⟨mv,rfl,hS⟩;refine Xh ?_)|(refine Od ?_;clear hS;intro w1 hS;refine Xh ?_)|refine Jo ?_|refine Za 2047 11 ?_|refine Za 131071 17 ?_|(refine Yd 1048575 ?_;exact⟨_,Sb,hS.pk⟩)
       · rintro mv w1 hS1
         exact Run.weaken (by exact Sb) (hpost (b11,mv,ssL r { s with h:=h2 }) w1 ⟨rfl,fun _=>rfl,hS1⟩)
     · simp only[zAg,if_neg h0]at kW
       refine(Run.regionH_cut (fun mv:Value=>Row b11 (shZ++(ssL r s).drop 17) 100::Vec 3 1 mv m2.length (m2.flatMap intL)::Row sb (sesL r s p db) 102::zAA p lim L2::F)
        (fun mv=>[(0,pP sb),(2,pI pl),(11,pP b11),(12,mv),(13,pI e2)])
        hS (.cons_cons _ (.cons _ (.cons _ (List.Sublist.refl _)))) (by rfl) (by rfl) (by rfl) ?_ ?_)
       · clear hS
         intro w1 hS;refine RH.relist (listed':=bm 20 0) (by kernel_rfl) ?_;repeat' first|refine Yt 0 0 ?_|refine Yt 1 1 ?_|refine Yl 3 2 ?_|refine Yl 7 3 ?_|(refine Yt 15 4 ?_ (h:=by first|(apply Still.loadAgg (m:=17);rfl;rfl;rfl;(exact Rd.any);rfl;rfl)|exact Still.an))|refine Yt 31 5 ?_|refine Yt 63 6 ?_|refine Yl 127 7 ?_|(refine Yt 255 8 ?_ (h:=by first|(apply Still.loadAgg (m:=17);rfl;rfl;rfl;(exact Rd.any);rfl;rfl)|exact Still.an))|refine Yt 511 9 ?_|refine Yt 1023 10 ?_|refine Yt 4095 12 ?_|refine Yt 8191 13 ?_|refine Yt 16383 14 ?_|refine Yt 32767 15 ?_|refine Yl 65535 16 ?_|refine Yt 262143 18 ?_|refine Yt 524287 19 ?_|(refine Oc 149 (c:=kW hS.tk) (k':=?_);clear hS;rintro v w1 ⟨mv,rfl,hS⟩;refine Xh ?_)|(refine Od ?_;clear hS;intro w1 hS;refine Xh ?_)|refine Jo ?_|refine Za 2047 11 ?_|refine Za 131071 17 ?_|(refine Yd 1048575 ?_;exact⟨_,Sb,hS.pk⟩)
       · rintro mv w1 hS1
         exact Run.weaken (by exact Sb) (hpost (b11,mv,shZ++(ssL r s).drop 17) w1 ⟨rfl,fun h=>absurd h h0,hS1⟩)
   · unfold zAL at hq
     rw[if_pos hds]at hq;generalize zB8 lim L s.way pl=a at kS hq;obtain⟨L2,t2,z2,e2⟩:=a;obtain⟨rfl,rfl,rfl,rfl⟩:=by simpa only[Prod.mk.injEq]using hq
     simp only at kS;repeat' first|apply Qs|apply Qr|apply Qn|refine Ql ?_|refine Qt ?_
     refine(Run.regionH_cut (fun _:Unit=>Row b11 (ssL r { s with way:=t2 }) 100::Row sb (sesL r s p db) 102::zAA p lim L2::F)
      (fun _=>[(0,pP sb),(2,pI pl),(11,pP b11),(14,pI z2),(13,pI e2)])
      hS (.cons_cons _ (.cons _ (.cons _ (List.Sublist.refl _)))) (by rfl) (by rfl) (by rfl) ?_ ?_)
     · clear hS
       intro w1 hS;refine RH.relist (listed':=bm 19 0) (by kernel_rfl) ?_;repeat' first|refine Yt 0 0 ?_|refine Yt 1 1 ?_|refine Yl 3 2 ?_|refine Yl 7 3 ?_|(refine Yt 15 4 ?_ (h:=by first|(apply Still.loadAgg (m:=6);rfl;rfl;rfl;(exact Rd.any);rfl;rfl)|exact Still.an))|refine Yt 31 5 ?_|refine Yt 63 6 ?_|refine Yl 127 7 ?_|(refine Yt 255 8 ?_ (h:=by first|(apply Still.loadAgg (m:=6);rfl;rfl;rfl;(exact Rd.any);rfl;rfl)|exact Still.an))|refine Yt 511 9 ?_|refine Yt 2047 11 ?_|refine Yt 4095 12 ?_|refine Yt 8191 13 ?_|refine Yt 16383 14 ?_|refine Yl 32767 15 ?_|refine Yt 131071 17 ?_|refine Yt 262143 18 ?_|(refine Ov 148 (kS hS.tk) ?_;clear hS;intro w1 hS;refine Xh ?_)|(refine Od ?_;clear hS;intro w1 hS;refine Xh ?_)|refine Jo ?_|refine Za 1023 10 ?_|refine Za 65535 16 ?_|(refine Yd 524287 ?_;exact⟨(),Sb,hS.pk⟩)
     · clear hS
       rintro - w1 hS;apply Qr;repeat' first|(refine Qg ?_;clear hS;intro bm w1 hS)|apply Qn|refine Ql ?_
       have hV:=zBF (size:=1) (m:=1) (cap:=1) (xs:=[z2].flatMap intL) (hS.take (A:=Row bm [pI z2] 3) An) (by omega) (by unfold maxLen;omega) rfl rfl;exact Run.weaken (by exact Sb) (hpost (b11,.slice (some ⟨bm,0,none⟩) 1 1,ssL r { s with way:=t2 }) _ ⟨rfl,fun _=>rfl,hV.pk⟩)
end
section
variable {we w:World}{ρ:List (Nat × Obj)}{σ F:List HP}{sb p db pb kb lim:Nat}{L:List Nd}{r:Rep}{s x:Ss}{d:Dv}{msg:List Int}{mv:Value}
theorem zHH (ho:ShOk s.h)(hr:ShR ρ r s.h):∀{L1:List Nd} {x:Ss} {pl no:Int},zAc lim L s d msg=(L1,x,pl,no)→x.note=s.note∧x.index=s.index∧ShR ρ r x.h∧(x.h.role=0∨x.h.role=1):=by
 intro L1 x pl no hq;have hfw:=zF5 (lim:=lim) (L:=L) (msg:=msg) ho;unfold zAc at hq;split at hq
 · obtain⟨rfl,rfl,rfl,rfl⟩:=by simpa only[Prod.mk.injEq]using hq
   exact⟨rfl,rfl,hr,ho.role⟩
 · split at hq
   all_goals
    obtain⟨rfl,rfl,rfl,rfl⟩:=by simpa only[Prod.mk.injEq]using hq
    exact⟨rfl,rfl,hr.fwd hfw.1,by rw[hfw.1.role];exact ho.role⟩
theorem zJA (ho:ShOk s.h)(hr:ShR ρ r s.h)(hms:Sl ρ intL 1 mv msg)(hb:d.peers.length≤100000)(hS:St we ρ (Row sb (sesL r s p db) 102::zAA p lim L::Row db (dvL d pb kb) 208::zAC pb 8 d.peers::F) w) :
 Cl Tryz.prog 28 [pP sb,mv] w fun v w'=>∃xv:List Value,v = .tuple #[.agg xv.toArray,pI (zAr lim L s d msg).2.2.1,pI (zAr lim L s d msg).2.2.2]∧xv.length=47∧xv.all one=true∧((zAr lim L s d msg).2.2.2=0→xv=ssL r (zAr lim L s d msg).2.1) ∧
  St we ρ (Row sb (sesL r s p db) 102::zAA p lim (zAr lim L s d msg).1::Row db (dvL d pb kb) 208::zAC pb 8 d.peers::F) w':=by
 have kR:∀{F w},St we ρ (zAA p lim L::F) w→_:=fun hS=>zLd ho hr hms hS
 obtain⟨q,hq⟩:∃q,zAc lim L s d msg=q:=⟨_,rfl⟩
 obtain⟨L1,x1,pl,no⟩:=q;obtain⟨hn1,hi1,hr1,hro1⟩:=zHH ho hr hq;unfold zAr;rw[hq];simp only;unfold zAc at hq;have hfw:=zF5 (lim:=lim) (L:=L) (msg:=msg) ho;generalize zAN lim L s.h msg=a at kR hq hfw;obtain⟨L2,h2,pl2,e2⟩:=a;simp only at kR hq hfw;refine Run.calls2 (n:=75) Tryz.func28 rfl rfl rfl ?_;repeat' first|(refine Ql ?_ (h:=by apply Still.loadAgg (m:=47);rfl;rfl;rfl;(exact Rd.any);rfl;rfl))|apply Qs|apply Qr|apply Qn|refine Ql ?_|(refine Qa ?_;clear hS;intro b w1 hS)|(refine Qd ?_;clear hS;intro w1 hS)
 rename_i b4 w9 _;obtain⟨b7,hb7⟩:∃x,x=b:=⟨_,rfl⟩
 subst hb7;have hS2:St we ρ (Row sb (sesL r s p db) 102::Row b7 (ssL r s) 100::zAA p lim L::Row b4 ssZ 100::Row db (dvL d pb kb) 208::zAC pb 8 d.peers::F) _:=hS.pk;clear hS;have hS:=hS2;clear hS2;by_cases h0:e2=0
 · subst h0
   simp only[zAg,if_true]at kR;rw[if_neg (by simp)]at hq;obtain⟨-,-,-,hlt⟩:=hfw.2 rfl;have hr2:=hr.fwd hfw.1;obtain⟨m,hm,hta,hlen,htk,hsv,hmv,hat⟩:=ho.msg hlt;obtain⟨hnm,mb,off,cs,el,fr,qt,ct,hqm,hmem,g2,g5⟩:=zKY hr hlt hm;have hlt0:s.h.at_<r.nm:=by omega
   rw[hta]at hq;have kN:∀{F w},St we ρ (Row sb (sesL r s p db) 102::zAA p lim L1::F) w→_:=fun hS=>zFU (s:=s) hro1 hr hr1 hS
   generalize zAI lim L1 s x1=a2 at kN;obtain⟨L3,x3,e3⟩:=a2;simp only at kN;obtain⟨bb,hbb⟩:∃bb,decide ((2:Int)∈m.t)=bb:=⟨_,rfl⟩
   refine(Run.regionH_cut (fun _:Unit=>Row b7 (ssL r { s with h:=h2 }) 100::Row sb (sesL r s p db) 102::zAA p lim L2::Row b4 ssZ 100::Row db (dvL d pb kb) 208::zAC pb 8 d.peers::F)
    (fun _=>[(0,pP sb),(4,pP b4),(7,pP b7),(8,pI pl2),(9,pI 0)])
    hS (.cons_cons _ (.cons _ (.cons _ (List.Sublist.refl _)))) (by rfl) (by rfl) (by rfl) ?_ ?_)
   · clear hS
     intro w1 hS;refine RH.relist (listed':=bm 19 0) (by kernel_rfl) ?_;repeat' first|refine Yt 0 0 ?_|refine Yt 1 1 ?_|refine Yl 3 2 ?_|refine Yl 7 3 ?_|(refine Yt 15 4 ?_ (h:=by first|(apply Still.loadAgg (m:=17);rfl;rfl;rfl;(exact Rd.any);rfl;rfl)|exact Still.an))|refine Yt 31 5 ?_|refine Yt 63 6 ?_|refine Yl 127 7 ?_|(refine Yt 255 8 ?_ (h:=by first|(apply Still.loadAgg (m:=17);rfl;rfl;rfl;(exact Rd.any);rfl;rfl)|exact Still.an))|refine Yt 511 9 ?_|refine Yt 2047 11 ?_|refine Yt 4095 12 ?_|refine Yt 8191 13 ?_|refine Yt 16383 14 ?_|refine Yl 32767 15 ?_|refine Yt 131071 17 ?_|refine Yt 262143 18 ?_|(refine Ov 59 (kR hS.tk) ?_;clear hS;intro w1 hS;refine Xh ?_)|(refine Od ?_;clear hS;intro w1 hS;refine Xh ?_)|refine Jo ?_|refine Za 1023 10 ?_|refine Za 65535 16 ?_|(refine Yd 524287 ?_;exact⟨(),Sb,hS.pk⟩)
   clear hS;rintro - w1 hS;repeat' first|apply Qs
   refine(Run.regionH_cut (fun _:Unit=>Row b7 (ssL r { s with h:=h2 }) 100::Row sb (sesL r s p db) 102::zAA p lim L2::Row b4 ssZ 100::Row db (dvL d pb kb) 208::zAC pb 8 d.peers::F)
    (fun _=>[(0,pP sb),(4,pP b4),(7,pP b7),(8,pI pl2),(9,pI 0),(50,.bool bb)])
    hS (List.Sublist.refl _) (by rfl) (by rfl) (by rfl) ?_ ?_)
   · clear hS
     intro w1 hS;refine RH.relist (listed':=bm 21 0) (by kernel_rfl) ?_;repeat' first|(apply Rh<;>intro hc<;>try exact No)|refine Yt 0 0 ?_|(refine Yt 1 1 ?_ (h:=by first|(apply Still.load (v:=.slice (some ⟨mb,off,none⟩) r.nm r.cm);rfl;rfl;(exact Rd.any);(rw[← hqm];rfl))|(apply Still.load;rfl;rfl;exact Rd.ro hmem;exact g2)|exact Still.any))|refine Yt 3 2 ?_|refine Yy 7 3 ?_|refine Yn 7 3 ?_|refine Yu 7 3 ?_|refine Yy 15 4 ?_|refine Yn 15 4 ?_|refine Yu 15 4 ?_|refine Yz 31 5 ?_|refine Yn 31 5 ?_|refine Yu 31 5 ?_|refine Yz 63 6 ?_|refine Yn 63 6 ?_|refine Yu 63 6 ?_|refine Yz 127 7 ?_|refine Yn 127 7 ?_|refine Yu 127 7 ?_|refine Yz 255 8 ?_|refine Yn 255 8 ?_|refine Yu 255 8 ?_|(refine Yy 511 9 ?_ (h:=by first|(apply Still.load (v:=.slice (some ⟨mb,off,none⟩) r.nm r.cm);rfl;rfl;(exact Rd.any);(rw[← hqm];rfl))|(apply Still.load;rfl;rfl;exact Rd.ro hmem;exact g2)|exact Still.an))|refine Yn 511 9 ?_|refine Yu 511 9 ?_|refine Yy 1023 10 ?_|refine Yn 1023 10 ?_|refine Yu 1023 10 ?_|refine Yy 2047 11 ?_|refine Yn 2047 11 ?_|refine Yu 2047 11 ?_|refine Yz 4095 12 ?_|refine Yn 4095 12 ?_|refine Yu 4095 12 ?_|refine Yz 8191 13 ?_|refine Yn 8191 13 ?_|refine Yu 8191 13 ?_|refine Yz 16383 14 ?_|refine Yn 16383 14 ?_|refine Yu 16383 14 ?_|(refine Yy 32767 15 ?_ (h:=by first|(apply Still.load (v:=.slice (some ⟨mb,off,none⟩) r.nm r.cm);rfl;rfl;(exact Rd.any);(rw[← hqm];rfl))|(apply Still.load;rfl;rfl;exact Rd.ro hmem;exact g2)|exact Still.an))|refine Yn 32767 15 ?_|refine Yu 32767 15 ?_|(refine Yy 65535 16 ?_ (h:=by first|exact Sx|exact Still.any))|refine Yn 65535 16 ?_|refine Yu 65535 16 ?_|refine Yz 131071 17 ?_|refine Yn 131071 17 ?_|refine Yu 131071 17 ?_|(refine Yy 262143 18 ?_ (h:=by first|(apply Still.load (v:=.slice (some ⟨mb,off,none⟩) r.nm r.cm);rfl;rfl;(exact Rd.any);(rw[← hqm];rfl))|(apply Still.load;rfl;rfl;exact Rd.ro hmem;exact g2)|exact Still.an))|refine Yn 262143 18 ?_|refine Yu 262143 18 ?_|refine Yt 1048575 20 ?_|(refine Ov 60 (zBk hbb g5 hS) ?_;clear hS;intro w1 hS;refine Xh ?_)|refine Jn ?_|refine Ju ?_|refine Jy ?_|refine Za 524287 19 ?_|(refine Yd 2097151 ?_;exact⟨(),Sb,hS.pk⟩)
   clear hS;rintro - w1 hS;refine Run.midP (α:=Unit) (fun _ w=>St we ρ (Row b7 (ssL r x1) 100::Row sb (sesL r s p db) 102::zAA p lim L1::Row b4 ssZ 100::Row db (dvL d pb kb) 208::zAC pb 8 d.peers::F) w)
    (fun _=>[(0,pP sb),(4,pP b4),(7,pP b7),(8,pI pl),(9,pI no)]) ?_ ?_
   · clear hS hq hbb kR
     rintro - w hS;by_cases h1:no=0
     · subst h1
       simp only[ne_eq,not_true_eq_false,if_false];repeat' first|(refine Qv 62 (kN hS.tk2) ?_;clear hS;intro w1 hS)|(refine Ql ?_ (h:=by apply Still.loadAgg (m:=47);rfl;rfl;rfl;(exact Rd.any);rfl;rfl))|apply Qs|apply Qr|(apply Rs<;>intro hc<;>try exact No)|apply Qn|refine Ql ?_|(refine Qd ?_;clear hS;intro w1 hS)|refine Qt ?_
       refine Qw Tryz.func28 ?_;exact⟨ssL r x3,rfl,rfl,rfl,fun _=>rfl,hS.pk⟩
     · rw[if_pos h1]
       repeat' first|(refine Ql ?_ (h:=by apply Still.loadAgg (m:=47);rfl;rfl;rfl;(exact Rd.any);rfl;rfl))|apply Qs|apply Qr|(apply Rs<;>intro hc<;>try exact No)|apply Qn|refine Ql ?_|(refine Qd ?_;clear hS;intro w1 hS)|refine Qf ?_|apply Qk
       refine Qw Tryz.func28 ?_;exact⟨ssL r x1,rfl,rfl,rfl,fun _=>rfl,hS.pk⟩
   · intro hpost
     cases bb
     · rw[if_neg (of_decide_eq_false hbb)]at hq
       obtain⟨rfl,rfl,rfl,rfl⟩:=by simpa only[Prod.mk.injEq]using hq
       refine Qf ?_;apply Qk;exact Run.weaken (by exact Sb) (hpost () _ hS)
     · rw[if_pos (of_decide_eq_true hbb)]at hq
       obtain⟨rfl,rfl,rfl,rfl⟩:=by simpa only[Prod.mk.injEq]using hq
       have kA:∀{F w},St we ρ (Row db (dvL d pb kb) 208::zAC pb 8 d.peers::F) w→_:=fun hS=>zHc (pub:=h2.rs) hb hS
       generalize zDj d h2.rs=ac at kA hpost;obtain⟨ac1,ac2⟩:=ac;simp only at kA hpost;refine Qt ?_;refine Run.regionH (fun w=>∃pe,St we ρ (Row b7 (ssL r { s with h:=h2,peer:=pe }) 100::Row sb (sesL r s p db) 102::zAA p lim L2::Row b4 ssZ 100::Row db (dvL d pb kb) 208::zAC pb 8 d.peers::F) w)
        (Cut we ρ (fun _:Unit=>Row b7 (ssL r { s with h:=h2,peer:=ac1 }) 100::Row sb (sesL r s p db) 102::zAA p lim L2::Row b4 ssZ 100::Row db (dvL d pb kb) 208::zAC pb 8 d.peers::F) (fun _=>[(0,pP sb),(4,pP b4),(7,pP b7),(8,pI pl2),(9,pI ac2)]))
        (fun e w ⟨q,h1,hS3⟩=>Run.weaken h1 ?_) (by rfl) (by rfl) (by rfl) ?_
       rotate_left
       · replace hS:=hS.drew
         refine RH.relist (listed':=bm 15 0) (by kernel_rfl) ?_;repeat' first|(refine Wt 0 0 ?_ (hS:=by first|exact⟨s.peer,hS⟩|exact⟨ac1,hS⟩) (h:=Ea))|(refine Wt 1 1 ?_ (hS:=by first|exact⟨s.peer,hS⟩|exact⟨ac1,hS⟩) (h:=Ea))|(refine Wt 3 2 ?_ (hS:=by first|exact⟨s.peer,hS⟩|exact⟨ac1,hS⟩) (h:=Ee))|(refine Wt 7 3 ?_ (hS:=by first|exact⟨s.peer,hS⟩|exact⟨ac1,hS⟩) (h:=by apply Still.ex;intro nt;first|(apply Still.load (v:=pI h2.rs);rfl;rfl;(exact Rd.any);rfl)|exact Still.an))|(refine Wt 15 4 ?_ (hS:=by first|exact⟨s.peer,hS⟩|exact⟨ac1,hS⟩) (h:=Ee))|(refine Wt 31 5 ?_ (hS:=by first|exact⟨s.peer,hS⟩|exact⟨ac1,hS⟩) (h:=Ee))|(refine Wt 63 6 ?_ (hS:=by first|exact⟨s.peer,hS⟩|exact⟨ac1,hS⟩) (h:=Ee))|(refine Wt 127 7 ?_ (hS:=by first|exact⟨s.peer,hS⟩|exact⟨ac1,hS⟩) (h:=by apply Still.ex;intro nt;first|(apply Still.load (v:=pI h2.rs);rfl;rfl;(exact Rd.any);rfl)|exact Still.an))|(refine Wt 511 9 ?_ (hS:=by first|exact⟨s.peer,hS⟩|exact⟨ac1,hS⟩) (h:=Ea))|(refine Wt 1023 10 ?_ (hS:=by first|exact⟨s.peer,hS⟩|exact⟨ac1,hS⟩) (h:=Ea))|(refine Wt 2047 11 ?_ (hS:=by first|exact⟨s.peer,hS⟩|exact⟨ac1,hS⟩) (h:=Ea))|(refine Wt 4095 12 ?_ (hS:=by first|exact⟨s.peer,hS⟩|exact⟨ac1,hS⟩) (h:=Ee))|(refine Wt 16383 14 ?_ (hS:=by first|exact⟨s.peer,hS⟩|exact⟨ac1,hS⟩) (h:=Ea))|(refine Ov 61 (kA hS.tk2) ?_;clear hS;intro w1 hS;replace hS:St we ρ (Row b7 (ssL r { s with h:=h2 }) 100::Row sb (sesL r s p db) 102::zAA p lim L2::Row b4 ssZ 100::Row db (dvL d pb kb) 208::zAC pb 8 d.peers::F) w1:=hS.pk;refine⟨(by first|exact⟨s.peer,hS⟩|exact⟨ac1,hS⟩),?_⟩)|(refine Od ?_;clear hS;intro w1 hS;refine⟨(by first|exact⟨s.peer,hS⟩|exact⟨ac1,hS⟩),?_⟩)|refine Jo ?_|refine Za 255 8 ?_|refine Za 8191 13 ?_|(refine Yd 32767 ?_;exact⟨(),Sb,hS.pk⟩)
       clear hS;have hS:=hS3;exact Run.weaken (by exact Sb) (hpost () _ hS)
 · simp only[zAg,if_neg h0]at kR
   rw[if_pos h0]at hq;obtain⟨rfl,rfl,rfl,rfl⟩:=by simpa only[Prod.mk.injEq]using hq
   rw[if_pos h0];refine(Run.regionH_cut (fun _:Unit=>Row b7 (shZ++(ssL r s).drop 17) 100::Row sb (sesL r s p db) 102::zAA p lim L2::Row b4 ssZ 100::Row db (dvL d pb kb) 208::zAC pb 8 d.peers::F)
    (fun _=>[(0,pP sb),(4,pP b4),(7,pP b7),(8,pI pl2),(9,pI e2)])
    hS (.cons_cons _ (.cons _ (.cons _ (List.Sublist.refl _)))) (by rfl) (by rfl) (by rfl) ?_ ?_)
   · clear hS
     intro w1 hS;refine RH.relist (listed':=bm 19 0) (by kernel_rfl) ?_;repeat' first|refine Yt 0 0 ?_|refine Yt 1 1 ?_|refine Yl 3 2 ?_|refine Yl 7 3 ?_|(refine Yt 15 4 ?_ (h:=by first|(apply Still.loadAgg (m:=17);rfl;rfl;rfl;(exact Rd.any);rfl;rfl)|exact Still.an))|refine Yt 31 5 ?_|refine Yt 63 6 ?_|refine Yl 127 7 ?_|(refine Yt 255 8 ?_ (h:=by first|(apply Still.loadAgg (m:=17);rfl;rfl;rfl;(exact Rd.any);rfl;rfl)|exact Still.an))|refine Yt 511 9 ?_|refine Yt 2047 11 ?_|refine Yt 4095 12 ?_|refine Yt 8191 13 ?_|refine Yt 16383 14 ?_|refine Yl 32767 15 ?_|refine Yt 131071 17 ?_|refine Yt 262143 18 ?_|(refine Ov 59 (kR hS.tk) ?_;clear hS;intro w1 hS;refine Xh ?_)|(refine Od ?_;clear hS;intro w1 hS;refine Xh ?_)|refine Jo ?_|refine Za 1023 10 ?_|refine Za 65535 16 ?_|(refine Yd 524287 ?_;exact⟨(),Sb,hS.pk⟩)
   clear hS;rintro - w1 hS;repeat' first|apply Qs
   refine(Run.regionH_cut (fun _:Unit=>Row b7 (shZ++(ssL r s).drop 17) 100::Row sb (sesL r s p db) 102::zAA p lim L2::Row b4 ssZ 100::Row db (dvL d pb kb) 208::zAC pb 8 d.peers::F)
    (fun _=>[(0,pP sb),(4,pP b4),(7,pP b7),(8,pI pl2),(9,pI e2),(50,.bool false)])
    hS (List.Sublist.refl _) (by rfl) (by rfl) (by rfl) ?_ ?_)
   · clear hS
     intro w1 hS;refine RH.relist (listed':=bm 21 0) (by kernel_rfl) ?_;repeat' first|(apply Rh<;>intro hc<;>try exact No)|refine Yt 0 0 ?_|refine Yt 1 1 ?_|refine Yt 3 2 ?_|refine Yy 7 3 ?_|refine Yn 7 3 ?_|refine Yu 7 3 ?_|refine Yy 15 4 ?_|refine Yn 15 4 ?_|refine Yu 15 4 ?_|refine Yz 31 5 ?_|refine Yn 31 5 ?_|refine Yu 31 5 ?_|refine Yz 63 6 ?_|refine Yn 63 6 ?_|refine Yu 63 6 ?_|refine Yz 127 7 ?_|refine Yn 127 7 ?_|refine Yu 127 7 ?_|refine Yz 255 8 ?_|refine Yn 255 8 ?_|refine Yu 255 8 ?_|refine Yz 511 9 ?_|refine Yn 511 9 ?_|refine Yu 511 9 ?_|refine Yy 1023 10 ?_|refine Yn 1023 10 ?_|refine Yu 1023 10 ?_|refine Yy 2047 11 ?_|refine Yn 2047 11 ?_|refine Yu 2047 11 ?_|refine Yz 4095 12 ?_|refine Yn 4095 12 ?_|refine Yu 4095 12 ?_|refine Yz 8191 13 ?_|refine Yn 8191 13 ?_|refine Yu 8191 13 ?_|refine Yz 16383 14 ?_|refine Yn 16383 14 ?_|refine Yu 16383 14 ?_|refine Yz 32767 15 ?_|refine Yn 32767 15 ?_|refine Yu 32767 15 ?_|(refine Yy 65535 16 ?_ (h:=by first|exact Sx|exact Still.any))|refine Yn 65535 16 ?_|refine Yu 65535 16 ?_|refine Yz 131071 17 ?_|refine Yn 131071 17 ?_|refine Yu 131071 17 ?_|refine Yz 262143 18 ?_|refine Yn 262143 18 ?_|refine Yu 262143 18 ?_|refine Yt 1048575 20 ?_|refine Jn ?_|refine Ju ?_|refine Jy ?_|refine Za 524287 19 ?_|(refine Yd 2097151 ?_;exact⟨(),Sb,hS.pk⟩)
   clear hS;rintro - w1 hS;repeat' first|(refine Ql ?_ (h:=by apply Still.loadAgg (m:=47);rfl;rfl;rfl;(exact Rd.any);rfl;rfl))|apply Qs|apply Qr|(apply Rs<;>intro hc<;>try exact No)|apply Qn|refine Ql ?_|(refine Qd ?_;clear hS;intro w1 hS)|refine Qf ?_|apply Qk
   refine Qw Tryz.func28 ?_;exact⟨shZ++(ssL r s).drop 17,rfl,rfl,rfl,fun h=>absurd h h0,hS.pk⟩
end
end Go.Proofs.YtcikdogkkgefcaaGreatDoor
