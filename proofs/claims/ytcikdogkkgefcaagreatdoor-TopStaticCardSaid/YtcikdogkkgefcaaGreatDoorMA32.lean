/- A session's Read, and Write, whatever becomes of them. A session ahead of all messages: sess.New. A session's Note, Dead, Peer, Hash. -/
import Derived.Test.YtcikdogkkgefcaaGreatDoorMA28
namespace Go.Proofs.YtcikdogkkgefcaaGreatDoor
set_option maxRecDepth 8000
set_option maxHeartbeats 16000000
set_option linter.unusedVariables false
set_option linter.unusedSimpArgs false
open Go Go.RowKit
theorem zUn {we w:World}{ρ:List (Nat × Obj)}{σ:List HP}{A1 A2 A3 A4:HP}{F1 F2 F3 F4:List HP}(h:St we ρ σ w)(t1:Take A1 σ F1)(t2:Take A2 F1 F2)(t3:Take A3 F2 F3)(t4:Take A4 F3 F4) :
 St we ρ (A1::A2::A3::A4::F4) w:=by
 have h1:=(h.take t1).take (.tail t2);have h2:=h1.take (.tail (.tail t3));have h3:=h2.take (.tail (.tail (.tail t4)));exact h3.picks (by focus((repeat(first|apply Picks.all|apply Picks.nil|(refine Picks.cons (by repeat(first|apply Take.head|apply Take.tail)) ?_)|apply Picks.drop));done))
section
variable {we w:World}{ρ:List (Nat × Obj)}{σ F:List HP}{sb p db pb kb lim:Nat}{L:List Nd}{r:Rep}{s x:Ss}{d:Dv}{msg:List Int}{mv:Value}{e pl wa wc:Int}
theorem zI8 (ho:ShOk s.h)(hr:ShR ρ r s.h)(hix:0≤s.index∧s.index≤100000)(hS:St we ρ (Row sb (sesL r s p db) 102::zAA p lim L::F) w) :
 Cl Tryz.prog 90 [pP sb,pI e,pI pl,lvV wa wc] w fun v w'=>∃mv,v = .tuple #[mv,pI (zAE lim L s e pl wa wc).2.2.2] ∧
  St we ρ (Vec 3 1 mv (zAE lim L s e pl wa wc).2.2.1.length ((zAE lim L s e pl wa wc).2.2.1.flatMap intL)::Row sb (sesL r (zAE lim L s e pl wa wc).2.1 p db) 102::zAA p lim (zAE lim L s e pl wa wc).1::F) w':=by
 unfold zAE;by_cases ht:zD5 s true wa wc=0
 · rw[if_neg (by simpa using ht)]
   exact zM0 ho hr hix ht hS
 · rw[if_pos ht]
   refine(zMz ho hr ht hS).mono ?_;rintro v w' ⟨rfl,hS⟩;exact⟨.slice none 0 0,rfl,zAh hS⟩
theorem zM2 (ho:ShOk s.h)(hr:ShR ρ r s.h):∀{L1:List Nd} {s1 x:Ss} {pl no:Int},zAo lim L s d msg=(L1,s1,x,pl,no)→s1.h=s.h∧s1.note=s.note∧(no=0→x.note=s.note∧x.index=s.index∧msg≠[]):=by
 intro L1 s1 x pl no hq;have hfw:=zF5 (lim:=lim) (L:=L) (msg:=msg) ho;unfold zAo at hq;split at hq
 · obtain⟨rfl,rfl,rfl,rfl,rfl⟩:=by simpa only[Prod.mk.injEq]using hq
   refine⟨rfl,rfl,fun h=>?_⟩;obtain⟨q,hq1⟩:∃q,zAc lim L s d msg=q:=⟨_,rfl⟩
   obtain⟨L2,x2,p2,e2⟩:=q;have h1:=zHH ho hr hq1;unfold zAr at h ⊢;simp only[hq1]at h ⊢;by_cases he:e2=0
   · subst he
     rw[if_neg (by simp)]at h ⊢;simp only at h ⊢;have hd:=zET (lim:=lim) (L:=L2) (s:=s) (x:=x2);refine⟨hd.1.trans h1.1,hd.2.1.trans h1.2.1,?_⟩;unfold zAc at hq1;split at hq1
     · rename_i hz
       exact absurd (congrArg (fun a=>a.2.2.2) hq1) hz
     · rename_i hz
       exact(hfw.2 (by simpa using hz)).2.2.1
   · rw[if_pos he]at h
     exact absurd h he
 · split at hq
   · obtain⟨rfl,rfl,rfl,rfl,rfl⟩:=by simpa only[Prod.mk.injEq]using hq
     exact⟨rfl,rfl,fun h=>absurd h (by decide)⟩
   · rename_i hz
     obtain⟨rfl,rfl,rfl,rfl,rfl⟩:=by simpa only[Prod.mk.injEq]using hq
     exact⟨rfl,rfl,fun _=>⟨rfl,rfl,fun h=>by subst h;simp at hz⟩⟩
theorem zSX (h0:e≠0)(h5:e≠5)(h1:e≠1):zSY e=true:=by simp[zSY,h0,h5,h1]
theorem zUB (h:e=0∨e=5∨e=1):zSY e=false:=by rcases h with rfl|rfl|rfl<;>rfl
def zRL (z:List Nd × Ss × Int × Int):Value:=if z.2.2.2=0 then lvV z.2.1.note.auth z.2.1.note.conf else lvV 0 0
theorem zKS (ho:ShOk s.h)(hr:ShR ρ r s.h)(hix:0≤s.index∧s.index≤100000)(hms:Sl ρ intL 1 mv msg)(hb:d.peers.length≤100000)(hS:St we ρ (Row sb (sesL r s p db) 102::zAA p lim L::Row db (dvL d pb kb) 208::zAC pb 8 d.peers::F) w) :
 Cl Tryz.prog 18 [pP sb,mv,lvV wa wc] w fun v w'=>v = .tuple #[pI (zAP lim L s d msg wa wc).2.2.1,zRL (zAP lim L s d msg wa wc),pI (zAP lim L s d msg wa wc).2.2.2] ∧
  St we ρ (Row sb (sesL r (zAP lim L s d msg wa wc).2.1 p db) 102::zAA p lim (zAP lim L s d msg wa wc).1::Row db (dvL d pb kb) 208::zAC pb 8 d.peers::F) w':=by
 have kT:∀{F w},St we ρ (Row sb (sesL r s p db) 102::F) w→_:=fun hS=>zE4 (own:=false) (wa:=wa) (wc:=wc) ho hr hS
 unfold zAP;by_cases ht:zD5 s false wa wc=0;rotate_left
 · rw[if_pos ht]
   generalize zD5 s false wa wc=te at kT ht;unfold zRL;simp only[if_neg ht];refine Run.calls3 (n:=92) Tryz.func18 rfl rfl rfl ?_;repeat' first|(apply RO.op;apply OP.callF;rfl;rfl;rfl;show Cl _ 26 _ _ _;exact kT (hS.take (by focus((repeat(first|apply Has.head|apply Take.head|apply Put.head|apply Has.tail|apply Take.tail|apply Put.tail));done)));clear hS;rintro v w1 ⟨rfl,hS⟩)|refine Run.seq ?_|refine Run.region ?_|(refine RO.split ?_ ?_<;>intro hc<;>try(first|(exfalso;omega)|exact absurd rfl hc|exact Bool.noConfusion hc))|refine RO.nil ?_|refine RO.still (by exact Still.any) hS rfl ?_|(apply RO.op;apply OP.box hS;rfl;rfl;rfl;clear hS;intro b w1 hS)|(apply RO.op;apply OP.alloc hS;rfl;rfl;rfl;clear hS;intro b w1 hS)|(apply RO.op;apply OP.store hS;rfl;rfl;rfl;rfl;rfl;(focus((repeat(first|apply Has.head|apply Take.head|apply Put.head|apply Has.tail|apply Take.tail|apply Put.tail));done));rfl;rfl;clear hS;intro w1 hS)|refine Run.cond_true rfl ?_
   refine Run.ret Tryz.func18 rfl (.tmp rfl (.cell rfl (by first|exact zC8 rfl rfl (hS.rd (by exact Rd.any)) (by rfl) (by rfl)|exact zB2 rfl (zCq (hS.rd (by exact Rd.any)) (by rfl))) (.tmp rfl .nil))) ?_;exact⟨rfl,hS.picks (by focus((repeat(first|apply Picks.all|apply Picks.nil|(refine Picks.cons (by repeat(first|apply Take.head|apply Take.tail)) ?_)|apply Picks.drop));done))⟩
 rw[if_neg (by simpa using ht)];rw[ht]at kT;obtain⟨q,hq⟩:∃q,zAo lim L s d msg=q:=⟨_,rfl⟩
 obtain⟨L1,s1,x1,pl,no⟩:=q;obtain⟨hh1,hn1,hx1⟩:=zM2 ho hr hq;rw[hq];obtain⟨mq,mc,rfl,hmn,hmc,hmrow⟩:=hms.val;have kD:∀{F w},St we ρ (Row sb (sesL r s p db) 102::F) w→_:=fun hS=>zBg hr hS
 refine Run.calls3 (n:=92) Tryz.func18 rfl rfl rfl ?_;repeat' first|(apply RO.op;apply OP.callF;rfl;rfl;rfl;show Cl _ 26 _ _ _;exact kT (hS.take (by focus((repeat(first|apply Has.head|apply Take.head|apply Put.head|apply Has.tail|apply Take.tail|apply Put.tail));done)));clear hS;rintro v w1 ⟨rfl,hS⟩)|(refine RO.still (by apply Still.loadAgg (m:=47);rfl;rfl;rfl;(exact Rd.any);rfl;rfl) hS rfl ?_)|refine Run.seq ?_|refine Run.region ?_|refine RO.nil ?_|(refine RO.split ?_ ?_<;>intro hc<;>try(first|(exfalso;omega)|exact absurd rfl hc))|refine RO.still (by exact Still.any) hS rfl ?_|(apply RO.op;apply OP.alloc hS;rfl;rfl;rfl;clear hS;intro b w1 hS)|(apply RO.op;apply OP.box hS;rfl;rfl;rfl;clear hS;intro b w1 hS)|(apply RO.op;apply OP.store hS;rfl;rfl;rfl;rfl;rfl;(focus((repeat(first|apply Has.head|apply Take.head|apply Put.head|apply Has.tail|apply Take.tail|apply Put.tail));done));rfl;rfl;clear hS;intro w1 hS)|refine Run.cond_false rfl ?_|refine Run.skip ?_
 rename_i b5 w9 b7 w8 w7 w6;obtain⟨b10,hb10⟩:∃x,x=b:=⟨_,rfl⟩
 subst hb10;have hS2:St we ρ (Row sb (sesL r s p db) 102::Row b10 (ssL r s) 100::zAA p lim L::Row db (dvL d pb kb) 208::zAC pb 8 d.peers::Row b7 [pI 0,pI 0] 29::F) _:=hS.picks (by focus((repeat(first|apply Picks.all|apply Picks.nil|(refine Picks.cons (by repeat(first|apply Take.head|apply Take.tail)) ?_)|apply Picks.drop));done));clear hS;have hS:=hS2;clear hS2;refine Run.midP (α:=List Value) (fun a w=>a.length=47∧a.all one=true∧(no=0→a=ssL r x1)∧St we ρ (Row b10 a 100::Row sb (sesL r s1 p db) 102::zAA p lim L1::Row db (dvL d pb kb) 208::zAC pb 8 d.peers::Row b7 [pI 0,pI 0] 29::F) w)
  (fun a=>[(0,pP sb),(1,.slice mq msg.length mc),(7,pP b7),(10,pP b10),(11,pI pl),(12,pI no)]) ?_ ?_
 · clear hS hq kD kT
   rintro xv w ⟨hxl,hxo,hxe,hS⟩;unfold zEB zRL;simp only;by_cases h0:no=0
   · subst h0
     obtain rfl:=hxe rfl;obtain⟨hxn,hxi,hne⟩:=hx1 rfl;simp only[ne_eq,not_true_eq_false,if_false,if_true];have hpos:0<msg.length:=List.length_pos_iff.2 hne;have hw63:msg.length≤9223372036854775807:=by unfold maxLen at hmc;omega
     obtain⟨mb1,off1,cs1,el1,fr1,rfl,hm1,hnd⟩:=hmrow hpos;have hg1:cs1[off1+((msg.length:Int) - 1).toNat]? = some (pI (msg.getLastD 0)):=by
      have h1:((msg.length:Int) - 1).toNat=msg.length - 1:=by omega
      rw[h1];have h2:=zC5 (hnd (msg.length - 1) (by omega));rw[Nat.mul_one]at h2;rw[h2,List.getLastD_eq_getLast?,List.getLast?_eq_getElem?,List.getElem?_eq_getElem (by omega)];rfl
     have kH:∀{F w},St we ρ (Row sb (sesL r s1 p db) 102::F) w→_:=fun hS=>zUZ (s:=s1) (x:=x1) (own:=false) (pa:=msg.getLastD 0) (pl:=pl) (nt:=s.note) (by rw[hh1];exact ho) (by rw[hh1];exact hr) hxn (by rw[hxi];exact hix) hS
     generalize msg.getLastD 0=zl at hg1 kH;repeat' first|refine Run.seq ?_|refine Run.region ?_|(refine RO.split ?_ ?_<;>intro hc<;>try(first|(exfalso;omega)|exact absurd rfl hc|exact Bool.noConfusion hc))|refine RO.nil ?_|refine RO.still (by exact Still.any) hS rfl ?_|refine Run.cond_false rfl ?_|refine Run.skip ?_
     refine(Run.regionH_cut (fun _:Unit=>Row sb (sesL r (hadS s1 x1 false zl pl) p db) 102::Row b10 (ssL r x1) 100::zAA p lim L1::Row db (dvL d pb kb) 208::zAC pb 8 d.peers::Row b7 [pI 0,pI 0] 29::F)
      (fun _=>[(0,pP sb),(7,pP b7),(11,pI pl)])
      hS (.cons_cons _ (.cons _ (List.Sublist.refl _))) (by rfl) (by rfl) (by rfl) ?_ ?_)
     · clear hS
       intro w1 hS;refine RH.relist (listed':=bm 10 0) (by kernel_rfl) ?_;all_goals(apply RH.take (i:=0) (listed:=(bm 10 0)) (listed':=(bm 10 1));rfl;kernel_rfl;kernel_rfl;(apply Still.move;rfl);(first|exact hS|exact hS.tail|exact hS.sublist (by repeat(first|exact List.Sublist.refl _|refine .cons_cons _ ?_|refine .cons _ ?_)));rfl)
       all_goals(apply RH.take (i:=1) (listed:=(bm 10 1)) (listed':=(bm 10 3));rfl;kernel_rfl;kernel_rfl;(first|(apply Still.loadAgg (m:=47);rfl;rfl;rfl;(exact Rd.any);rfl;rfl)|(apply Still.load;rfl;rfl;exact Rd.ro hm1;exact hg1)|(apply Still.load;rfl;rfl;(exact Rd.any);(first|rfl|exact zDI (by assumption)|exact zDH (by assumption)|exact zDG (by assumption)|exact zDF (by assumption)|exact zDE (by assumption)|assumption))|(apply Still.loadAgg;rfl;rfl;(exact zAi);(exact Rd.any);(first|exact zCd (by assumption)|assumption|rfl);rfl)|(apply Still.loadAgg;rfl;rfl;exact eqAuto2;(exact Rd.any);rfl;rfl));(first|exact hS|exact hS.tail|exact hS.sublist (by repeat(first|exact List.Sublist.refl _|refine .cons_cons _ ?_|refine .cons _ ?_)));rfl)
       all_goals(apply RH.take (i:=2) (listed:=(bm 10 3)) (listed':=(bm 10 7));rfl;kernel_rfl;kernel_rfl;(apply Still.move;rfl);(first|exact hS|exact hS.tail|exact hS.sublist (by repeat(first|exact List.Sublist.refl _|refine .cons_cons _ ?_|refine .cons _ ?_)));rfl)
       all_goals(apply RH.take (i:=3) (listed:=(bm 10 7)) (listed':=(bm 10 15));rfl;kernel_rfl;kernel_rfl;(apply Still.move;rfl);(first|exact hS|exact hS.tail|exact hS.sublist (by repeat(first|exact List.Sublist.refl _|refine .cons_cons _ ?_|refine .cons _ ?_)));rfl)
       all_goals(apply RH.take (i:=4) (listed:=(bm 10 15)) (listed':=(bm 10 31));rfl;kernel_rfl;kernel_rfl;(first|(apply Still.loadAgg (m:=47);rfl;rfl;rfl;(exact Rd.any);rfl;rfl)|(apply Still.load;rfl;rfl;exact Rd.ro hm1;exact hg1)|(exact Still.any));(first|exact hS|exact hS.tail|exact hS.sublist (by repeat(first|exact List.Sublist.refl _|refine .cons_cons _ ?_|refine .cons _ ?_)));rfl)
       all_goals(apply RH.take (i:=5) (listed:=(bm 10 31)) (listed':=(bm 10 63));rfl;kernel_rfl;kernel_rfl;(first|(apply Still.sub;rfl;rfl;assumption)|(apply Still.sub;rfl;rfl;(first|exact zA8 (by omega) (by omega)|exact zF1 (by omega) (by omega)|rfl)));(first|exact hS|exact hS.tail|exact hS.sublist (by repeat(first|exact List.Sublist.refl _|refine .cons_cons _ ?_|refine .cons _ ?_)));rfl)
       all_goals(try(refine RH.split ?_ ?_<;>intro hc<;>try(first|(exfalso;omega)|exact absurd rfl hc|exact Bool.noConfusion hc)))
       all_goals(apply RH.take (i:=6) (listed:=(bm 10 63)) (listed':=(bm 10 127));rfl;kernel_rfl;kernel_rfl;(first|(exact Still.any)|(apply Still.indexAddrA;rfl;rfl;rfl;(exact zAi);omega;omega;(first|(simp only[Int.toNat_natCast,Nat.mul_one,Nat.zero_add,Int.reduceToNat,Nat.reduceMul,Nat.reduceAdd,Nat.zero_mul];exact rfl)|rfl)));(first|exact hS|exact hS.tail|exact hS.sublist (by repeat(first|exact List.Sublist.refl _|refine .cons_cons _ ?_|refine .cons _ ?_)));rfl)
       all_goals(apply RH.take (i:=7) (listed:=(bm 10 127)) (listed':=(bm 10 255));rfl;kernel_rfl;kernel_rfl;(first|(apply Still.loadAgg (m:=47);rfl;rfl;rfl;(exact Rd.any);rfl;rfl)|(apply Still.load;rfl;rfl;exact Rd.ro hm1;exact hg1)|(apply Still.load;rfl;rfl;(exact Rd.any);(first|rfl|exact zDI (by assumption)|exact zDH (by assumption)|exact zDG (by assumption)|exact zDF (by assumption)|exact zDE (by assumption)|assumption))|(apply Still.loadAgg;rfl;rfl;(exact zAi);(exact Rd.any);(first|exact zCd (by assumption)|assumption|rfl);rfl)|(apply Still.loadAgg;rfl;rfl;exact eqAuto2;(exact Rd.any);rfl;rfl));(first|exact hS|exact hS.tail|exact hS.sublist (by repeat(first|exact List.Sublist.refl _|refine .cons_cons _ ?_|refine .cons _ ?_)));rfl)
       all_goals(apply RH.take (i:=8) (listed:=(bm 10 255)) (listed':=(bm 10 511));rfl;kernel_rfl;kernel_rfl;(apply Still.move;rfl);(first|exact hS|exact hS.tail|exact hS.sublist (by repeat(first|exact List.Sublist.refl _|refine .cons_cons _ ?_|refine .cons _ ?_)));rfl)
       all_goals
        apply RH.all1 (i:=9) (listed:=(bm 10 511))
        · kernel_rfl
        · apply RI.op (i:=9) (listed:=(bm 10 511)) (listed':=(bm 10 1023));rfl;kernel_rfl
          all_goals try first|(apply OP.callF;rfl;rfl;rfl;show Cl _ 30 _ _ _;exact kH (hS.take (by focus((repeat(first|apply Has.head|apply Take.head|apply Put.head|apply Has.tail|apply Take.tail|apply Put.tail));done)));clear hS;rintro v w1 ⟨rfl,hS⟩;refine⟨(by first|exact hS|exact hS.tail|exact hS.sublist (by repeat(first|exact List.Sublist.refl _|refine .cons_cons _ ?_|refine .cons _ ?_))),?_⟩)
          all_goals(apply RH.done (listed:=(bm 10 1023));kernel_rfl)
          all_goals(exact⟨(),(by focus((repeat(first|exact .nil|refine .cons rfl ?_));done)),hS.picks (by focus((repeat(first|apply Picks.all|apply Picks.nil|(refine Picks.cons (by repeat(first|apply Take.head|apply Take.tail)) ?_)|apply Picks.drop));done))⟩)
     clear hS;rintro - w1 hS;repeat' first|refine Run.seq ?_
     refine(Run.regionH_cut (fun _:Unit=>Row b7 [pI (hadS s1 x1 false zl pl).note.auth,pI (hadS s1 x1 false zl pl).note.conf] 29::Row sb (sesL r (hadS s1 x1 false zl pl) p db) 102::zAA p lim L1::Row db (dvL d pb kb) 208::zAC pb 8 d.peers::F)
      (fun _=>[(6,pI pl),(7,pP b7),(8,pI 0)])
      (show St we ρ (Row sb (sesL r (hadS s1 x1 false zl pl) p db) 102::Row b7 [pI 0,pI 0] 29::zAA p lim L1::Row db (dvL d pb kb) 208::zAC pb 8 d.peers::F) w1 from hS.picks (by focus((repeat(first|apply Picks.all|apply Picks.nil|(refine Picks.cons (by repeat(first|apply Take.head|apply Take.tail)) ?_)|apply Picks.drop));done))) (.cons_cons _ (.cons _ (List.Sublist.refl _))) (by rfl) (by rfl) (by rfl) ?_ ?_)
     · clear hS
       intro w1 hS;refine RH.relist (listed':=bm 10 0) (by kernel_rfl) ?_;all_goals(apply RH.take (i:=0) (listed:=(bm 10 0)) (listed':=(bm 10 1));rfl;kernel_rfl;kernel_rfl;(apply Still.move;rfl);(first|exact hS|exact hS.tail|exact hS.sublist (by repeat(first|exact List.Sublist.refl _|refine .cons_cons _ ?_|refine .cons _ ?_)));rfl)
       all_goals(apply RH.take (i:=1) (listed:=(bm 10 1)) (listed':=(bm 10 3));rfl;kernel_rfl;kernel_rfl;(apply Still.move;rfl);(first|exact hS|exact hS.tail|exact hS.sublist (by repeat(first|exact List.Sublist.refl _|refine .cons_cons _ ?_|refine .cons _ ?_)));rfl)
       all_goals(apply RH.take (i:=2) (listed:=(bm 10 3)) (listed':=(bm 10 7));rfl;kernel_rfl;kernel_rfl;(first|(apply Still.nilCheck;rfl)|(apply Still.nilCheckF;rfl));(first|exact hS|exact hS.tail|exact hS.sublist (by repeat(first|exact List.Sublist.refl _|refine .cons_cons _ ?_|refine .cons _ ?_)));rfl)
       all_goals(apply RH.take (i:=3) (listed:=(bm 10 7)) (listed':=(bm 10 15));rfl;kernel_rfl;kernel_rfl;(apply Still.fieldAddr;rfl;(first|exact eqAuto2|(exact zAi)));(first|exact hS|exact hS.tail|exact hS.sublist (by repeat(first|exact List.Sublist.refl _|refine .cons_cons _ ?_|refine .cons _ ?_)));rfl)
       all_goals(apply RH.take (i:=4) (listed:=(bm 10 15)) (listed':=(bm 10 31));rfl;kernel_rfl;kernel_rfl;(apply Still.fieldAddr;rfl;(first|exact eqAuto2|(exact zAi)));(first|exact hS|exact hS.tail|exact hS.sublist (by repeat(first|exact List.Sublist.refl _|refine .cons_cons _ ?_|refine .cons _ ?_)));rfl)
       all_goals(apply RH.take (i:=5) (listed:=(bm 10 31)) (listed':=(bm 10 63));rfl;kernel_rfl;kernel_rfl;(apply Still.fieldAddr;rfl;(first|exact eqAuto2|(exact zAi)));(first|exact hS|exact hS.tail|exact hS.sublist (by repeat(first|exact List.Sublist.refl _|refine .cons_cons _ ?_|refine .cons _ ?_)));rfl)
       all_goals(apply RH.take (i:=6) (listed:=(bm 10 63)) (listed':=(bm 10 127));rfl;kernel_rfl;kernel_rfl;(first|(apply Still.load;rfl;rfl;(exact Rd.any);(first|rfl|exact zDI (by assumption)|exact zDH (by assumption)|exact zDG (by assumption)|exact zDF (by assumption)|exact zDE (by assumption)|assumption))|(apply Still.loadAgg;rfl;rfl;(exact zAi);(exact Rd.any);(first|exact zCd (by assumption)|assumption|rfl);rfl)|(apply Still.loadAgg;rfl;rfl;exact eqAuto2;(exact Rd.any);rfl;rfl));(first|exact hS|exact hS.tail|exact hS.sublist (by repeat(first|exact List.Sublist.refl _|refine .cons_cons _ ?_|refine .cons _ ?_)));rfl)
       all_goals(apply RH.take (i:=7) (listed:=(bm 10 127)) (listed':=(bm 10 255));rfl;kernel_rfl;kernel_rfl;(apply Still.assign;rfl);(first|exact hS|exact hS.tail|exact hS.sublist (by repeat(first|exact List.Sublist.refl _|refine .cons_cons _ ?_|refine .cons _ ?_)));rfl)
       all_goals
        apply RH.all1 (i:=8) (listed:=(bm 10 255))
        · kernel_rfl
        · apply RI.op (i:=8) (listed:=(bm 10 255)) (listed':=(bm 10 511));rfl;kernel_rfl
          all_goals try first|(apply OP.store hS;rfl;rfl;rfl;rfl;rfl;(focus((repeat(first|apply Has.head|apply Take.head|apply Put.head|apply Has.tail|apply Take.tail|apply Put.tail));done));rfl;rfl;clear hS;intro w1 hS;refine⟨(by first|exact hS|exact hS.tail|exact hS.sublist (by repeat(first|exact List.Sublist.refl _|refine .cons_cons _ ?_|refine .cons _ ?_))),?_⟩)
          all_goals(apply RH.take (i:=9) (listed:=(bm 10 511)) (listed':=(bm 10 1023));rfl;kernel_rfl;kernel_rfl;(apply Still.assign;rfl);(first|exact hS|exact hS.tail|exact hS.sublist (by repeat(first|exact List.Sublist.refl _|refine .cons_cons _ ?_|refine .cons _ ?_)));rfl)
          all_goals(apply RH.done (listed:=(bm 10 1023));kernel_rfl)
          all_goals(exact⟨(),(by focus((repeat(first|exact .nil|refine .cons rfl ?_));done)),hS.picks (by focus((repeat(first|apply Picks.all|apply Picks.nil|(refine Picks.cons (by repeat(first|apply Take.head|apply Take.tail)) ?_)|apply Picks.drop));done))⟩)
     clear hS;rintro - w1 hS;refine Run.ret Tryz.func18 rfl (.tmp rfl (.cell rfl (by first|exact zC8 rfl rfl (hS.rd (by exact Rd.any)) (by rfl) (by rfl)|exact zB2 rfl (zCq (hS.rd (by exact Rd.any)) (by rfl))) (.tmp rfl .nil))) ?_;exact⟨rfl,hS.picks (by focus((repeat(first|apply Picks.all|apply Picks.nil|(refine Picks.cons (by repeat(first|apply Take.head|apply Take.tail)) ?_)|apply Picks.drop));done))⟩
   · rw[if_pos h0]
     simp only[if_neg h0];repeat' first|refine Run.seq ?_|refine Run.region ?_|(refine RO.split ?_ ?_<;>intro hc<;>try(first|(exfalso;omega)|exact absurd rfl hc|exact Bool.noConfusion hc))|refine RO.nil ?_|refine RO.still (by exact Still.any) hS rfl ?_|(apply RO.op;apply OP.store hS;rfl;rfl;rfl;rfl;rfl;(focus((repeat(first|apply Has.head|apply Take.head|apply Put.head|apply Has.tail|apply Take.tail|apply Put.tail));done));rfl;rfl;clear hS;intro w1 hS)|refine Run.cond_true rfl ?_
     refine Run.ret Tryz.func18 rfl (.tmp rfl (.cell rfl (by first|exact zC8 rfl rfl (hS.rd (by exact Rd.any)) (by rfl) (by rfl)|exact zB2 rfl (zCq (hS.rd (by exact Rd.any)) (by rfl))) (.tmp rfl .nil))) ?_;exact⟨rfl,hS.picks (by focus((repeat(first|apply Picks.all|apply Picks.nil|(refine Picks.cons (by repeat(first|apply Take.head|apply Take.tail)) ?_)|apply Picks.drop));done))⟩
 · intro hpost
   unfold zAo at hq;cases hd:zBz s
   · rw[hd]at kD
     rw[if_pos hd]at hq;have kR:∀{F w},St we ρ (Row sb (sesL r s p db) 102::zAA p lim L::Row db (dvL d pb kb) 208::zAC pb 8 d.peers::F) w→_:=fun hS=>zJA ho hr hms hb hS
     generalize zAr lim L s d msg=a at kR hq;obtain⟨L2,x2,pl2,e2⟩:=a;simp only at kR hq;obtain⟨rfl,rfl,rfl,rfl,rfl⟩:=by simpa only[Prod.mk.injEq]using hq
     clear hq hx1;repeat' first|(apply RO.op;apply OP.callF;rfl;rfl;rfl;show Cl _ 27 _ _ _;exact kD (hS.take (by focus((repeat(first|apply Has.head|apply Take.head|apply Put.head|apply Has.tail|apply Take.tail|apply Put.tail));done)));clear hS;rintro v w1 ⟨rfl,hS⟩)|(apply RO.op;apply OP.callF;rfl;rfl;rfl;show Cl _ 28 _ _ _;exact kR (zUn hS (by focus((repeat(first|apply Has.head|apply Take.head|apply Put.head|apply Has.tail|apply Take.tail|apply Put.tail));done)) (by focus((repeat(first|apply Has.head|apply Take.head|apply Put.head|apply Has.tail|apply Take.tail|apply Put.tail));done)) (by focus((repeat(first|apply Has.head|apply Take.head|apply Put.head|apply Has.tail|apply Take.tail|apply Put.tail));done)) (by focus((repeat(first|apply Has.head|apply Take.head|apply Put.head|apply Has.tail|apply Take.tail|apply Put.tail));done)));clear hS;rintro v w1 ⟨xv,rfl,hxl,hxo,hxe,hS⟩)|(apply RO.op;apply OP.store (vs:=xv) (l':=xv) hS;rfl;rfl;rfl;(rw[hxl];rfl);exact hxo;(focus((repeat(first|apply Has.head|apply Take.head|apply Put.head|apply Has.tail|apply Take.tail|apply Put.tail));done));(rw[hxl];rfl);(rw[hxl];exact List.append_nil xv);clear hS;intro w1 hS)|(refine RO.still (by apply Still.fieldAddr;rfl;exact eqAuto2) hS rfl ?_)|refine Run.seq ?_|refine Run.region ?_|(refine RO.split ?_ ?_<;>intro hc<;>try(first|(exfalso;omega)|exact absurd rfl hc|exact Bool.noConfusion hc))|refine RO.nil ?_|refine RO.still (by exact Still.any) hS rfl ?_|(apply RO.op;apply OP.store hS;rfl;rfl;rfl;rfl;rfl;(focus((repeat(first|apply Has.head|apply Take.head|apply Put.head|apply Has.tail|apply Take.tail|apply Put.tail));done));rfl;rfl;clear hS;intro w1 hS)|refine RO.yes rfl rfl ?_|refine RO.no rfl rfl rfl rfl ?_|refine Run.cond_true rfl ?_|refine Run.block ?_
     all_goals
      refine Run.inBlock ?_;first|(rw[zSX (e:=e2) (by omega) (by omega) (by omega)]at hpost ⊢;exact Run.weaken (by focus((repeat(first|exact .nil|refine .cons rfl ?_));done)) (hpost xv _ ⟨hxl,hxo,hxe,hS.picks (by focus((repeat(first|apply Picks.all|apply Picks.nil|(refine Picks.cons (by repeat(first|apply Take.head|apply Take.tail)) ?_)|apply Picks.drop));done))⟩))|(rw[zUB (e:=e2) (by omega)]at hpost ⊢;exact Run.weaken (by focus((repeat(first|exact .nil|refine .cons rfl ?_));done)) (hpost xv _ ⟨hxl,hxo,hxe,hS.picks (by focus((repeat(first|apply Picks.all|apply Picks.nil|(refine Picks.cons (by repeat(first|apply Take.head|apply Take.tail)) ?_)|apply Picks.drop));done))⟩))
   · rw[hd]at kD
     rw[if_neg (by rw[hd];decide)]at hq;by_cases h1:msg.length=1
     · rw[if_neg (by simpa using h1)]at hq
       have kO:∀{F w},St we ρ (zAA p lim L::F) w→_:=fun hS=>zLN (t:=s.way) (q:=msg.getD 0 0) hS
       obtain⟨mb0,off0,cs0,el0,fr0,rfl,hm0,hnd⟩:=hmrow (by omega);have hg0:cs0[off0+(0:Int).toNat]? = some (pI (msg.getD 0 0)):=by
        have h2:=zC5 (hnd 0 (by omega));rw[Nat.zero_mul]at h2;show cs0[off0+0]? = _;rw[h2,List.getD_eq_getElem?_getD,List.getElem?_eq_getElem (by omega)];rfl
       generalize msg.getD 0 0=z0 at kO hq hg0;generalize zCk L s.way z0=a at kO hq;obtain⟨t2,pl2,e2⟩:=a;simp only at kO hq;obtain⟨rfl,rfl,rfl,rfl,rfl⟩:=by simpa only[Prod.mk.injEq]using hq
       clear hq hx1;repeat' first|(apply RO.op;apply OP.callF;rfl;rfl;rfl;show Cl _ 27 _ _ _;exact kD (hS.take (by focus((repeat(first|apply Has.head|apply Take.head|apply Put.head|apply Has.tail|apply Take.tail|apply Put.tail));done)));clear hS;rintro v w1 ⟨rfl,hS⟩)|refine Run.seq ?_|refine Run.region ?_|(refine RO.split ?_ ?_<;>intro hc<;>try(first|(exfalso;omega)|exact absurd rfl hc|exact Bool.noConfusion hc))|refine RO.nil ?_|refine RO.still (by exact Still.any) hS rfl ?_|refine Run.cond_false rfl ?_|refine Run.block ?_
       refine(Run.regionH_cut (fun _:Unit=>Row b10 (ssL r { s with way:=t2 }) 100::Row sb (sesL r s p db) 102::zAA p lim L::Row db (dvL d pb kb) 208::zAC pb 8 d.peers::Row b7 [pI 0,pI 0] 29::F)
        (fun _=>[(0,pP sb),(1,.slice (some ⟨mb0,off0,none⟩) msg.length mc),(7,pP b7),(10,pP b10),(11,pI pl2),(12,pI e2)])
        (show St we ρ (zAA p lim L::Row sb (sesL r s p db) 102::Row b10 (ssL r s) 100::Row db (dvL d pb kb) 208::zAC pb 8 d.peers::Row b7 [pI 0,pI 0] 29::F) _ from hS.picks (by focus((repeat(first|apply Picks.all|apply Picks.nil|(refine Picks.cons (by repeat(first|apply Take.head|apply Take.tail)) ?_)|apply Picks.drop));done))) (.cons_cons _ (.cons_cons _ (.cons _ (List.Sublist.refl _)))) (by rfl) (by rfl) (by rfl) ?_ ?_)
       · clear hS
         intro w1 hS;refine RH.relist (listed':=bm 21 0) (by kernel_rfl) ?_;all_goals(apply RH.take (i:=0) (listed:=(bm 21 0)) (listed':=(bm 21 1));rfl;kernel_rfl;kernel_rfl;(apply Still.move;rfl);(first|exact hS|exact hS.tail|exact hS.sublist (by repeat(first|exact List.Sublist.refl _|refine .cons_cons _ ?_|refine .cons _ ?_)));rfl)
         all_goals(apply RH.take (i:=1) (listed:=(bm 21 1)) (listed':=(bm 21 3));rfl;kernel_rfl;kernel_rfl;(first|(apply Still.nilCheck;rfl)|(apply Still.nilCheckF;rfl));(first|exact hS|exact hS.tail|exact hS.sublist (by repeat(first|exact List.Sublist.refl _|refine .cons_cons _ ?_|refine .cons _ ?_)));rfl)
         all_goals(apply RH.take (i:=2) (listed:=(bm 21 3)) (listed':=(bm 21 7));rfl;kernel_rfl;kernel_rfl;(apply Still.fieldAddr;rfl;(first|exact eqAuto2|(exact zAi)));(first|exact hS|exact hS.tail|exact hS.sublist (by repeat(first|exact List.Sublist.refl _|refine .cons_cons _ ?_|refine .cons _ ?_)));rfl)
         all_goals(apply RH.take (i:=3) (listed:=(bm 21 7)) (listed':=(bm 21 15));rfl;kernel_rfl;kernel_rfl;(apply Still.fieldAddr;rfl;(first|exact eqAuto2|(exact zAi)));(first|exact hS|exact hS.tail|exact hS.sublist (by repeat(first|exact List.Sublist.refl _|refine .cons_cons _ ?_|refine .cons _ ?_)));rfl)
         all_goals(apply RH.take (i:=4) (listed:=(bm 21 15)) (listed':=(bm 21 31));rfl;kernel_rfl;kernel_rfl;(first|(apply Still.loadAgg (m:=6);rfl;rfl;rfl;(exact Rd.any);rfl;rfl)|(apply Still.load;rfl;rfl;exact Rd.ro hm0;exact hg0)|(apply Still.load;rfl;rfl;(exact Rd.any);(first|rfl|exact zDI (by assumption)|exact zDH (by assumption)|exact zDG (by assumption)|exact zDF (by assumption)|exact zDE (by assumption)|assumption))|(apply Still.loadAgg;rfl;rfl;(exact zAi);(exact Rd.any);(first|exact zCd (by assumption)|assumption|rfl);rfl)|(apply Still.loadAgg;rfl;rfl;exact eqAuto2;(exact Rd.any);rfl;rfl));(first|exact hS|exact hS.tail|exact hS.sublist (by repeat(first|exact List.Sublist.refl _|refine .cons_cons _ ?_|refine .cons _ ?_)));rfl)
         all_goals(apply RH.take (i:=5) (listed:=(bm 21 31)) (listed':=(bm 21 63));rfl;kernel_rfl;kernel_rfl;(apply Still.move;rfl);(first|exact hS|exact hS.tail|exact hS.sublist (by repeat(first|exact List.Sublist.refl _|refine .cons_cons _ ?_|refine .cons _ ?_)));rfl)
         all_goals(apply RH.take (i:=6) (listed:=(bm 21 63)) (listed':=(bm 21 127));rfl;kernel_rfl;kernel_rfl;(first|(apply Still.nilCheck;rfl)|(apply Still.nilCheckF;rfl));(first|exact hS|exact hS.tail|exact hS.sublist (by repeat(first|exact List.Sublist.refl _|refine .cons_cons _ ?_|refine .cons _ ?_)));rfl)
         all_goals(apply RH.take (i:=7) (listed:=(bm 21 127)) (listed':=(bm 21 255));rfl;kernel_rfl;kernel_rfl;(apply Still.fieldAddr;rfl;(first|exact eqAuto2|(exact zAi)));(first|exact hS|exact hS.tail|exact hS.sublist (by repeat(first|exact List.Sublist.refl _|refine .cons_cons _ ?_|refine .cons _ ?_)));rfl)
         all_goals(apply RH.take (i:=8) (listed:=(bm 21 255)) (listed':=(bm 21 511));rfl;kernel_rfl;kernel_rfl;(first|(apply Still.loadAgg (m:=6);rfl;rfl;rfl;(exact Rd.any);rfl;rfl)|(apply Still.load;rfl;rfl;exact Rd.ro hm0;exact hg0)|(apply Still.load;rfl;rfl;(exact Rd.any);(first|rfl|exact zDI (by assumption)|exact zDH (by assumption)|exact zDG (by assumption)|exact zDF (by assumption)|exact zDE (by assumption)|assumption))|(apply Still.loadAgg;rfl;rfl;(exact zAi);(exact Rd.any);(first|exact zCd (by assumption)|assumption|rfl);rfl)|(apply Still.loadAgg;rfl;rfl;exact eqAuto2;(exact Rd.any);rfl;rfl));(first|exact hS|exact hS.tail|exact hS.sublist (by repeat(first|exact List.Sublist.refl _|refine .cons_cons _ ?_|refine .cons _ ?_)));rfl)
         all_goals(apply RH.take (i:=9) (listed:=(bm 21 511)) (listed':=(bm 21 1023));rfl;kernel_rfl;kernel_rfl;(apply Still.move;rfl);(first|exact hS|exact hS.tail|exact hS.sublist (by repeat(first|exact List.Sublist.refl _|refine .cons_cons _ ?_|refine .cons _ ?_)));rfl)
         all_goals(apply RH.take (i:=10) (listed:=(bm 21 1023)) (listed':=(bm 21 2047));rfl;kernel_rfl;kernel_rfl;(first|(exact Still.any)|(apply Still.indexAddrA;rfl;rfl;rfl;(exact zAi);omega;omega;(first|(simp only[Int.toNat_natCast,Nat.mul_one,Nat.zero_add,Int.reduceToNat,Nat.reduceMul,Nat.reduceAdd,Nat.zero_mul];exact rfl)|rfl)));(first|exact hS|exact hS.tail|exact hS.sublist (by repeat(first|exact List.Sublist.refl _|refine .cons_cons _ ?_|refine .cons _ ?_)));rfl)
         all_goals(apply RH.take (i:=11) (listed:=(bm 21 2047)) (listed':=(bm 21 4095));rfl;kernel_rfl;kernel_rfl;(first|(apply Still.loadAgg (m:=6);rfl;rfl;rfl;(exact Rd.any);rfl;rfl)|(apply Still.load;rfl;rfl;exact Rd.ro hm0;exact hg0)|(apply Still.load;rfl;rfl;(exact Rd.any);(first|rfl|exact zDI (by assumption)|exact zDH (by assumption)|exact zDG (by assumption)|exact zDF (by assumption)|exact zDE (by assumption)|assumption))|(apply Still.loadAgg;rfl;rfl;(exact zAi);(exact Rd.any);(first|exact zCd (by assumption)|assumption|rfl);rfl)|(apply Still.loadAgg;rfl;rfl;exact eqAuto2;(exact Rd.any);rfl;rfl));(first|exact hS|exact hS.tail|exact hS.sublist (by repeat(first|exact List.Sublist.refl _|refine .cons_cons _ ?_|refine .cons _ ?_)));rfl)
         all_goals
          apply RH.all1 (i:=12) (listed:=(bm 21 4095))
          · kernel_rfl
          · apply RI.op (i:=12) (listed:=(bm 21 4095)) (listed':=(bm 21 8191));rfl;kernel_rfl
            all_goals try first|(apply OP.callF;rfl;rfl;rfl;show Cl _ 29 _ _ _;exact kO (hS.take (by focus((repeat(first|apply Has.head|apply Take.head|apply Put.head|apply Has.tail|apply Take.tail|apply Put.tail));done)));clear hS;rintro v w1 ⟨rfl,hS⟩;refine⟨(by first|exact hS|exact hS.tail|exact hS.sublist (by repeat(first|exact List.Sublist.refl _|refine .cons_cons _ ?_|refine .cons _ ?_))),?_⟩)
            all_goals(apply RH.take (i:=13) (listed:=(bm 21 8191)) (listed':=(bm 21 16383));rfl;kernel_rfl;kernel_rfl;(apply Still.move;rfl);(first|exact hS|exact hS.tail|exact hS.sublist (by repeat(first|exact List.Sublist.refl _|refine .cons_cons _ ?_|refine .cons _ ?_)));rfl)
            all_goals(apply RH.take (i:=14) (listed:=(bm 21 16383)) (listed':=(bm 21 32767));rfl;kernel_rfl;kernel_rfl;(apply Still.extract;rfl;rfl);(first|exact hS|exact hS.tail|exact hS.sublist (by repeat(first|exact List.Sublist.refl _|refine .cons_cons _ ?_|refine .cons _ ?_)));rfl)
            all_goals(apply RH.take (i:=15) (listed:=(bm 21 32767)) (listed':=(bm 21 65535));rfl;kernel_rfl;kernel_rfl;(apply Still.extract;rfl;rfl);(first|exact hS|exact hS.tail|exact hS.sublist (by repeat(first|exact List.Sublist.refl _|refine .cons_cons _ ?_|refine .cons _ ?_)));rfl)
            all_goals(apply RH.take (i:=16) (listed:=(bm 21 65535)) (listed':=(bm 21 131071));rfl;kernel_rfl;kernel_rfl;(apply Still.extract;rfl;rfl);(first|exact hS|exact hS.tail|exact hS.sublist (by repeat(first|exact List.Sublist.refl _|refine .cons_cons _ ?_|refine .cons _ ?_)));rfl)
            all_goals(apply RH.take (i:=17) (listed:=(bm 21 131071)) (listed':=(bm 21 262143));rfl;kernel_rfl;kernel_rfl;(apply Still.fieldAddr;rfl;(first|exact eqAuto2|(exact zAi)));(first|exact hS|exact hS.tail|exact hS.sublist (by repeat(first|exact List.Sublist.refl _|refine .cons_cons _ ?_|refine .cons _ ?_)));rfl)
            all_goals
             apply RH.all1 (i:=18) (listed:=(bm 21 262143))
             · kernel_rfl
             · apply RI.op (i:=18) (listed:=(bm 21 262143)) (listed':=(bm 21 524287));rfl;kernel_rfl
               all_goals try first|(apply OP.store hS;rfl;rfl;rfl;rfl;rfl;(focus((repeat(first|apply Has.head|apply Take.head|apply Put.head|apply Has.tail|apply Take.tail|apply Put.tail));done));rfl;rfl;clear hS;intro w1 hS;refine⟨(by first|exact hS|exact hS.tail|exact hS.sublist (by repeat(first|exact List.Sublist.refl _|refine .cons_cons _ ?_|refine .cons _ ?_))),?_⟩)
               all_goals(apply RH.take (i:=19) (listed:=(bm 21 524287)) (listed':=(bm 21 1048575));rfl;kernel_rfl;kernel_rfl;(apply Still.assign;rfl);(first|exact hS|exact hS.tail|exact hS.sublist (by repeat(first|exact List.Sublist.refl _|refine .cons_cons _ ?_|refine .cons _ ?_)));rfl)
               all_goals(apply RH.take (i:=20) (listed:=(bm 21 1048575)) (listed':=(bm 21 2097151));rfl;kernel_rfl;kernel_rfl;(apply Still.assign;rfl);(first|exact hS|exact hS.tail|exact hS.sublist (by repeat(first|exact List.Sublist.refl _|refine .cons_cons _ ?_|refine .cons _ ?_)));rfl)
               all_goals(apply RH.done (listed:=(bm 21 2097151));kernel_rfl)
               all_goals(exact⟨(),(by focus((repeat(first|exact .nil|refine .cons rfl ?_));done)),hS.picks (by focus((repeat(first|apply Picks.all|apply Picks.nil|(refine Picks.cons (by repeat(first|apply Take.head|apply Take.tail)) ?_)|apply Picks.drop));done))⟩)
       clear hS;rintro - w1 hS;refine Run.inBlock ?_;exact Run.weaken (by focus((repeat(first|exact .nil|refine .cons rfl ?_));done)) (hpost (ssL r { s with way:=t2 }) _ ⟨rfl,rfl,fun _=>rfl,hS.picks (by focus((repeat(first|apply Picks.all|apply Picks.nil|(refine Picks.cons (by repeat(first|apply Take.head|apply Take.tail)) ?_)|apply Picks.drop));done))⟩)
     · rw[if_pos h1]at hq
       obtain⟨rfl,rfl,rfl,rfl,rfl⟩:=by simpa only[Prod.mk.injEq]using hq
       clear hq hx1;repeat' first|(apply RO.op;apply OP.callF;rfl;rfl;rfl;show Cl _ 27 _ _ _;exact kD (hS.take (by focus((repeat(first|apply Has.head|apply Take.head|apply Put.head|apply Has.tail|apply Take.tail|apply Put.tail));done)));clear hS;rintro v w1 ⟨rfl,hS⟩)|refine Run.seq ?_|refine Run.region ?_|(refine RO.split ?_ ?_<;>intro hc<;>try(first|(exfalso;omega)|exact absurd rfl hc|exact Bool.noConfusion hc))|refine RO.nil ?_|refine RO.still (by exact Still.any) hS rfl ?_|refine Run.cond_true rfl ?_|refine Run.cond_false rfl ?_|refine Run.block ?_
       refine Run.inBlock ?_;exact Run.weaken (by focus((repeat(first|exact .nil|refine .cons rfl ?_));done)) (hpost (ssL r s) _ ⟨rfl,rfl,fun h=>absurd h (by decide),hS.picks (by focus((repeat(first|apply Picks.all|apply Picks.nil|(refine Picks.cons (by repeat(first|apply Take.head|apply Take.tail)) ?_)|apply Picks.drop));done))⟩)
end
theorem zHQ (r who:Int):∀(l:List Int) (st:Bool × Int),(l.foldl (zA4 r who) st).2=st.2+zCb l
 | [],st=>by simp[zCb]
 | t::l,st=>by
   rw[List.foldl_cons,zHQ r who l,zC7];unfold zA4;by_cases h:t=7
   · simp[h];omega
   · simp only[if_neg h]
     split<;>simp
theorem zEl (r:Int):∀(l:List Msg) (st:Bool × Int),(l.foldl (zA5 r) st).2=st.2+zD9 l
 | [],st=>by simp[zD9]
 | m::l,st=>by
   rw[List.foldl_cons,zEl r l];unfold zA5;rw[zHQ];unfold zD9;rw[List.map_cons,List.sum_cons];omega
theorem zIS {p:Pat}{role:Int}(h:(zBH p role).2=0):(role=0∨role=1)∧(zBH p role).1.psks=zD9 p.msgs∧zBS p=true:=by
 have h3:=zHR h;unfold zBH at h ⊢;split at h
 · exact absurd h (by simp)
 · rename_i hr
   rw[if_neg hr];split at h
   · rename_i hz;exact absurd h hz
   · rename_i hz
     rw[if_neg hz];refine⟨by omega,?_,h3⟩;simp only;rw[zEl];omega
theorem zNT {p:Pat}{role:Int}:0≤(zBH p role).1.psks∧(zBH p role).1.psks≤72:=by
 by_cases h:(zBH p role).2=0
 · obtain⟨h1,h2,h3⟩:=zIS h
   obtain⟨p1,p2,p3,p4,p5,p6,p7⟩:=zAs h3;have hb:=zCa role (false,0) p.msgs (fun m hm=>(p5 m hm).2.2.1);rw[zEl]at hb;rw[h2];simp only at hb;omega
 · unfold zBH at h ⊢
   split
   · exact⟨Int.le_refl _,(by decide:(0:Int)≤72)⟩
   · rename_i hr
     rw[if_neg hr]at h;split
     · exact⟨Int.le_refl _,(by decide:(0:Int)≤72)⟩
     · rename_i hz
       rw[if_neg hz]at h;exact absurd rfl h
theorem zQt (lim:Nat)(L:List Nd)(h:Sh)(who t:Int):Stay h (zB9 lim L h who t).2.1∧(zB9 lim L h who t).2.1.next=h.next:=by
 unfold zB9;split
 · exact⟨Stay.refl _,rfl⟩
 · exact zF4 _ _ _ _ _
theorem zGm (lim:Nat)(who:Int):∀(l:List Int) (L:List Nd) (h:Sh),Stay h (zAl lim who L h l).2.1∧(zAl lim who L h l).2.1.next=h.next
 | [],L,h=>⟨Stay.refl _,rfl⟩
 | t::l,L,h=>by
   have h1:=zQt lim L h who t;unfold zAl;split
   · have h2:=zGm lim who l (zB9 lim L h who t).1 (zB9 lim L h who t).2.1
     exact⟨h1.1.trans h2.1,h2.2.trans h1.2⟩
   · exact h1
theorem zMt {lim:Nat}{p:Pat}{role:Int}{k:Ks}{q:List Nd × Sy × Int}(h:(zAu lim p role k q).2.2=0):Stay (sh0 role p k q.2.1) (zAu lim p role k q).2.1∧(zAu lim p role k q).2.1.next=0:=by
 unfold zAu at h ⊢;split at h
 · rename_i hz;exact absurd h hz
 · rename_i hz
   rw[if_neg hz];simp only at h ⊢;have h1:=zGm lim 0 p.pre0 q.1 (sh0 role p k q.2.1);split at h
   · rename_i hz2;exact absurd h hz2
   · rename_i hz2
     rw[if_neg hz2];have h2:=zGm lim 1 p.pre1 (zAl lim 0 q.1 (sh0 role p k q.2.1) p.pre0).1 (zAl lim 0 q.1 (sh0 role p k q.2.1) p.pre0).2.1;split at h
     · rename_i hz3;exact absurd h hz3
     · rename_i hz3
       rw[if_neg hz3];exact⟨h1.1.trans h2.1,h2.2.trans h1.2⟩
theorem zON {lim:Nat}{L:List Nd}{p:Pat}{role pr:Int}{k:Ks}(h:(zBY lim L p role pr k).2.2=0):ShOk (zBY lim L p role pr k).2.1∧(zBY lim L p role pr k).2.1.p=p∧(zBY lim L p role pr k).2.1.at_=0:=by
 unfold zBY at h ⊢;split at h
 · rename_i hz;exact absurd h hz
 · rename_i hz
   rw[if_neg hz];split at h
   · exact absurd h (by decide:¬(1:Int)=0)
   · rename_i hz2
     rw[if_neg hz2];split at h
     · exact absurd h (by decide:¬(10:Int)=0)
     · rename_i hz3
       rw[if_neg hz3];obtain⟨h1,h2,h3⟩:=zIS (by simpa using hz);obtain⟨h4,h5⟩:=zMt h;have h6:zFq (zBH p role).1 (zR8 k)=true:=by simpa using hz3
       unfold zFq at h6;have h7:=congrArg NK.psks (of_decide_eq_true h6);simp only[zR8]at h7;refine⟨⟨?_,?_,?_,?_⟩,h4.p,h4.at_⟩
       · rw[h4.role];exact h1
       · rw[h4.p];exact h3
       · rw[h4.at_,h4.p];exact Nat.zero_le _
       · rw[h4.at_,h4.p,h4.psks,h5]
         simp only[sh0,zHf,List.drop_zero,Nat.zero_add];omega
section
variable {we w:World}{ρ:List (Nat × Obj)}{σ F:List HP}{pa db pb kb lim:Nat}{L:List Nd}{p:Pat}{d:Dv}{role peer pr:Int}{pv:Value}
theorem zLk (hv:Vars we)(hs:p.name.size≤100)(hp:PatR ρ pv p)(hb:d.peers.length≤100000)(hS:St we ρ (zAA pa lim L::Row db (dvL d pb kb) 208::zAC pb 8 d.peers::zAC kb 8 d.psks::F) w) :
 Cl Tryz.prog 88 [pP pa,pP db,pv,pI role,pI peer,pI pr] w fun v w' =>
  ((zAX lim L d p role peer pr).2.2≠0∧v = .tuple #[.pointer none,pI (zAX lim L d p role peer pr).2.2]∧St we ρ (zAA pa lim (zAX lim L d p role peer pr).1::Row db (dvL d pb kb) 208::zAC pb 8 d.peers::zAC kb 8 d.psks::F) w') ∨
  ((zAX lim L d p role peer pr).2.2=0∧∃sb r ρ',v = .tuple #[pP sb,pI 0]∧Over we ρ ρ'∧ShR ρ' r (zAX lim L d p role peer pr).2.1.h ∧
    St we ρ' (Row sb (sesL r (zAX lim L d p role peer pr).2.1 pa db) 102::zAA pa lim (zAX lim L d p role peer pr).1::Row db (dvL d pb kb) 208::zAC pb 8 d.peers::zAC kb 8 d.psks::F) w'):=by
 have kPe:∀{F w},St we ρ (Row db (dvL d pb kb) 208::zAC pb 8 d.peers::F) w→_:=fun hS=>zDo (k:=peer) hS
 have kPs:∀{F w},St we ρ (Row db (dvL d pb kb) 208::zAC kb 8 d.psks::F) w→_:=fun hS=>zLp (k:=peer) hS
 have kA:∀{F w},St we ρ (Row db (dvL d pb kb) 208::zAC pb 8 d.peers::F) w→_:=fun hS=>zHc (pub:=getV d.peers peer) hb hS
 have kN:∀{σ:List HP} {w:World},St we ρ σ w→_:=fun hS=>zJl (role:=role) hs hp hS
 obtain⟨q0,c0,q1,c1,qm,cm,rfl,-⟩:=hp.shape;refine Run.calls6 (n:=104) Tryz.func88 rfl rfl rfl ?_;repeat' first|(refine Qv 85 (kPe hS.tk2) ?_;clear hS;intro w1 hS)|apply Qs|apply Qr|apply Qn|refine Ql ?_|(refine Qx ?_;clear hS;intro b w1 hS)
 obtain⟨b8,hb8⟩:∃x,x=b:=⟨_,rfl⟩
 subst hb8;refine Run.midP (α:=Unit) (fun _ w=>¬(peer ≠ -1∧hasV d.peers peer=false)∧¬(peer ≠ -1∧(zDj d (getV d.peers peer)).2≠0)∧St we ρ (Row b8 [.string p.name,.slice q0 p.pre0.length c0,.slice q1 p.pre1.length c1,.slice qm p.msgs.length cm] 84::zAA pa lim L::Row db (dvL d pb kb) 208::zAC pb 8 d.peers::zAC kb 8 d.psks::F) w)
  (fun _=>[(0,pP pa),(1,pP db),(3,pI role),(4,pI peer),(5,pI pr),(8,pP b8),(14,pI (getV d.peers peer))]) ?_ ?_
 rotate_left
 · intro hpost
   by_cases h1:peer = -1
   · rw[show decide (peer ≠ -1)=false from decide_eq_false (by simpa using h1)]
     refine Qf ?_;apply Qk;exact Run.weaken (by exact Sb) (hpost () _ ⟨fun h=>h.1 h1,fun h=>h.1 h1,hS.pk⟩)
   · rw[show decide (peer ≠ -1)=true from decide_eq_true (by simpa using h1)]
     refine Qt ?_;cases h2:hasV d.peers peer
     · have hz:zAX lim L d p role peer pr=(L,ss0 .z 0,4):=by unfold zAX;rw[if_pos ⟨h1,h2⟩]
       repeat' first|apply Qs|apply Qr|apply Qn|refine Ql ?_|refine Qt ?_
       refine Qw Tryz.func88 ?_;rw[hz];exact .inl ⟨(by decide:(4:Int)≠0),rfl,hS.pk⟩
     · rw[h2]at hpost
       obtain⟨ac,hac⟩:∃x,zDj d (getV d.peers peer)=x:=⟨_,rfl⟩
       rw[hac]at kA hpost;obtain⟨a1,a2⟩:=ac;simp only at kA hpost;by_cases h3:a2=0
       · subst h3
         repeat' first|apply Qs|apply Qr|apply Qn|refine Ql ?_|refine Qf ?_
         apply Qk;repeat' first|(refine Qv 61 (kA hS.tk2) ?_;clear hS;intro w1 hS)|apply Qs|apply Qr|(apply Rs<;>intro hc<;>try(first|(exfalso;omega)|exact absurd rfl hc))|apply Qn|refine Ql ?_|refine Qf ?_
         apply Qk;exact Run.weaken (by exact Sb) (hpost () _ ⟨by simp,by simp,hS.pk⟩)
       · have hz:zAX lim L d p role peer pr=(L,ss0 .z 0,a2):=by unfold zAX;rw[if_neg (by simp[h2]),hac,if_pos ⟨h1,h3⟩]
         repeat' first|(refine Qv 61 (kA hS.tk2) ?_;clear hS;intro w1 hS)|apply Qs|apply Qr|(apply Rs<;>intro hc<;>try exact No)|apply Qn|refine Ql ?_|refine Qt ?_|refine Qf ?_|apply Qk
         refine Qw Tryz.func88 ?_;rw[hz];exact .inl ⟨h3,rfl,hS.pk⟩
 · clear hS kPe kA
   rintro - w ⟨hn1,hn2,hS⟩;have hz:zAX lim L d p role peer pr=((zBY lim L p role pr (zKU (zBH p role).1 d peer)).1,ss0 (zBY lim L p role pr (zKU (zBH p role).1 d peer)).2.1 (if(zBH p role).1.rs then peer else -1),(zBY lim L p role pr (zKU (zBH p role).1 d peer)).2.2):=by
    unfold zAX;rw[if_neg hn1,if_neg hn2]
   rw[hz];clear hn1 hn2 hz;have hps:=zNT (p:=p) (role:=role);generalize zBH p role=nq at kN hps;obtain⟨nn,ne⟩:=nq;simp only at kN hps ⊢;generalize hkk:getV d.peers peer=key;obtain⟨ns,ne2,nrs,nre,nps⟩:=nn;repeat' first|(refine Qv 146 (kN hS) ?_;clear hS;intro w1 hS)|(refine Qv 96 (zEh (cs:=[]) (d:=d) (pb:=pb) (kb:=kb) (by exact Rd.any) hS) ?_;clear hS;intro w1 hS)|apply Qs|apply Qr|apply Qn|refine Ql ?_|(refine Qa ?_;clear hS;intro b w1 hS)|(refine Qd ?_;clear hS;intro w1 hS)
   rename_i x1 b18 x2 x3 x4 x5;obtain⟨b20,hb20⟩:∃x,x=b:=⟨_,rfl⟩
   subst hb20;obtain⟨m,rfl⟩:∃m:Nat,nps=m:=⟨nps.toNat,by have:=hps.1;simp only at this;omega⟩
   replace hps:(m:Int)≤72:=hps.2;obtain⟨rsV,hrsV⟩:∃x:Int,x=if nrs then key else 0:=⟨_,rfl⟩
   obtain⟨kk,hk2⟩:∃k:Ks,k=zKU ⟨ns,ne2,nrs,nre,(m:Int)⟩ d peer:=⟨_,rfl⟩
   have hkk1:kk.s=d.secret:=by rw[hk2];rfl
   have hkk2:kk.e=0:=by rw[hk2];rfl
   have hkk3:kk.rs=rsV:=by rw[hk2,hrsV,← hkk];rfl
   have hkk4:kk.re=0:=by rw[hk2];rfl
   have hkk5:kk.psks=if 0<m∧getV d.psks peer=0 then [] else List.replicate m (getV d.psks peer):=by
    rw[hk2];show(if(0:Int)<(m:Int)∧_ then _ else List.replicate (m:Int).toNat _)=_;rw[Int.toNat_natCast];by_cases h0:0<m<;>simp[h0]
   rw[← hk2];refine Run.midP (α:=Unit) (fun _ w=>St we ρ (Row b20 [pI d.secret,pI 0,pI rsV,pI 0,.slice none 0 0] 86::Row b18 [.bool ns,.bool ne2,.bool nrs,.bool nre,pI m] 242::Row b8 [.string p.name,.slice q0 p.pre0.length c0,.slice q1 p.pre1.length c1,.slice qm p.msgs.length cm] 84::zAA pa lim L::Row db (dvL d pb kb) 208::zAC pb 8 d.peers::zAC kb 8 d.psks::F) w)
    (fun _=>[(0,pP pa),(1,pP db),(3,pI role),(5,pI pr),(8,pP b8),(18,pP b18),(20,pP b20),(21,pI (if nrs then peer else -1)),(4,pI peer)]) ?_ ?_
   rotate_left
   · intro hpost
     cases nrs
     · simp only[Bool.false_eq_true,if_false]at hrsV hpost
       subst hrsV;refine Qf ?_;apply Qk;exact Run.weaken (by exact Sb) (hpost () _ hS.pk)
     · simp only[if_true]at hrsV hpost
       subst hrsV;refine Qt ?_;apply Qr;repeat' first|refine Ql ?_|(refine Qd ?_;clear hS;intro w1 hS)
       apply Qn;exact Run.weaken (by exact Sb) (hpost () _ hS.pk)
   clear hS kN;rintro - w hS;obtain⟨ps,hpsv⟩:∃x,getV d.psks peer=x:=⟨_,rfl⟩
   rw[hpsv]at kPs hkk5;repeat' first|(refine Qv 97 (kPs hS.tk2) ?_;clear hS;intro w1 hS)|apply Qs|apply Qr|apply Qn|refine Ql ?_|apply Qb
   refine Run.while (fun x:Nat × Value=>[(0,pP pa),(1,pP db),(3,pI role),(5,pI pr),(8,pP b8),(18,pP b18),(20,pP b20),(21,pI (if nrs then peer else -1)),(22,pI ps),(66,pI m),(67,pI x.1)])
    (fun x w=>x.1≤m∧St we ρ (Vec 3 1 x.2 x.1 ((List.replicate x.1 ps).flatMap intL)::Row b20 [pI d.secret,pI 0,pI rsV,pI 0,x.2] 86::Row b18 [.bool ns,.bool ne2,.bool nrs,.bool nre,pI m] 242::Row b8 [.string p.name,.slice q0 p.pre0.length c0,.slice q1 p.pre1.length c1,.slice qm p.msgs.length cm] 84::zAA pa lim L::Row db (dvL d pb kb) 208::zAC pb 8 d.peers::zAC kb 8 d.psks::F) w) (fun x=>m - x.1) (0,.slice none 0 0) ⟨by simp,zAh hS.pk⟩ (by exact Sb) ?_
   clear hS;rintro⟨i,tv⟩ w ⟨hi,hS⟩ ih;simp only at hi hS ih ⊢;obtain⟨tq,tc,rfl⟩:=zAG hS;by_cases hlt:i<m
   · replace ih:=fun v w h=>ih (i+1,v) w h (by simp only;omega)
     have hfl:(List.replicate (i+1) ps).flatMap intL=(List.replicate i ps).flatMap intL++[pI ps]:=by
      rw[List.replicate_succ',List.flatMap_append];rfl
     simp only[hfl]at ih;generalize (List.replicate i ps).flatMap intL=xs at hS ih;repeat' first|(apply RO.op;apply OP.append (size:=1) (bytes:=8) (k:=1) (news:=[pI ps]) hS;rfl;rfl;rfl;rfl;rfl;rfl;rfl;rfl;exact(by omega);exact An;(exact Rd.any);rfl;rfl;exact(by intro v hv;simp at hv;subst hv;rfl);(exact(by unfold maxLen;omega));(exact(by omega));rfl;clear hS;intro v2 w1 hS;obtain⟨pk2,capk2,rfl⟩:=zAG hS)|apply Qs|apply Qr|(apply Rs<;>intro hc<;>try exact No)|apply Qn|refine Ql ?_|(refine Qd ?_;clear hS;intro w1 hS)|(refine Qg ?_;clear hS;intro b w1 hS)|refine Qt ?_|apply Qk|apply Qb|apply Qi
     exact Run.weaken (e':=[(0,pP pa),(1,pP db),(3,pI role),(5,pI pr),(8,pP b8),(18,pP b18),(20,pP b20),(21,pI (if nrs then peer else -1)),(22,pI ps),(66,pI m),(67,pI ((i+1:Nat):Int))]) (by exact Sb) (ih (.slice pk2 (i+1) capk2) _ ⟨by omega,hS.pk⟩)
   · obtain rfl:i=m:=by omega
     clear ih;have hkc:∀q:Value,ksL kk q=[pI d.secret,pI 0,pI rsV,pI 0,q]:=by intro q;unfold ksL;rw[hkk1,hkk2,hkk3,hkk4]
     repeat' first|apply Qs|apply Qr|(apply Rs<;>intro hc<;>try(first|(exfalso;omega)|exact absurd rfl hc))|apply Qn|refine Ql ?_
     refine Qf ?_;refine Qe ?_;apply Qs;refine Run.midP (α:=Option Addr × Nat × List (Nat × Obj)) (fun a w=>Over we ρ a.2.2∧Sl a.2.2 intL 1 (.slice a.1 kk.psks.length a.2.1) kk.psks∧St we a.2.2 (Row b20 (ksL kk (.slice a.1 kk.psks.length a.2.1)) 86::Row b8 [.string p.name,.slice q0 p.pre0.length c0,.slice q1 p.pre1.length c1,.slice qm p.msgs.length cm] 84::zAA pa lim L::Row db (dvL d pb kb) 208::zAC pb 8 d.peers::zAC kb 8 d.psks::F) w)
      (fun _=>[(0,pP pa),(1,pP db),(3,pI role),(5,pI pr),(8,pP b8),(20,pP b20),(21,pI (if nrs then peer else -1))]) ?_ ?_
     · clear hS
       rintro⟨fq,fc,ρ2⟩ w ⟨o2,s2,hS⟩;simp only at o2 s2 hS ⊢;have hkl:kk.psks.length≤1000:=by
        rw[hkk5];split
        · simp
        · rw[List.length_replicate];omega
       have kSt:∀{F w},St we ρ2 (zAA pa lim L::F) w→_:=fun hS=>zMs (role:=role) (pr:=pr) hv hs (hp.mono o2.sub) s2 hkl hS
       generalize zBY lim L p role pr kk=z at kSt;obtain⟨L1,h,e⟩:=z;simp only at kSt ⊢;by_cases he:e=0
       · subst he
         repeat' first|(refine Qc 147 (c:=kSt hS.tk) (k':=?_);clear hS;rintro v w1 ⟨r,ρ3,rfl,o3,hsh,hS⟩;simp only[zAg,if_true])|(refine Ql ?_ (h:=by apply Still.loadAgg (m:=17);rfl;rfl;rfl;(exact Rd.any);rfl;rfl))|apply Qs|apply Qr|(apply Rs<;>intro hc<;>try exact No)|apply Qn|refine Ql ?_|(refine Qx ?_;clear hS;intro b w1 hS)|(refine Qa ?_;clear hS;intro b w1 hS)|(refine Qd ?_;clear hS;intro w1 hS)|refine Qf ?_|apply Qk
         refine Qw Tryz.func88 ?_;refine .inr ⟨by first|rfl|trivial,_,r,ρ3,rfl,o2.trans o3,hsh rfl,hS.pk⟩
       · repeat' first|(refine Qc 147 (c:=kSt hS.tk) (k':=?_);clear hS;rintro v w1 ⟨r,ρ3,rfl,o3,hsh,hS⟩;simp only[zAg,if_neg he])|apply Qs|apply Qr|(apply Rs<;>intro hc<;>try exact No)|apply Qn|refine Ql ?_|(refine Qa ?_;clear hS;intro b w1 hS)|(refine Qd ?_;clear hS;intro w1 hS)|refine Qt ?_
         refine Qw Tryz.func88 ?_;exact .inl ⟨he,rfl,o2.back (o3.back hS.pk)⟩
     intro hpost;by_cases hn0:0<i∧ps=0
     · rw[if_pos hn0]at hkk5
       obtain⟨hn1,rfl⟩:=hn0;repeat' first|apply Qs|apply Qr|(apply Rs<;>intro hc<;>try(first|(exfalso;omega)|exact absurd rfl hc))|apply Qn|refine Ql ?_|refine Qy ?_
       refine Qt ?_;apply Qr;repeat' first|refine Ql ?_|(refine Qd ?_;clear hS;intro w1 hS)
       apply Qn;refine Run.weaken (by exact Sb) (hpost (none,0,ρ) _ ⟨Over.refl _ _,?_,?_⟩)
       · rw[hkk5]
         exact⟨⟨none,0,rfl,by simp,by simp,fun h=>by simp at h⟩⟩
       · simp only
         rw[hkc,hkk5];exact hS.pk
     · rw[if_neg hn0]at hkk5
       have hkl:kk.psks.length=i:=by rw[hkk5,List.length_replicate]
       have hT:St we ρ (Vec 3 1 (.slice tq i tc) kk.psks.length (kk.psks.flatMap intL)::Row b20 [pI d.secret,pI 0,pI rsV,pI 0,.slice tq i tc] 86::Row b18 [.bool ns,.bool ne2,.bool nrs,.bool nre,pI i] 242::Row b8 [.string p.name,.slice q0 p.pre0.length c0,.slice q1 p.pre1.length c1,.slice qm p.msgs.length cm] 84::zAA pa lim L::Row db (dvL d pb kb) 208::zAC pb 8 d.peers::zAC kb 8 d.psks::F) w:=by
        rw[hkk5,List.length_replicate];exact hS
       clear hS;obtain⟨ρ2,o2,s2,hS⟩:=zAH zAZ hT;clear hT;repeat' first|apply Qs|apply Qr|(apply Rs<;>intro hc<;>try(first|(exfalso;omega)|exact absurd rfl hc))|apply Qn|refine Ql ?_|refine Qy ?_|refine Qz ?_
       all_goals
        refine Qf ?_;apply Qk;refine Run.weaken (by exact Sb) (hpost (tq,tc,ρ2) _ ⟨o2,?_,?_⟩)
        · simp only
          rw[hkl];exact s2
        · simp only
          rw[hkc,hkl];exact hS.pk
end
section
variable {we w:World}{ρ:List (Nat × Obj)}{σ F:List HP}{sb p db lim:Nat}{L:List Nd}{r:Rep}{s x:Ss}
theorem zEC (hS:St we ρ (Row sb (sesL r s p db) 102::F) w) :
 Cl Tryz.prog 16 [pP sb] w fun v w'=>v = .agg (ntL s.note).toArray∧St we ρ (Row sb (sesL r s p db) 102::F) w':=by
 refine Run.calls1 (n:=8) Tryz.func16 rfl rfl rfl ?_;repeat' first|(refine Qm ?_)|apply Qs|apply Qr|apply Qn|refine Ql ?_|(refine Qa ?_;clear hS;intro b w1 hS)|(refine Qd ?_;clear hS;intro w1 hS)
 refine Qw Tryz.func16 ?_;exact Xp
theorem zF8 (hS:St we ρ (Row sb (sesL r s p db) 102::F) w) :
 Cl Tryz.prog 15 [pP sb] w fun v w'=>v = .bool s.dead∧St we ρ (Row sb (sesL r s p db) 102::F) w':=by
 refine Run.calls1 (n:=8) Tryz.func15 rfl rfl rfl ?_;repeat' first|(refine Qm ?_)|apply Qs|apply Qr|apply Qn|refine Ql ?_
 refine Qw Tryz.func15 ?_;exact Xp
theorem zKT (hS:St we ρ (Row sb (sesL r s p db) 102::F) w) :
 Cl Tryz.prog 165 [pP sb] w fun v w'=>v = pI s.peer∧St we ρ (Row sb (sesL r s p db) 102::F) w':=by
 refine Run.calls1 (n:=8) Tryz.func165 rfl rfl rfl ?_;repeat' first|(refine Qm ?_)|apply Qs|apply Qr|apply Qn|refine Ql ?_
 refine Qw Tryz.func165 ?_;exact Xp
end
end Go.Proofs.YtcikdogkkgefcaaGreatDoor
