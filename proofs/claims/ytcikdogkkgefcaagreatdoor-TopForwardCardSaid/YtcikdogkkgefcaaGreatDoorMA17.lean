/- valid.token, message, end, OneWay: all of a message, and a pattern's end. valid.begin: what is told beforehand. valid.end, and valid.Check whole. valid.Check whole. -/
import Derived.Test.YtcikdogkkgefcaaGreatDoorMA15
import Derived.Test.YtcikdogkkgefcaaGreatDoorMA16
namespace Go.Proofs.YtcikdogkkgefcaaGreatDoor
set_option maxRecDepth 8000
set_option maxHeartbeats 16000000
set_option linter.unusedVariables false
set_option linter.unusedSimpArgs false
open Go Go.RowKit
section
variable {we w:World}{ρ:List (Nat × Obj)}{σ F:List HP}{v:Value}
theorem zMq {s:VS}{b:Nat}{who t:Int}(hw:who=0∨who=1)(ht:1≤t∧t≤7)(hS:St we ρ (Row b (vsL s) 343::F) w) :
 Cl Tryz.prog 271 [pP b,pI who,pI t] w fun u w'=>u = pI (zAx s who t).2∧St we ρ (Row b (vsL (zAx s who t).1) 343::F) w':=by
 rcases(show(t=1∨t=2)∨(t=3∨t=4∨t=5∨t=6)∨t=7 by omega)with h|h|h
 · exact zS8 hw h hS
 · exact zS9 hw h hS
 · exact zQu hw h hS
theorem zLP {s:VS}{who:Int}{l:List Int}{i:Nat}(h:i<l.length):zA2 s who (l.drop i)=if 0<(zAx s who l[i]).2 then zAx s who l[i] else zA2 (zAx s who l[i]).1 who (l.drop (i+1)):=by
 rw[List.drop_eq_getElem_cons h];rfl
theorem zGO {s:VS}{sb:Nat}{who:Int}{l:List Int}(hw:who=0∨who=1)(hl:Sl ρ intL 1 v l)(ht:∀t∈l,1≤t∧t≤7)(hS:St we ρ (Row sb (vsL s) 343::F) w) :
 Cl Tryz.prog 240 [pP sb,.agg #[pI who,v]] w fun u w'=>u = pI (msgV s ⟨who,l⟩).2∧St we ρ (Row sb (vsL (msgV s ⟨who,l⟩).1) 343::F) w':=by
 obtain⟨p1,c1,rfl,k1,k2,-⟩:=hl.val;unfold maxLen at k2;refine Run.calls2 (n:=33) Tryz.func240 rfl rfl rfl ?_;repeat' first|apply Qs|apply Qr|apply Qn|refine Ql ?_|(refine Qx ?_;clear hS;intro b w1 hS)|apply Qb
 refine Run.while (fun q:Nat × VS=>[(0,pP sb),(3,pP b),(9,.slice p1 l.length c1),(10,pI l.length),(11,pI q.1)])
  (fun q w=>q.1≤l.length∧zA2 s who l=zA2 q.2 who (l.drop q.1)∧St we ρ (Row b [pI who,.slice p1 l.length c1] 137::Row sb (vsL q.2) 343::F) w) (fun q=>l.length - q.1) (0,s) ⟨by simp,by simp,hS.pk⟩ (by exact Sb) ?_
 clear hS;rintro⟨i,s2⟩ w ⟨hi,htk,hS⟩ ih;simp only at hi htk hS ih;by_cases hlt:i<l.length
 · obtain⟨b0,o0,cs0,e0,f0,rfl,m0,h0⟩:=hl.int hlt
   have hd:=zLP (s:=s2) (who:=who) hlt;have hin:=ht _ (List.getElem_mem hlt);generalize l[i]=x at hd h0 hin;repeat' first|(refine Ql ?_ (h:=by apply Still.load;rfl;rfl;exact Rd.ro m0;exact h0))|(refine Qv 271 (zMq (s:=s2) hw hin hS.tk) ?_;clear hS;intro w1 hS)|apply Qs|apply Qr|(apply Rs<;>intro hc<;>try exact No)|apply Qn|refine Ql ?_|refine Qt ?_|refine Qf ?_|apply Qk|apply Qb|apply Qi
   · have hr:0<(zAx s2 who x).2:=by assumption
     refine Qw Tryz.func240 ?_;have hm:msgV s ⟨who,l⟩=zAx s2 who x:=by
      unfold msgV;simp only[htk,hd,if_pos hr]
     rw[hm];exact Xp
   · have hr:¬ 0<(zAx s2 who x).2:=by assumption
     refine Run.weaken (by exact Sb) (ih (i+1,(zAx s2 who x).1) _ ⟨?_,?_,?_⟩ ?_)
     · simp only;omega
     · rw[htk,hd,if_neg hr]
     · exact hS.pk
     · simp only;omega
 · have hdr:l.drop i=[]:=List.drop_eq_nil_of_le (by omega)
   rw[hdr]at htk;have hm:msgV s ⟨who,l⟩=if s2.keyed=true then(s2,zFa s2 who) else(s2,0):=by
    unfold msgV;simp only[htk,zA2];rw[if_neg (by omega)]
   repeat' first|(refine Qv 272 (zBh (s:=s2) hw hS.tk) ?_;clear hS;intro w1 hS)|(apply RO.loadB hS;rfl;rfl;(exact Rd.any);rfl;rfl;all_goals(intro hb;try exact Bool.noConfusion hb))|apply Qs|apply Qr|(apply Rs<;>intro hc<;>try exact No)|apply Qn|refine Ql ?_|refine Qt ?_|refine Qf ?_|apply Qk|refine Qe ?_
   · have hk:s2.keyed=true:=by assumption
     refine Qw Tryz.func240 ?_;rw[hm,if_pos hk];exact Xp
   · have hk:s2.keyed=false:=by assumption
     refine Qw Tryz.func240 ?_;rw[hm,if_neg (by simp[hk])];exact Xp
end
def preK (p:Pat):Nat→VS
 | 0=>VS.z
 | 1=>preV VS.z 0 p.pre0
 | _=>preV (preV VS.z 0 p.pre0) 1 p.pre1
theorem zLr {s:VS}{who:Int}{l:List Int}{i:Nat}(h:i<l.length):preV s who (l.take (i+1))=(preV s who (l.take i)).add who l[i]:=by
 unfold preV;rw[List.take_succ_eq_append_getElem h,List.foldl_append];rfl
theorem zGt (who:Int):∀(l:List Int) (s:VS),s.mode=false∧s.keyed=false→(preV s who l).mode=false∧(preV s who l).keyed=false
 | [],s,h=>h
 | t::l,s,h=>zGt who l (s.add who t) (by unfold VS.add;(repeat' split)<;>exact h)
theorem zPZ (p:Pat):(preK p 2).mode=false∧(preK p 2).keyed=false:=zGt 1 _ _ (zGt 0 _ _ ⟨rfl,rfl⟩)
section
variable {we w:World}{ρ:List (Nat × Obj)}{σ F:List HP}{v:Value}
theorem zNo {x:Int × Value}{m:Msg}(h1:x.1=m.who)(h2:Sl ρ intL 1 x.2 m.t)(hS:St we ρ σ w) :
 Cl Tryz.prog 270 [.agg (msgL x).toArray] w fun u w'=>u = .bool (decide ((7:Int)∈m.t))∧St we ρ σ w':=by
 obtain⟨wh,tv⟩:=x;simp only at h1 h2;refine Run.calls1 (n:=6) Tryz.func270 rfl rfl rfl ?_;repeat' first|(refine Qv 60 (zFs h2 hS) ?_;clear hS;intro w1 hS)|apply Qs|apply Qr|(apply Rs<;>intro hc<;>try exact No)|apply Qn|refine Ql ?_|(refine Qx ?_;clear hS;intro b w1 hS)
 all_goals
  have hd:=hc;refine Qw Tryz.func270 ?_;exact⟨by simp[hd,tup],hS.pk⟩
theorem zLI {p:Pat}(hv:PatR ρ v p)(h0:∀t∈p.pre0,t=1∨t=2)(h1:∀t∈p.pre1,t=1∨t=2)(hS:St we ρ σ w) :
 Cl Tryz.prog 239 [v] w fun u w'=>u = .agg (vsL (zE0 p)).toArray∧St we ρ σ w':=by
 obtain⟨hl0,hl1,hlm,hr⟩:=hv;rename_i v0 v1 vm ms;have hlen:=hr.length;have hany:(p.msgs.map fun m=>decide ((7:Int)∈m.t)).any id=p.msgs.any fun m=>decide ((7:Int)∈m.t):=by simp[List.any_map,Function.comp_def]
 have hw:∀(i:Nat) (h:i<ms.length) (h':i<(p.msgs.map fun m=>decide ((7:Int)∈m.t)).length) (σ:List HP) (w:World),St we ρ σ w →
  Cl Tryz.prog 270 (([]:List Value)++[Value.agg (msgL ms[i]).toArray]++[]) w fun v w'=>v = .bool (p.msgs.map fun m=>decide ((7:Int)∈m.t))[i]∧St we ρ σ w':=by
  intro i h h' σ w hS;obtain⟨m,v,e1,e2,e3⟩:=hr.at h;have e4:(p.msgs.map fun m=>decide ((7:Int)∈m.t))[i]=decide ((7:Int)∈m.t):=by
   rw[List.getElem_map];have:=List.getElem?_eq_some_iff.1 e1;rw[this.2]
  rw[e4,e2];exact zNo (x:=(m.who,v)) rfl e3 hS
 have hq:(p.msgs.map fun m=>decide ((7:Int)∈m.t)).length=ms.length:=by simp[hlen]
 obtain⟨q0,c0,rfl,k1,k2,-⟩:=hl0.val;obtain⟨q1,c1,rfl,k3,k4,-⟩:=hl1.val;obtain⟨qm,cm,rfl,k5,k6,-⟩:=hlm.val;unfold maxLen at k2 k4 k6;have kk0:preK p 0=VS.z:=rfl;have kk1:preK p 1=preV (preK p 0) 0 p.pre0:=rfl;have kk2:preK p 2=preV (preK p 1) 1 p.pre1:=rfl;refine Run.calls1 (n:=47) Tryz.func239 rfl rfl rfl ?_;repeat' first|apply Qs|apply Qr|apply Qn|refine Ql ?_|(refine Qx ?_;clear hS;intro b w1 hS)|(refine Qa ?_;clear hS;intro b w1 hS)|apply Qb
 rename_i b1 w1' b2 w2';refine Run.while (fun k:Nat=>[(1,pP b1),(2,pP b2),(3,pP b),(9,.agg #[.slice q0 p.pre0.length c0,.slice q1 p.pre1.length c1]),(10,pI k)])
  (fun k w=>k≤2∧St we ρ (Row b (vsL (preK p k)) 343::Row b2 (vsL VS.z) 343::Row b1 [.string p.name,.slice q0 p.pre0.length c0,.slice q1 p.pre1.length c1,.slice qm ms.length cm] 84 :: σ) w) (fun k=>2 - k) 0 ⟨by omega,hS.pk⟩ (by exact Sb) ?_
 clear hS;rintro k w ⟨hk,hS⟩ ih;obtain rfl|rfl|rfl:k=0∨k=1∨k=2:=by omega
 ·
  rw[kk0]at hS;repeat' first|apply Qs|apply Qr|(apply Rs<;>intro hc<;>try exact No)|apply Qn|refine Ql ?_|refine Qt ?_|apply Qk|apply Qb
  refine Run.while (fun i:Nat=>[(1,pP b1),(2,pP b2),(3,pP b),(4,pI 0),(9,.agg #[.slice q0 p.pre0.length c0,.slice q1 p.pre1.length c1]),(10,pI 0),(14,.slice q0 p.pre0.length c0),(15,pI p.pre0.length),(16,pI i)])
   (fun i w=>i≤p.pre0.length∧St we ρ (Row b (vsL (preV (preK p 0) 0 (p.pre0.take i))) 343::Row b2 (vsL VS.z) 343::Row b1 [.string p.name,.slice q0 p.pre0.length c0,.slice q1 p.pre1.length c1,.slice qm ms.length cm] 84 :: σ) w) (fun i=>p.pre0.length - i) 0 ⟨by omega,hS.pk⟩ (by exact Sb) ?_
  clear hS;rintro i w ⟨hi,hS⟩ ih2;by_cases hlt:i<p.pre0.length
  · obtain⟨b0,o0,cs0,e0,f0,rfl,m0,g0⟩:=hl0.int hlt
    have hin:=h0 _ (List.getElem_mem hlt);have hput:=zLr (s:=preK p 0) (who:=0) hlt;generalize p.pre0[i]=x at g0 hin hput;generalize preV (preK p 0) 0 (p.pre0.take i)=s at hS hput;generalize hs2:preV (preK p 0) 0 (p.pre0.take (i+1))=s2 at hput;rcases hin with rfl|rfl
    all_goals
     repeat' first|(refine Ql ?_ (h:=by apply Still.load;rfl;rfl;exact Rd.ro m0;exact g0))|(refine Ql ?_ (h:=Sx))|apply Qs|apply Qr|(apply Rs<;>intro hc<;>try exact No)|apply Qn|refine Ql ?_|(refine Qd ?_;clear hS;intro w1 hS)|refine Qt ?_|apply Qk|apply Qb|apply Qi
     refine Run.weaken (by exact Sb) (ih2 (i+1) _ ⟨by omega,?_⟩ (by omega));rw[hs2,hput];exact hS.pk
  · obtain rfl:i=p.pre0.length:=by omega
    rw[List.take_of_length_le (Nat.le_refl _)]at hS;repeat' first|apply Qs|apply Qr|(apply Rs<;>intro hc<;>try exact No)|apply Qn|refine Ql ?_|refine Qf ?_|apply Qi|refine Qe ?_
    refine Run.weaken (by exact Sb) (ih 1 _ ⟨by omega,?_⟩ (by omega));exact hS.pk
 ·
  rw[kk1]at hS;repeat' first|apply Qs|apply Qr|(apply Rs<;>intro hc<;>try exact No)|apply Qn|refine Ql ?_|refine Qt ?_|apply Qk|apply Qb
  refine Run.while (fun i:Nat=>[(1,pP b1),(2,pP b2),(3,pP b),(4,pI 1),(9,.agg #[.slice q0 p.pre0.length c0,.slice q1 p.pre1.length c1]),(10,pI 1),(14,.slice q1 p.pre1.length c1),(15,pI p.pre1.length),(16,pI i)])
   (fun i w=>i≤p.pre1.length∧St we ρ (Row b (vsL (preV (preK p 1) 1 (p.pre1.take i))) 343::Row b2 (vsL VS.z) 343::Row b1 [.string p.name,.slice q0 p.pre0.length c0,.slice q1 p.pre1.length c1,.slice qm ms.length cm] 84 :: σ) w) (fun i=>p.pre1.length - i) 0 ⟨by omega,hS.pk⟩ (by exact Sb) ?_
  clear hS;rintro i w ⟨hi,hS⟩ ih2;by_cases hlt:i<p.pre1.length
  · obtain⟨b0,o0,cs0,e0,f0,rfl,m0,g0⟩:=hl1.int hlt
    have hin:=h1 _ (List.getElem_mem hlt);have hput:=zLr (s:=preK p 1) (who:=1) hlt;generalize p.pre1[i]=x at g0 hin hput;generalize preV (preK p 1) 1 (p.pre1.take i)=s at hS hput;generalize hs2:preV (preK p 1) 1 (p.pre1.take (i+1))=s2 at hput;rcases hin with rfl|rfl
    all_goals
     repeat' first|(refine Ql ?_ (h:=by apply Still.load;rfl;rfl;exact Rd.ro m0;exact g0))|(refine Ql ?_ (h:=Sx))|apply Qs|apply Qr|(apply Rs<;>intro hc<;>try exact No)|apply Qn|refine Ql ?_|(refine Qd ?_;clear hS;intro w1 hS)|refine Qt ?_|apply Qk|apply Qb|apply Qi
     refine Run.weaken (by exact Sb) (ih2 (i+1) _ ⟨by omega,?_⟩ (by omega));rw[hs2,hput];exact hS.pk
  · obtain rfl:i=p.pre1.length:=by omega
    rw[List.take_of_length_le (Nat.le_refl _)]at hS;repeat' first|apply Qs|apply Qr|(apply Rs<;>intro hc<;>try exact No)|apply Qn|refine Ql ?_|refine Qf ?_|apply Qi|refine Qe ?_
    refine Run.weaken (by exact Sb) (ih 2 _ ⟨by omega,?_⟩ (by omega));exact hS.pk
 · have hm:=zPZ p
   have hbv:zE0 p = { preK p 2 with mode:=p.msgs.any fun m=>decide ((7:Int)∈m.t),keyed:=(p.msgs.any fun m=>decide ((7:Int)∈m.t)) && ((preK p 2).e0 || (preK p 2).e1) }:=rfl;have hC:=fun σ w hS=>zCp (we:=we) (ρ := ρ) (σ := σ) (w:=w) (cs:=[]) (p.msgs.map fun m=>decide ((7:Int)∈m.t)) hq hlm rfl (fun i h h' w hS=>hw i h h' _ _ hS) hS
   rw[hany]at hC;clear hw kk0 kk1 kk2 ih;generalize preK p 2=s at hS hbv hm;generalize (p.msgs.any fun m=>decide ((7:Int)∈m.t))=M at hC hbv;obtain⟨e0,s0,e1,s1,m3,m4,m5,m6,m7,mo,ke⟩:=s;obtain⟨rfl,rfl⟩:=hm;rw[hbv];cases M<;>cases e0<;>cases e1;all_goals
    repeat' first|(refine Qv 248 (hC _ _ hS) ?_;clear hS;intro w1 hS)|(refine Ql ?_ (h:=Sx))|apply Qs|apply Qr|(apply Rs<;>intro hc<;>try exact No)|apply Qn|refine Ql ?_|(refine Qd ?_;clear hS;intro w1 hS)|refine Qy ?_|refine Qz ?_|refine Qu ?_|refine Qf ?_|refine Qe ?_
    refine Qw Tryz.func239 ?_;exact Xp
end
section
variable {we w:World}{ρ:List (Nat × Obj)}{σ F:List HP}{v:Value}
theorem zEm {q:Option Addr}{c:Nat}{ms:List (Int × Value)}{l:List Msg}(hm:Sl ρ msgL 2 (.slice q ms.length c) ms)(hr:MsR ρ ms l){i:Nat}(hi:i<ms.length) :
 ∃b off cs el fr m tv,q=some ⟨b,off,none⟩∧(b,Obj.cells (List.toArray cs) el fr) ∈ ρ∧cs[off+i*2]? = some (pI m.who)∧cs[off+i*2+1]? = some tv∧(cs.drop (off+i*2)).take 2=[pI m.who,tv]∧l[i]? = some m∧Sl ρ intL 1 tv m.t:=by
 obtain⟨b,off,cs,el,fr,e1,e2,e3⟩:=hm.msg hi;obtain⟨m,tv,g1,g2,g3⟩:=hr.at hi;rw[g2]at e3;exact⟨b,off,cs,el,fr,m,tv,e1,e2,(zQo e3).1,(zQo e3).2,e3,g1,g3⟩
theorem zHN {nm:ByteArray}{v0 v1:Value}{q:Option Addr}{k c:Nat}(hS:St we ρ σ w) :
 Cl Tryz.prog 273 [.agg #[.string nm,v0,v1,.slice q k c]] w fun u w'=>u = .bool (decide ((k:Int)=1))∧St we ρ σ w':=by
 refine Run.calls1 (n:=7) Tryz.func273 rfl rfl rfl ?_;repeat' first|apply Qs|apply Qr|(apply Rs<;>intro hc<;>try exact No)|apply Qn|refine Ql ?_|(refine Qx ?_;clear hS;intro b w1 hS)
 all_goals
  have hd:=hc;refine Qw Tryz.func273 ?_;exact⟨by simp[hd,tup],hS.pk⟩
theorem zSV {s:VS}{sb:Nat}{p:Pat}(hv:PatR ρ v p)(hne:p.msgs≠[])(hw:∀m∈p.msgs,m.who=0∨m.who=1)(hS:St we ρ (Row sb (vsL s) 343::F) w) :
 Cl Tryz.prog 241 [pP sb,v] w fun u w'=>u = pI (endV s p)∧St we ρ (Row sb (vsL s) 343::F) w':=by
 obtain⟨hl0,hl1,hlm,hr⟩:=hv;rename_i v0 v1 vm ms;have hlen:=hr.length;have hpos:0<ms.length:=by rw[hlen];exact List.length_pos_iff.2 hne
 obtain⟨qm,cm,rfl,k5,k6,-⟩:=hlm.val;unfold maxLen at k6;obtain⟨mb,off,cs,el,fr,m,tv,rfl,hmem,g1,g2,g3,g4,g5⟩:=zEm hlm hr hpos;have hm0:(p.msgs.map Msg.who).getD 0 0=m.who:=by simp[List.getD_eq_getElem?_getD,g4]
 have hmw:=hw m (List.mem_of_getElem? g4);have n0:=zKW s 0;have n1:=zKW s 1;unfold endV;rw[hm0];by_cases hone:(ms.length:Int)=1
 · have h1:p.msgs.length=1:=by omega
   rcases hmw with hz|hz
   all_goals
    rw[hz]at g1 ⊢;refine Run.calls2 (n:=33) Tryz.func241 rfl rfl rfl ?_;repeat' first|refine Run.loop ?_|refine Run.inLoop ?_|(refine Ql ?_ (h:=by apply Still.load;rfl;rfl;exact Rd.ro hmem;exact g1))|(refine Qv 273 (zHN hS) ?_;clear hS;intro w1 hS)|(refine Qv 272 (zBh (who:=0) (Or.inl rfl) hS.tk) ?_;clear hS;intro w1 hS)|(refine Qv 272 (zBh (who:=1) (Or.inr rfl) hS.tk) ?_;clear hS;intro w1 hS)|(apply RO.loadB hS;rfl;rfl;(exact Rd.any);rfl;rfl;all_goals(intro hb;try exact Bool.noConfusion hb))|apply Qs|apply Qr|(apply Rs<;>intro hc<;>try exact No)|apply Qn|refine Ql ?_|(refine Qx ?_;clear hS;intro b w1 hS)|refine Qy ?_|refine Qt ?_|refine Qf ?_|apply Qk|apply Qb|apply Qi|refine Qe ?_
    all_goals
     refine Qw Tryz.func241 ?_;refine⟨?_,hS.pk⟩;clear hS;simp_all [tup];try omega
 · have h1:¬p.msgs.length=1:=by omega
   refine Run.calls2 (n:=33) Tryz.func241 rfl rfl rfl ?_;repeat' first|refine Run.loop ?_|refine Run.inLoop ?_|(refine Qv 273 (zHN hS) ?_;clear hS;intro w1 hS)|(refine Qv 272 (zBh (who:=0) (Or.inl rfl) hS.tk) ?_;clear hS;intro w1 hS)|(refine Qv 272 (zBh (who:=1) (Or.inr rfl) hS.tk) ?_;clear hS;intro w1 hS)|(apply RO.loadB hS;rfl;rfl;(exact Rd.any);rfl;rfl;all_goals(intro hb;try exact Bool.noConfusion hb))|apply Qs|apply Qr|(apply Rs<;>intro hc<;>try exact No)|apply Qn|refine Ql ?_|(refine Qx ?_;clear hS;intro b w1 hS)|refine Qz ?_|refine Qt ?_|refine Qf ?_|apply Qk|apply Qb|apply Qi|refine Qe ?_
   all_goals
    refine Qw Tryz.func241 ?_;refine⟨?_,hS.pk⟩;clear hS;simp_all [tup];try omega
end
theorem zAs {p:Pat}(h:zBS p=true):p.name.size≤20∧1≤p.name.size∧p.msgs≠[]∧p.msgs.length≤6∧(∀m∈p.msgs,(m.who=0∨m.who=1)∧1≤m.t.length∧m.t.length≤12∧∀t∈m.t,1≤t∧t≤7) ∧
 (∀t∈p.pre0,t=1∨t=2)∧(∀t∈p.pre1,t=1∨t=2):=by
 unfold zBS at h;simp only[Bool.and_eq_true,decide_eq_true_eq,Bool.not_eq_true']at h;obtain⟨⟨⟨⟨⟨h1,h2⟩,h3⟩,h4⟩,h5⟩,h6⟩:=h;unfold zGK at h1;simp only[Bool.and_eq_true,decide_eq_true_eq]at h1;have told:∀l,zI6 l=true→∀t∈l,t=1∨t=2:=by
  intro l hl t ht;unfold zI6 at hl;simp only[Bool.or_eq_true,decide_eq_true_eq]at hl;rcases hl with ((rfl|rfl)|rfl)|rfl<;>simp at ht<;>omega
 refine⟨h1.2,h1.1.2,fun e=>by rw[e]at h4;simp at h4,h5,fun m hm=>?_,told _ h2,told _ h3⟩;have:=List.any_eq_false.1 h6 m hm;unfold zDk at this;simp only[Bool.or_eq_true,decide_eq_true_eq,not_or,Bool.not_eq_true]at this;obtain⟨⟨⟨⟨a1,a2⟩,a3⟩,a4⟩,a5⟩:=this;refine⟨by omega,by omega,by omega,fun t ht=>?_⟩;have:=List.any_eq_false.1 a5 t ht;unfold tokB at this;simp only[Bool.or_eq_true,decide_eq_true_eq,not_or]at this;omega
def zMA (p:Pat)(k:Nat):Int:=(2::p.msgs.map Msg.who).getD k 2
section
variable {we w:World}{ρ:List (Nat × Obj)}{σ F:List HP}{v:Value}
theorem zN8 {p:Pat}(hs:p.name.size≤100)(hv:PatR ρ v p)(hS:St we ρ σ w) :
 Cl Tryz.prog 189 [v] w fun u w'=>u = .tuple #[pI (zCL p).1,pI (zCL p).2.1,pI (zCL p).2.2]∧St we ρ σ w':=by
 have hv0:=hv;cases hright:zBS p with
 | false =>
   obtain⟨hl0,hl1,hlm,hr⟩:=hv;rename_i v0 v1 vm ms;refine Run.calls1 (n:=53) Tryz.func189 rfl rfl rfl ?_;repeat' first|(refine Qv 235 (zCD hs hv0 hS) ?_;clear hS;intro w1 hS;refine RO.splitB ?_ ?_<;>(intro hb;skip))|apply Qs|apply Qr|apply Qn|refine Ql ?_|(refine Qx ?_;clear hS;intro b w1 hS)|refine Qt ?_|refine Qf ?_|apply Qk
   all_goals
    first
     | (exfalso;rw[hright]at hb;exact Bool.noConfusion hb)
     | (refine Qw Tryz.func189 ?_
        refine⟨?_,hS.pk⟩;rw[zCL,if_pos hright];rfl)
 | true =>
   obtain⟨p1,p2,p3,p4,p5,p6,p7⟩:=zAs hright;have hck:zCL p=zDc p (zE0 p) 2 0 p.msgs:=by unfold zCL;rw[if_neg (by rw[hright];exact Bool.noConfusion)]
   rw[hck];obtain⟨hl0,hl1,hlm,hr⟩:=hv;rename_i v0 v1 vm ms;have hlen:=hr.length;obtain⟨qm,cm,rfl,k5,k6,-⟩:=hlm.val;unfold maxLen at k6;refine Run.calls1 (n:=53) Tryz.func189 rfl rfl rfl ?_;repeat' first|(refine Qv 235 (zCD hs hv0 hS) ?_;clear hS;intro w1 hS;refine RO.splitB ?_ ?_<;>(intro hb;(try rw[hright]at hb);try exact Bool.noConfusion hb))|(refine Qv 239 (zLI hv0 p6 p7 hS) ?_;clear hS;intro w1 hS)|apply Qs|apply Qr|apply Qn|refine Ql ?_|(refine Qx ?_;clear hS;intro b w1 hS)|(refine Qa ?_;clear hS;intro b w1 hS)|(refine Qd ?_;clear hS;intro w1 hS)|refine Qf ?_|apply Qk|apply Qb
   rename_i b1 w9 w8 hbt w7;refine Run.while (fun q:Nat × VS=>[(1,pP b1),(5,pP b),(16,.slice qm ms.length cm),(17,pI ms.length),(18,pI q.1)])
    (fun q w=>q.1≤ms.length∧zDc p (zE0 p) 2 0 p.msgs=zDc p q.2 (zMA p q.1) q.1 (p.msgs.drop q.1)∧St we ρ (Row b (vsL q.2) 343::Row b1 [.string p.name,v0,v1,.slice qm ms.length cm] 84 :: σ) w) (fun q=>ms.length - q.1) (0,zE0 p) ⟨by simp,rfl,hS.pk⟩ (by exact Sb) ?_
   clear hS;rintro⟨k,s⟩ w ⟨hi,hinv,hS⟩ ih;simp only at hi hinv hS ih;by_cases hlt:k<ms.length
   · obtain⟨mb,off,cs,el,fr,m,tv,rfl,hmem,g1,g2,g3,g4,g5⟩:=zEm hlm hr hlt
     obtain⟨qt,ct,rfl,-⟩:=g5.val;have hdr:p.msgs.drop k=m::p.msgs.drop (k+1):=by
      have h2:k<p.msgs.length:=by omega
      rw[List.drop_eq_getElem_cons h2];have:=(List.getElem?_eq_some_iff.1 g4).2;rw[this]
     have hmm:=p5 m (List.mem_of_getElem? g4);have hmw:=hmm.1;have hmt:=hmm.2.2.2;cases k with
     | zero =>
       have hl:zMA p 0=2:=by rfl
       have hgo:zDc p (zE0 p) 2 0 p.msgs=if 2=m.who then(1,(((0:Nat):Int):Int),13) else if 0<(msgV s m).2 then((msgV s m).2,(((0:Nat):Int):Int),13) else zDc p (msgV s m).1 m.who (((0:Nat):Int)+1) (p.msgs.drop (0+1)):=by
        rw[hinv,hl,hdr];rfl
       have hne:¬(2:Int)=m.who:=by omega
       rw[if_neg hne]at hgo;repeat' first|(refine Qv 240 (zGO (s:=s) hmw g5 hmt hS.tk) ?_;clear hS;intro w1 hS)|(refine Ql ?_ (h:=by apply Still.loadAgg;rfl;rfl;rfl;exact Rd.ro hmem;exact g3;rfl))|(refine Run.regionQ_of hS (by rfl) (by kernel_rfl) ?_;clear hS)|(refine RQ.split ?_ ?_<;>intro hc<;>try exact No)|(refine RQ.nil ?_;(try clear hS);intro w1 hS)|refine RQ.still (by exact Still.any) rfl ?_|refine RQ.no rfl rfl rfl rfl ?_|apply Qs|apply Qr|(apply Rs<;>intro hc<;>try exact No)|apply Qn|refine Ql ?_|(refine Qa ?_;clear hS;intro b w1 hS)|(refine Qd ?_;clear hS;intro w1 hS)|refine Qt ?_|refine Qf ?_|apply Qk|apply Qb|apply Qi
       · have hc2:0<(msgV s m).2:=by assumption
         rw[if_pos hc2]at hgo;rw[hgo];refine Qw Tryz.func189 ?_;exact Xp
       · have hc2:¬ 0<(msgV s m).2:=by assumption
         rw[if_neg hc2]at hgo;refine Run.weaken (by exact Sb) (ih (0+1,(msgV s m).1) _ ⟨?_,?_,?_⟩ ?_)
         · simp only;omega
         · rw[hgo]
           have hl2:zMA p (0+1)=m.who:=by simp[zMA,List.getD_eq_getElem?_getD,g4]
           simp only[hl2];rfl
         · exact hS.pk
         · simp only;omega
     | succ j =>
       obtain⟨mb2,off2,cs2,el2,fr2,m2,tv2,hq2,hmem2,y1,y2,y3,y4,y5⟩:=zEm hlm hr (show j<ms.length by omega);simp only[Option.some.injEq,Addr.mk.injEq]at hq2;obtain⟨rfl,rfl,-⟩:=hq2;have hl:zMA p (j+1)=m2.who:=by simp[zMA,List.getD_eq_getElem?_getD,y4]
       have hgo:zDc p (zE0 p) 2 0 p.msgs=if m2.who=m.who then(1,(((j+1:Nat):Int):Int),13) else if 0<(msgV s m).2 then((msgV s m).2,(((j+1:Nat):Int):Int),13) else zDc p (msgV s m).1 m.who (((j+1:Nat):Int)+1) (p.msgs.drop ((j+1)+1)):=by
        rw[hinv,hl,hdr];rfl
       have hsub:IntKind.i64.wrap (((j+1:Nat):Int) - 1)=((j:Nat):Int):=by rw[zA8 (by omega) (by omega)];omega
       repeat' first|(refine Qv 240 (zGO (s:=s) hmw g5 hmt hS.tk) ?_;clear hS;intro w1 hS)|(refine Ql ?_ (h:=by apply Still.loadAgg;rfl;rfl;rfl;exact Rd.ro hmem;exact g3;rfl))|(refine Run.regionQ_of hS (by rfl) (by kernel_rfl) ?_;clear hS)|(refine RQ.still (by apply Still.sub (c:=((j:Nat):Int));rfl;rfl;exact hsub) rfl ?_)|(refine RQ.still (by apply Still.load;rfl;rfl;exact Rd.ro hmem2;exact y1) rfl ?_)|(refine RQ.split ?_ ?_<;>intro hc<;>try exact No)|(refine RQ.nil ?_;(try clear hS);intro w1 hS)|refine RQ.still (by exact Still.any) rfl ?_|refine RQ.yes rfl rfl ?_|apply Qs|apply Qr|(apply Rs<;>intro hc<;>try exact No)|apply Qn|refine Ql ?_|(refine Qa ?_;clear hS;intro b w1 hS)|(refine Qd ?_;clear hS;intro w1 hS)|refine Qt ?_|refine Qf ?_|apply Qk|apply Qb|apply Qi
       · have hc1:m2.who=m.who:=by assumption
         rw[if_pos hc1]at hgo;rw[hgo];refine Qw Tryz.func189 ?_;exact Xp
       all_goals have hc1:¬m2.who=m.who:=by assumption
       all_goals rw[if_neg hc1]at hgo
       · have hc2:0<(msgV s m).2:=by assumption
         rw[if_pos hc2]at hgo;rw[hgo];refine Qw Tryz.func189 ?_;exact Xp
       · have hc2:¬ 0<(msgV s m).2:=by assumption
         rw[if_neg hc2]at hgo;refine Run.weaken (by exact Sb) (ih ((j+1)+1,(msgV s m).1) _ ⟨?_,?_,?_⟩ ?_)
         · simp only;omega
         · rw[hgo]
           have hl2:zMA p ((j+1)+1)=m.who:=by simp[zMA,List.getD_eq_getElem?_getD,g4]
           simp only[hl2];rfl
         · exact hS.pk
         · simp only;omega
   · have hdr:p.msgs.drop k=[]:=List.drop_eq_nil_of_le (by omega)
     have hkl:k=ms.length:=by omega
     rw[hdr]at hinv;have hgo:zDc p (zE0 p) 2 0 p.msgs=if 0<endV s p then(endV s p,(k:Int),13) else(0,0,0):=hinv
     have hwho:∀m∈p.msgs,m.who=0∨m.who=1:=fun m hm=>(p5 m hm).1
     repeat' first|(refine Qv 241 (zSV (s:=s) hv0 p3 hwho hS.tk) ?_;clear hS;intro w1 hS)|(refine Run.regionQ_of hS (by rfl) (by kernel_rfl) ?_;clear hS)|(refine RQ.nil ?_;(try clear hS);intro w1 hS)|refine RQ.still (by exact Still.any) rfl ?_|apply Qs|apply Qr|(apply Rs<;>intro hc<;>try exact No)|apply Qn|refine Ql ?_|refine Qt ?_|refine Qf ?_|apply Qk|refine Qe ?_
     · have hc2:0<endV s p:=by assumption
       rw[if_pos hc2,hkl]at hgo;rw[hgo];refine Qw Tryz.func189 ?_;exact Xp
     · have hc2:¬ 0<endV s p:=by assumption
       rw[if_neg hc2]at hgo;rw[hgo];refine Qw Tryz.func189 ?_;exact Xp
end
end Go.Proofs.YtcikdogkkgefcaaGreatDoor
