/- shake.Write. shake.Read. -/
import Derived.Test.YtcikdogkkgefcaaGreatDoorMA20
namespace Go.Proofs.YtcikdogkkgefcaaGreatDoor
set_option maxRecDepth 8000
set_option maxHeartbeats 16000000
set_option linter.unusedVariables false
set_option linter.unusedSimpArgs false
open Go Go.RowKit
section
variable {we w:World}{ρ:List (Nat × Obj)}{σ F:List HP}{p lim:Nat}{L L1 L2:List Nd}{r:Rep}{h:Sh}{x e who t:Int}{y1 y2:Sy}
theorem zS2 {m:Msg}{qt:Option Addr}{ct:Nat}{mb off:Nat}{cs:List Value}{el:TypeId}{fr:Nat × Nat}(hro:h.role=0∨h.role=1)(hr:ShR ρ r h)(hmi:zDf h=true)(hhas:(has L e && has L x)=true)
 (hqm:r.qm=some ⟨mb,off,none⟩) (hlt0:h.at_<r.nm) (hmem:(mb,Obj.cells (List.toArray cs) el fr) ∈ ρ) (g2:cs[off+h.at_*2+1]? = some (.slice qt m.t.length ct)) (g5:Sl ρ intL 1 (.slice qt m.t.length ct) m.t) (hta:zAq h=m.t)
 (hlen:m.t.length≤12) (htk:∀t∈m.t,1≤t∧t≤7) (hsv:h.next+zCb m.t≤h.psks.length) (hat:h.at_≤100) (hS:St we ρ (zAA p lim L::F) w) :
 Cl Tryz.prog 149 [.agg (shL r h).toArray,pP p,pI e,pI x] w fun v w'=>∃mv,v = .tuple #[.agg (zAg r (zAK lim L h e x).2.1 (zAK lim L h e x).2.2.2).toArray,mv,pI (zAK lim L h e x).2.2.2]∧St we ρ (Vec 3 1 mv (zAK lim L h e x).2.2.1.length ((zAK lim L h e x).2.2.1.flatMap intL)::zAA p lim (zAK lim L h e x).1::F) w':=by
 have hh2:[e,x].all (has L)=true:=by simpa using hhas
 have kM:∀{σ:List HP} {w:World},St we ρ σ w→_:=fun hS=>zIW hr hS
 rw[hmi]at kM;have hW:zAK lim L h e x=zAK lim L h e x:=rfl;conv at hW=>rhs;unfold zAK
 rw[hmi,hhas,if_neg (by decide),if_neg (by decide),hta]at hW;have k8:m.t.length≤12:=hlen;refine Run.calls4 (n:=93) Tryz.func149 rfl rfl rfl ?_;repeat' first|(refine Qv 54 (kM hS) ?_;clear hS;intro w1 hS)|(refine Qv 22 (zUX hh2 hS.tk (by exact Rd.any)) ?_;clear hS;intro w1 hS)|(refine Ql ?_ (h:=by apply Still.load (v:=.slice (some ⟨mb,off,none⟩) r.nm r.cm);rfl;rfl;(exact Rd.any);(rw[← hqm];rfl)))|(refine Ql ?_ (h:=by apply Still.load;rfl;rfl;exact Rd.ro hmem;exact g2))|(refine Qm ?_)|apply Qs|apply Qr|apply Qn|refine Ql ?_|(refine Qx ?_;clear hS;intro b w1 hS)|(refine Qa ?_;clear hS;intro b w1 hS)|(refine Qg ?_;clear hS;intro b w1 hS)|refine Qf ?_|apply Qk|apply Qb
 rename_i b4 w9 b8 w8 w7 w6;refine Run.while (fun q:Nat × List Nd × Sh × List Int × Value=>[(1,pP p),(2,pI e),(3,pI x),(4,pP b4),(8,pP b8),(11,q.2.2.2.2),(35,.slice qt m.t.length ct),(36,pI m.t.length),(37,pI q.1)])
  (fun q w=>q.1≤m.t.length∧zAJ lim e L h [] m.t=zAJ lim e q.2.1 q.2.2.1 q.2.2.2.1 (m.t.drop q.1)∧Stay h q.2.2.1∧q.2.2.1.next+zCb (m.t.drop q.1)≤h.psks.length∧q.2.2.2.1.length≤q.1 ∧
    St we ρ (Vec 3 1 q.2.2.2.2 q.2.2.2.1.length (q.2.2.2.1.flatMap intL)::Row b4 (shL r q.2.2.1) 92::Row b8 shZ 92::zAA p lim q.2.1::F) w) (fun q=>m.t.length - q.1) (0,L,h,[],.slice none 0 0)
  ⟨by simp,rfl,Stay.refl h,by simpa using hsv,by simp,zAh hS.pk⟩ (by exact Sb) ?_
 clear hS;rintro⟨i,L3,h3,msg,mv⟩ w ⟨hi,hinv,hst3,hsv3,hml,hS⟩ ih;simp only at hi hinv hst3 hsv3 hml hS ih ⊢;have hr3:=hr.stay hst3;have hro3:h3.role=0∨h3.role=1:=by rw[hst3.role];exact hro
 obtain⟨pk,capk,rfl⟩:=zAG hS;by_cases hlt:i<m.t.length
 · obtain⟨b0,o0,cs0,e0,f0,rfl,m0,h0⟩:=g5.int hlt
   have hd:m.t.drop i=m.t[i]::m.t.drop (i+1):=List.drop_eq_getElem_cons hlt;have hin:=htk _ (List.getElem_mem hlt);generalize m.t[i]=tt at hd h0 hin;rw[hd,zC7]at hsv3;have hstep:zAJ lim e L3 h3 msg (tt::m.t.drop (i+1))=zAJ lim e L3 h3 msg (tt::m.t.drop (i+1)):=rfl;conv at hstep=>rhs;unfold zAJ
   by_cases h2:2<tt
   · rw[if_pos h2]at hstep
     have k1:∀{F w},St we ρ (zAA p lim L3::F) w→_:=fun hS=>zHT (h:=h3) (t:=tt) hro3 (by omega) hr3 (by intro h7;rw[if_pos h7]at hsv3;rw[hst3.psks];omega) hS
     have hst:=zHh lim L3 h3 tt;generalize zAR lim L3 h3 tt=a1 at k1 hst hstep;obtain⟨L4,h4,e4⟩:=a1;simp only at k1 hst hstep;by_cases he4:e4=0
     · subst he4
       simp only[zAg,if_true]at k1;rw[if_neg (by simp)]at hstep;repeat' first|(refine Ql ?_ (h:=by apply Still.load;rfl;rfl;exact Rd.ro m0;exact h0))|(refine Qv 102 (k1 hS.tk) ?_;clear hS;intro w1 hS)|(refine Qm ?_)|apply Qs|apply Qr|(apply Rs<;>intro hc<;>try exact No)|apply Qn|refine Ql ?_|(refine Qd ?_;clear hS;intro w1 hS)|refine Qt ?_|refine Qf ?_|apply Qk|apply Qb|apply Qi
       refine Run.weaken (by exact Sb) (ih (i+1,L4,h4,msg,.slice pk msg.length capk) _ ⟨?_,?_,?_,?_,?_,?_⟩ ?_)
       · simp only;omega
       · rw[hinv,hd,hstep]
       · exact hst3.trans hst.1
       · simp only;have:=hst.2;omega
       · simp only;omega
       · exact hS.pk
       · simp only;omega
     · simp only[zAg,if_neg he4]at k1
       rw[if_pos (by simpa using he4)]at hstep;repeat' first|(refine Ql ?_ (h:=by apply Still.load;rfl;rfl;exact Rd.ro m0;exact h0))|(refine Qv 102 (k1 hS.tk) ?_;clear hS;intro w1 hS)|(refine Qm ?_)|apply Qs|apply Qr|(apply Rs<;>intro hc<;>try exact No)|apply Qn|refine Ql ?_|(refine Qd ?_;clear hS;intro w1 hS)|refine Qt ?_|refine Qf ?_|apply Qk|apply Qb
       have hWv:zAK lim L h e x=(L4,h,[],e4):=by rw[hW,hinv,hd,hstep,if_pos (by simpa using he4)]
       rw[hWv];refine Qw Tryz.func149 ?_;refine⟨.slice none 0 0,by simp only[zAg,if_neg he4];rfl,zAh hS.pk⟩
   rw[if_neg h2]at hstep;rcases(show tt=1∨tt=2 by omega)with h1|h1
   · subst h1
     rw[if_pos rfl]at hstep;simp only[show ¬(1:Int)=7 by omega,if_false]at hsv3;have k1:∀{F w},St we ρ (zAA p lim L3::F) w→_:=fun hS=>zJZ (h:={ h3 with e:=e }) (Or.inl rfl) ⟨hr3.pat,hr3.psk⟩ hS
     have hst:=zF3 lim L3 { h3 with e:=e } 1;generalize zA9 lim L3 { h3 with e:=e } 1=a1 at k1 hst hstep;obtain⟨L4,h4,z2,e4⟩:=a1;simp only at k1 hst hstep;by_cases he4:e4=0
     · subst he4
       simp only[zAg,if_true]at k1;rw[if_neg (by simp)]at hstep;repeat' first|(refine Ql ?_ (h:=by apply Still.load;rfl;rfl;exact Rd.ro m0;exact h0))|(refine Qv 198 (k1 hS.tk) ?_;clear hS;intro w1 hS)|(apply RO.op;apply OP.append (size:=1) (bytes:=8) (k:=1) (news:=[pI z2]) hS;rfl;rfl;rfl;rfl;rfl;rfl;rfl;rfl;exact(by omega);exact An;(exact Rd.any);rfl;rfl;exact(by intro v hv;simp at hv;subst hv;rfl);(exact(by unfold maxLen;omega));(exact(by omega));rfl;clear hS;intro v2 w1 hS;obtain⟨pk2,capk2,rfl⟩:=zAG hS)|(refine Qm ?_)|apply Qs|apply Qr|(apply Rs<;>intro hc<;>try exact No)|apply Qn|refine Ql ?_|(refine Qd ?_;clear hS;intro w1 hS)|(refine Qg ?_;clear hS;intro b w1 hS)|refine Qt ?_|refine Qf ?_|apply Qk|apply Qb|apply Qi
       refine Run.weaken (by exact Sb) (ih (i+1,L4,h4,msg++[z2],.slice pk2 (msg.length+1) capk2) _ ⟨?_,?_,?_,?_,?_,?_⟩ ?_)
       · simp only;omega
       · rw[hinv,hd,hstep]
       · exact hst3.trans ⟨hst.1.p,hst.1.psks,hst.1.role,hst.1.at_⟩
       · simp only;rw[hst.2];(try simp only);omega
       · simp only[List.length_append,List.length_cons,List.length_nil];omega
       · simp only[List.length_append,List.length_cons,List.length_nil,List.flatMap_append]
         exact hS.pk
       · simp only;omega
     · simp only[zAg,if_neg he4]at k1
       rw[if_pos (by simpa using he4)]at hstep;repeat' first|(refine Ql ?_ (h:=by apply Still.load;rfl;rfl;exact Rd.ro m0;exact h0))|(refine Qv 198 (k1 hS.tk) ?_;clear hS;intro w1 hS)|(apply RO.op;apply OP.append (size:=1) (bytes:=8) (k:=1) (news:=[pI z2]) hS;rfl;rfl;rfl;rfl;rfl;rfl;rfl;rfl;exact(by omega);exact An;(exact Rd.any);rfl;rfl;exact(by intro v hv;simp at hv;subst hv;rfl);(exact(by unfold maxLen;omega));(exact(by omega));rfl;clear hS;intro v2 w1 hS;obtain⟨pk2,capk2,rfl⟩:=zAG hS)|(refine Qm ?_)|apply Qs|apply Qr|(apply Rs<;>intro hc<;>try exact No)|apply Qn|refine Ql ?_|(refine Qd ?_;clear hS;intro w1 hS)|(refine Qg ?_;clear hS;intro b w1 hS)|refine Qt ?_|refine Qf ?_|apply Qk|apply Qb
       have hWv:zAK lim L h e x=(L4,h,[],e4):=by rw[hW,hinv,hd,hstep,if_pos (by simpa using he4)]
       rw[hWv];refine Qw Tryz.func149 ?_;refine⟨.slice none 0 0,by simp only[zAg,if_neg he4];rfl,zAh hS.pk⟩
   · subst h1
     rw[if_neg (by omega)]at hstep;simp only[show ¬(2:Int)=7 by omega,if_false]at hsv3;have k1:∀{F w},St we ρ (zAA p lim L3::F) w→_:=fun hS=>zJZ (h:=h3) (Or.inr rfl) ⟨hr3.pat,hr3.psk⟩ hS
     have hst:=zF3 lim L3 h3 2;generalize zA9 lim L3 h3 2=a1 at k1 hst hstep;obtain⟨L4,h4,z2,e4⟩:=a1;simp only at k1 hst hstep;by_cases he4:e4=0
     · subst he4
       simp only[zAg,if_true]at k1;rw[if_neg (by simp)]at hstep;repeat' first|(refine Ql ?_ (h:=by apply Still.load;rfl;rfl;exact Rd.ro m0;exact h0))|(refine Qv 198 (k1 hS.tk) ?_;clear hS;intro w1 hS)|(apply RO.op;apply OP.append (size:=1) (bytes:=8) (k:=1) (news:=[pI z2]) hS;rfl;rfl;rfl;rfl;rfl;rfl;rfl;rfl;exact(by omega);exact An;(exact Rd.any);rfl;rfl;exact(by intro v hv;simp at hv;subst hv;rfl);(exact(by unfold maxLen;omega));(exact(by omega));rfl;clear hS;intro v2 w1 hS;obtain⟨pk2,capk2,rfl⟩:=zAG hS)|(refine Qm ?_)|apply Qs|apply Qr|(apply Rs<;>intro hc<;>try exact No)|apply Qn|refine Ql ?_|(refine Qd ?_;clear hS;intro w1 hS)|(refine Qg ?_;clear hS;intro b w1 hS)|refine Qt ?_|refine Qf ?_|apply Qk|apply Qb|apply Qi
       refine Run.weaken (by exact Sb) (ih (i+1,L4,h4,msg++[z2],.slice pk2 (msg.length+1) capk2) _ ⟨?_,?_,?_,?_,?_,?_⟩ ?_)
       · simp only;omega
       · rw[hinv,hd,hstep]
       · exact hst3.trans ⟨hst.1.p,hst.1.psks,hst.1.role,hst.1.at_⟩
       · simp only;rw[hst.2];(try simp only);omega
       · simp only[List.length_append,List.length_cons,List.length_nil];omega
       · simp only[List.length_append,List.length_cons,List.length_nil,List.flatMap_append]
         exact hS.pk
       · simp only;omega
     · simp only[zAg,if_neg he4]at k1
       rw[if_pos (by simpa using he4)]at hstep;repeat' first|(refine Ql ?_ (h:=by apply Still.load;rfl;rfl;exact Rd.ro m0;exact h0))|(refine Qv 198 (k1 hS.tk) ?_;clear hS;intro w1 hS)|(apply RO.op;apply OP.append (size:=1) (bytes:=8) (k:=1) (news:=[pI z2]) hS;rfl;rfl;rfl;rfl;rfl;rfl;rfl;rfl;exact(by omega);exact An;(exact Rd.any);rfl;rfl;exact(by intro v hv;simp at hv;subst hv;rfl);(exact(by unfold maxLen;omega));(exact(by omega));rfl;clear hS;intro v2 w1 hS;obtain⟨pk2,capk2,rfl⟩:=zAG hS)|(refine Qm ?_)|apply Qs|apply Qr|(apply Rs<;>intro hc<;>try exact No)|apply Qn|refine Ql ?_|(refine Qd ?_;clear hS;intro w1 hS)|(refine Qg ?_;clear hS;intro b w1 hS)|refine Qt ?_|refine Qf ?_|apply Qk|apply Qb
       have hWv:zAK lim L h e x=(L4,h,[],e4):=by rw[hW,hinv,hd,hstep,if_pos (by simpa using he4)]
       rw[hWv];refine Qw Tryz.func149 ?_;refine⟨.slice none 0 0,by simp only[zAg,if_neg he4];rfl,zAh hS.pk⟩
 · have hdr:m.t.drop i=[]:=List.drop_eq_nil_of_le (by omega)
   rw[hdr]at hinv;have hWT:zAJ lim e L h [] m.t=(L3,h3,msg,0):=hinv;rw[hWT]at hW;simp only[ne_eq,not_true_eq_false,if_false]at hW;have k2:∀{F w},St we ρ (zAA p lim L3::F) w→_:=fun hS=>zFO (r:=r) (h:=h3) (x:=x) hS
   have hst:=zFW lim L3 h3 x;generalize zAU lim L3 h3 x=a2 at k2 hst hW;obtain⟨L4,h4,z,e4⟩:=a2;simp only at k2 hst hW;have hat4:h4.at_=h.at_:=(hst3.trans hst.1).at_;by_cases he4:e4=0
   · subst he4
     simp only[zAg,if_true]at k2;rw[if_neg (by simp)]at hW;rw[hW];simp only[zAg,if_true];have hwa:IntKind.i64.wrap ((h4.at_:Int)+1)=(h4.at_:Int)+1:=zA8 (by omega) (by omega);repeat' first|(refine Qv 199 (k2 hS.tk) ?_;clear hS;intro w1 hS)|(refine Ql ?_ (h:=by apply Still.add (c:=(h4.at_:Int)+1);rfl;rfl;exact hwa))|(refine Qm ?_)|apply Qs|apply Qr|(apply Rs<;>intro hc<;>try exact No)|apply Qn|refine Ql ?_|(refine Qd ?_;clear hS;intro w1 hS)|refine Qf ?_|apply Qk|refine Qe ?_
     replace hS:=hS.take (A:=Vec 3 1 (.slice pk msg.length capk) msg.length (msg.flatMap intL)) An;refine(Run.regionH_cut (fun mv2:Value=>Vec 3 1 mv2 (msg.length+1) (msg.flatMap intL++[pI z])::Row b8 (shL r { h4 with at_:=h4.at_+1 }) 92::zAA p lim L4::F)
      (fun mv2=>[(8,pP b8),(9,mv2),(10,pI 0)])
      hS (.cons _ (.cons_cons _ (.cons_cons _ (.cons _ (List.Sublist.refl _))))) (by rfl) (by rfl) (by rfl) ?_ ?_)
     · clear hS
       intro w1 hS;refine RH.relist (listed':=bm 8 0) (by kernel_rfl) ?_;repeat' first|refine Yl 0 0 ?_|refine Yt 1 1 ?_|refine Yt 3 2 ?_|refine Yt 63 6 ?_|refine Yt 127 7 ?_|(refine Og ?_;clear hS;intro b w1 hS;refine Xh ?_)|(apply OP.append (size:=1) (bytes:=8) (k:=1) (news:=[pI z]) hS;rfl;rfl;rfl;rfl;rfl;rfl;rfl;rfl;exact(by omega);exact An;(exact Rd.any);rfl;rfl;exact(by intro v hv;simp at hv;subst hv;rfl);(exact(by unfold maxLen;omega));(exact(by omega));rfl;clear hS;intro v2 w1 hS;obtain⟨pk2,capk2,rfl⟩:=zAG hS;refine Xh ?_)|(refine Od ?_;clear hS;intro w1 hS;refine Xh ?_)|refine Jo ?_|refine Za 7 3 ?_|refine Za 15 4 ?_|refine Za 31 5 ?_|(refine Yd 255 ?_;exact⟨_,Sb,hS.pk⟩)
     clear hS;rintro mv2 w1 hS;obtain⟨pk3,capk3,rfl⟩:=zAG hS;refine Qw Tryz.func149 ?_;refine⟨_,rfl,?_⟩;simp only[List.length_append,List.length_cons,List.length_nil,List.flatMap_append];exact hS.pk
   · simp only[zAg,if_neg he4]at k2
     rw[if_pos he4]at hW;rw[hW];repeat' first|(refine Qv 199 (k2 hS.tk) ?_;clear hS;intro w1 hS)|(refine Qm ?_)|apply Qs|apply Qr|(apply Rs<;>intro hc<;>try exact No)|apply Qn|refine Ql ?_|(refine Qd ?_;clear hS;intro w1 hS)|refine Qt ?_|refine Qf ?_|refine Qe ?_
     refine Qw Tryz.func149 ?_;refine⟨.slice none 0 0,by simp only[zAg,if_neg he4];rfl,zAh hS.pk⟩
end
theorem zIN (t:Int)(l:List Int):zBL (t::l)=(if t≤2 then 1 else 0)+zBL l:=by
 unfold zBL;by_cases h:t≤2
 · simp[h];omega
 · simp[h]
section
variable {we w:World}{ρ:List (Nat × Obj)}{σ F:List HP}{p lim:Nat}{L L1 L2:List Nd}{r:Rep}{h:Sh}{x e who t:Int}{y1 y2:Sy}
theorem zOm {v:Value}{xs:List Int}{b:Bool}(hb:xs.all (has L)=b)(hl:Sl ρ intL 1 v xs)(hS:St we ρ (zAA p lim L::F) w) :
 Cl Tryz.prog 22 [pP p,v] w fun u w'=>u = .bool b∧St we ρ (zAA p lim L::F) w':=by
 subst hb;obtain⟨p1,c1,rfl,-⟩:=hl.val;refine Run.calls2 (n:=9) Tryz.func22 rfl rfl rfl ?_;have hall:(!xs.any fun x=>!has L x)=xs.all (has L):=by rw[List.not_any_eq_all_not];simp
 repeat' first|(apply RO.op;apply OP.callF;rfl;rfl;rfl;exact zCI (cs:=[_]) (fun x=>!has L x) hl rfl (fun x w hS=>zJx hS) (hS.take (.tail .head));clear hS;rintro v w1 ⟨rfl,hS⟩)|apply Qs|apply Qr|apply Qn|refine Ql ?_|(refine Qx ?_;clear hS;intro b w1 hS)
 refine Qw Tryz.func22 ?_;exact⟨by simp only[tup,hall],hS.drop (.tail .head)⟩
theorem zU5 {m:Msg}{qt mq:Option Addr}{ct mc:Nat}{mb off:Nat}{cs:List Value}{el:TypeId}{fr:Nat × Nat}{msg:List Int}(hro:h.role=0∨h.role=1)(hr:ShR ρ r h)(hn:r.nm=h.p.msgs.length)(hmi:zDf h=false)(hhas:msg.all (has L)=true)
 (hqm:r.qm=some ⟨mb,off,none⟩) (hlt0:h.at_<r.nm) (hmem:(mb,Obj.cells (List.toArray cs) el fr) ∈ ρ) (g2:cs[off+h.at_*2+1]? = some (.slice qt m.t.length ct)) (g5:Sl ρ intL 1 (.slice qt m.t.length ct) m.t) (hta:zAq h=m.t)
 (hlen:m.t.length≤12) (htk:∀t∈m.t,1≤t∧t≤7) (hsv:h.next+zCb m.t≤h.psks.length) (hat:h.at_≤100) (hms:Sl ρ intL 1 (.slice mq msg.length mc) msg) (hpa:(msg.length:Int)=zBL m.t) (hS:St we ρ (zAA p lim L::F) w) :
 Cl Tryz.prog 59 [.agg (shL r h).toArray,pP p,.slice mq msg.length mc] w fun v w'=>v = .tuple #[.agg (zAg r (zAN lim L h msg).2.1 (zAN lim L h msg).2.2.2).toArray,pI (zAN lim L h msg).2.2.1,pI (zAN lim L h msg).2.2.2]∧St we ρ (zAA p lim (zAN lim L h msg).1::F) w':=by
 have kM:∀{σ:List HP} {w:World},St we ρ σ w→_:=fun hS=>zIW hr hS
 rw[hmi]at kM;have kD:∀{σ:List HP} {w:World},St we ρ σ w→_:=fun hS=>zCC (r:=r) (h:=h) hn hS
 rw[decide_eq_false (by omega)]at kD;have hbp:=zGF m.t;have hW:zAN lim L h msg=zAN lim L h msg:=rfl;conv at hW=>rhs;unfold zAN
 rw[if_neg (by rw[hmi];simp;omega),if_neg (by rw[hhas];simp),hta,if_neg (by simpa using hpa)]at hW;have k8:m.t.length≤12:=hlen;refine Run.calls3 (n:=103) Tryz.func59 rfl rfl rfl ?_;repeat' first|(refine Qv 54 (kM hS) ?_;clear hS;intro w1 hS)|(refine Qv 58 (kD hS) ?_;clear hS;intro w1 hS)|(refine Qv 22 (zOm hhas hms hS.tk) ?_;clear hS;intro w1 hS)|(refine Qv 101 (zF6 g5 hlen hS) ?_;clear hS;intro w1 hS)|(refine Ql ?_ (h:=by apply Still.load (v:=.slice (some ⟨mb,off,none⟩) r.nm r.cm);rfl;rfl;(exact Rd.any);(rw[← hqm];rfl)))|(refine Ql ?_ (h:=by apply Still.load;rfl;rfl;exact Rd.ro hmem;exact g2))|(refine Qm ?_)|apply Qs|apply Qr|(apply Rs<;>intro hc<;>try exact No)|apply Qn|refine Ql ?_|(refine Qx ?_;clear hS;intro b w1 hS)|(refine Qa ?_;clear hS;intro b w1 hS)|refine Qy ?_|refine Qf ?_|apply Qk|apply Qb|apply Qi
 rename_i b3 w9 w8 w7 w6 w5;obtain⟨b6,hb6⟩:∃x,x=b:=⟨_,rfl⟩
 subst hb6;refine Run.while (fun q:Nat × List Nd × Sh × Nat=>[(1,pP p),(2,.slice mq msg.length mc),(3,pP b3),(6,pP b6),(9,pI q.2.2.2),(49,.slice qt m.t.length ct),(50,pI m.t.length),(51,pI q.1)])
  (fun q w=>q.1≤m.t.length∧zAY lim msg L h 0 m.t=zAY lim msg q.2.1 q.2.2.1 q.2.2.2 (m.t.drop q.1)∧Stay h q.2.2.1∧q.2.2.1.next+zCb (m.t.drop q.1)≤h.psks.length∧(q.2.2.2:Int)+zBL (m.t.drop q.1)=msg.length ∧
    St we ρ (Row b3 (shL r q.2.2.1) 92::Row b6 shZ 92::zAA p lim q.2.1::F) w) (fun q=>m.t.length - q.1) (0,L,h,0)
  ⟨by simp,rfl,Stay.refl h,by simpa using hsv,by simpa using hpa.symm,hS.pk⟩ (by exact Sb) ?_
 clear hS;rintro⟨i,L3,h3,n⟩ w ⟨hi,hinv,hst3,hsv3,hpn,hS⟩ ih;simp only at hi hinv hst3 hsv3 hpn hS ih ⊢;have hr3:=hr.stay hst3;have hro3:h3.role=0∨h3.role=1:=by rw[hst3.role];exact hro
 have hnl:n<msg.length:=by have:=(zGF (m.t.drop i)).1;omega
 obtain⟨mmb,mmo,mmc,mme,mmf,rfl,mm0,mh0⟩:=hms.int hnl;have hgd:msg.getD n 0=msg[n]:=by simp[List.getD_eq_getElem?_getD,hnl]
 by_cases hlt:i<m.t.length
 · obtain⟨b0,o0,cs0,e0,f0,rfl,m0,h0⟩:=g5.int hlt
   have hd:m.t.drop i=m.t[i]::m.t.drop (i+1):=List.drop_eq_getElem_cons hlt;have hin:=htk _ (List.getElem_mem hlt);generalize m.t[i]=tt at hd h0 hin;rw[hd,zC7]at hsv3;rw[hd,zIN]at hpn;have hstep:zAY lim msg L3 h3 n (tt::m.t.drop (i+1))=zAY lim msg L3 h3 n (tt::m.t.drop (i+1)):=rfl;conv at hstep=>rhs;unfold zAY
   by_cases h2:2<tt
   · rw[if_pos h2]at hstep
     rw[if_neg (by omega)]at hpn;have k1:∀{F w},St we ρ (zAA p lim L3::F) w→_:=fun hS=>zHT (h:=h3) (t:=tt) hro3 (by omega) hr3 (by intro h7;rw[if_pos h7]at hsv3;rw[hst3.psks];omega) hS
     have hst:=zHh lim L3 h3 tt;generalize zAR lim L3 h3 tt=a1 at k1 hst hstep;obtain⟨L4,h4,e4⟩:=a1;simp only at k1 hst hstep;by_cases he4:e4=0
     · subst he4
       simp only[zAg,if_true]at k1;rw[if_neg (by simp)]at hstep;repeat' first|(refine Ql ?_ (h:=by apply Still.load;rfl;rfl;exact Rd.ro m0;exact h0))|(refine Qv 102 (k1 hS.tk) ?_;clear hS;intro w1 hS)|(refine Qm ?_)|apply Qs|apply Qr|(apply Rs<;>intro hc<;>try exact No)|apply Qn|refine Ql ?_|(refine Qd ?_;clear hS;intro w1 hS)|refine Qt ?_|refine Qf ?_|apply Qk|apply Qb|apply Qi
       refine Run.weaken (by exact Sb) (ih (i+1,L4,h4,n) _ ⟨?_,?_,?_,?_,?_,?_⟩ ?_)
       · simp only;omega
       · rw[hinv,hd,hstep]
       · exact hst3.trans hst.1
       · simp only;have:=hst.2;omega
       · simp only;omega
       · exact hS.pk
       · simp only;omega
     · simp only[zAg,if_neg he4]at k1
       rw[if_pos (by simpa using he4)]at hstep;repeat' first|(refine Ql ?_ (h:=by apply Still.load;rfl;rfl;exact Rd.ro m0;exact h0))|(refine Qv 102 (k1 hS.tk) ?_;clear hS;intro w1 hS)|(refine Qm ?_)|apply Qs|apply Qr|(apply Rs<;>intro hc<;>try exact No)|apply Qn|refine Ql ?_|(refine Qd ?_;clear hS;intro w1 hS)|refine Qt ?_|apply Qk|apply Qb
       have hWv:zAN lim L h msg=(L4,h,0,e4):=by rw[hW,hinv,hd,hstep,if_pos (by simpa using he4)]
       rw[hWv];refine Qw Tryz.func59 ?_;exact⟨by simp only[zAg,if_neg he4];rfl,hS.pk⟩
   rw[if_neg h2,hgd]at hstep;rw[if_pos (by omega)]at hpn;have h7:¬tt=7:=by omega
   rw[if_neg h7]at hsv3;have k1:∀{F w},St we ρ (zAA p lim L3::F) w→_:=fun hS=>zKZ (h:=h3) (t:=tt) (x:=msg[n]) (by omega) hr3 hS
   have hst:=zHD lim L3 h3 tt msg[n];generalize zAe lim L3 h3 tt msg[n]=a1 at k1 hst hstep;generalize msg[n]=z at k1 mh0;obtain⟨L4,h4,e4⟩:=a1;simp only at k1 hst hstep;have hwn:IntKind.i64.wrap ((n:Int)+1)=((n+1:Nat):Int):=by rw[zA8 (by omega) (by omega)];rfl
   by_cases he4:e4=0
   · subst he4
     simp only[zAg,if_true]at k1;rw[if_neg (by simp)]at hstep;repeat' first|(refine Ql ?_ (h:=by apply Still.load;rfl;rfl;exact Rd.ro m0;exact h0))|apply Qs|apply Qr|(apply Rs<;>intro hc<;>try exact No)|apply Qn|refine Ql ?_|refine Qt ?_|refine Qf ?_|apply Qk|apply Qb
     refine(Run.regionH_cut (fun _:Unit=>Row b3 (shL r h4) 92::Row b6 shZ 92::zAA p lim L4::F)
      (fun _=>[(1,pP p),(2,.slice (some ⟨mmb,mmo,none⟩) msg.length mc),(3,pP b3),(6,pP b6),(9,pI n),(10,pI 0),(49,.slice (some ⟨b0,o0,none⟩) m.t.length ct),(50,pI m.t.length),(51,pI i)])
      hS (.cons _ (.cons_cons _ (.cons _ (List.Sublist.refl _)))) (by rfl) (by rfl) (by rfl) ?_ ?_)
     · clear hS
       intro w1 hS;refine RH.relist (listed':=bm 13 0) (by kernel_rfl) ?_;repeat' first|refine Yt 0 1 ?_|refine Yt 2 2 ?_|refine Yt 6 3 ?_|refine Yt 14 4 ?_|(refine Yt 30 5 ?_ (h:=by first|exact Sx|exact Still.any))|(refine Yt 62 6 ?_ (h:=by first|(apply Still.load;rfl;rfl;exact Rd.ro mm0;exact mh0)|exact Still.an))|refine Yt 255 8 ?_|refine Yt 511 9 ?_|refine Yt 1023 10 ?_|refine Yt 4095 12 ?_|(refine Ol (Xh ?_) (h:=by first|(apply Still.load;rfl;rfl;exact Rd.ro mm0;exact mh0)|exact Still.an))|(refine Ov 103 (k1 hS.tk) ?_;clear hS;intro w1 hS;refine Xh ?_)|(refine Od ?_;clear hS;intro w1 hS;refine Xh ?_)|refine Jo ?_|refine Za 126 0 ?_|refine Za 127 7 ?_|refine Za 2047 11 ?_|(refine Yd 8191 ?_;exact⟨(),Sb,hS.pk⟩)
     clear hS;rintro - w1 hS;repeat' first|(refine Ql ?_ (h:=by apply Still.add (c:=((n+1:Nat):Int));rfl;rfl;exact hwn))|apply Qs|apply Qr|(apply Rs<;>intro hc<;>try exact No)|apply Qn|refine Ql ?_|refine Qf ?_|apply Qk|apply Qi
     refine Run.weaken (by exact Sb) (ih (i+1,L4,h4,n+1) _ ⟨?_,?_,?_,?_,?_,?_⟩ ?_)
     · simp only;omega
     · rw[hinv,hd,hstep]
     · exact hst3.trans hst.1
     · simp only;rw[hst.2];omega
     · simp only;omega
     · exact hS.pk
     · simp only;omega
   · simp only[zAg,if_neg he4]at k1
     rw[if_pos (by simpa using he4)]at hstep;repeat' first|(refine Ql ?_ (h:=by apply Still.load;rfl;rfl;exact Rd.ro m0;exact h0))|apply Qs|apply Qr|(apply Rs<;>intro hc<;>try exact No)|apply Qn|refine Ql ?_|refine Qt ?_|refine Qf ?_|apply Qk|apply Qb
     refine(Run.regionH_cut (fun _:Unit=>Row b3 shZ 92::Row b6 shZ 92::zAA p lim L4::F)
      (fun _=>[(1,pP p),(2,.slice (some ⟨mmb,mmo,none⟩) msg.length mc),(3,pP b3),(6,pP b6),(9,pI n),(10,pI e4),(49,.slice (some ⟨b0,o0,none⟩) m.t.length ct),(50,pI m.t.length),(51,pI i)])
      hS (.cons _ (.cons_cons _ (.cons _ (List.Sublist.refl _)))) (by rfl) (by rfl) (by rfl) ?_ ?_)
     · clear hS
       intro w1 hS;refine RH.relist (listed':=bm 13 0) (by kernel_rfl) ?_;repeat' first|refine Yt 0 1 ?_|refine Yt 2 2 ?_|refine Yt 6 3 ?_|refine Yt 14 4 ?_|(refine Yt 30 5 ?_ (h:=by first|exact Sx|exact Still.any))|(refine Yt 62 6 ?_ (h:=by first|(apply Still.load;rfl;rfl;exact Rd.ro mm0;exact mh0)|exact Still.an))|refine Yt 255 8 ?_|refine Yt 511 9 ?_|refine Yt 1023 10 ?_|refine Yt 4095 12 ?_|(refine Ol (Xh ?_) (h:=by first|(apply Still.load;rfl;rfl;exact Rd.ro mm0;exact mh0)|exact Still.an))|(refine Ov 103 (k1 hS.tk) ?_;clear hS;intro w1 hS;refine Xh ?_)|(refine Od ?_;clear hS;intro w1 hS;refine Xh ?_)|refine Jo ?_|refine Za 126 0 ?_|refine Za 127 7 ?_|refine Za 2047 11 ?_|(refine Yd 8191 ?_;exact⟨(),Sb,hS.pk⟩)
     clear hS;rintro - w1 hS;repeat' first|(refine Ql ?_ (h:=by apply Still.add (c:=((n+1:Nat):Int));rfl;rfl;exact hwn))|apply Qs|apply Qr|(apply Rs<;>intro hc<;>try exact No)|apply Qn|refine Ql ?_|(refine Qd ?_;clear hS;intro w1 hS)|refine Qt ?_
     have hWv:zAN lim L h msg=(L4,h,0,e4):=by rw[hW,hinv,hd,hstep,if_pos (by simpa using he4)]
     rw[hWv];refine Qw Tryz.func59 ?_;exact⟨by simp only[zAg,if_neg he4];rfl,hS.pk⟩
 · have hdr:m.t.drop i=[]:=List.drop_eq_nil_of_le (by omega)
   rw[hdr]at hinv;have hWT:zAY lim msg L h 0 m.t=(L3,h3,n,0):=hinv;rw[hWT]at hW;simp only[ne_eq,not_true_eq_false,if_false,hgd]at hW;have k1:∀{F w},St we ρ (zAA p lim L3::F) w→_:=fun hS=>zFQ (r:=r) (h:=h3) (x:=msg[n]) hS
   have hst:=zFX lim L3 h3 msg[n];generalize zAO lim L3 h3 msg[n]=a2 at k1 hst hW;generalize msg[n]=z at k1 mh0;obtain⟨L4,h4,z4,e4⟩:=a2;simp only at k1 hst hW;have hat4:h4.at_=h.at_:=(hst3.trans hst.1).at_;by_cases he4:e4=0
   · subst he4
     simp only[zAg,if_true]at k1;rw[if_neg (by simp)]at hW;rw[hW];simp only[zAg,if_true];have hwa:IntKind.i64.wrap ((h4.at_:Int)+1)=(h4.at_:Int)+1:=zA8 (by omega) (by omega);repeat' first|apply Qs|apply Qr|(apply Rs<;>intro hc<;>try exact No)|apply Qn|refine Ql ?_|refine Qf ?_|refine Qe ?_
     refine(Run.regionH_cut (fun _:Unit=>Row b3 (shL r h4) 92::Row b6 shZ 92::zAA p lim L4::F)
      (fun _=>[(1,pP p),(2,.slice (some ⟨mmb,mmo,none⟩) msg.length mc),(3,pP b3),(6,pP b6),(13,pI z4),(10,pI 0)])
      hS (.cons _ (.cons_cons _ (.cons _ (List.Sublist.refl _)))) (by rfl) (by rfl) (by rfl) ?_ ?_)
     · clear hS
       intro w1 hS;refine RH.relist (listed':=bm 14 0) (by kernel_rfl) ?_;repeat' first|refine Yt 0 1 ?_|refine Yt 2 2 ?_|refine Yt 6 3 ?_|(refine Yt 14 4 ?_ (h:=by first|exact Sx|exact Still.any))|(refine Yt 30 5 ?_ (h:=by first|(apply Still.load;rfl;rfl;exact Rd.ro mm0;exact mh0)|exact Still.an))|refine Yt 127 7 ?_|refine Yt 255 8 ?_|refine Yt 511 9 ?_|refine Yt 1023 10 ?_|refine Yt 4095 12 ?_|refine Yt 8191 13 ?_|(refine Ol (Xh ?_) (h:=by first|(apply Still.load;rfl;rfl;exact Rd.ro mm0;exact mh0)|exact Still.an))|(refine Ov 104 (k1 hS.tk) ?_;clear hS;intro w1 hS;refine Xh ?_)|(refine Od ?_;clear hS;intro w1 hS;refine Xh ?_)|refine Jo ?_|refine Za 62 0 ?_|refine Za 63 6 ?_|refine Za 2047 11 ?_|(refine Yd 16383 ?_;exact⟨(),Sb,hS.pk⟩)
     clear hS;rintro - w1 hS;repeat' first|(refine Ql ?_ (h:=by apply Still.add (c:=(h4.at_:Int)+1);rfl;rfl;exact hwa))|(refine Qm ?_)|apply Qs|apply Qr|(apply Rs<;>intro hc<;>try exact No)|apply Qn|refine Ql ?_|(refine Qd ?_;clear hS;intro w1 hS)|refine Qf ?_|apply Qk
     refine Qw Tryz.func59 ?_;exact Xp
   · simp only[zAg,if_neg he4]at k1
     rw[if_pos he4]at hW;rw[hW];repeat' first|apply Qs|apply Qr|(apply Rs<;>intro hc<;>try exact No)|apply Qn|refine Ql ?_|refine Qf ?_|refine Qe ?_
     refine(Run.regionH_cut (fun _:Unit=>Row b3 shZ 92::Row b6 shZ 92::zAA p lim L4::F)
      (fun _=>[(1,pP p),(2,.slice (some ⟨mmb,mmo,none⟩) msg.length mc),(3,pP b3),(6,pP b6),(13,pI z4),(10,pI e4)])
      hS (.cons _ (.cons_cons _ (.cons _ (List.Sublist.refl _)))) (by rfl) (by rfl) (by rfl) ?_ ?_)
     · clear hS
       intro w1 hS;refine RH.relist (listed':=bm 14 0) (by kernel_rfl) ?_;repeat' first|refine Yt 0 1 ?_|refine Yt 2 2 ?_|refine Yt 6 3 ?_|(refine Yt 14 4 ?_ (h:=by first|exact Sx|exact Still.any))|(refine Yt 30 5 ?_ (h:=by first|(apply Still.load;rfl;rfl;exact Rd.ro mm0;exact mh0)|exact Still.an))|refine Yt 127 7 ?_|refine Yt 255 8 ?_|refine Yt 511 9 ?_|refine Yt 1023 10 ?_|refine Yt 4095 12 ?_|refine Yt 8191 13 ?_|(refine Ol (Xh ?_) (h:=by first|(apply Still.load;rfl;rfl;exact Rd.ro mm0;exact mh0)|exact Still.an))|(refine Ov 104 (k1 hS.tk) ?_;clear hS;intro w1 hS;refine Xh ?_)|(refine Od ?_;clear hS;intro w1 hS;refine Xh ?_)|refine Jo ?_|refine Za 62 0 ?_|refine Za 63 6 ?_|refine Za 2047 11 ?_|(refine Yd 16383 ?_;exact⟨(),Sb,hS.pk⟩)
     clear hS;rintro - w1 hS;repeat' first|apply Qs|apply Qr|(apply Rs<;>intro hc<;>try exact No)|apply Qn|refine Ql ?_|(refine Qd ?_;clear hS;intro w1 hS)|refine Qt ?_
     refine Qw Tryz.func59 ?_;exact⟨by simp only[zAg,if_neg he4];rfl,hS.pk⟩
end
end Go.Proofs.YtcikdogkkgefcaaGreatDoor
