/- play.answer. play.Run of a script, line by line. undertonetop.head: the script of IK answers as the paper's table says. undertonetop.head answers true. -/
import Derived.Test.YtcikdogkkgefcaaGreatDoorMA38
namespace Go.Proofs.YtcikdogkkgefcaaGreatDoor
set_option maxRecDepth 8000
set_option maxHeartbeats 16000000
set_option linter.unusedVariables false
set_option linter.unusedSimpArgs false
open Go Go.RowKit
section
variable {we w:World}{ρ ρ0:List (Nat × Obj)}{σ F:List HP}{v:Value}{wb xb N pb off cap:Nat}{W:Wd}
theorem zQZ {key s1 out:ByteArray}{i g:Nat}{cs:List Value}{el:TypeId}{fr:Nat × Nat}(hm:(pb,Obj.cells (List.toArray cs) el fr) ∈ ρ0)(h0:cs[off]? = some (.string key))(h1:cs[off+1]? = some (.string s1))(hok:okN s1=true)
 (hask:zBN (fun u=>decide (key=strK u)) zLA 0=some (i,.func (.func g) #[] #[])) (hg:fnB Tryz.prog g=true) (hn:1<cap)
 (hcall:∀{w:World},WSt we ρ0 wb N W (Row xb [pP wb] 125::F) w→Cl Tryz.prog g [pP xb,pI (numG s1)] w fun v w'=>v = .string out∧WSt we ρ0 wb N W (Row xb [pP wb] 125::F) w')
 (h:WSt we ρ0 wb N W (Row xb [pP wb] 125::F) w) :
 Cl Tryz.prog 37 [pP xb,.slice (some ⟨pb,off,none⟩) 2 cap] w fun v w'=>v = .string out∧WSt we ρ0 wb N W (Row xb [pP wb] 125::F) w':=by
 obtain⟨H,ρ,ho,ok,hS⟩:=h;have kL:∀{F w},St we ρ F w→_:=fun hS=>zTg (cap:=cap) (ho.sub _ hm) h0 h1 hok hask hn hS
 have kN:∀{F w},St we ρ F w→_:=fun hS=>zHP hok hS
 refine Run.calls2 (n:=80) Tryz.func37 rfl rfl rfl ?_;repeat' first|(refine Qv 70 (kL hS) ?_;clear hS;intro w1 hS)|apply Qs|apply Qr|apply Qn|refine Ql ?_|refine Qf ?_|apply Qk
 refine(Run.regionH_cut (fun _:Unit=>Row wb (wdL H W.fresh) 68::zAA H.p zAB W.L::KN H.kb H.p W.heard W.K::zAD H.stb 8 (kvD H.ds)::Each devI H.ds::Vec 79 4 H.vp H.ps.length (H.ps.flatMap ptyL)::Each (ptI H.p) H.ps::Vec 80 1 H.vm H.ms.length (H.ms.flatMap mgL)::Vec 33 13 H.ve W.evs.length (W.evs.flatMap evtL)::Row xb [pP wb] 125::F) (fun _=>[(0,pP xb),(1,.slice (some ⟨pb,off,none⟩) 2 cap),(5,.func (.func g) #[] #[]),(6,.bool true)]) (show St we ρ (Row wb (wdL H W.fresh) 68::zAA H.p zAB W.L::KN H.kb H.p W.heard W.K::zAD H.stb 8 (kvD H.ds)::Each devI H.ds::Vec 79 4 H.vp H.ps.length (H.ps.flatMap ptyL)::Each (ptI H.p) H.ps::Vec 80 1 H.vm H.ms.length (H.ms.flatMap mgL)::Vec 33 13 H.ve W.evs.length (W.evs.flatMap evtL)::Row xb [pP wb] 125::F) _ from hS) (List.Sublist.refl _) (by rfl) (by rfl) (by rfl) ?_ ?_)
 · clear hS
   intro w1 hS;refine RH.relist (listed':=bm 10 0) (by kernel_rfl) ?_;repeat' first|refine Yt 0 1 ?_|(refine Yt 2 2 ?_ (h:=by first|exact Sx|exact Still.any))|(refine Yt 6 3 ?_ (h:=by first|(apply Still.load;rfl;rfl;exact Rd.ro (ho.sub _ hm);exact h0)|(apply Still.lookupOk;rfl;rfl;rfl;rfl;(exact Rd.any);exact KeyIs.string (f:=strK) rfl zDa;exact hask;rfl)|exact Still.an))|refine Yt 31 5 ?_|refine Yt 63 6 ?_|refine Yt 127 7 ?_|refine Yt 255 8 ?_|refine Yt 511 9 ?_|(refine Oc 71 (c:=zFJ hS) (k':=?_);clear hS;rintro v w1 ⟨ma,ca,rfl,hS⟩;refine Xh ?_)|(refine Ol (Xh ?_) (h:=by first|(apply Still.load;rfl;rfl;exact Rd.ro (ho.sub _ hm);exact h0)|(apply Still.lookupOk;rfl;rfl;rfl;rfl;(exact Rd.any);exact KeyIs.string (f:=strK) rfl zDa;exact hask;rfl)|exact Still.any))|refine Jo ?_|refine Za 14 0 ?_|refine Za 15 4 ?_|(refine Yd 1023 ?_;exact⟨(),Sb,hS.pk⟩)
 clear hS;rintro - w1 hS;repeat' first|(refine Ql ?_ (h:=by apply Still.load;rfl;rfl;exact Rd.ro (ho.sub _ hm);exact h1))|(refine Qv 72 (kN hS) ?_;clear hS;intro w1 hS)|(apply RO.op;apply OP.callV;rfl;exact hg;rfl;rfl;exact hcall ⟨H,ρ,ho,ok,hS⟩;clear hS;rintro v w1 ⟨rfl,hS⟩)|apply Qs|apply Qr|apply Qn|refine Ql ?_|refine Qt ?_
 refine Qw Tryz.func37 ?_;exact⟨rfl,hS⟩
theorem rot8 {A B r1 r2 r3 r4 r5 r6 r7 r8:HP}(h:St we ρ (A::B::r1::r2::r3::r4::r5::r6::r7::r8::F) w):St we ρ (r1::r2::r3::r4::r5::r6::r7::r8::A::F) w:=h.pk
theorem zSv {key out nm:ByteArray}{n g:Nat}{k a b c wa wc tl:Int}{caps:RdH→List Value}{cs:List Value}{el:TypeId}{fr:Nat × Nat}{q:Wd × Int × Int}(hv:Vars we)(hT:zBf we)(hRn:zCz we)(hN:N<500)
 (hm:(pb,Obj.cells (List.toArray cs) el fr) ∈ ρ0) (h0:cs[off]? = some (.string key))
 (hask:zBN (fun u=>decide (key=strK u)) zLA 0=none) (hg:fnB Tryz.prog g=true) (hRd:∀ ρ,(∀x ∈ ρ0,x ∈ ρ)→zLB we ρ key pb (off+1) n (cap - 1) (lnL k a b c nm wa wc tl) g caps) (hn:0<n∧n<cap) (hnm:nm.size≤1000)
 (hq:doW W ⟨k,a,b,c,nm,wa,wc,.slice none 0 0,[]⟩=q) (hq0:q.2.2=0)
 (hout:(tl=0∧out=⟨#[111,107]⟩)∨(tl=1∧∃m:Nat,m<100∧q.2.1=(m:Int)∧out=itoB m)∨(tl=2∧∃m:Nat,m<10∧has q.1.L q.2.1=true∧nd q.1.L q.2.1=⟨1,m,0,0,0⟩∧out=zPv m))
 (h:WSt we ρ0 wb N W (Row xb [pP wb] 125::F) w) :
 Cl Tryz.prog 37 [pP xb,.slice (some ⟨pb,off,none⟩) (n+1) cap] w fun v w'=>v = .string out∧WSt we ρ0 wb (N+1) q.1 (Row xb [pP wb] 125::F) w':=by
 obtain⟨H,ρ,ho,ok,hS⟩:=h;have hR:=hRd ρ ho.sub;have kL:∀{F w},St we ρ F w→_:=fun hS=>zVS (ho.sub _ hm) h0 hask hg hR hn hS
 have hDo:∀{F w},WSt we ρ0 wb N W F w→Cl Tryz.prog 17 [pP wb,.agg (List.toArray [pI k,pI a,pI b,pI c,.string nm,pI wa,pI wc,.slice none 0 0])] w fun v w'=>v=ansV q∧WSt we ρ0 wb (N+1) q.1 F w':=fun h=>by
  have:=zHx (o:=⟨k,a,b,c,nm,wa,wc,.slice none 0 0,[]⟩) h hv hT hRn ⟨⟨⟨none,0,rfl,by simp,by simp,fun h=>by simp at h⟩⟩,by simp,by simp,hnm⟩ hN;rw[hq]at this;exact this
 obtain⟨W2,q1,q2⟩:=q;simp only at hq0 hout hDo ⊢;subst hq0;refine Run.calls2 (n:=80) Tryz.func37 rfl rfl rfl ?_;repeat' first|(refine Qv 70 (kL hS) ?_;clear hS;intro w1 hS)|apply Qs|apply Qr|apply Qn|refine Ql ?_|refine Qf ?_|apply Qk
 refine(Run.regionH_cut (fun _:Unit=>Row wb (wdL H W.fresh) 68::zAA H.p zAB W.L::KN H.kb H.p W.heard W.K::zAD H.stb 8 (kvD H.ds)::Each devI H.ds::Vec 79 4 H.vp H.ps.length (H.ps.flatMap ptyL)::Each (ptI H.p) H.ps::Vec 80 1 H.vm H.ms.length (H.ms.flatMap mgL)::Vec 33 13 H.ve W.evs.length (W.evs.flatMap evtL)::Row xb [pP wb] 125::F) (fun _=>[(0,pP xb),(1,.slice (some ⟨pb,off,none⟩) (n+1) cap),(6,.bool false)]) (show St we ρ (Row wb (wdL H W.fresh) 68::zAA H.p zAB W.L::KN H.kb H.p W.heard W.K::zAD H.stb 8 (kvD H.ds)::Each devI H.ds::Vec 79 4 H.vp H.ps.length (H.ps.flatMap ptyL)::Each (ptI H.p) H.ps::Vec 80 1 H.vm H.ms.length (H.ms.flatMap mgL)::Vec 33 13 H.ve W.evs.length (W.evs.flatMap evtL)::Row xb [pP wb] 125::F) _ from hS) (List.Sublist.refl _) (by rfl) (by rfl) (by rfl) ?_ ?_)
 · clear hS
   intro w1 hS;refine RH.relist (listed':=bm 10 0) (by kernel_rfl) ?_;repeat' first|refine Yt 0 1 ?_|(refine Yt 2 2 ?_ (h:=by first|exact Sx|exact Still.any))|(refine Yt 6 3 ?_ (h:=by first|(apply Still.load;rfl;rfl;exact Rd.ro (ho.sub _ hm);exact h0)|(apply Still.lookupOk;rfl;rfl;rfl;rfl;(exact Rd.any);exact KeyIs.string (f:=strK) rfl zDa;exact hask;rfl)|exact Still.an))|refine Yt 31 5 ?_|refine Yt 63 6 ?_|refine Yt 127 7 ?_|refine Yt 255 8 ?_|refine Yt 511 9 ?_|(refine Oc 71 (c:=zFJ hS) (k':=?_);clear hS;rintro v w1 ⟨ma,ca,rfl,hS⟩;refine Xh ?_)|(refine Ol (Xh ?_) (h:=by first|(apply Still.load;rfl;rfl;exact Rd.ro (ho.sub _ hm);exact h0)|(apply Still.lookupOk;rfl;rfl;rfl;rfl;(exact Rd.any);exact KeyIs.string (f:=strK) rfl zDa;exact hask;rfl)|exact Still.any))|refine Jo ?_|refine Za 14 0 ?_|refine Za 15 4 ?_|(refine Yd 1023 ?_;exact⟨(),Sb,hS.pk⟩)
 clear hS;rintro - w1 hS;repeat' first|apply Qs|apply Qr|apply Qn|refine Ql ?_|refine Qf ?_|apply Qk
 refine(Run.regionH_cut (fun z:Nat=>Row z (lnL k a b c nm wa wc tl) 167::Row wb (wdL H W.fresh) 68::zAA H.p zAB W.L::KN H.kb H.p W.heard W.K::zAD H.stb 8 (kvD H.ds)::Each devI H.ds::Vec 79 4 H.vp H.ps.length (H.ps.flatMap ptyL)::Each (ptI H.p) H.ps::Vec 80 1 H.vm H.ms.length (H.ms.flatMap mgL)::Vec 33 13 H.ve W.evs.length (W.evs.flatMap evtL)::Row xb [pP wb] 125::F) (fun z=>[(0,pP xb),(9,pP z)]) (show St we ρ (Row wb (wdL H W.fresh) 68::zAA H.p zAB W.L::KN H.kb H.p W.heard W.K::zAD H.stb 8 (kvD H.ds)::Each devI H.ds::Vec 79 4 H.vp H.ps.length (H.ps.flatMap ptyL)::Each (ptI H.p) H.ps::Vec 80 1 H.vm H.ms.length (H.ms.flatMap mgL)::Vec 33 13 H.ve W.evs.length (W.evs.flatMap evtL)::Row xb [pP wb] 125::F) _ from hS) (List.Sublist.refl _) (by rfl) (by rfl) (by rfl) ?_ ?_)
 · clear hS
   intro w1 hS;refine RH.relist (listed':=bm 14 0) (by kernel_rfl) ?_;repeat' first|refine Yt 0 1 ?_|(refine Yt 2 2 ?_ (h:=by first|exact Sx|exact Still.any))|(refine Yt 6 3 ?_ (h:=by first|(apply Still.load;rfl;rfl;exact Rd.ro (ho.sub _ hm);exact h0)|(apply Still.lookup;rfl;rfl;rfl;rfl;(exact Rd.any);exact KeyIs.string (f:=strK) rfl (zIK _ _ _ _ _ _ _ _);exact hf;rfl)|(apply Still.sliceLo;rfl;rfl;rfl;rfl;omega;omega;omega;rfl;rfl;rfl)|exact Still.an))|refine Yt 14 5 ?_|(refine Yt 46 6 ?_ (h:=by first|(apply Still.load;rfl;rfl;exact Rd.ro (ho.sub _ hm);exact h0)|(apply Still.lookup;rfl;rfl;rfl;rfl;(exact Rd.any);exact KeyIs.string (f:=strK) rfl (zIK _ _ _ _ _ _ _ _);exact hf;rfl)|(apply Still.sliceLo;rfl;rfl;rfl;rfl;omega;omega;omega;rfl;rfl;rfl)|exact Still.any))|refine Yt 255 8 ?_|refine Yt 511 9 ?_|refine Yt 1023 10 ?_|refine Yt 8191 13 ?_|refine Yt 2303 8 ?_|refine Yt 2559 9 ?_|refine Yt 3071 10 ?_|(refine Oc 73 (c:=zGD hS) (k':=?_);clear hS;rintro v w1 ⟨ma,ca,b0,b1,b2,b4,c4,b5,b6,c6,rfl,hS⟩;obtain⟨⟨iq,hf⟩,hgo⟩:=hR ⟨b0,b1,b2,b4,c4,b5,b6,c6⟩;dsimp only at hf hgo;refine Xh ?_)|(refine Ol (Xh ?_) (h:=by first|(apply Still.load;rfl;rfl;exact Rd.ro (ho.sub _ hm);exact h0)|(apply Still.lookup;rfl;rfl;rfl;rfl;(exact Rd.any);exact KeyIs.string (f:=strK) rfl (zIK _ _ _ _ _ _ _ _);exact hf;rfl)|(apply Still.sliceLo;rfl;rfl;rfl;rfl;omega;omega;omega;rfl;rfl;rfl)|exact Still.any))|(apply OP.callV;rfl;exact hg;rfl;rfl;(first|exact hgo hS.tail|exact hgo (rot8 hS));clear hS;rintro v w1 ⟨rfl,hS⟩;refine Xh ?_)|(refine Oa ?_;clear hS;intro b w1 hS;refine Xh ?_)|(refine Od ?_;clear hS;intro w1 hS;refine Xh ?_)|refine Jo ?_|refine Zb 110 0 11 ?_ ?_|refine Zb 111 4 11 ?_ ?_|refine Zb 127 7 11 ?_ ?_|refine Za 2047 11 ?_|refine Za 4095 12 ?_|refine Za 2175 7 ?_|refine Za 2159 4 ?_|refine Za 2158 0 ?_|(refine Yd 16383 ?_;exact⟨_,Sb,hS.pk⟩)
 clear hS hRd hR kL;rintro b9 w1 hS;have hS2:St we ρ (zHy wb H W (Row b9 (lnL k a b c nm wa wc tl) 167::Row xb [pP wb] 125::F)) _:=hS.pk;clear hS;have hS:=hS2;clear hS2;repeat' first|apply Qs
 refine Run.regionH (fun w=>∃ ρ',St we ρ' (Row b9 (lnL k a b c nm wa wc tl) 167::Row xb [pP wb] 125::F) w)
  (fun e w=>∃H2 ρ3,Over we ρ0 ρ3∧WOk ρ3 H2 (N+1) W2∧Sub e [(0,pP xb),(9,pP b9),(11,pI q1),(12,pI 0)]∧St we ρ3 (zHy wb H2 W2 (Row b9 (lnL k a b c nm wa wc tl) 167::Row xb [pP wb] 125::F)) w)
  (fun e w ⟨H2,ρ3,o3,ok3,h1,hS3⟩=>Run.weaken h1 ?_) (by rfl) (by rfl) (by rfl) ?_
 rotate_left
 · replace hS:=hS.drew
   refine RH.relist (listed':=bm 12 0) (by kernel_rfl) ?_;repeat' first|refine Wt 0 0 ?_ (hS:=He) (h:=Ea)|refine Wt 1 1 ?_ (hS:=He) (h:=Ea)|refine Wt 3 2 ?_ (hS:=He) (h:=Ee)|(refine Wt 7 3 ?_ (hS:=He) (h:=by apply Still.ex;intro ρx;first|(apply Still.loadAgg (m:=8);rfl;rfl;rfl;(exact Rd.any);rfl;rfl)|exact Still.an))|refine Wt 15 4 ?_ (hS:=He) (h:=Ee)|(refine Wt 31 5 ?_ (hS:=He) (h:=by apply Still.ex;intro ρx;first|(apply Still.loadAgg (m:=8);rfl;rfl;rfl;(exact Rd.any);rfl;rfl)|exact Still.an))|refine Wt 127 7 ?_ (hS:=He) (h:=Ea)|refine Wt 255 8 ?_ (hS:=He) (h:=Ea)|refine Wt 511 9 ?_ (hS:=He) (h:=Ea)|refine Wt 1023 10 ?_ (hS:=He) (h:=Ea)|refine Wt 2047 11 ?_ (hS:=He) (h:=Ea)|(refine Oc 17 (c:=hDo ⟨H,ρ,ho,ok,hS⟩) (k':=?_);clear hS;rintro v w1 ⟨rfl,H2,ρ3,o3,ok3,hS⟩;refine⟨(by first|exact⟨_,hS⟩|exact⟨_,hS.tail⟩|exact⟨_,hS.sublist (by repeat(first|exact List.Sublist.refl _|refine .cons_cons _ ?_|refine .cons _ ?_))⟩),?_⟩)|refine Jo ?_|refine Za 63 6 ?_|(refine Yd 4095 ?_;exact⟨H2,ρ3,o3,ok3,(by exact Sb),hS⟩)
 clear hS;have hS:=hS3;clear hS3 hDo;have kA:∀{F w},St we ρ3 (Row wb (wdL H2 W2.fresh) 68::F) w→_:=fun hS=>zD4 hS
 rcases hout with ⟨rfl,rfl⟩|⟨rfl,m,hm1,rfl,rfl⟩|⟨rfl,m,hm1,hm2,hm3,rfl⟩
 · repeat' first|apply Qs|apply Qr|(apply Rs<;>intro hc<;>try exact No)|apply Qn|refine Ql ?_|refine Qf ?_|apply Qk|apply Qb|apply Qi
   refine Qw Tryz.func37 ?_;exact⟨rfl,H2,ρ3,o3,ok3,hS.pk⟩
 · repeat' first|(refine Qv 74 (zFB hm1 hS) ?_;clear hS;intro w1 hS)|apply Qs|apply Qr|(apply Rs<;>intro hc<;>try exact No)|apply Qn|refine Ql ?_|refine Qt ?_|refine Qf ?_|apply Qb
   refine Qw Tryz.func37 ?_;exact⟨rfl,H2,ρ3,o3,ok3,hS.pk⟩
 · have kW:∀{F w},St we ρ3 (zAA H2.p zAB W2.L::F) w→_:=fun hS=>zO4 hm1 hm2 hm3 hS
   repeat' first|(refine Qv 9 (kA hS.tk) ?_;clear hS;intro w1 hS)|(refine Qv 75 (kW hS.tk) ?_;clear hS;intro w1 hS)|apply Qs|apply Qr|(apply Rs<;>intro hc<;>try exact No)|apply Qn|refine Ql ?_|refine Qt ?_|refine Qf ?_|apply Qb
   refine Qw Tryz.func37 ?_;exact⟨rfl,H2,ρ3,o3,ok3,hS.pk⟩
end
def zIn (s:ByteArray):List ByteArray:=Lib.goFieldsP zFM s
def zRr (text:ByteArray):List (List ByteArray):=((zBD text nlB).map zIn).filter fun l=>!l.isEmpty
def valL (x:List ByteArray × Value):List Value:=[x.2]
section
variable {we w:World}{ρ ρ0:List (Nat × Obj)}{σ F:List HP}{v:Value}{wb xb N pb off cap:Nat}{W:Wd}
theorem zV7 {ρ:List (Nat × Obj)}{v:Value}{l:List ByteArray}(h:Sl ρ strL 1 v l)(hl:l≠[]):∃pb off cap,v = .slice (some ⟨pb,off,none⟩) l.length cap∧l.length≤cap∧zBw ρ pb off l:=by
 obtain⟨q,cap,rfl,h1,_,hr⟩:=h.val;obtain⟨b,off,cs,el,fr,rfl,hm,hc⟩:=hr (List.length_pos_iff.2 hl);refine⟨b,off,cap,rfl,h1,cs,el,fr,hm,fun i hi=>?_⟩;have:=hc i hi;rw[Nat.mul_one]at this;exact zC5 this
theorem zKe (hv:Vars we){text:ByteArray}{ls:List (List ByteArray)}{Ws:Nat→Wd}{acc outs:Nat→ByteArray}(hls:zRr text=ls)(ht:text.size≤1000)(hsl:(zBD text nlB).length≤100)(hss:∀s∈zBD text nlB,s.size≤1000)(hn:ls.length≤60)
 (hW0:Ws 0=wd0 [Nd.z]) (ha0:acc 0=ByteArray.empty) (ha:∀j,j<ls.length→acc (j+1)=acc j++(outs j++nlB)) (hz:∀j,j<ls.length→(acc j).size≤1000∧(outs j).size≤100)
 (hAns:∀(j:Nat) (hj:j<ls.length) {ρ0:List (Nat × Obj)} {wb xb pb off cap:Nat} {F:List HP} {w:World},zBw ρ0 pb off ls[j]→ls[j].length≤cap→WSt we ρ0 wb j (Ws j) (Row xb [pP wb] 125::F) w →
   Cl Tryz.prog 37 [pP xb,.slice (some ⟨pb,off,none⟩) ls[j].length cap] w fun v w'=>v = .string (outs j)∧WSt we ρ0 wb (j+1) (Ws (j+1)) (Row xb [pP wb] 125::F) w')
 (hS:St we ρ σ w):Cl Tryz.prog 20 [.string text] w fun v w'=>v = .string (acc ls.length)∧St we ρ σ w':=by
 have kS:∀{σ:List HP} {w:World},St we ρ σ w→_:=fun hS=>zB1 (s:=text) (sep:=nlB) hv (by omega) (by decide) hS
 unfold zRr at hls;generalize zBD text nlB=sl at kS hls hsl hss;refine Run.calls1 (n:=53) Tryz.func20 rfl rfl rfl ?_;repeat' first|(refine Qc 34 (c:=kS hS) (k':=?_);clear hS;intro v w1 hS;obtain⟨ρ1,o1,s1,hT⟩:=zAH zBU hS;clear hS;have hS:=hT;clear hT;obtain⟨wq,wc,rfl,k1,k2,-⟩:=s1.val)|apply Qs|apply Qr|apply Qn|refine Ql ?_|apply Qb
 refine Run.while (fun x:Nat × Value=>[(0,.string text),(12,.slice wq sl.length wc),(13,pI sl.length),(14,pI x.1),(3,x.2)])
  (fun x w=>x.1≤sl.length∧∃ ρ' tl,Over we ρ1 ρ'∧(∀y∈tl,Sl ρ' strL 1 y.2 y.1)∧tl.map (·.1)=((sl.take x.1).map zIn).filter (fun l=>!l.isEmpty)∧St we ρ' (Vec 119 1 x.2 tl.length (tl.flatMap valL) :: σ) w) (fun x=>sl.length - x.1) (0,.slice none 0 0)
  ⟨Nat.zero_le _,ρ1,[],Over.refl _ _,by simp,by simp,zAh hS.pk⟩ (by exact Sb) ?_
 clear hS;rintro⟨i,av⟩ w ⟨hi,ρ2,tl,o2,htl,hmap,hS⟩ ih;simp only at hi hmap hS ih ⊢;by_cases hlt:i<sl.length
 · obtain⟨b0,o0,cs0,e0,f0,rfl,m0,h0⟩:=s1.str hlt
   have hd:sl.take (i+1)=sl.take i++[sl[i]]:=List.take_succ_eq_append_getElem hlt;have hys:=hss sl[i] (List.getElem_mem hlt);generalize sl[i]=y at hd h0 hys;have hfw:zIn y=Lib.goFieldsP zFM y:=rfl;have hlen:tl.length≤100:=by
    have h1:=congrArg List.length hmap;rw[List.length_map]at h1;have h2:=List.length_filter_le (fun l:List ByteArray=>!l.isEmpty) ((sl.take i).map zIn);rw[List.length_map,List.length_take]at h2;omega
   replace ih:=fun v w ρ' tl o ht hm h=>ih (i+1,v) w ⟨by simp only;omega,ρ',tl,o,ht,hm,h⟩ (by simp only;omega)
   simp only[hd,List.map_append,List.filter_append,← hmap,List.map_cons,List.map_nil,hfw]at ih;have kF:∀{σ:List HP} {w:World},St we ρ2 σ w→_:=fun hS=>zMJ (s:=y) (by omega) hS
   generalize Lib.goFieldsP zFM y=ws at ih kF;repeat' first|(refine Ql ?_ (h:=by apply Still.load;rfl;rfl;exact Rd.ro (o2.sub _ m0);exact h0))|(refine Qc 35 (c:=kF hS) (k':=?_);clear hS;intro v w1 hS;obtain⟨ρ3,o3,s3,hT⟩:=zAH zBU hS;clear hS;have hS:=hT;clear hT;obtain⟨fq,fc,rfl,k5,k6,-⟩:=s3.val)|(apply RO.op;apply OP.append (size:=1) (bytes:=24) (k:=1) (news:=[.slice fq ws.length fc]) hS;rfl;rfl;rfl;rfl;rfl;rfl;rfl;rfl;exact(by omega);exact An;(exact Rd.any);rfl;rfl;exact(by intro v hv;simp at hv;subst hv;rfl);(exact(by unfold maxLen;omega));(exact(by omega));rfl;clear hS;intro v2 w1 hS)|apply Qs|apply Qr|(apply Rs<;>intro hc<;>try exact No)|apply Qn|refine Ql ?_|(refine Qg ?_;clear hS;intro b w1 hS)|refine Qt ?_|refine Qf ?_|apply Qk|apply Qb|apply Qi
   · refine Run.weaken (e':=[(0,.string text),(12,.slice (some ⟨b0,o0,none⟩) sl.length wc),(13,pI sl.length),(14,pI ((i+1:Nat):Int)),(3,v2)]) (by exact Sb) (ih v2 _ ρ3 (tl++[(ws,.slice fq ws.length fc)]) (o2.trans o3) ?_ ?_ ?_)
     · intro z hz
       rcases List.mem_append.1 hz with h|h
       · exact(htl z h).mono o3.sub
       · rw[List.mem_singleton]at h;subst h;exact s3
     · have hne:ws≠[]:=by intro h;subst h;simp at hc
       have h1:(!ws.isEmpty)=true:=by cases ws with|nil=>exact absurd rfl hne|cons a l=>rfl
       simp[h1]
     · have hS2:St we ρ3 (Vec 119 1 v2 (tl.length+1) (tl.flatMap valL++[.slice fq ws.length fc]) :: σ) _:=hS.pk
       simpa[valL]using hS2
   · refine Run.weaken (e':=[(0,.string text),(12,.slice (some ⟨b0,o0,none⟩) sl.length wc),(13,pI sl.length),(14,pI ((i+1:Nat):Int)),(3,av)]) (by exact Sb) (ih av _ ρ3 tl (o2.trans o3) (fun z hz=>(htl z hz).mono o3.sub) ?_ hS)
     have he:ws=[]:=List.eq_nil_of_length_eq_zero (by omega);rw[he];simp
 · obtain rfl:i=sl.length:=by omega
   rw[List.take_length,hls]at hmap;clear ih hsl hss;have hlen:tl.length=ls.length:=by rw[← hmap,List.length_map]
   obtain⟨ρ3,o3,s3,hT⟩:=zAH (g:=valL) (fun _=>rfl) hS;clear hS;have hS:=hT;clear hT;obtain⟨aq,ac,rfl,k3,k4,-⟩:=s3.val;repeat' first|(refine Qc 19 (c:=zJR hS) (k':=?_);clear hS;rintro v w1 ⟨wb,rfl,hS⟩)|apply Qs|apply Qr|(apply Rs<;>intro hc<;>try exact No)|apply Qn|refine Ql ?_|refine Qy ?_|refine Qf ?_|apply Qk|refine Qe ?_
   obtain⟨H,ρ4,o4,ok,hS⟩:=hS;repeat' first|apply Qs|apply Qr|apply Qn|refine Ql ?_|(refine Qx ?_;clear hS;intro b w1 hS)|apply Qb
   obtain⟨xb,hxb⟩:∃x,x=b:=⟨_,rfl⟩
   subst hxb;refine Run.while (fun j:Nat=>[(7,pP xb),(8,.string (acc j)),(39,.slice aq tl.length ac),(40,pI tl.length),(41,pI j)])
    (fun j w=>j≤ls.length∧WSt we ρ3 wb j (Ws j) (Row xb [pP wb] 125 :: σ) w) (fun j=>ls.length - j) 0 ⟨Nat.zero_le _,H,ρ4,o4,by rw[hW0];exact ok,by rw[hW0];exact hS.pk⟩ (by rw[ha0];focus((repeat(first|exact .nil|refine .cons rfl ?_));done)) ?_
   clear hS ok o4;clear H ρ4;rintro j w ⟨hj,hS⟩ ih;by_cases hjl:j<ls.length
   · replace ih:=fun w h=>ih (j+1) w ⟨by omega,h⟩ (by omega)
     obtain⟨b0,o0,cs0,e0,f0,rfl,m0,ht0⟩:=s3.agg (i:=j) (by omega);rw[Nat.mul_one]at ht0;have h0:=zC5 ht0;have hlj:tl[j].1=ls[j]:=by
      have h1:(tl.map (·.1))[j]? = ls[j]?:=by rw[hmap]
      rw[List.getElem?_map,List.getElem?_eq_getElem (by omega),List.getElem?_eq_getElem hjl]at h1;simpa using h1
     have hne:ls[j]≠[]:=by
      have hmem:ls[j]∈(sl.map zIn).filter fun l=>!l.isEmpty:=by rw[hls];exact List.getElem_mem hjl
      have:=(List.mem_filter.1 hmem).2;intro h;rw[h]at this;exact Bool.noConfusion this
     have hsl:=(htl tl[j] (List.getElem_mem _)).mono o3.sub;rw[hlj]at hsl;obtain⟨pb,off,cap,hv2,hcap,hst⟩:=zV7 hsl hne;rw[hv2]at h0;have kA:∀{w:World},WSt we ρ3 wb j (Ws j) (Row xb [pP wb] 125 :: σ) w→_:=fun h=>hAns j hjl hst hcap h
     obtain⟨z1,z2⟩:=hz j hjl;have hnl:({ data := #[10] }:ByteArray).size=1:=rfl;rw[ha j hjl]at ih;generalize ls[j].length=lj at kA h0;obtain⟨H,ρ4,o4,ok,hS⟩:=hS;repeat' first|(refine Ql ?_ (h:=by apply Still.load;rfl;rfl;exact Rd.ro (o4.sub _ m0);exact h0))|(refine Qv 37 (kA ⟨H,ρ4,o4,ok,hS⟩) ?_;clear hS;intro w1 hS)|(refine Ql ?_ (h:=by apply Still.addS;rfl;rfl;(first|omega|(simp only[ByteArray.size_append];omega))))|apply Qs|apply Qr|(apply Rs<;>intro hc<;>try exact No)|apply Qn|refine Ql ?_|refine Qt ?_|apply Qk|apply Qb|apply Qi
     exact Run.weaken (by exact Sb) (ih _ hS)
   · obtain rfl:j=ls.length:=by omega
     clear ih;repeat' first|apply Qs|apply Qr|(apply Rs<;>intro hc<;>try(first|(exfalso;omega)|exact absurd rfl hc))|apply Qn|refine Ql ?_|refine Qf ?_|refine Qe ?_
     refine Qw Tryz.func20 ?_;exact⟨rfl,o1.back (o2.back (o3.back hS.back.tail))⟩
end
def okB:ByteArray:=⟨#[111,107]⟩
def zR7:ByteArray:=⟨#[100,101,118,105,99,101,32,49,32,49,10,100,101,118,105,99,101,32,50,32,50,10,112,101,101,114,32,49,32,50,10,111,112,101,110,32,49,32,73,75,32,48,32,50,10,111,112,101,110,32,50,32,73,75,32,49,32,45,10,115,116,97,116,101,32,48,10,119,114,105,116,101,32,48,32,49,32,50,10,115,101,110,100,32,49,32,48,10,114,101,97,100,32,49,32,49,32,50,10,119,114,105,116,101,32,49,32,50,32,52,10,115,101,110,100,32,48,32,49,10,114,101,97,100,32,48,32,50,32,52,10,115,116,97,116,101,32,48,10,99,97,110,32,48,10]⟩
def ansB:ByteArray:=⟨#[111,107,10,111,107,10,111,107,10,48,10,49,10,114,101,97,100,121,32,50,32,49,47,50,32,50,47,48,10,48,10,111,107,10,49,32,52,59,10,49,10,111,107,10,49,32,54,59,10,100,111,110,101,32,50,32,50,47,53,32,50,47,52,10,110,111,10]⟩
def lsH:List (List ByteArray):=[[⟨#[100,101,118,105,99,101]⟩,⟨#[49]⟩,⟨#[49]⟩],[⟨#[100,101,118,105,99,101]⟩,⟨#[50]⟩,⟨#[50]⟩],[⟨#[112,101,101,114]⟩,⟨#[49]⟩,⟨#[50]⟩],[⟨#[111,112,101,110]⟩,⟨#[49]⟩,⟨#[73,75]⟩,⟨#[48]⟩,⟨#[50]⟩],[⟨#[111,112,101,110]⟩,⟨#[50]⟩,⟨#[73,75]⟩,⟨#[49]⟩,⟨#[45]⟩],[⟨#[115,116,97,116,101]⟩,⟨#[48]⟩],[⟨#[119,114,105,116,101]⟩,⟨#[48]⟩,⟨#[49]⟩,⟨#[50]⟩],[⟨#[115,101,110,100]⟩,⟨#[49]⟩,⟨#[48]⟩],[⟨#[114,101,97,100]⟩,⟨#[49]⟩,⟨#[49]⟩,⟨#[50]⟩],[⟨#[119,114,105,116,101]⟩,⟨#[49]⟩,⟨#[50]⟩,⟨#[52]⟩],[⟨#[115,101,110,100]⟩,⟨#[48]⟩,⟨#[49]⟩],[⟨#[114,101,97,100]⟩,⟨#[48]⟩,⟨#[50]⟩,⟨#[52]⟩],[⟨#[115,116,97,116,101]⟩,⟨#[48]⟩],[⟨#[99,97,110]⟩,⟨#[48]⟩]]
theorem zVR:zRr zR7=lsH:=by kernel_rfl
def kk0:Int→Bool:=fun _=>false
noncomputable def kk1:Int→Bool:=hK0 kk0
noncomputable def kk2:Int→Bool:=hK1 kk1
noncomputable def kk3:Int→Bool:=hK2 kk2
noncomputable def kk4:Int→Bool:=hK3 kk3
noncomputable def kk5:Int→Bool:=hK4 kk4
noncomputable def kk6:Int→Bool:=hK5 kk5
noncomputable def kk7:Int→Bool:=hK6 kk6
noncomputable def kk8:Int→Bool:=hK7 kk7
noncomputable def kk9:Int→Bool:=hK8 kk8
noncomputable def kk10:Int→Bool:=hK9 kk9
noncomputable def kk11:Int→Bool:=hK10 kk10
noncomputable def wsH:Nat→Wd
 | 0=>hw0 kk0
 | 1=>hw1 kk1
 | 2=>hw2 kk2
 | 3=>hw3 kk3
 | 4=>hw4 kk4
 | 5=>hw5 kk5
 | 6=>hw5 kk5
 | 7=>hw6 kk6
 | 8=>hw7 kk7
 | 9=>hw8 kk8
 | 10=>hw9 kk9
 | 11=>hw10 kk10
 | 12=>hw11 kk11
 | 13=>hw11 kk11
 | _=>hw11 kk11
def outH:Nat→ByteArray
 | 0=>okB
 | 1=>okB
 | 2=>okB
 | 3=>itoB 0
 | 4=>itoB 1
 | 5=>stB false 2 1 2 2 0
 | 6=>itoB 0
 | 7=>okB
 | 8=>zPv 4
 | 9=>itoB 1
 | 10=>okB
 | 11=>zPv 6
 | 12=>stB true 2 2 5 2 4
 | _=>noB
def accH:Nat→ByteArray
 | 0=>ByteArray.empty
 | j+1=>accH j++(outH j++nlB)
theorem zUK:accH 14=ansB:=by kernel_rfl
theorem zQ3:((List.range 14).all fun j=>decide ((accH j).size≤1000) && decide ((outH j).size≤100))=true:=by kernel_rfl
def zUV:List Int:=[2,4,13,18,23,27,35]
def cH (y:Int):Bool:=decide (y∈zUV)
def zMw (L:List Nd):Bool:=zUV.all fun x=>decide ((nd L x).k≠8) && (decide ((nd L x).k≠7) || !(can L cH (nd L x).a))
theorem zMv {L:List Nd}(h:zMw L=true):Closed L cH:=by
 unfold zMw at h;rw[List.all_eq_true]at h;refine⟨fun x hx hk=>?_,fun x hx hk hc=>?_⟩
 · have:=h x (of_decide_eq_true hx)
   simp[hk]at this
 · have:=h x (of_decide_eq_true hx)
   simp[hk,hc]at this
theorem zC6 {L:List Nd}{K:Int→Bool}{x:Int}(h:zMw L=true)(hx:cH x=true)(hK:∀y,K y=true→cH y=true):∀y,cl L (ins K x) y=true→cH y=true:=fun y hy =>
 zDY (zMv h) (fun z hz=>by
  rcases zCo.1 hz with h1|rfl
  · exact hK z h1
  · exact hx) hy
theorem zWk:zMw hL1=true:=by kernel_rfl
theorem zWj:zMw hL2=true:=by kernel_rfl
theorem zUp:zMw hL6=true:=by kernel_rfl
theorem zV8:zMw hL9=true:=by kernel_rfl
theorem zTj:∀y,kk11 y=true→cH y=true:=by
 have h1:∀y,kk1 y=true→cH y=true:=zC6 zWk rfl (by intro y h;exact Bool.noConfusion h);have h2:∀y,kk2 y=true→cH y=true:=zC6 zWj rfl h1;have h6:∀y,kk6 y=true→cH y=true:=zC6 zUp rfl (zC6 zUp rfl (zC6 zUp rfl h2));exact zC6 zV8 rfl (zC6 zV8 rfl h6)
theorem zUG:can hL11 cH 12=false:=by kernel_rfl
theorem zUH:can hL11 kk11 12=false:=by
 cases h:can hL11 kk11 12 with
 | false=>rfl
 | true =>
   have:=zHu zTj h;rw[zUG]at this;exact this.symm
theorem zLx:numG ⟨#[48]⟩=0:=by kernel_rfl
theorem zKl:numG ⟨#[49]⟩=1:=by kernel_rfl
theorem zLw:numG ⟨#[50]⟩=2:=by kernel_rfl
theorem zWN:numG ⟨#[52]⟩=4:=by kernel_rfl
theorem okH0:okN ⟨#[48]⟩=true:=by kernel_rfl
theorem okH1:okN ⟨#[49]⟩=true:=by kernel_rfl
theorem okH2:okN ⟨#[50]⟩=true:=by kernel_rfl
theorem okH4:okN ⟨#[52]⟩=true:=by kernel_rfl
theorem zBw.next {ρ:List (Nat × Obj)}{pb off:Nat}{s:ByteArray}{l:List ByteArray}(h:zBw ρ pb off (s::l)):zBw ρ pb (off+1) l:=by
 obtain⟨cs,el,fr,hm,hc⟩:=h;refine⟨cs,el,fr,hm,fun i hi=>?_⟩;have:=hc (i+1) (by simp;omega);rw[show off+1+i=off+(i+1) by omega,this];rfl
theorem zBw.sub {ρ ρ':List (Nat × Obj)}{pb off:Nat}{l:List ByteArray}(h:zBw ρ pb off l)(hs:∀x ∈ ρ,x ∈ ρ'):zBw ρ' pb off l:=by
 obtain⟨cs,el,fr,hm,hc⟩:=h;exact⟨cs,el,fr,hs _ hm,hc⟩
section
variable {we w:World}{ρ ρ0:List (Nat × Obj)}{σ F:List HP}{v:Value}{wb xb N pb off cap:Nat}{W:Wd}
theorem zE1 {key out nm:ByteArray}{l:List ByteArray}{g:Nat}{k a b c wa wc tl:Int}{caps:RdH→List Value}{q:Wd × Int × Int}(hv:Vars we)(hT:zBf we)(hRn:zCz we)(hN:N<500)
 (hl:zBw ρ0 pb off (key::l)) (hcap:(key::l).length≤cap) (hl0:0<l.length)
 (hask:zBN (fun u=>decide (key=strK u)) zLA 0=none) (hg:fnB Tryz.prog g=true) (hRd:∀{ρ:List (Nat × Obj)} {cap:Nat},zBw ρ pb (off+1) l→zLB we ρ key pb (off+1) l.length cap (lnL k a b c nm wa wc tl) g caps) (hnm:nm.size≤1000)
 (hq:doW W ⟨k,a,b,c,nm,wa,wc,.slice none 0 0,[]⟩=q) (hq0:q.2.2=0)
 (hout:(tl=0∧out=⟨#[111,107]⟩)∨(tl=1∧∃m:Nat,m<100∧q.2.1=(m:Int)∧out=itoB m)∨(tl=2∧∃m:Nat,m<10∧has q.1.L q.2.1=true∧nd q.1.L q.2.1=⟨1,m,0,0,0⟩∧out=zPv m))
 (h:WSt we ρ0 wb N W (Row xb [pP wb] 125::F) w) :
 Cl Tryz.prog 37 [pP xb,.slice (some ⟨pb,off,none⟩) (l.length+1) cap] w fun v w'=>v = .string out∧WSt we ρ0 wb (N+1) q.1 (Row xb [pP wb] 125::F) w':=by
 have hl2:=hl;obtain⟨cs,el,fr,hm,hc⟩:=hl;have h0:=hc 0 (by simp);rw[Nat.add_zero]at h0;rw[List.length_cons]at hcap;exact zSv hv hT hRn hN hm h0 hask hg (fun ρ hs=>hRd (hl2.sub hs).next) ⟨hl0,by omega⟩ hnm hq hq0 hout h
theorem zOD {key s1 out:ByteArray}{i g:Nat}(hl:zBw ρ0 pb off [key,s1])(hcap:2≤cap)(hok:okN s1=true)
 (hask:zBN (fun u=>decide (key=strK u)) zLA 0=some (i,.func (.func g) #[] #[])) (hg:fnB Tryz.prog g=true) (hN:N<500)
 (hcall:∀{w:World},WSt we ρ0 wb N W (Row xb [pP wb] 125::F) w→Cl Tryz.prog g [pP xb,pI (numG s1)] w fun v w'=>v = .string out∧WSt we ρ0 wb N W (Row xb [pP wb] 125::F) w')
 (h:WSt we ρ0 wb N W (Row xb [pP wb] 125::F) w) :
 Cl Tryz.prog 37 [pP xb,.slice (some ⟨pb,off,none⟩) 2 cap] w fun v w'=>v = .string out∧WSt we ρ0 wb (N+1) W (Row xb [pP wb] 125::F) w':=by
 obtain⟨cs,el,fr,hm,hc⟩:=hl;have h0:=hc 0 (by simp);have h1:=hc 1 (by simp);rw[Nat.add_zero]at h0;exact(zQZ hm h0 h1 hok hask hg (by omega) hcall h).mono fun v w' h=>⟨h.1,h.2.next hN⟩
theorem ans0 (hv:Vars we)(hT:zBf we)(hRn:zCz we)(hl:zBw ρ0 pb off [⟨#[100,101,118,105,99,101]⟩,⟨#[49]⟩,⟨#[49]⟩])(hcap:3≤cap)(h:WSt we ρ0 wb 0 (wsH 0) (Row xb [pP wb] 125::F) w):Cl Tryz.prog 37 [pP xb,.slice (some ⟨pb,off,none⟩) 3 cap] w fun v w'=>v = .string (outH 0)∧WSt we ρ0 wb 1 (wsH 1) (Row xb [pP wb] 125::F) w' :=
 zE1 (k:=0) (a:=1) (b:=1) (c:=0) (nm:=ByteArray.empty) (wa:=0) (wc:=0) (tl:=0) (caps:=fun x=>[pP x.b0]) (g:=170) hv hT hRn (by decide) hl hcap (by decide) (by kernel_rfl) rfl (fun {ρ cap} hs=>by
  have:=zHK (we:=we) (cap:=cap) hs okH1 okH1;rw[zKl]at this;exact this) (by decide) (congrFun hs0 kk0) rfl (.inl ⟨rfl,rfl⟩) h
theorem ans1 (hv:Vars we)(hT:zBf we)(hRn:zCz we)(hl:zBw ρ0 pb off [⟨#[100,101,118,105,99,101]⟩,⟨#[50]⟩,⟨#[50]⟩])(hcap:3≤cap)(h:WSt we ρ0 wb 1 (wsH 1) (Row xb [pP wb] 125::F) w):Cl Tryz.prog 37 [pP xb,.slice (some ⟨pb,off,none⟩) 3 cap] w fun v w'=>v = .string (outH 1)∧WSt we ρ0 wb 2 (wsH 2) (Row xb [pP wb] 125::F) w' :=
 zE1 (k:=0) (a:=2) (b:=2) (c:=0) (nm:=ByteArray.empty) (wa:=0) (wc:=0) (tl:=0) (caps:=fun x=>[pP x.b0]) (g:=170) hv hT hRn (by decide) hl hcap (by decide) (by kernel_rfl) rfl (fun {ρ cap} hs=>by
  have:=zHK (we:=we) (cap:=cap) hs okH2 okH2;rw[zLw]at this;exact this) (by decide) (congrFun hs1 kk1) rfl (.inl ⟨rfl,rfl⟩) h
theorem ans2 (hv:Vars we)(hT:zBf we)(hRn:zCz we)(hl:zBw ρ0 pb off [⟨#[112,101,101,114]⟩,⟨#[49]⟩,⟨#[50]⟩])(hcap:3≤cap)(h:WSt we ρ0 wb 2 (wsH 2) (Row xb [pP wb] 125::F) w):Cl Tryz.prog 37 [pP xb,.slice (some ⟨pb,off,none⟩) 3 cap] w fun v w'=>v = .string (outH 2)∧WSt we ρ0 wb 3 (wsH 3) (Row xb [pP wb] 125::F) w' :=
 zE1 (k:=1) (a:=1) (b:=2) (c:=0) (nm:=ByteArray.empty) (wa:=0) (wc:=0) (tl:=0) (caps:=fun x=>[pP x.b1]) (g:=170) hv hT hRn (by decide) hl hcap (by decide) (by kernel_rfl) rfl (fun {ρ cap} hs=>by
  have:=zPU (we:=we) (cap:=cap) hs okH1 okH2;rw[zKl,zLw]at this;exact this) (by decide) (congrFun hs2 kk2) rfl (.inl ⟨rfl,rfl⟩) h
theorem ans3 (hv:Vars we)(hT:zBf we)(hRn:zCz we)(hl:zBw ρ0 pb off [⟨#[111,112,101,110]⟩,⟨#[49]⟩,⟨#[73,75]⟩,⟨#[48]⟩,⟨#[50]⟩])(hcap:5≤cap)(h:WSt we ρ0 wb 3 (wsH 3) (Row xb [pP wb] 125::F) w):Cl Tryz.prog 37 [pP xb,.slice (some ⟨pb,off,none⟩) 5 cap] w fun v w'=>v = .string (outH 3)∧WSt we ρ0 wb 4 (wsH 4) (Row xb [pP wb] 125::F) w' :=
 zE1 (k:=3) (a:=1) (b:=0) (c:=2) (nm:=⟨#[73,75]⟩) (wa:=0) (wc:=0) (tl:=1) (caps:=fun x=>[]) (g:=123) hv hT hRn (by decide) hl hcap (by decide) (by kernel_rfl) rfl (fun {ρ cap} hs=>by
  have:=zJg (we:=we) (cap:=cap) hs okH1 okH0 okH2;rw[zKl,zLx]at this;rw[if_neg (by decide),zLw]at this;exact this) (by decide) (congrFun hs3 kk3) rfl (.inr (.inl ⟨rfl,0,by decide,rfl,rfl⟩)) h
theorem ans4 (hv:Vars we)(hT:zBf we)(hRn:zCz we)(hl:zBw ρ0 pb off [⟨#[111,112,101,110]⟩,⟨#[50]⟩,⟨#[73,75]⟩,⟨#[49]⟩,⟨#[45]⟩])(hcap:5≤cap)(h:WSt we ρ0 wb 4 (wsH 4) (Row xb [pP wb] 125::F) w):Cl Tryz.prog 37 [pP xb,.slice (some ⟨pb,off,none⟩) 5 cap] w fun v w'=>v = .string (outH 4)∧WSt we ρ0 wb 5 (wsH 5) (Row xb [pP wb] 125::F) w' :=
 zE1 (k:=3) (a:=2) (b:=1) (c:=(-1)) (nm:=⟨#[73,75]⟩) (wa:=0) (wc:=0) (tl:=1) (caps:=fun x=>[]) (g:=123) hv hT hRn (by decide) hl hcap (by decide) (by kernel_rfl) rfl (fun {ρ cap} hs=>by
  have:=zJg (we:=we) (cap:=cap) hs okH2 okH1 okH0;rw[zLw,zKl]at this;rw[if_pos (by rfl)]at this;exact this) (by decide) (congrFun hs4 kk4) rfl (.inr (.inl ⟨rfl,1,by decide,rfl,rfl⟩)) h
theorem ans5 (hl:zBw ρ0 pb off [⟨#[115,116,97,116,101]⟩,⟨#[48]⟩])(hcap:2≤cap)(h:WSt we ρ0 wb 5 (wsH 5) (Row xb [pP wb] 125::F) w):Cl Tryz.prog 37 [pP xb,.slice (some ⟨pb,off,none⟩) 2 cap] w fun v w'=>v = .string (outH 5)∧WSt we ρ0 wb 6 (wsH 6) (Row xb [pP wb] 125::F) w' :=
 zOD (i:=1) (g:=118) hl hcap okH0 (by kernel_rfl) rfl (by decide) (fun h=>by
  rw[zLx];exact zH6 (d:=false) (pe:=2) (a1:=1) (c1:=2) (a2:=2) (c2:=0) (by kernel_rfl) (by kernel_rfl) (by kernel_rfl) (by kernel_rfl) (by kernel_rfl) (by kernel_rfl) (by kernel_rfl) (by kernel_rfl) (by decide) h) h
theorem ans6 (hv:Vars we)(hT:zBf we)(hRn:zCz we)(hl:zBw ρ0 pb off [⟨#[119,114,105,116,101]⟩,⟨#[48]⟩,⟨#[49]⟩,⟨#[50]⟩])(hcap:4≤cap)(h:WSt we ρ0 wb 6 (wsH 6) (Row xb [pP wb] 125::F) w):Cl Tryz.prog 37 [pP xb,.slice (some ⟨pb,off,none⟩) 4 cap] w fun v w'=>v = .string (outH 6)∧WSt we ρ0 wb 7 (wsH 7) (Row xb [pP wb] 125::F) w' :=
 zE1 (k:=4) (a:=0) (b:=0) (c:=0) (nm:=ByteArray.empty) (wa:=1) (wc:=2) (tl:=1) (caps:=fun x=>[pP x.b4,pP x.c4]) (g:=171) hv hT hRn (by decide) hl hcap (by decide) (by kernel_rfl) rfl (fun {ρ cap} hs=>by
  have:=zIJ (we:=we) (cap:=cap) hs okH0 okH1 okH2;rw[zLx,zKl,zLw]at this;exact this) (by decide) (congrFun hs5 kk5) rfl (.inr (.inl ⟨rfl,0,by decide,rfl,rfl⟩)) h
theorem ans7 (hv:Vars we)(hT:zBf we)(hRn:zCz we)(hl:zBw ρ0 pb off [⟨#[115,101,110,100]⟩,⟨#[49]⟩,⟨#[48]⟩])(hcap:3≤cap)(h:WSt we ρ0 wb 7 (wsH 7) (Row xb [pP wb] 125::F) w):Cl Tryz.prog 37 [pP xb,.slice (some ⟨pb,off,none⟩) 3 cap] w fun v w'=>v = .string (outH 7)∧WSt we ρ0 wb 8 (wsH 8) (Row xb [pP wb] 125::F) w' :=
 zE1 (k:=5) (a:=1) (b:=0) (c:=0) (nm:=ByteArray.empty) (wa:=0) (wc:=0) (tl:=0) (caps:=fun x=>[pP x.b5]) (g:=170) hv hT hRn (by decide) hl hcap (by decide) (by kernel_rfl) rfl (fun {ρ cap} hs=>by
  have:=zJe (we:=we) (cap:=cap) hs okH1 okH0;rw[zKl,zLx]at this;exact this) (by decide) (congrFun hs6 kk6) rfl (.inl ⟨rfl,rfl⟩) h
theorem ans8 (hv:Vars we)(hT:zBf we)(hRn:zCz we)(hl:zBw ρ0 pb off [⟨#[114,101,97,100]⟩,⟨#[49]⟩,⟨#[49]⟩,⟨#[50]⟩])(hcap:4≤cap)(h:WSt we ρ0 wb 8 (wsH 8) (Row xb [pP wb] 125::F) w):Cl Tryz.prog 37 [pP xb,.slice (some ⟨pb,off,none⟩) 4 cap] w fun v w'=>v = .string (outH 8)∧WSt we ρ0 wb 9 (wsH 9) (Row xb [pP wb] 125::F) w' :=
 zE1 (k:=6) (a:=1) (b:=0) (c:=0) (nm:=ByteArray.empty) (wa:=1) (wc:=2) (tl:=2) (caps:=fun x=>[pP x.b6,pP x.c6]) (g:=171) hv hT hRn (by decide) hl hcap (by decide) (by kernel_rfl) rfl (fun {ρ cap} hs=>by
  have:=zJf (we:=we) (cap:=cap) hs okH1 okH1 okH2;rw[zKl,zLw]at this;exact this) (by decide) (congrFun hs7 kk7) rfl (.inr (.inr ⟨rfl,4,by decide,by kernel_rfl,by kernel_rfl,rfl⟩)) h
theorem ans9 (hv:Vars we)(hT:zBf we)(hRn:zCz we)(hl:zBw ρ0 pb off [⟨#[119,114,105,116,101]⟩,⟨#[49]⟩,⟨#[50]⟩,⟨#[52]⟩])(hcap:4≤cap)(h:WSt we ρ0 wb 9 (wsH 9) (Row xb [pP wb] 125::F) w):Cl Tryz.prog 37 [pP xb,.slice (some ⟨pb,off,none⟩) 4 cap] w fun v w'=>v = .string (outH 9)∧WSt we ρ0 wb 10 (wsH 10) (Row xb [pP wb] 125::F) w' :=
 zE1 (k:=4) (a:=1) (b:=0) (c:=0) (nm:=ByteArray.empty) (wa:=2) (wc:=4) (tl:=1) (caps:=fun x=>[pP x.b4,pP x.c4]) (g:=171) hv hT hRn (by decide) hl hcap (by decide) (by kernel_rfl) rfl (fun {ρ cap} hs=>by
  have:=zIJ (we:=we) (cap:=cap) hs okH1 okH2 okH4;rw[zKl,zLw,zWN]at this;exact this) (by decide) (congrFun hs8 kk8) rfl (.inr (.inl ⟨rfl,1,by decide,rfl,rfl⟩)) h
theorem zW3 (hv:Vars we)(hT:zBf we)(hRn:zCz we)(hl:zBw ρ0 pb off [⟨#[115,101,110,100]⟩,⟨#[48]⟩,⟨#[49]⟩])(hcap:3≤cap)(h:WSt we ρ0 wb 10 (wsH 10) (Row xb [pP wb] 125::F) w):Cl Tryz.prog 37 [pP xb,.slice (some ⟨pb,off,none⟩) 3 cap] w fun v w'=>v = .string (outH 10)∧WSt we ρ0 wb 11 (wsH 11) (Row xb [pP wb] 125::F) w' :=
 zE1 (k:=5) (a:=0) (b:=1) (c:=0) (nm:=ByteArray.empty) (wa:=0) (wc:=0) (tl:=0) (caps:=fun x=>[pP x.b5]) (g:=170) hv hT hRn (by decide) hl hcap (by decide) (by kernel_rfl) rfl (fun {ρ cap} hs=>by
  have:=zJe (we:=we) (cap:=cap) hs okH0 okH1;rw[zLx,zKl]at this;exact this) (by decide) (congrFun hs9 kk9) rfl (.inl ⟨rfl,rfl⟩) h
theorem zW2 (hv:Vars we)(hT:zBf we)(hRn:zCz we)(hl:zBw ρ0 pb off [⟨#[114,101,97,100]⟩,⟨#[48]⟩,⟨#[50]⟩,⟨#[52]⟩])(hcap:4≤cap)(h:WSt we ρ0 wb 11 (wsH 11) (Row xb [pP wb] 125::F) w):Cl Tryz.prog 37 [pP xb,.slice (some ⟨pb,off,none⟩) 4 cap] w fun v w'=>v = .string (outH 11)∧WSt we ρ0 wb 12 (wsH 12) (Row xb [pP wb] 125::F) w' :=
 zE1 (k:=6) (a:=0) (b:=0) (c:=0) (nm:=ByteArray.empty) (wa:=2) (wc:=4) (tl:=2) (caps:=fun x=>[pP x.b6,pP x.c6]) (g:=171) hv hT hRn (by decide) hl hcap (by decide) (by kernel_rfl) rfl (fun {ρ cap} hs=>by
  have:=zJf (we:=we) (cap:=cap) hs okH0 okH2 okH4;rw[zLx,zLw,zWN]at this;exact this) (by decide) (congrFun hs10 kk10) rfl (.inr (.inr ⟨rfl,6,by decide,by kernel_rfl,by kernel_rfl,rfl⟩)) h
theorem zW1 (hl:zBw ρ0 pb off [⟨#[115,116,97,116,101]⟩,⟨#[48]⟩])(hcap:2≤cap)(h:WSt we ρ0 wb 12 (wsH 12) (Row xb [pP wb] 125::F) w):Cl Tryz.prog 37 [pP xb,.slice (some ⟨pb,off,none⟩) 2 cap] w fun v w'=>v = .string (outH 12)∧WSt we ρ0 wb 13 (wsH 13) (Row xb [pP wb] 125::F) w' :=
 zOD (i:=1) (g:=118) hl hcap okH0 (by kernel_rfl) rfl (by decide) (fun h=>by
  rw[zLx];exact zH6 (d:=true) (pe:=2) (a1:=2) (c1:=5) (a2:=2) (c2:=4) (by kernel_rfl) (by kernel_rfl) (by kernel_rfl) (by kernel_rfl) (by kernel_rfl) (by kernel_rfl) (by kernel_rfl) (by kernel_rfl) (by decide) h) h
theorem zW0 (hl:zBw ρ0 pb off [⟨#[99,97,110]⟩,⟨#[48]⟩])(hcap:2≤cap)(h:WSt we ρ0 wb 13 (wsH 13) (Row xb [pP wb] 125::F) w):Cl Tryz.prog 37 [pP xb,.slice (some ⟨pb,off,none⟩) 2 cap] w fun v w'=>v = .string (outH 13)∧WSt we ρ0 wb 14 (wsH 14) (Row xb [pP wb] 125::F) w' :=
 zOD (i:=0) (g:=117) hl hcap okH0 (by kernel_rfl) rfl (by decide) (fun h=>by
  rw[zLx];exact zKg (n:=0) (e:=⟨0,1,⟨true,0,23,12,22,1,2,2,11,4,0⟩⟩) (by kernel_rfl) zUH h) h
theorem zG3 (hv:Vars we)(hT:zBf we)(hRn:zCz we)(hS:St we ρ σ w):Cl Tryz.prog 7 [] w fun v w'=>v = .bool true∧St we ρ σ w':=by
 have kR:∀{σ:List HP} {w:World},St we ρ σ w→Cl Tryz.prog 20 [.string zR7] w fun v w'=>v = .string (accH 14)∧St we ρ σ w':=fun hS=>zKe (Ws:=wsH) (acc:=accH) (outs:=outH) hv zVR (by decide) (of_decide_eq_true (by kernel_rfl)) (by
  have h:((zBD zR7 nlB).all fun s=>decide (s.size≤1000))=true:=by kernel_rfl
  intro s hs;exact of_decide_eq_true (List.all_eq_true.1 h s hs)) (by decide) rfl rfl (fun _ _=>rfl) (fun j hj=>by
  have:=List.all_eq_true.1 zQ3 j (List.mem_range.2 hj);simp only[Bool.and_eq_true,decide_eq_true_eq]at this;exact this) (fun j hj {ρ0 wb xb pb off cap F w} hl hcap h=>by
  match j,hj with
  | 0,_=>exact ans0 hv hT hRn hl hcap h
  | 1,_=>exact ans1 hv hT hRn hl hcap h
  | 2,_=>exact ans2 hv hT hRn hl hcap h
  | 3,_=>exact ans3 hv hT hRn hl hcap h
  | 4,_=>exact ans4 hv hT hRn hl hcap h
  | 5,_=>exact ans5 hl hcap h
  | 6,_=>exact ans6 hv hT hRn hl hcap h
  | 7,_=>exact ans7 hv hT hRn hl hcap h
  | 8,_=>exact ans8 hv hT hRn hl hcap h
  | 9,_=>exact ans9 hv hT hRn hl hcap h
  | 10,_=>exact zW3 hv hT hRn hl hcap h
  | 11,_=>exact zW2 hv hT hRn hl hcap h
  | 12,_=>exact zW1 hl hcap h
  | 13,_=>exact zW0 hl hcap h) hS
 rw[zUK]at kR;refine Run.calls0 (n:=3) Tryz.func7 rfl rfl ?_;repeat' first|(refine Qv 20 (kR hS) ?_;clear hS;intro w1 hS)|apply Qs|apply Qr|(apply Rs<;>intro hc<;>try exact No)|apply Qn|refine Ql ?_
 refine Qw Tryz.func7 ?_;exact⟨rfl,hS⟩
end
end Go.Proofs.YtcikdogkkgefcaaGreatDoor
