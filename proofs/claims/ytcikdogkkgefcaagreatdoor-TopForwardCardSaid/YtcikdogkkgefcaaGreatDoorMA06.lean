/- The plain words of the layer of ciphers: sealing, opening, another key; and what follows of them. A cipher's methods: New, may, later, Of; the document's may. A cipher's Seal, Open, Rekey. -/
import Derived.Test.YtcikdogkkgefcaaGreatDoorMA05
namespace Go.Proofs.YtcikdogkkgefcaaGreatDoor
set_option maxRecDepth 8000
set_option maxHeartbeats 16000000
set_option linter.unusedVariables false
set_option linter.unusedSimpArgs false
open Go Go.RowKit
structure Cph where
 key:Int
 has:Bool
 n:Int
deriving DecidableEq
def Cph.z:Cph:=⟨0,false,0⟩
def cphL (c:Cph):List Value:=[pI c.key,.bool c.has,.int .u64 c.n]
def cphV (c:Cph):Value:=.agg (cphL c).toArray
instance:Inhabited Cph:=⟨Cph.z⟩
def cmay (L:List Nd)(c:Cph)(ad p:Int):Int :=
 if(has L ad && has L p)=false∨(c.has=true∧has L c.key=false)then 1
 else if c.has=true∧c.n=18446744073709551615 then 8 else 0
def zPx (c:Cph):Cph:=⟨c.key,c.has,IntKind.u64.wrap (c.n+1)⟩
def zBE (lim:Nat)(L:List Nd)(c:Cph)(ad p:Int):List Nd × Cph × Int × Int :=
 if cmay L c ad p≠0 then(L,.z,0,cmay L c ad p)
 else if c.has=false then(L,c,p,0)
 else if(mk lim L ⟨7,c.n,c.key,ad,p⟩).2.2≠0 then(L,.z,0,(mk lim L ⟨7,c.n,c.key,ad,p⟩).2.2)
 else((mk lim L ⟨7,c.n,c.key,ad,p⟩).1,zPx c,(mk lim L ⟨7,c.n,c.key,ad,p⟩).2.1,0)
def zCB (L:List Nd)(c:Cph)(ad x:Int):Cph × Int × Int :=
 if cmay L c ad x≠0 then(.z,0,cmay L c ad x)
 else if c.has=false then(c,x,0)
 else if nd L x=⟨7,c.n,c.key,ad,(nd L x).c⟩then(zPx c,(nd L x).c,0) else(.z,0,7)
def zBm (lim:Nat)(L:List Nd)(c:Cph):List Nd × Cph × Int :=
 if c.has=false then(L,.z,10)
 else if(mk lim L ⟨6,4,c.key,0,0⟩).2.2≠0 then(L,.z,(mk lim L ⟨6,4,c.key,0,0⟩).2.2)
 else((mk lim L ⟨6,4,c.key,0,0⟩).1,⟨(mk lim L ⟨6,4,c.key,0,0⟩).2.1,c.has,c.n⟩,0)
theorem zRj {lim:Nat}{L:List Nd}{n:Nd}(h:(mk lim L n).2.2≠0):(mk lim L n).1=L:=by
 rcases zUS lim L n with h1|⟨_,h1,_⟩
 · exact absurd h1 h
 · exact h1
theorem zSg {L:List Nd}{c:Cph}{ad p:Int}:cmay L c ad p=0↔has L ad=true∧has L p=true∧(c.has=true→has L c.key=true∧c.n≠18446744073709551615):=by
 unfold cmay;cases h1:has L ad<;>cases h2:has L p<;>cases h3:c.has<;>cases h4:has L c.key<;>simp;all_goals(by_cases h5:c.n=18446744073709551615<;>simp[h5])
theorem zHk {lim:Nat}{L:List Nd}(n:Nd){x:Int}(h:has L x=true):has (mk lim L n).1 x=true∧nd (mk lim L n).1 x=nd L x:=by
 obtain⟨M,hM⟩:=zDs lim L n;rw[hM];exact⟨zBo h,zAt h⟩
theorem zV4 {lim:Nat}{L:List Nd}{c:Cph}{ad p:Int}(hc:c.has=true)(h1:has L ad=true)(h2:has L p=true)(h3:has L c.key=true)(h4:c.n≠18446744073709551615)(hl:L.length<lim) :
 (zBE lim L c ad p).2.2.2=0∧(zBE lim L c ad p).2.1=zPx c∧(zBE lim L c ad p).1=(mk lim L ⟨7,c.n,c.key,ad,p⟩).1∧(zBE lim L c ad p).2.2.1=(mk lim L ⟨7,c.n,c.key,ad,p⟩).2.1∧(mk lim L ⟨7,c.n,c.key,ad,p⟩).2.2=0:=by
 have hz:cmay L c ad p=0:=zSg.2 ⟨h1,h2,fun _=>⟨h3,h4⟩⟩;have hr:right L ⟨7,c.n,c.key,ad,p⟩=true:=by simp[right,zBW,many,zBy,h1,h2,h3]
 have hm:(mk lim L ⟨7,c.n,c.key,ad,p⟩).2.2=0:=by
  rcases zCx lim L ⟨7,c.n,c.key,ad,p⟩with ⟨e,h⟩|⟨i,e,_⟩|⟨e,_,_,h⟩|⟨e,_⟩
  · rw[hr]at h;cases h
  · rw[e]
  · omega
  · rw[e]
 unfold zBE;rw[if_neg (by omega),if_neg (by simp[hc]),if_neg (by omega)];exact⟨rfl,rfl,rfl,rfl,hm⟩
section
variable {lim:Nat}{L:List Nd}{c:Cph}{ad p x:Int}
theorem zMU (h:cmay L c ad p≠0):zBE lim L c ad p=(L,.z,0,cmay L c ad p):=by unfold zBE;rw[if_pos h]
theorem zQQ (h:cmay L c ad p=0)(hc:c.has=false):zBE lim L c ad p=(L,c,p,0):=by unfold zBE;rw[if_neg (by omega),if_pos hc]
theorem zQR (h:cmay L c ad p=0)(hc:c.has=true)(he:(mk lim L ⟨7,c.n,c.key,ad,p⟩).2.2≠0):zBE lim L c ad p=(L,.z,0,(mk lim L ⟨7,c.n,c.key,ad,p⟩).2.2):=by
 unfold zBE;rw[if_neg (by omega),if_neg (by simp[hc]),if_pos he]
theorem zUC (h:cmay L c ad p=0)(hc:c.has=true)(he:(mk lim L ⟨7,c.n,c.key,ad,p⟩).2.2=0):zBE lim L c ad p=((mk lim L ⟨7,c.n,c.key,ad,p⟩).1,zPx c,(mk lim L ⟨7,c.n,c.key,ad,p⟩).2.1,0):=by
 unfold zBE;rw[if_neg (by omega),if_neg (by simp[hc]),if_neg (by omega)]
theorem zMW (h:cmay L c ad x≠0):zCB L c ad x=(.z,0,cmay L c ad x):=by unfold zCB;rw[if_pos h]
theorem zQT (h:cmay L c ad x=0)(hc:c.has=false):zCB L c ad x=(c,x,0):=by unfold zCB;rw[if_neg (by omega),if_pos hc]
theorem zUD (h:cmay L c ad x=0)(hc:c.has=true)(hn:nd L x≠⟨7,c.n,c.key,ad,(nd L x).c⟩):zCB L c ad x=(.z,0,7):=by
 unfold zCB;rw[if_neg (by omega),if_neg (by simp[hc]),if_neg hn]
theorem zSa (h:cmay L c ad x=0)(hc:c.has=true)(hn:nd L x=⟨7,c.n,c.key,ad,(nd L x).c⟩):zCB L c ad x=(zPx c,(nd L x).c,0):=by
 unfold zCB;rw[if_neg (by omega),if_neg (by simp[hc]),if_pos hn]
end
section
variable {we w:World}{ρ:List (Nat × Obj)}{σ F:List HP}{p lim:Nat}{L:List Nd}{a:Value}
theorem zUm {f:Int→Bool}{x y:Int}{b:Bool}(h:[x,y].all f=b):(f x && f y)=b:=by simpa using h
theorem zG8 {k:Int}(hS:St we ρ σ w):Cl Tryz.prog 208 [pI k] w fun v w'=>v=cphV ⟨k,true,0⟩∧St we ρ σ w':=by
 refine Run.calls1 (n:=5) Tryz.func208 rfl rfl rfl ?_;repeat' first|apply Qs|apply Qr|apply Qn|refine Ql ?_|(refine Qa ?_;clear hS;intro b w1 hS)|(refine Qd ?_;clear hS;intro w1 hS)
 refine Qw Tryz.func208 ?_;exact Xp
theorem zIc {c:Cph}(hS:St we ρ σ w):Cl Tryz.prog 109 [cphV c] w fun v w'=>v=cphV (zPx c)∧St we ρ σ w':=by
 refine Run.calls1 (n:=8) Tryz.func109 rfl rfl rfl ?_;repeat' first|(refine Ql ?_ (h:=by apply Still.add;rfl;rfl;exact rfl))|apply Qs|apply Qr|apply Qn|refine Ql ?_|(refine Qx ?_;clear hS;intro b w1 hS)|(refine Qa ?_;clear hS;intro b w1 hS)|(refine Qd ?_;clear hS;intro w1 hS)
 refine Qw Tryz.func109 ?_;exact Xp
theorem zGP {c:Cph}{ad x:Int}{b cap:Nat}{el:TypeId}{fr:Nat × Nat}(hS:St we ρ (zAA p lim L::F) w)(hr:Rd ρ F b (.cells [pI ad,pI x].toArray el fr)) :
 Cl Tryz.prog 108 [cphV c,pP p,.slice (some ⟨b,0,none⟩) 2 cap] w fun v w'=>v = pI (cmay L c ad x)∧St we ρ (zAA p lim L::F) w':=by
 obtain⟨key,hs,n⟩:=c;cases hs;all_goals
  refine Run.calls3 (n:=32) Tryz.func108 rfl rfl rfl ?_;repeat' first|(refine Qv 22 (zBl (xs:=[_,_]) hS.tk (by exact Rd.any) zTq len2) ?_;clear hS;intro w1 hS;refine RO.splitB ?_ ?_<;>(intro hb;replace hb:=zUm hb))|(refine Qv 22 (zBl (xs:=[_]) hS.tk (by exact Rd.any) zNp len1) ?_;clear hS;intro w1 hS;refine RO.splitB ?_ ?_<;>(intro hb;replace hb:=zOF hb))|apply Qs|apply Qr|(apply Rs<;>intro hc<;>try exact No)|apply Qn|refine Ql ?_|(refine Qx ?_;clear hS;intro b w1 hS)|(refine Qg ?_;clear hS;intro b w1 hS)|refine Qy ?_|refine Qz ?_|refine Qu ?_|refine Qt ?_|refine Qf ?_|apply Qk|apply Qb|apply Qi
  all_goals
   refine Qw Tryz.func108 ?_;refine⟨?_,hS.pk⟩;simp_all [cmay,tup]
end
section
variable {we w:World}{ρ:List (Nat × Obj)}{σ F:List HP}{p lim:Nat}{L:List Nd}{a:Value}
theorem zPM {c:Cph}{ad x:Int}(hS:St we ρ (zAA p lim L::F) w) :
 Cl Tryz.prog 197 [cphV c,pP p,pI ad,pI x] w fun v w'=>v = .tuple #[cphV (zBE lim L c ad x).2.1,pI (zBE lim L c ad x).2.2.1,pI (zBE lim L c ad x).2.2.2]∧St we ρ (zAA p lim (zBE lim L c ad x).1::F) w':=by
 obtain⟨key,hs,n⟩:=c;cases hs
 · refine Run.calls4 (n:=48) Tryz.func197 rfl rfl rfl ?_
   repeat' first|(refine Qv 108 (zGP (c:=⟨key,false,n⟩) hS.tk (by exact Rd.any)) ?_;clear hS;intro w1 hS)|apply Qs|apply Qr|(apply Rs<;>intro hc<;>try exact No)|apply Qn|refine Ql ?_|(refine Qx ?_;clear hS;intro b w1 hS)|(refine Qa ?_;clear hS;intro b w1 hS)|(refine Qd ?_;clear hS;intro w1 hS)|(refine Qg ?_;clear hS;intro b w1 hS)|refine Qt ?_|refine Qf ?_|apply Qk
   · have h:=zMU (lim:=lim) (by assumption:cmay L ⟨key,false,n⟩ ad x≠0)
     refine Qw Tryz.func197 ?_;rw[h];exact Xp
   · have h:=zQQ (lim:=lim) (by omega:cmay L ⟨key,false,n⟩ ad x=0) rfl
     refine Qw Tryz.func197 ?_;rw[h];exact Xp
 · refine Run.calls4 (n:=48) Tryz.func197 rfl rfl rfl ?_
   repeat' first|(refine Qv 108 (zGP (c:=⟨key,true,n⟩) hS.tk (by exact Rd.any)) ?_;clear hS;intro w1 hS)|(refine Qv 80 (zB6 (n:=⟨7,n,key,ad,x⟩) hS.tk) ?_;clear hS;intro w1 hS)|(refine Qv 109 (zIc (c:=⟨key,true,n⟩) hS) ?_;clear hS;intro w1 hS)|apply Qs|apply Qr|(apply Rs<;>intro hc<;>try exact No)|apply Qn|refine Ql ?_|(refine Qx ?_;clear hS;intro b w1 hS)|(refine Qa ?_;clear hS;intro b w1 hS)|(refine Qd ?_;clear hS;intro w1 hS)|(refine Qg ?_;clear hS;intro b w1 hS)|refine Qt ?_|refine Qf ?_|apply Qk
   · have h:=zMU (lim:=lim) (by assumption:cmay L ⟨key,true,n⟩ ad x≠0)
     refine Qw Tryz.func197 ?_;rw[h];exact Xp
   · have he:(mk lim L ⟨7,n,key,ad,x⟩).2.2≠0:=by assumption
     have h:=zQR (c:=⟨key,true,n⟩) (by omega:cmay L ⟨key,true,n⟩ ad x=0) rfl he;have hm:=zRj he;refine Qw Tryz.func197 ?_;rw[h];rw[hm]at hS;exact Xp
   · have he:(mk lim L ⟨7,n,key,ad,x⟩).2.2=0:=by omega
     have h:=zUC (c:=⟨key,true,n⟩) (by omega:cmay L ⟨key,true,n⟩ ad x=0) rfl he;refine Qw Tryz.func197 ?_;rw[h];exact Xp
theorem zII {c:Cph}(hS:St we ρ (zAA p lim L::F) w) :
 Cl Tryz.prog 206 [cphV c,pP p] w fun v w'=>v = .tuple #[cphV (zBm lim L c).2.1,pI (zBm lim L c).2.2]∧St we ρ (zAA p lim (zBm lim L c).1::F) w':=by
 obtain⟨key,hs,n⟩:=c;cases hs
 · refine Run.calls2 (n:=27) Tryz.func206 rfl rfl rfl ?_
   repeat' first|apply Qs|apply Qr|apply Qn|refine Ql ?_|(refine Qx ?_;clear hS;intro b w1 hS)|(refine Qa ?_;clear hS;intro b w1 hS)|(refine Qd ?_;clear hS;intro w1 hS)|refine Qt ?_
   refine Qw Tryz.func206 ?_;exact Xp
 · refine Run.calls2 (n:=27) Tryz.func206 rfl rfl rfl ?_
   repeat' first|(refine Qv 80 (zB6 (n:=⟨6,4,key,0,0⟩) hS.tk) ?_;clear hS;intro w1 hS)|apply Qs|apply Qr|(apply Rs<;>intro hc<;>try exact No)|apply Qn|refine Ql ?_|(refine Qx ?_;clear hS;intro b w1 hS)|(refine Qa ?_;clear hS;intro b w1 hS)|(refine Qd ?_;clear hS;intro w1 hS)|refine Qt ?_|refine Qf ?_|apply Qk
   · have he:(mk lim L ⟨6,4,key,0,0⟩).2.2≠0:=by assumption
     have h:zBm lim L ⟨key,true,n⟩=(L,.z,(mk lim L ⟨6,4,key,0,0⟩).2.2):=by simp[zBm,he]
     have hm:=zRj he;refine Qw Tryz.func206 ?_;rw[h];rw[hm]at hS;exact Xp
   · have he:(mk lim L ⟨6,4,key,0,0⟩).2.2=0:=by omega
     have h:zBm lim L ⟨key,true,n⟩=((mk lim L ⟨6,4,key,0,0⟩).1,⟨(mk lim L ⟨6,4,key,0,0⟩).2.1,true,n⟩,0):=by simp[zBm,he]
     refine Qw Tryz.func206 ?_;rw[h];exact Xp
theorem zPc {c:Cph}{ad x:Int}(hS:St we ρ (zAA p lim L::F) w) :
 Cl Tryz.prog 65 [cphV c,pP p,pI ad,pI x] w fun v w'=>v = .tuple #[cphV (zCB L c ad x).1,pI (zCB L c ad x).2.1,pI (zCB L c ad x).2.2]∧St we ρ (zAA p lim L::F) w':=by
 obtain⟨key,hs,n⟩:=c;cases hs
 · refine Run.calls4 (n:=52) Tryz.func65 rfl rfl rfl ?_
   repeat' first|(refine Qv 108 (zGP (c:=⟨key,false,n⟩) hS.tk (by exact Rd.any)) ?_;clear hS;intro w1 hS)|apply Qs|apply Qr|(apply Rs<;>intro hc<;>try exact No)|apply Qn|refine Ql ?_|(refine Qx ?_;clear hS;intro b w1 hS)|(refine Qa ?_;clear hS;intro b w1 hS)|(refine Qd ?_;clear hS;intro w1 hS)|(refine Qg ?_;clear hS;intro b w1 hS)|refine Qt ?_|refine Qf ?_|apply Qk
   · have h:=zMW (by assumption:cmay L ⟨key,false,n⟩ ad x≠0)
     refine Qw Tryz.func65 ?_;rw[h];exact Xp
   · have h:=zQT (by omega:cmay L ⟨key,false,n⟩ ad x=0) rfl
     refine Qw Tryz.func65 ?_;rw[h];exact Xp
 · refine Run.calls4 (n:=52) Tryz.func65 rfl rfl rfl ?_
   repeat' first|(refine Qv 108 (zGP (c:=⟨key,true,n⟩) hS.tk (by exact Rd.any)) ?_;clear hS;intro w1 hS)|(refine Qv 10 (zA0 hS.tk) ?_;clear hS;intro w1 hS)|(refine Ql ?_ (h:=by apply Still.neqNd (a:=nd L x) (b:=⟨7,n,key,ad,(nd L x).c⟩) zVD;rfl;rfl))|apply Qs|apply Qr|(apply Rs<;>intro hc<;>try exact No)|apply Qn|refine Ql ?_|(refine Qx ?_;clear hS;intro b w1 hS)|(refine Qa ?_;clear hS;intro b w1 hS)|(refine Qd ?_;clear hS;intro w1 hS)|(refine Qg ?_;clear hS;intro b w1 hS)|refine Qt ?_|refine Qf ?_|apply Qk
   · have h:=zMW (by assumption:cmay L ⟨key,true,n⟩ ad x≠0)
     refine Qw Tryz.func65 ?_;rw[h];exact Xp
   · have h:=zUD (c:=⟨key,true,n⟩) (by omega:cmay L ⟨key,true,n⟩ ad x=0) rfl (by assumption)
     refine Qw Tryz.func65 ?_;rw[h];exact Xp
   · have h:=zSa (c:=⟨key,true,n⟩) (by omega:cmay L ⟨key,true,n⟩ ad x=0) rfl (Decidable.not_not.1 (by assumption))
     rw[h];refine Run.regionH_of hS (.cons_cons _ (.cons_cons _ (.cons_cons _ (.cons_cons _ (.cons _ (List.Sublist.refl _)))))) (by rfl) (by rfl) (by rfl) ?_;clear hS;intro w1 hS;repeat' first|(refine Yl 0 0 ?_)|(refine Yl 1 2 ?_)|(refine Yl 5 3 ?_)|(refine Za 13 1 ?_)|(refine Jo ?_)|(refine Za 15 4 ?_)|(refine Yt 31 5 ?_)|(refine Yt 63 6 ?_)|(refine Yd 127 ?_)|(refine RH.relist (listed':=bm 7 0) (by kernel_rfl) ?_)|(refine Ov 109 (zIc (c:=⟨key,true,n⟩) hS) ?_;clear hS;intro w1 hS;refine Xh ?_)|(refine Od ?_;clear hS;intro w1 hS;refine Xh ?_)
     all_goals
      refine Qw Tryz.func65 ?_;exact Xp
end
section
variable {n:Nat}{e:Env}{ty t':TypeId}{x y:Operand}{S:World→Prop}{T:TypeId}{a b:Cph}
end
section
variable {we w:World}{ρ:List (Nat × Obj)}{σ F:List HP}{p lim:Nat}{L L':List Nd}{a:Value}{c d:Cph}{ad x y e:Int}
theorem zM4 (h:zBE lim L c ad x=(L',d,y,e))(hS:St we ρ (zAA p lim L::F) w) :
 Cl Tryz.prog 197 [cphV c,pP p,pI ad,pI x] w fun v w'=>v = .tuple #[cphV d,pI y,pI e]∧St we ρ (zAA p lim L'::F) w':=by
 have:=zPM (c:=c) (ad:=ad) (x:=x) hS;rwa [h]at this
theorem zNO (h:zCB L c ad x=(d,y,e))(hS:St we ρ (zAA p lim L::F) w) :
 Cl Tryz.prog 65 [cphV c,pP p,pI ad,pI x] w fun v w'=>v = .tuple #[cphV d,pI y,pI e]∧St we ρ (zAA p lim L::F) w':=by
 have:=zPc (c:=c) (ad:=ad) (x:=x) hS;rwa [h]at this
end
structure Sy where
 ck:Int
 h:Int
 c:Cph
deriving DecidableEq
def Sy.z:Sy:=⟨0,0,.z⟩
def syL (s:Sy):List Value:=[pI s.ck,pI s.h,pI s.c.key,.bool s.c.has,.int .u64 s.c.n]
def syV (s:Sy):Value:=.agg (syL s).toArray
def zIh (h x:Int):Nd:=⟨5,0,h,x,0⟩
def keyN (n ck x:Int):Nd:=⟨6,n,ck,x,0⟩
section
variable {lim:Nat}{L L':List Nd}{n:Nd}{x y:Int}
end
theorem zSd:IntKind.u64.wrap 0=0:=by rfl
theorem zSc:IntKind.u64.wrap 1=1:=by rfl
theorem zSb:IntKind.u64.wrap 2=2:=by rfl
section
variable {we w:World}{ρ:List (Nat × Obj)}{σ F:List HP}{p lim:Nat}{L L1 L2 L3 L4:List Nd}{s:Sy}{ck x y1 y2 y3 yh e:Int}{d:Cph}
theorem zPr (h:mk lim L (zIh s.h x)=(L1,yh,0))(hS:St we ρ (zAA p lim L::F) w) :
 Cl Tryz.prog 209 [syV s,pP p,pI x] w fun v w'=>v = .tuple #[syV ⟨s.ck,yh,s.c⟩,pI 0]∧St we ρ (zAA p lim L1::F) w':=by
 refine Run.calls3 (n:=26) Tryz.func209 rfl rfl rfl ?_;repeat' first|(refine Qv 80 (zEY h hS.tk) ?_;clear hS;intro w1 hS)|apply Qs|apply Qr|(apply Rs<;>intro hc<;>try exact No)|apply Qn|refine Ql ?_|(refine Qx ?_;clear hS;intro b w1 hS)|(refine Qa ?_;clear hS;intro b w1 hS)|(refine Qd ?_;clear hS;intro w1 hS)|refine Qf ?_|apply Qk
 refine Qw Tryz.func209 ?_;exact Xp
theorem zTo (h1:mk lim L (keyN 1 ck x)=(L1,y1,0))(h2:mk lim L1 (keyN 2 ck x)=(L2,y2,0))(hS:St we ρ (zAA p lim L::F) w) :
 Cl Tryz.prog 207 [pP p,pI ck,pI x,pI 2] w fun v w'=>v = .tuple #[.agg #[pI y1,pI y2,pI 0],pI 0]∧St we ρ (zAA p lim L2::F) w':=by
 refine Run.calls4 (n:=38) Tryz.func207 rfl rfl rfl ?_;repeat' first|(apply RO.op;apply OP.callF;rfl;rfl;rfl;show Cl _ 80 _ _ _;(first|(apply zEY h1;apply hS.take;exact An)|(apply zEY h2;apply hS.take;exact An));clear hS;rintro v w1 ⟨rfl,hS⟩)|(refine Ql ?_ (h:=by apply Still.conv;rfl;rfl;rfl;(first|exact zSd|exact zSc|exact zSb)))|(refine Ql ?_ (h:=Sx))|refine Run.loop ?_|refine Run.inLoop ?_|apply Qs|apply Qr|(apply Rs<;>intro hc<;>try exact No)|apply Qn|refine Ql ?_|(refine Qa ?_;clear hS;intro b w1 hS)|(refine Qd ?_;clear hS;intro w1 hS)|refine Qt ?_|refine Qf ?_|apply Qk|apply Qb|apply Qi|refine Qe ?_
 refine Qw Tryz.func207 ?_;exact Xp
theorem zTn (h1:mk lim L (keyN 1 ck x)=(L1,y1,0))(h2:mk lim L1 (keyN 2 ck x)=(L2,y2,0))(h3:mk lim L2 (keyN 3 ck x)=(L3,y3,0))(hS:St we ρ (zAA p lim L::F) w) :
 Cl Tryz.prog 207 [pP p,pI ck,pI x,pI 3] w fun v w'=>v = .tuple #[.agg #[pI y1,pI y2,pI y3],pI 0]∧St we ρ (zAA p lim L3::F) w':=by
 refine Run.calls4 (n:=38) Tryz.func207 rfl rfl rfl ?_;repeat' first|(apply RO.op;apply OP.callF;rfl;rfl;rfl;show Cl _ 80 _ _ _;(first|(apply zEY h1;apply hS.take;exact An)|(apply zEY h2;apply hS.take;exact An)|(apply zEY h3;apply hS.take;exact An));clear hS;rintro v w1 ⟨rfl,hS⟩)|(refine Ql ?_ (h:=by apply Still.conv;rfl;rfl;rfl;(first|exact zSd|exact zSc|exact zSb)))|(refine Ql ?_ (h:=Sx))|refine Run.loop ?_|refine Run.inLoop ?_|apply Qs|apply Qr|(apply Rs<;>intro hc<;>try exact No)|apply Qn|refine Ql ?_|(refine Qa ?_;clear hS;intro b w1 hS)|(refine Qd ?_;clear hS;intro w1 hS)|refine Qt ?_|refine Qf ?_|apply Qk|apply Qb|apply Qi|refine Qe ?_
 refine Qw Tryz.func207 ?_;exact Xp
theorem zOg {many:Int}(hm:0<many)(h1:mk lim L (keyN 1 ck x)=(L,0,e))(he:e≠0)(hS:St we ρ (zAA p lim L::F) w) :
 Cl Tryz.prog 207 [pP p,pI ck,pI x,pI many] w fun v w'=>v = .tuple #[.agg #[pI 0,pI 0,pI 0],pI e]∧St we ρ (zAA p lim L::F) w':=by
 refine Run.calls4 (n:=38) Tryz.func207 rfl rfl rfl ?_;repeat' first|(refine Qv 80 (zEY h1 hS.tk) ?_;clear hS;intro w1 hS)|(refine Ql ?_ (h:=by apply Still.conv;rfl;rfl;rfl;(first|exact zSd|exact zSc|exact zSb)))|refine Run.loop ?_|apply Qs|apply Qr|(apply Rs<;>intro hc<;>try exact No)|apply Qn|refine Ql ?_|(refine Qa ?_;clear hS;intro b w1 hS)|(refine Qd ?_;clear hS;intro w1 hS)|refine Qt ?_|apply Qk|apply Qb
 refine Qw Tryz.func207 ?_;exact Xp
end
theorem zHS {lim:Nat}{L:List Nd}{n:Nd}(h:(mk lim L n).2.2≠0):mk lim L n=(L,0,(mk lim L n).2.2):=by
 rcases zCx lim L n with ⟨e,_⟩|⟨i,e,_⟩|⟨e,_⟩|⟨e,_⟩
 · rw[e]
 · rw[e]at h;exact absurd rfl h
 · rw[e]
 · rw[e]at h;exact absurd rfl h
theorem zCn {lim:Nat}{L:List Nd}{n:Nd}(h:(mk lim L n).2.2=0):mk lim L n=((mk lim L n).1,(mk lim L n).2.1,0):=by
 generalize mk lim L n=r at h ⊢;obtain⟨a,b,c⟩:=r;simp only at h;subst h;rfl
def zAW (lim:Nat)(L:List Nd)(s:Sy)(x:Int):List Nd × Sy × Int :=
 if(mk lim L (zIh s.h x)).2.2=0 then((mk lim L (zIh s.h x)).1,⟨s.ck,(mk lim L (zIh s.h x)).2.1,s.c⟩,0) else(L,.z,(mk lim L (zIh s.h x)).2.2)
def zAj (lim:Nat)(L:List Nd)(ck x:Int):List Nd × Int × Int × Int :=
 if(mk lim L (keyN 1 ck x)).2.2=0 then
  if(mk lim (mk lim L (keyN 1 ck x)).1 (keyN 2 ck x)).2.2=0 then((mk lim (mk lim L (keyN 1 ck x)).1 (keyN 2 ck x)).1,(mk lim L (keyN 1 ck x)).2.1,(mk lim (mk lim L (keyN 1 ck x)).1 (keyN 2 ck x)).2.1,0)
  else((mk lim L (keyN 1 ck x)).1,0,0,(mk lim (mk lim L (keyN 1 ck x)).1 (keyN 2 ck x)).2.2)
 else(L,0,0,(mk lim L (keyN 1 ck x)).2.2)
def zBb (lim:Nat)(L:List Nd)(ck x:Int):List Nd × Int × Int × Int × Int :=
 if(zAj lim L ck x).2.2.2=0 then
  if(mk lim (zAj lim L ck x).1 (keyN 3 ck x)).2.2=0 then((mk lim (zAj lim L ck x).1 (keyN 3 ck x)).1,(zAj lim L ck x).2.1,(zAj lim L ck x).2.2.1,(mk lim (zAj lim L ck x).1 (keyN 3 ck x)).2.1,0)
  else((zAj lim L ck x).1,0,0,0,(mk lim (zAj lim L ck x).1 (keyN 3 ck x)).2.2)
 else((zAj lim L ck x).1,0,0,0,(zAj lim L ck x).2.2.2)
def zBK (lim:Nat)(L:List Nd)(s:Sy)(x:Int):List Nd × Sy × Int :=
 if(zAj lim L s.ck x).2.2.2=0 then((zAj lim L s.ck x).1,⟨(zAj lim L s.ck x).2.1,s.h,⟨(zAj lim L s.ck x).2.2.1,true,0⟩⟩,0) else((zAj lim L s.ck x).1,.z,(zAj lim L s.ck x).2.2.2)
def zBG (lim:Nat)(L:List Nd)(s:Sy)(x:Int):List Nd × Sy × Int :=
 if(zBb lim L s.ck x).2.2.2.2=0 then zAW lim (zBb lim L s.ck x).1 ⟨(zBb lim L s.ck x).2.1,s.h,⟨(zBb lim L s.ck x).2.2.2.1,true,0⟩⟩ (zBb lim L s.ck x).2.2.1
 else((zBb lim L s.ck x).1,.z,(zBb lim L s.ck x).2.2.2.2)
def zDy (lim:Nat)(L:List Nd)(s:Sy)(c:Cph)(x told:Int):List Nd × Sy × Int × Int :=
 if(zAW lim L ⟨s.ck,s.h,c⟩ x).2.2=0 then((zAW lim L ⟨s.ck,s.h,c⟩ x).1,(zAW lim L ⟨s.ck,s.h,c⟩ x).2.1,told,0) else((zAW lim L ⟨s.ck,s.h,c⟩ x).1,.z,0,(zAW lim L ⟨s.ck,s.h,c⟩ x).2.2)
def zAy (lim:Nat)(L:List Nd)(s:Sy)(q:Int):List Nd × Sy × Int × Int :=
 if(zBE lim L s.c s.h q).2.2.2=0 then zDy lim (zBE lim L s.c s.h q).1 s (zBE lim L s.c s.h q).2.1 (zBE lim L s.c s.h q).2.2.1 (zBE lim L s.c s.h q).2.2.1 else((zBE lim L s.c s.h q).1,.z,0,(zBE lim L s.c s.h q).2.2.2)
def zBB (lim:Nat)(L:List Nd)(s:Sy)(x:Int):List Nd × Sy × Int × Int :=
 if(zCB L s.c s.h x).2.2=0 then zDy lim L s (zCB L s.c s.h x).1 x (zCB L s.c s.h x).2.1 else(L,.z,0,(zCB L s.c s.h x).2.2)
def zBx (lim:Nat)(L:List Nd)(s:Sy):List Nd × Cph × Cph × Int :=
 if(zAj lim L s.ck 0).2.2.2=0 then((zAj lim L s.ck 0).1,⟨(zAj lim L s.ck 0).2.1,true,0⟩,⟨(zAj lim L s.ck 0).2.2.1,true,0⟩,0) else((zAj lim L s.ck 0).1,.z,.z,(zAj lim L s.ck 0).2.2.2)
section
variable {we w:World}{ρ:List (Nat × Obj)}{σ F:List HP}{p lim:Nat}{L L1 L2 L3 L4:List Nd}{s:Sy}{ck x y1 y2 y3 yh e:Int}{d:Cph}
theorem zPq (h:mk lim L (zIh s.h x)=(L,0,e))(he:e≠0)(hS:St we ρ (zAA p lim L::F) w) :
 Cl Tryz.prog 209 [syV s,pP p,pI x] w fun v w'=>v = .tuple #[syV .z,pI e]∧St we ρ (zAA p lim L::F) w':=by
 refine Run.calls3 (n:=26) Tryz.func209 rfl rfl rfl ?_;repeat' first|(refine Qv 80 (zEY h hS.tk) ?_;clear hS;intro w1 hS)|apply Qs|apply Qr|(apply Rs<;>intro hc<;>try exact No)|apply Qn|refine Ql ?_|(refine Qx ?_;clear hS;intro b w1 hS)|(refine Qa ?_;clear hS;intro b w1 hS)|(refine Qd ?_;clear hS;intro w1 hS)|refine Qt ?_
 refine Qw Tryz.func209 ?_;exact Xp
theorem zGN (hS:St we ρ (zAA p lim L::F) w) :
 Cl Tryz.prog 209 [syV s,pP p,pI x] w fun v w'=>v = .tuple #[syV (zAW lim L s x).2.1,pI (zAW lim L s x).2.2]∧St we ρ (zAA p lim (zAW lim L s x).1::F) w':=by
 unfold zAW;by_cases h:(mk lim L (zIh s.h x)).2.2=0
 · rw[if_pos h];exact zPr (zCn h) hS
 · rw[if_neg h];exact zPq (zHS h) h hS
theorem zOf {many:Int}(hm:1<many)(h1:mk lim L (keyN 1 ck x)=(L1,y1,0))(h2:mk lim L1 (keyN 2 ck x)=(L1,0,e))(he:e≠0)(hS:St we ρ (zAA p lim L::F) w) :
 Cl Tryz.prog 207 [pP p,pI ck,pI x,pI many] w fun v w'=>v = .tuple #[.agg #[pI 0,pI 0,pI 0],pI e]∧St we ρ (zAA p lim L1::F) w':=by
 refine Run.calls4 (n:=38) Tryz.func207 rfl rfl rfl ?_;repeat' first|(apply RO.op;apply OP.callF;rfl;rfl;rfl;show Cl _ 80 _ _ _;(first|(apply zEY h1;apply hS.take;exact An)|(apply zEY h2;apply hS.take;exact An));clear hS;rintro v w1 ⟨rfl,hS⟩)|(refine Ql ?_ (h:=by apply Still.conv;rfl;rfl;rfl;(first|exact zSd|exact zSc|exact zSb)))|(refine Ql ?_ (h:=Sx))|refine Run.loop ?_|refine Run.inLoop ?_|apply Qs|apply Qr|(apply Rs<;>intro hc<;>try exact No)|apply Qn|refine Ql ?_|(refine Qa ?_;clear hS;intro b w1 hS)|(refine Qd ?_;clear hS;intro w1 hS)|refine Qt ?_|refine Qf ?_|apply Qk|apply Qb|apply Qi
 refine Qw Tryz.func207 ?_;exact Xp
theorem zTl (h1:mk lim L (keyN 1 ck x)=(L1,y1,0))(h2:mk lim L1 (keyN 2 ck x)=(L2,y2,0))(h3:mk lim L2 (keyN 3 ck x)=(L2,0,e))(he:e≠0)(hS:St we ρ (zAA p lim L::F) w) :
 Cl Tryz.prog 207 [pP p,pI ck,pI x,pI 3] w fun v w'=>v = .tuple #[.agg #[pI 0,pI 0,pI 0],pI e]∧St we ρ (zAA p lim L2::F) w':=by
 refine Run.calls4 (n:=38) Tryz.func207 rfl rfl rfl ?_;repeat' first|(apply RO.op;apply OP.callF;rfl;rfl;rfl;show Cl _ 80 _ _ _;(first|(apply zEY h1;apply hS.take;exact An)|(apply zEY h2;apply hS.take;exact An)|(apply zEY h3;apply hS.take;exact An));clear hS;rintro v w1 ⟨rfl,hS⟩)|(refine Ql ?_ (h:=by apply Still.conv;rfl;rfl;rfl;(first|exact zSd|exact zSc|exact zSb)))|(refine Ql ?_ (h:=Sx))|refine Run.loop ?_|refine Run.inLoop ?_|apply Qs|apply Qr|(apply Rs<;>intro hc<;>try exact No)|apply Qn|refine Ql ?_|(refine Qa ?_;clear hS;intro b w1 hS)|(refine Qd ?_;clear hS;intro w1 hS)|refine Qt ?_|refine Qf ?_|apply Qk|apply Qb|apply Qi
 refine Qw Tryz.func207 ?_;exact Xp
theorem zNn (hS:St we ρ (zAA p lim L::F) w) :
 Cl Tryz.prog 207 [pP p,pI ck,pI x,pI 2] w fun v w'=>v = .tuple #[.agg #[pI (zAj lim L ck x).2.1,pI (zAj lim L ck x).2.2.1,pI 0],pI (zAj lim L ck x).2.2.2]∧St we ρ (zAA p lim (zAj lim L ck x).1::F) w':=by
 unfold zAj;by_cases h:(mk lim L (keyN 1 ck x)).2.2=0
 · rw[if_pos h]
   by_cases h2:(mk lim (mk lim L (keyN 1 ck x)).1 (keyN 2 ck x)).2.2=0
   · rw[if_pos h2];exact zTo (zCn h) (zCn h2) hS
   · rw[if_neg h2];exact zOf (by omega) (zCn h) (zHS h2) h2 hS
 · rw[if_neg h];exact zOg (by omega) (zHS h) h hS
theorem zNm (hS:St we ρ (zAA p lim L::F) w) :
 Cl Tryz.prog 207 [pP p,pI ck,pI x,pI 3] w fun v w'=>v = .tuple #[.agg #[pI (zBb lim L ck x).2.1,pI (zBb lim L ck x).2.2.1,pI (zBb lim L ck x).2.2.2.1],pI (zBb lim L ck x).2.2.2.2]∧St we ρ (zAA p lim (zBb lim L ck x).1::F) w':=by
 unfold zBb;have k2:zAj lim L ck x=zAj lim L ck x:=rfl;conv at k2=>rhs;unfold zAj
 by_cases h:(mk lim L (keyN 1 ck x)).2.2=0
 · rw[if_pos h]at k2
   by_cases h2:(mk lim (mk lim L (keyN 1 ck x)).1 (keyN 2 ck x)).2.2=0
   · rw[if_pos h2]at k2
     rw[k2];simp only[if_true];by_cases h3:(mk lim (mk lim (mk lim L (keyN 1 ck x)).1 (keyN 2 ck x)).1 (keyN 3 ck x)).2.2=0
     · rw[if_pos h3];exact zTn (zCn h) (zCn h2) (zCn h3) hS
     · rw[if_neg h3];exact zTl (zCn h) (zCn h2) (zHS h3) h3 hS
   · rw[if_neg h2]at k2
     rw[k2];simp only[if_neg h2];exact zOf (by omega) (zCn h) (zHS h2) h2 hS
 · rw[if_neg h]at k2
   rw[k2];simp only[if_neg h];exact zOg (by omega) (zHS h) h hS
theorem zHl (h:zAj lim L ck x=(L1,y1,y2,e))(hS:St we ρ (zAA p lim L::F) w) :
 Cl Tryz.prog 207 [pP p,pI ck,pI x,pI 2] w fun v w'=>v = .tuple #[.agg #[pI y1,pI y2,pI 0],pI e]∧St we ρ (zAA p lim L1::F) w':=by
 have:=zNn (ck:=ck) (x:=x) hS;rwa [h]at this
theorem zOh (h:zBb lim L ck x=(L1,y1,y2,y3,e))(hS:St we ρ (zAA p lim L::F) w) :
 Cl Tryz.prog 207 [pP p,pI ck,pI x,pI 3] w fun v w'=>v = .tuple #[.agg #[pI y1,pI y2,pI y3],pI e]∧St we ρ (zAA p lim L1::F) w':=by
 have:=zNm (ck:=ck) (x:=x) hS;rwa [h]at this
theorem zCR {s':Sy}(h:zAW lim L s x=(L1,s',e))(hS:St we ρ (zAA p lim L::F) w) :
 Cl Tryz.prog 209 [syV s,pP p,pI x] w fun v w'=>v = .tuple #[syV s',pI e]∧St we ρ (zAA p lim L1::F) w':=by
 have:=zGN (s:=s) (x:=x) hS;rwa [h]at this
theorem zRn (h:zAj lim L s.ck x=(L1,y1,y2,0))(hS:St we ρ (zAA p lim L::F) w) :
 Cl Tryz.prog 155 [syV s,pP p,pI x] w fun v w'=>v = .tuple #[syV ⟨y1,s.h,⟨y2,true,0⟩⟩,pI 0]∧St we ρ (zAA p lim L1::F) w':=by
 refine Run.calls3 (n:=30) Tryz.func155 rfl rfl rfl ?_;repeat' first|(refine Qv 207 (zHl h hS.tk) ?_;clear hS;intro w1 hS)|apply Qs|apply Qr|(apply Rs<;>intro hc<;>try exact No)|apply Qn|refine Ql ?_|(refine Qx ?_;clear hS;intro b w1 hS)|(refine Qa ?_;clear hS;intro b w1 hS)|(refine Qd ?_;clear hS;intro w1 hS)|refine Qf ?_|apply Qk
 refine Run.regionH_of hS (.cons_cons _ (.cons_cons _ (.cons_cons _ (.cons _ (List.Sublist.refl _))))) (by rfl) (by rfl) (by rfl) ?_;clear hS;intro w1 hS;repeat' first|(refine Yt 0 0 ?_ (h:=by first|exact Sx|exact Still.any))|(refine Yl 1 1 ?_)|(refine Yt 3 2 ?_ (h:=by first|exact Sx|exact Still.any))|(refine Yl 7 3 ?_)|(refine Yl 15 5 ?_)|(refine Za 47 4 ?_)|(refine Jo ?_)|(refine Za 63 6 ?_)|(refine Yl 127 7 ?_)|(refine Za 255 8 ?_)|(refine Yd 511 ?_)|(refine RH.relist (listed':=bm 9 0) (by kernel_rfl) ?_)|(refine Ov 208 (zG8 hS) ?_;clear hS;intro w1 hS;refine Xh ?_)|(refine Od ?_;clear hS;intro w1 hS;refine Xh ?_)
 all_goals
  repeat' first|apply Qs|apply Qr|apply Qn|refine Ql ?_|(refine Qd ?_;clear hS;intro w1 hS)
  refine Qw Tryz.func155 ?_;exact Xp
theorem zRo (h:zAj lim L s.ck x=(L1,y1,y2,e))(he:e≠0)(hS:St we ρ (zAA p lim L::F) w) :
 Cl Tryz.prog 155 [syV s,pP p,pI x] w fun v w'=>v = .tuple #[syV .z,pI e]∧St we ρ (zAA p lim L1::F) w':=by
 refine Run.calls3 (n:=30) Tryz.func155 rfl rfl rfl ?_;repeat' first|(refine Qv 207 (zHl h hS.tk) ?_;clear hS;intro w1 hS)|apply Qs|apply Qr|(apply Rs<;>intro hc<;>try exact No)|apply Qn|refine Ql ?_|(refine Qx ?_;clear hS;intro b w1 hS)|(refine Qa ?_;clear hS;intro b w1 hS)|(refine Qd ?_;clear hS;intro w1 hS)|refine Qt ?_
 refine Qw Tryz.func155 ?_;exact Xp
theorem zPs {s2:Sy}(h:zBb lim L s.ck x=(L1,y1,y2,y3,0))(h2:zAW lim L1 (Sy.mk y1 s.h ⟨y3,true,0⟩) y2=(L2,s2,e))(hS:St we ρ (zAA p lim L::F) w) :
 Cl Tryz.prog 152 [syV s,pP p,pI x] w fun v w'=>v = .tuple #[syV s2,pI e]∧St we ρ (zAA p lim L2::F) w':=by
 refine Run.calls3 (n:=36) Tryz.func152 rfl rfl rfl ?_;repeat' first|(refine Qv 207 (zOh h hS.tk) ?_;clear hS;intro w1 hS)|apply Qs|apply Qr|(apply Rs<;>intro hc<;>try exact No)|apply Qn|refine Ql ?_|(refine Qx ?_;clear hS;intro b w1 hS)|(refine Qa ?_;clear hS;intro b w1 hS)|(refine Qd ?_;clear hS;intro w1 hS)|refine Qf ?_|apply Qk
 refine Run.regionH_of hS (.cons_cons _ (.cons_cons _ (.cons_cons _ (.cons _ (List.Sublist.refl _))))) (by rfl) (by rfl) (by rfl) ?_;clear hS;intro w1 hS;repeat' first|(refine Yt 0 0 ?_ (h:=by first|exact Sx|exact Still.any))|(refine Yl 1 1 ?_)|(refine Yt 3 2 ?_ (h:=by first|exact Sx|exact Still.any))|(refine Yl 7 3 ?_)|(refine Yl 15 5 ?_)|(refine Za 47 4 ?_)|(refine Jo ?_)|(refine Za 63 6 ?_)|(refine Yl 127 7 ?_)|(refine Za 255 8 ?_)|(refine Yd 511 ?_)|(refine RH.relist (listed':=bm 9 0) (by kernel_rfl) ?_)|(refine Ov 208 (zG8 hS) ?_;clear hS;intro w1 hS;refine Xh ?_)|(refine Od ?_;clear hS;intro w1 hS;refine Xh ?_)
 all_goals
  repeat' first|(refine Qv 209 (zCR (s:=⟨y1,s.h,⟨y3,true,0⟩⟩) h2 hS.tk) ?_;clear hS;intro w1 hS)|(refine Ql ?_ (h:=Sx))|apply Qs|apply Qr|apply Qn|refine Ql ?_|(refine Qd ?_;clear hS;intro w1 hS)
  refine Qw Tryz.func152 ?_;exact Xp
theorem zPt (h:zBb lim L s.ck x=(L1,y1,y2,y3,e))(he:e≠0)(hS:St we ρ (zAA p lim L::F) w) :
 Cl Tryz.prog 152 [syV s,pP p,pI x] w fun v w'=>v = .tuple #[syV .z,pI e]∧St we ρ (zAA p lim L1::F) w':=by
 refine Run.calls3 (n:=36) Tryz.func152 rfl rfl rfl ?_;repeat' first|(refine Qv 207 (zOh h hS.tk) ?_;clear hS;intro w1 hS)|apply Qs|apply Qr|(apply Rs<;>intro hc<;>try exact No)|apply Qn|refine Ql ?_|(refine Qx ?_;clear hS;intro b w1 hS)|(refine Qa ?_;clear hS;intro b w1 hS)|(refine Qd ?_;clear hS;intro w1 hS)|refine Qt ?_
 refine Qw Tryz.func152 ?_;exact Xp
theorem zTB (h:zAj lim L s.ck 0=(L1,y1,y2,0))(hS:St we ρ (zAA p lim L::F) w) :
 Cl Tryz.prog 212 [syV s,pP p] w fun v w'=>v = .tuple #[cphV ⟨y1,true,0⟩,cphV ⟨y2,true,0⟩,pI 0]∧St we ρ (zAA p lim L1::F) w':=by
 refine Run.calls2 (n:=26) Tryz.func212 rfl rfl rfl ?_;repeat' first|(refine Qv 207 (zHl h hS.tk) ?_;clear hS;intro w1 hS)|apply Qs|apply Qr|(apply Rs<;>intro hc<;>try exact No)|apply Qn|refine Ql ?_|(refine Qx ?_;clear hS;intro b w1 hS)|(refine Qa ?_;clear hS;intro b w1 hS)|(refine Qd ?_;clear hS;intro w1 hS)|refine Qf ?_|apply Qk
 refine Run.regionH_of hS (.cons_cons _ (.cons_cons _ (.cons _ (.cons _ (List.Sublist.refl _))))) (by rfl) (by rfl) (by rfl) ?_;clear hS;intro w1 hS;repeat' first|(refine Yt 0 0 ?_ (h:=by first|exact Sx|exact Still.any))|(refine Yl 1 1 ?_)|(refine Yt 3 3 ?_ (h:=by first|exact Sx|exact Still.any))|(refine Yl 11 4 ?_)|(refine Za 27 2 ?_)|(refine Jo ?_)|(refine Za 31 5 ?_)|(refine Za 63 6 ?_)|(refine Za 127 7 ?_)|(refine Yt 255 8 ?_)|(refine Yd 511 ?_)|(refine RH.relist (listed':=bm 9 0) (by kernel_rfl) ?_)|(refine Ov 208 (zG8 hS) ?_;clear hS;intro w1 hS;refine Xh ?_)|(refine Od ?_;clear hS;intro w1 hS;refine Xh ?_)
 all_goals
  refine Qw Tryz.func212 ?_;exact Xp
theorem zTC (h:zAj lim L s.ck 0=(L1,y1,y2,e))(he:e≠0)(hS:St we ρ (zAA p lim L::F) w) :
 Cl Tryz.prog 212 [syV s,pP p] w fun v w'=>v = .tuple #[cphV .z,cphV .z,pI e]∧St we ρ (zAA p lim L1::F) w':=by
 refine Run.calls2 (n:=26) Tryz.func212 rfl rfl rfl ?_;repeat' first|(refine Qv 207 (zHl h hS.tk) ?_;clear hS;intro w1 hS)|apply Qs|apply Qr|(apply Rs<;>intro hc<;>try exact No)|apply Qn|refine Ql ?_|(refine Qx ?_;clear hS;intro b w1 hS)|(refine Qa ?_;clear hS;intro b w1 hS)|(refine Qd ?_;clear hS;intro w1 hS)|refine Qt ?_
 refine Qw Tryz.func212 ?_;exact Xp
end
end Go.Proofs.YtcikdogkkgefcaaGreatDoor
