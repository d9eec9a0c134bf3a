/- play.can. A world behind ops: undertonelaw19.Run. The worlds of head's script, op by op. The arguments of the top's statements, opened; what the listed variables of Go's library hold. -/
import Derived.Lib.LaidU8
import Derived.Shelf.Vars
import Derived.MakeChecks
import Derived.JoinedOf
import Derived.HandedShaped
import Derived.Test.YtcikdogkkgefcaaGreatDoorMA37
namespace Go.Proofs.YtcikdogkkgefcaaGreatDoor
set_option maxRecDepth 8000
set_option maxHeartbeats 16000000
set_option linter.unusedVariables false
set_option linter.unusedSimpArgs false
open Go Go.RowKit
def noB:ByteArray:=⟨#[110,111]⟩
section
variable {we w:World}{ρ ρ0:List (Nat × Obj)}{σ F:List HP}{v:Value}{wb xb N:Nat}{W:Wd}
theorem zKg {n:Nat}{e:Evt}(he:W.evs[n]? = some e)(hc:can W.L W.K e.note.payload=false)(h:WSt we ρ0 wb N W (Row xb [pP wb] 125::F) w) :
 Cl Tryz.prog 117 [pP xb,pI n] w fun v w'=>v = .string noB∧WSt we ρ0 wb N W (Row xb [pP wb] 125::F) w':=by
 obtain⟨H,ρ,ho,ok,hS⟩:=h;have hev:W.evs.length≤10000:=by have:=ok.evs;have:=ok.small;omega
 obtain⟨hlt,hel⟩:=List.getElem?_eq_some_iff.1 he;have kE:∀{F w},St we ρ (Row wb (wdL H W.fresh) 68::Vec 33 13 H.ve W.evs.length (W.evs.flatMap evtL)::F) w→_:=fun hS=>zD3 hev hS
 have kCan:∀{ρ:List (Nat × Obj)} {F:List HP} {w:World},St we ρ (KN H.kb H.p W.heard W.K::zAA H.p zAB W.L::F) w→_:=fun hS=>zCU (x:=e.note.payload) ok.known hS
 rw[hc]at kCan;refine Run.calls2 (n:=30) Tryz.func117 rfl rfl rfl ?_;repeat' first|(refine Qc 8 (c:=kE hS.tk2) (k':=?_);clear hS;rintro v w1 ⟨ρ2,o2,s2,hS⟩;obtain⟨q,qc,rfl,-⟩:=s2.val)|apply Qs|apply Qr|(apply Rs<;>intro hc<;>try exact No)|apply Qn|refine Ql ?_|refine Qf ?_|apply Qk
 obtain⟨b0,o0,cs0,e0,f0,rfl,m0,ht⟩:=s2.agg hlt;rw[hel]at ht;have h0:cs0[o0+n*13+2+3]? = some (pI e.note.payload):=by
  have:=congrArg (fun l=>l[5]?) ht;simp only[List.getElem?_take,List.getElem?_drop]at this;rw[if_pos (by omega)]at this;rw[show o0+n*13+2+3=o0+n*13+5 by omega,this];rfl
 clear ht kE;refine(Run.regionH_cut (fun _:Unit=>Row wb (wdL H W.fresh) 68::zAA H.p zAB W.L::KN H.kb H.p W.heard W.K::zAD H.stb 8 (kvD H.ds)::Each devI H.ds::Vec 79 4 H.vp H.ps.length (H.ps.flatMap ptyL)::Each (ptI H.p) H.ps::Vec 80 1 H.vm H.ms.length (H.ms.flatMap mgL)::Vec 33 13 H.ve W.evs.length (W.evs.flatMap evtL)::Row xb [pP wb] 125::F) (fun _=>[(4,.string noB)]) (hS.pk:St we ρ2 (Row wb (wdL H W.fresh) 68::zAA H.p zAB W.L::KN H.kb H.p W.heard W.K::zAD H.stb 8 (kvD H.ds)::Each devI H.ds::Vec 79 4 H.vp H.ps.length (H.ps.flatMap ptyL)::Each (ptI H.p) H.ps::Vec 80 1 H.vm H.ms.length (H.ms.flatMap mgL)::Vec 33 13 H.ve W.evs.length (W.evs.flatMap evtL)::Row xb [pP wb] 125::F) _) (.cons _ (.cons _ (.cons _ (.cons _ (.cons _ (.cons _ (.cons _ (.cons _ (.cons _ (List.Sublist.refl _)))))))))) (by rfl) (by rfl) (by rfl) ?_ ?_)
 · clear hS
   intro w1 hS;refine RH.relist (listed':=bm 18 0) (by kernel_rfl) ?_;repeat' first|refine Yt 0 4 ?_|refine Yt 16 5 ?_|refine Yl 48 6 ?_|(refine Yt 112 7 ?_ (h:=by first|(apply Still.load;rfl;rfl;exact Rd.ro m0;exact h0)|(apply Still.lookup;rfl;rfl;rfl;rfl;(exact Rd.any);exact KeyIs.bool (f:=zCi) rfl (by simp[zCi]);rfl;rfl)|exact Still.an))|refine Yt 240 9 ?_|refine Yt 752 10 ?_|(refine Yt 1776 11 ?_ (h:=by first|exact Sx|exact Still.any))|refine Yl 3824 12 ?_|refine Yl 7920 13 ?_|(refine Yt 16112 14 ?_ (h:=by first|(apply Still.load;rfl;rfl;exact Rd.ro m0;exact h0)|(apply Still.lookup;rfl;rfl;rfl;rfl;(exact Rd.any);exact KeyIs.bool (f:=zCi) rfl (by simp[zCi]);rfl;rfl)|exact Still.an))|refine Yt 32503 3 ?_|refine Yt 131071 17 ?_|refine Yt 32759 3 ?_|refine Yt 65527 3 ?_|(refine Oq ?_;clear hS;intro b w1 hS;refine Xh ?_)|(apply OP.insert hS;rfl;rfl;rfl;rfl;exact An;exact KeyIs.bool (f:=zCi) rfl (by simp[zCi]);exact(by simp[zCi]);rfl;clear hS;intro w1 hS;refine Xh ?_)|(refine Ov 11 (zB7 hS.tk) ?_;clear hS;intro w1 hS;refine Xh ?_)|(refine Ov 12 (kCan hS.tk2) ?_;clear hS;intro w1 hS;refine Xh ?_)|(refine Ol (Xh ?_) (h:=by first|(apply Still.load;rfl;rfl;exact Rd.ro m0;exact h0)|(apply Still.lookup;rfl;rfl;rfl;rfl;(exact Rd.any);exact KeyIs.bool (f:=zCi) rfl (by simp[zCi]);rfl;rfl)|exact Still.any))|refine Jo ?_|refine Zb 32496 0 8 ?_ ?_|refine Zc 32497 1 2 8 ?_ ?_ ?_|refine Zb 32499 2 8 ?_ ?_|refine Za 32511 8 ?_|refine Za 32767 15 ?_|refine Za 65535 16 ?_|refine Zb 32755 2 15 ?_ ?_|refine Za 65523 2 ?_|refine Zb 32501 1 8 ?_ ?_|refine Zb 32757 1 15 ?_ ?_|refine Za 65525 1 ?_|refine Zc 32753 1 2 15 ?_ ?_ ?_|refine Zb 65521 1 2 ?_ ?_|refine Zb 32752 0 15 ?_ ?_|refine Za 65520 0 ?_|(refine Yd 262143 ?_;exact⟨(),Sb,hS.pk⟩)
 clear hS;rintro - w1 hS;refine Qw Tryz.func117 ?_;exact⟨rfl,H,ρ,ho,ok,o2.back hS⟩
end
noncomputable def zCm:Wd→List WOp→Option Wd
 | W,[]=>some W
 | W,o::l=>if 20<o.steps.length∨40<o.name.size then none else zCm (doW W o).1 l
noncomputable def runV (l:List WOp):Option Wd:=if 40<l.length then none else zCm (wd0 [Nd.z]) l
def OpsR (ρ:List (Nat × Obj))(l:List WOp):Prop:=∀o∈l,Sl ρ stpL 5 o.sl o.steps∧∀s∈o.steps,0≤s.n∧s.n≤18446744073709551615
section
variable {we w:World}{ρ0:List (Nat × Obj)}{σ F:List HP}{v:Value}
theorem WSt.back {wb N:Nat}{W:Wd}(h:WSt we ρ0 wb N W F w):St we ρ0 F w:=by
 obtain⟨H,ρ,ho,ok,hS⟩:=h;exact(ho.back hS).picks (by focus((repeat(first|apply Picks.all|apply Picks.nil|(refine Picks.cons (by repeat(first|apply Take.head|apply Take.tail)) ?_)|apply Picks.drop));done))
theorem Sl.at8 {p:Option Addr}{cap:Nat}{l:List WOp}(h:Sl ρ0 wopL 8 (.slice p l.length cap) l){i:Nat}(hi:i<l.length):∃b off cs el fr,p=some ⟨b,off,none⟩∧(b,Obj.cells (List.toArray cs) el fr) ∈ ρ0∧(cs.drop (off+i*8)).take 8=wopL l[i]:=by
 obtain⟨p',cap',e,_,_,hr⟩:=h.val;simp only[Value.slice.injEq]at e;obtain⟨rfl,-,rfl⟩:=e;obtain⟨b,off,cs,el,fr,rfl,hm,hc⟩:=hr (by omega);exact⟨b,off,cs,el,fr,rfl,hm,hc i hi⟩
theorem zFd {l:List WOp}(hv:Vars we)(hT:zBf we)(hR:zCz we)(hl:Sl ρ0 wopL 8 v l)(hops:OpsR ρ0 l)(hS:St we ρ0 σ w) :
 Cl Tryz.prog 6 [v] w fun u w'=>(runV l=none∧u = .pointer none∧St we ρ0 σ w')∨∃W wb,runV l=some W∧u = pP wb∧l.length≤40∧WSt we ρ0 wb l.length W σ w':=by
 obtain⟨p1,c1,rfl,k1,k2,_⟩:=hl.val;unfold runV;by_cases h40:40<l.length
 · rw[if_pos h40]
   refine Run.calls1 (n:=33) Tryz.func6 rfl rfl rfl ?_;repeat' first|apply Qs|apply Qr|(apply Rs<;>intro hc<;>try exact No)|apply Qn|refine Ql ?_|refine Qt ?_
   refine Qw Tryz.func6 ?_;exact .inl ⟨rfl,rfl,hS⟩
 rw[if_neg h40];refine Run.calls1 (n:=33) Tryz.func6 rfl rfl rfl ?_;repeat' first|(refine Qc 19 (c:=zJR hS) (k':=?_);clear hS;rintro v w1 ⟨wb,rfl,hS⟩)|apply Qs|apply Qr|(apply Rs<;>intro hc<;>try(first|(exfalso;omega)|exact absurd rfl hc))|apply Qn|refine Ql ?_|apply Qk|refine Qf ?_|apply Qb
 obtain⟨R,hRR⟩:∃R,zCm (wd0 [Nd.z]) l=R:=⟨_,rfl⟩
 rw[hRR];refine Run.while (fun z:Nat × Wd=>[(3,pP wb),(12,.slice p1 l.length c1),(13,pI l.length),(14,pI z.1)])
  (fun z w=>z.1≤l.length∧zCm z.2 (l.drop z.1)=R∧WSt we ρ0 wb z.1 z.2 σ w) (fun z=>l.length - z.1) (0,wd0 [Nd.z]) ⟨Nat.zero_le _,by simpa using hRR,hS⟩ (by exact Sb) ?_
 clear hS hRR;rintro⟨i,W⟩ w ⟨hi,hrel,hS⟩ ih;simp only at hi hrel hS ih ⊢;by_cases hlast:i<l.length
 · obtain⟨b0,o0,cs1,e0,f0,rfl,m0,h0⟩:=hl.at8 hlast
   rw[List.drop_eq_getElem_cons hlast]at hrel;obtain⟨hsl,hsn⟩:=hops l[i] (List.getElem_mem hlast);unfold zCm at hrel;generalize l[i]=o at h0 hrel hsl hsn;have kD:OpR ρ0 o→∀{F w},WSt we ρ0 wb i W F w→_:=fun hr {F} {w} h=>zHx h hv hT hR hr (by omega)
   have hN:∀{F w},OpR ρ0 o→WSt we ρ0 wb i W F w→Cl Tryz.prog 17 [pP wb,opV o] w fun v w'=>v=ansV (doW W o)∧WSt we ρ0 wb (i+1) (doW W o).1 F w':=fun hr h=>zHx h hv hT hR hr (by omega)
   clear kD;generalize hdo:doW W o=q at hN hrel;obtain⟨ok,oa,ob,oc,on,owa,owc,osl,ost⟩:=o;simp only at hsl hsn hrel;obtain⟨ps0,cs0,hsv,-⟩:=hsl.val;subst hsv;obtain⟨H,ρ,hov,okk,hS⟩:=hS;have m1:=hov.sub _ m0;rw[show wopL ⟨ok,oa,ob,oc,on,owa,owc,.slice ps0 ost.length cs0,ost⟩=[pI ok,pI oa,pI ob,pI oc,.string on,pI owa,pI owc,.slice ps0 ost.length cs0] from rfl]at h0;rw[show opV ⟨ok,oa,ob,oc,on,owa,owc,.slice ps0 ost.length cs0,ost⟩ = .agg (List.toArray [pI ok,pI oa,pI ob,pI oc,.string on,pI owa,pI owc,.slice ps0 ost.length cs0]) from rfl]at hN;by_cases hc:20<ost.length∨40<on.size
   · rw[if_pos hc]at hrel
     repeat' first|(refine Ql ?_ (h:=by apply Still.loadAgg (m:=8);rfl;rfl;rfl;exact Rd.ro m1;exact h0;rfl))|apply Qs|apply Qr|(apply Rs<;>intro hc<;>try exact No)|apply Qn|refine Ql ?_|(refine Qa ?_;clear hS;intro b w1 hS)|(refine Qd ?_;clear hS;intro w1 hS)|refine Qy ?_|refine Qz ?_|refine Qt ?_|apply Qk|apply Qb
     all_goals
      refine Qw Tryz.func6 ?_;exact .inl ⟨hrel.symm,rfl,(hov.back hS).picks (by focus((repeat(first|apply Picks.all|apply Picks.nil|(refine Picks.cons (by repeat(first|apply Take.head|apply Take.tail)) ?_)|apply Picks.drop));done))⟩
   · rw[if_neg hc]at hrel
     repeat' first|(refine Ql ?_ (h:=by apply Still.loadAgg (m:=8);rfl;rfl;rfl;exact Rd.ro m1;exact h0;rfl))|(refine Qv 17 (hN (F:=Row b [pI ok,pI oa,pI ob,pI oc,.string on,pI owa,pI owc,.slice ps0 ost.length cs0] 57 :: σ) ⟨hsl,hsn,by show ost.length≤1000;omega,by show on.size≤1000;omega⟩ ⟨H,ρ,hov,okk,hS.pk⟩) ?_;clear hS;intro w1 hS)|apply Qs|apply Qr|(apply Rs<;>intro hc<;>try exact No)|apply Qn|refine Ql ?_|(refine Qa ?_;clear hS;intro b w1 hS)|(refine Qd ?_;clear hS;intro w1 hS)|refine Qy ?_|refine Qt ?_|refine Qf ?_|apply Qk|apply Qb|apply Qi
     exact Run.weaken (by exact Sb) (ih (i+1,q.1) _ ⟨by simp only;omega,hrel,WSt.frame hS⟩ (by simp only;omega))
 · obtain rfl:i=l.length:=by omega
   rw[List.drop_length]at hrel;unfold zCm at hrel;subst hrel;repeat' first|apply Qs|apply Qr|(apply Rs<;>intro hc<;>try(first|(exfalso;omega)|exact absurd rfl hc))|apply Qn|refine Ql ?_|refine Qf ?_|refine Qe ?_
   refine Qw Tryz.func6 ?_;exact .inr ⟨W,wb,rfl,rfl,by omega,hS⟩
end
def hL0:List Nd:=[⟨0,0,0,0,0⟩]
def hv0:List Dv:=[]
def hp0:List Pt:=[]
def he0:List Evt:=[]
def hw0 (K:Int→Bool):Wd:=⟨hL0,[],K,0,hv0,hp0,[],he0⟩
def hL1:List Nd:=[⟨0,0,0,0,0⟩,⟨1,1,0,0,0⟩,⟨2,0,1,0,0⟩]
def hv1:List Dv:=[⟨1,1,1,[],[]⟩]
def hp1:List Pt:=[]
def he1:List Evt:=[]
def hw1 (K:Int→Bool):Wd:=⟨hL1,[2],K,1,hv1,hp1,[],he1⟩
def hL2:List Nd:=[⟨0,0,0,0,0⟩,⟨1,1,0,0,0⟩,⟨2,0,1,0,0⟩,⟨1,2,0,0,0⟩,⟨2,0,3,0,0⟩]
def hv2:List Dv:=[⟨1,1,1,[],[]⟩,⟨2,3,2,[],[]⟩]
def hp2:List Pt:=[]
def he2:List Evt:=[]
def hw2 (K:Int→Bool):Wd:=⟨hL2,[2,4],K,2,hv2,hp2,[],he2⟩
def hL3:List Nd:=[⟨0,0,0,0,0⟩,⟨1,1,0,0,0⟩,⟨2,0,1,0,0⟩,⟨1,2,0,0,0⟩,⟨2,0,3,0,0⟩]
def hv3:List Dv:=[⟨1,1,1,[(2,4)],[]⟩,⟨2,3,2,[],[]⟩]
def hp3:List Pt:=[]
def he3:List Evt:=[]
def hw3 (K:Int→Bool):Wd:=⟨hL3,[2,4],K,2,hv3,hp3,[],he3⟩
def hL4:List Nd:=[⟨0,0,0,0,0⟩,⟨1,1,0,0,0⟩,⟨2,0,1,0,0⟩,⟨1,2,0,0,0⟩,⟨2,0,3,0,0⟩,⟨9,73,0,0,0⟩,⟨8,0,0,5,0⟩,⟨9,75,0,0,0⟩,⟨8,0,6,7,0⟩,⟨5,0,8,0,0⟩,⟨5,0,9,4,0⟩]
def hv4:List Dv:=[⟨1,1,1,[(2,4)],[]⟩,⟨2,3,2,[],[]⟩]
def hp4:List Pt:=[⟨⟨⟨0,0,0,⟨⟨#[73,75]⟩,[],[2],[⟨0,[1,4,2,6]⟩,⟨1,[1,3,5]⟩]⟩,1,0,4,0,[],⟨8,10,⟨0,false,0⟩⟩⟩,⟨⟨0,false,0⟩,⟨0,false,0⟩⟩,⟨false,false,false,false,false,false,false,false,0,0⟩,0,2,false,⟨false,0,0,0,0,0,0,-1,0,0,0⟩⟩,[],1⟩]
def he4:List Evt:=[]
def hw4 (K:Int→Bool):Wd:=⟨hL4,[2,4],K,2,hv4,hp4,[],he4⟩
def hL5:List Nd:=[⟨0,0,0,0,0⟩,⟨1,1,0,0,0⟩,⟨2,0,1,0,0⟩,⟨1,2,0,0,0⟩,⟨2,0,3,0,0⟩,⟨9,73,0,0,0⟩,⟨8,0,0,5,0⟩,⟨9,75,0,0,0⟩,⟨8,0,6,7,0⟩,⟨5,0,8,0,0⟩,⟨5,0,9,4,0⟩]
def hv5:List Dv:=[⟨1,1,1,[(2,4)],[]⟩,⟨2,3,2,[],[]⟩]
def hp5:List Pt:=[⟨⟨⟨0,0,0,⟨⟨#[73,75]⟩,[],[2],[⟨0,[1,4,2,6]⟩,⟨1,[1,3,5]⟩]⟩,1,0,4,0,[],⟨8,10,⟨0,false,0⟩⟩⟩,⟨⟨0,false,0⟩,⟨0,false,0⟩⟩,⟨false,false,false,false,false,false,false,false,0,0⟩,0,2,false,⟨false,0,0,0,0,0,0,-1,0,0,0⟩⟩,[],1⟩,⟨⟨⟨1,0,0,⟨⟨#[73,75]⟩,[],[2],[⟨0,[1,4,2,6]⟩,⟨1,[1,3,5]⟩]⟩,3,0,0,0,[],⟨8,10,⟨0,false,0⟩⟩⟩,⟨⟨0,false,0⟩,⟨0,false,0⟩⟩,⟨false,false,false,false,false,false,false,false,0,0⟩,0,-1,false,⟨false,0,0,0,0,0,0,-1,0,0,0⟩⟩,[],2⟩]
def he5:List Evt:=[]
def hw5 (K:Int→Bool):Wd:=⟨hL5,[2,4],K,2,hv5,hp5,[],he5⟩
def hL6:List Nd:=[⟨0,0,0,0,0⟩,⟨1,1,0,0,0⟩,⟨2,0,1,0,0⟩,⟨1,2,0,0,0⟩,⟨2,0,3,0,0⟩,⟨9,73,0,0,0⟩,⟨8,0,0,5,0⟩,⟨9,75,0,0,0⟩,⟨8,0,6,7,0⟩,⟨5,0,8,0,0⟩,⟨5,0,9,4,0⟩,⟨1,3,0,0,0⟩,⟨1,4,0,0,0⟩,⟨2,0,11,0,0⟩,⟨5,0,10,13,0⟩,⟨3,0,3,11,0⟩,⟨6,1,8,15,0⟩,⟨6,2,8,15,0⟩,⟨7,0,17,14,2⟩,⟨5,0,14,18,0⟩,⟨3,0,1,3,0⟩,⟨6,1,16,20,0⟩,⟨6,2,16,20,0⟩,⟨7,0,22,19,12⟩,⟨5,0,19,23,0⟩]
def hv6:List Dv:=[⟨1,1,1,[(2,4)],[]⟩,⟨2,3,2,[],[]⟩]
def hp6:List Pt:=[⟨⟨⟨0,1,0,⟨⟨#[73,75]⟩,[],[2],[⟨0,[1,4,2,6]⟩,⟨1,[1,3,5]⟩]⟩,1,11,4,0,[],⟨21,24,⟨22,true,1⟩⟩⟩,⟨⟨0,false,0⟩,⟨0,false,0⟩⟩,⟨false,true,true,false,true,false,true,false,1,0⟩,1,2,false,⟨true,0,23,12,22,1,2,2,11,4,0⟩⟩,[],1⟩,⟨⟨⟨1,0,0,⟨⟨#[73,75]⟩,[],[2],[⟨0,[1,4,2,6]⟩,⟨1,[1,3,5]⟩]⟩,3,0,0,0,[],⟨8,10,⟨0,false,0⟩⟩⟩,⟨⟨0,false,0⟩,⟨0,false,0⟩⟩,⟨false,false,false,false,false,false,false,false,0,0⟩,0,-1,false,⟨false,0,0,0,0,0,0,-1,0,0,0⟩⟩,[],2⟩]
def he6:List Evt:=[⟨0,1,⟨true,0,23,12,22,1,2,2,11,4,0⟩⟩]
def hw6 (K:Int→Bool):Wd:=⟨hL6,[2,4,13,18,23],K,4,hv6,hp6,[[13,18,23]],he6⟩
def hL7:List Nd:=[⟨0,0,0,0,0⟩,⟨1,1,0,0,0⟩,⟨2,0,1,0,0⟩,⟨1,2,0,0,0⟩,⟨2,0,3,0,0⟩,⟨9,73,0,0,0⟩,⟨8,0,0,5,0⟩,⟨9,75,0,0,0⟩,⟨8,0,6,7,0⟩,⟨5,0,8,0,0⟩,⟨5,0,9,4,0⟩,⟨1,3,0,0,0⟩,⟨1,4,0,0,0⟩,⟨2,0,11,0,0⟩,⟨5,0,10,13,0⟩,⟨3,0,3,11,0⟩,⟨6,1,8,15,0⟩,⟨6,2,8,15,0⟩,⟨7,0,17,14,2⟩,⟨5,0,14,18,0⟩,⟨3,0,1,3,0⟩,⟨6,1,16,20,0⟩,⟨6,2,16,20,0⟩,⟨7,0,22,19,12⟩,⟨5,0,19,23,0⟩]
def hv7:List Dv:=[⟨1,1,1,[(2,4)],[]⟩,⟨2,3,2,[],[]⟩]
def hp7:List Pt:=[⟨⟨⟨0,1,0,⟨⟨#[73,75]⟩,[],[2],[⟨0,[1,4,2,6]⟩,⟨1,[1,3,5]⟩]⟩,1,11,4,0,[],⟨21,24,⟨22,true,1⟩⟩⟩,⟨⟨0,false,0⟩,⟨0,false,0⟩⟩,⟨false,true,true,false,true,false,true,false,1,0⟩,1,2,false,⟨true,0,23,12,22,1,2,2,11,4,0⟩⟩,[],1⟩,⟨⟨⟨1,0,0,⟨⟨#[73,75]⟩,[],[2],[⟨0,[1,4,2,6]⟩,⟨1,[1,3,5]⟩]⟩,3,0,0,0,[],⟨8,10,⟨0,false,0⟩⟩⟩,⟨⟨0,false,0⟩,⟨0,false,0⟩⟩,⟨false,false,false,false,false,false,false,false,0,0⟩,0,-1,false,⟨false,0,0,0,0,0,0,-1,0,0,0⟩⟩,[0],2⟩]
def he7:List Evt:=[⟨0,1,⟨true,0,23,12,22,1,2,2,11,4,0⟩⟩]
def hw7 (K:Int→Bool):Wd:=⟨hL7,[2,4,13,18,23],K,4,hv7,hp7,[[13,18,23]],he7⟩
def hL8:List Nd:=[⟨0,0,0,0,0⟩,⟨1,1,0,0,0⟩,⟨2,0,1,0,0⟩,⟨1,2,0,0,0⟩,⟨2,0,3,0,0⟩,⟨9,73,0,0,0⟩,⟨8,0,0,5,0⟩,⟨9,75,0,0,0⟩,⟨8,0,6,7,0⟩,⟨5,0,8,0,0⟩,⟨5,0,9,4,0⟩,⟨1,3,0,0,0⟩,⟨1,4,0,0,0⟩,⟨2,0,11,0,0⟩,⟨5,0,10,13,0⟩,⟨3,0,3,11,0⟩,⟨6,1,8,15,0⟩,⟨6,2,8,15,0⟩,⟨7,0,17,14,2⟩,⟨5,0,14,18,0⟩,⟨3,0,1,3,0⟩,⟨6,1,16,20,0⟩,⟨6,2,16,20,0⟩,⟨7,0,22,19,12⟩,⟨5,0,19,23,0⟩]
def hv8:List Dv:=[⟨1,1,1,[(2,4)],[]⟩,⟨2,3,2,[],[]⟩]
def hp8:List Pt:=[⟨⟨⟨0,1,0,⟨⟨#[73,75]⟩,[],[2],[⟨0,[1,4,2,6]⟩,⟨1,[1,3,5]⟩]⟩,1,11,4,0,[],⟨21,24,⟨22,true,1⟩⟩⟩,⟨⟨0,false,0⟩,⟨0,false,0⟩⟩,⟨false,true,true,false,true,false,true,false,1,0⟩,1,2,false,⟨true,0,23,12,22,1,2,2,11,4,0⟩⟩,[],1⟩,⟨⟨⟨1,1,0,⟨⟨#[73,75]⟩,[],[2],[⟨0,[1,4,2,6]⟩,⟨1,[1,3,5]⟩]⟩,3,0,2,13,[],⟨21,24,⟨22,true,1⟩⟩⟩,⟨⟨0,false,0⟩,⟨0,false,0⟩⟩,⟨false,true,true,false,true,false,true,false,1,0⟩,1,-1,false,⟨false,0,23,12,22,1,2,-1,0,2,13⟩⟩,[],2⟩]
def he8:List Evt:=[⟨0,1,⟨true,0,23,12,22,1,2,2,11,4,0⟩⟩,⟨1,2,⟨false,0,23,12,22,1,2,-1,0,2,13⟩⟩]
def hw8 (K:Int→Bool):Wd:=⟨hL8,[2,4,13,18,23],K,4,hv8,hp8,[[13,18,23]],he8⟩
def hL9:List Nd:=[⟨0,0,0,0,0⟩,⟨1,1,0,0,0⟩,⟨2,0,1,0,0⟩,⟨1,2,0,0,0⟩,⟨2,0,3,0,0⟩,⟨9,73,0,0,0⟩,⟨8,0,0,5,0⟩,⟨9,75,0,0,0⟩,⟨8,0,6,7,0⟩,⟨5,0,8,0,0⟩,⟨5,0,9,4,0⟩,⟨1,3,0,0,0⟩,⟨1,4,0,0,0⟩,⟨2,0,11,0,0⟩,⟨5,0,10,13,0⟩,⟨3,0,3,11,0⟩,⟨6,1,8,15,0⟩,⟨6,2,8,15,0⟩,⟨7,0,17,14,2⟩,⟨5,0,14,18,0⟩,⟨3,0,1,3,0⟩,⟨6,1,16,20,0⟩,⟨6,2,16,20,0⟩,⟨7,0,22,19,12⟩,⟨5,0,19,23,0⟩,⟨1,5,0,0,0⟩,⟨1,6,0,0,0⟩,⟨2,0,25,0,0⟩,⟨5,0,24,27,0⟩,⟨3,0,11,25,0⟩,⟨6,1,21,29,0⟩,⟨6,2,21,29,0⟩,⟨3,0,1,25,0⟩,⟨6,1,30,32,0⟩,⟨6,2,30,32,0⟩,⟨7,0,34,28,26⟩,⟨5,0,28,35,0⟩,⟨6,1,33,0,0⟩,⟨6,2,33,0,0⟩]
def hv9:List Dv:=[⟨1,1,1,[(2,4)],[]⟩,⟨2,3,2,[],[]⟩]
def hp9:List Pt:=[⟨⟨⟨0,1,0,⟨⟨#[73,75]⟩,[],[2],[⟨0,[1,4,2,6]⟩,⟨1,[1,3,5]⟩]⟩,1,11,4,0,[],⟨21,24,⟨22,true,1⟩⟩⟩,⟨⟨0,false,0⟩,⟨0,false,0⟩⟩,⟨false,true,true,false,true,false,true,false,1,0⟩,1,2,false,⟨true,0,23,12,22,1,2,2,11,4,0⟩⟩,[],1⟩,⟨⟨⟨1,2,0,⟨⟨#[73,75]⟩,[],[2],[⟨0,[1,4,2,6]⟩,⟨1,[1,3,5]⟩]⟩,3,25,2,13,[],⟨33,36,⟨34,true,1⟩⟩⟩,⟨⟨38,true,0⟩,⟨37,true,0⟩⟩,⟨false,true,true,true,true,true,true,false,1,2⟩,2,-1,false,⟨true,1,35,26,34,2,4,-1,25,2,13⟩⟩,[],2⟩]
def he9:List Evt:=[⟨0,1,⟨true,0,23,12,22,1,2,2,11,4,0⟩⟩,⟨1,2,⟨false,0,23,12,22,1,2,-1,0,2,13⟩⟩,⟨1,2,⟨true,1,35,26,34,2,4,-1,25,2,13⟩⟩]
def hw9 (K:Int→Bool):Wd:=⟨hL9,[2,4,13,18,23,27,35],K,6,hv9,hp9,[[13,18,23],[27,35]],he9⟩
def hL10:List Nd:=[⟨0,0,0,0,0⟩,⟨1,1,0,0,0⟩,⟨2,0,1,0,0⟩,⟨1,2,0,0,0⟩,⟨2,0,3,0,0⟩,⟨9,73,0,0,0⟩,⟨8,0,0,5,0⟩,⟨9,75,0,0,0⟩,⟨8,0,6,7,0⟩,⟨5,0,8,0,0⟩,⟨5,0,9,4,0⟩,⟨1,3,0,0,0⟩,⟨1,4,0,0,0⟩,⟨2,0,11,0,0⟩,⟨5,0,10,13,0⟩,⟨3,0,3,11,0⟩,⟨6,1,8,15,0⟩,⟨6,2,8,15,0⟩,⟨7,0,17,14,2⟩,⟨5,0,14,18,0⟩,⟨3,0,1,3,0⟩,⟨6,1,16,20,0⟩,⟨6,2,16,20,0⟩,⟨7,0,22,19,12⟩,⟨5,0,19,23,0⟩,⟨1,5,0,0,0⟩,⟨1,6,0,0,0⟩,⟨2,0,25,0,0⟩,⟨5,0,24,27,0⟩,⟨3,0,11,25,0⟩,⟨6,1,21,29,0⟩,⟨6,2,21,29,0⟩,⟨3,0,1,25,0⟩,⟨6,1,30,32,0⟩,⟨6,2,30,32,0⟩,⟨7,0,34,28,26⟩,⟨5,0,28,35,0⟩,⟨6,1,33,0,0⟩,⟨6,2,33,0,0⟩]
def hv10:List Dv:=[⟨1,1,1,[(2,4)],[]⟩,⟨2,3,2,[],[]⟩]
def hp10:List Pt:=[⟨⟨⟨0,1,0,⟨⟨#[73,75]⟩,[],[2],[⟨0,[1,4,2,6]⟩,⟨1,[1,3,5]⟩]⟩,1,11,4,0,[],⟨21,24,⟨22,true,1⟩⟩⟩,⟨⟨0,false,0⟩,⟨0,false,0⟩⟩,⟨false,true,true,false,true,false,true,false,1,0⟩,1,2,false,⟨true,0,23,12,22,1,2,2,11,4,0⟩⟩,[1],1⟩,⟨⟨⟨1,2,0,⟨⟨#[73,75]⟩,[],[2],[⟨0,[1,4,2,6]⟩,⟨1,[1,3,5]⟩]⟩,3,25,2,13,[],⟨33,36,⟨34,true,1⟩⟩⟩,⟨⟨38,true,0⟩,⟨37,true,0⟩⟩,⟨false,true,true,true,true,true,true,false,1,2⟩,2,-1,false,⟨true,1,35,26,34,2,4,-1,25,2,13⟩⟩,[],2⟩]
def he10:List Evt:=[⟨0,1,⟨true,0,23,12,22,1,2,2,11,4,0⟩⟩,⟨1,2,⟨false,0,23,12,22,1,2,-1,0,2,13⟩⟩,⟨1,2,⟨true,1,35,26,34,2,4,-1,25,2,13⟩⟩]
def hw10 (K:Int→Bool):Wd:=⟨hL10,[2,4,13,18,23,27,35],K,6,hv10,hp10,[[13,18,23],[27,35]],he10⟩
def hL11:List Nd:=[⟨0,0,0,0,0⟩,⟨1,1,0,0,0⟩,⟨2,0,1,0,0⟩,⟨1,2,0,0,0⟩,⟨2,0,3,0,0⟩,⟨9,73,0,0,0⟩,⟨8,0,0,5,0⟩,⟨9,75,0,0,0⟩,⟨8,0,6,7,0⟩,⟨5,0,8,0,0⟩,⟨5,0,9,4,0⟩,⟨1,3,0,0,0⟩,⟨1,4,0,0,0⟩,⟨2,0,11,0,0⟩,⟨5,0,10,13,0⟩,⟨3,0,3,11,0⟩,⟨6,1,8,15,0⟩,⟨6,2,8,15,0⟩,⟨7,0,17,14,2⟩,⟨5,0,14,18,0⟩,⟨3,0,1,3,0⟩,⟨6,1,16,20,0⟩,⟨6,2,16,20,0⟩,⟨7,0,22,19,12⟩,⟨5,0,19,23,0⟩,⟨1,5,0,0,0⟩,⟨1,6,0,0,0⟩,⟨2,0,25,0,0⟩,⟨5,0,24,27,0⟩,⟨3,0,11,25,0⟩,⟨6,1,21,29,0⟩,⟨6,2,21,29,0⟩,⟨3,0,1,25,0⟩,⟨6,1,30,32,0⟩,⟨6,2,30,32,0⟩,⟨7,0,34,28,26⟩,⟨5,0,28,35,0⟩,⟨6,1,33,0,0⟩,⟨6,2,33,0,0⟩]
def hv11:List Dv:=[⟨1,1,1,[(2,4)],[]⟩,⟨2,3,2,[],[]⟩]
def hp11:List Pt:=[⟨⟨⟨0,2,0,⟨⟨#[73,75]⟩,[],[2],[⟨0,[1,4,2,6]⟩,⟨1,[1,3,5]⟩]⟩,1,11,4,27,[],⟨33,36,⟨34,true,1⟩⟩⟩,⟨⟨37,true,0⟩,⟨38,true,0⟩⟩,⟨false,true,true,true,true,true,true,false,1,2⟩,2,2,false,⟨false,1,35,26,34,2,4,2,11,4,27⟩⟩,[],1⟩,⟨⟨⟨1,2,0,⟨⟨#[73,75]⟩,[],[2],[⟨0,[1,4,2,6]⟩,⟨1,[1,3,5]⟩]⟩,3,25,2,13,[],⟨33,36,⟨34,true,1⟩⟩⟩,⟨⟨38,true,0⟩,⟨37,true,0⟩⟩,⟨false,true,true,true,true,true,true,false,1,2⟩,2,-1,false,⟨true,1,35,26,34,2,4,-1,25,2,13⟩⟩,[],2⟩]
def he11:List Evt:=[⟨0,1,⟨true,0,23,12,22,1,2,2,11,4,0⟩⟩,⟨1,2,⟨false,0,23,12,22,1,2,-1,0,2,13⟩⟩,⟨1,2,⟨true,1,35,26,34,2,4,-1,25,2,13⟩⟩,⟨0,1,⟨false,1,35,26,34,2,4,2,11,4,27⟩⟩]
def hw11 (K:Int→Bool):Wd:=⟨hL11,[2,4,13,18,23,27,35],K,6,hv11,hp11,[[13,18,23],[27,35]],he11⟩
def ho0:WOp:=⟨0,1,1,0,ByteArray.empty,0,0,.slice none 0 0,[]⟩
noncomputable def hK0 (K:Int→Bool):Int→Bool:=(cl hL1 (ins K 2))
theorem hs0:(fun K=>doW (hw0 K) ho0)=fun K=>(hw1 (hK0 K),1,0):=by kernel_rfl
def ho1:WOp:=⟨0,2,2,0,ByteArray.empty,0,0,.slice none 0 0,[]⟩
noncomputable def hK1 (K:Int→Bool):Int→Bool:=(cl hL2 (ins K 4))
theorem hs1:(fun K=>doW (hw1 K) ho1)=fun K=>(hw2 (hK1 K),2,0):=by kernel_rfl
def ho2:WOp:=⟨1,1,2,0,ByteArray.empty,0,0,.slice none 0 0,[]⟩
noncomputable def hK2 (K:Int→Bool):Int→Bool:=K
theorem hs2:(fun K=>doW (hw2 K) ho2)=fun K=>(hw3 (hK2 K),0,0):=by kernel_rfl
def ho3:WOp:=⟨3,1,0,2,⟨#[73,75]⟩,0,0,.slice none 0 0,[]⟩
noncomputable def hK3 (K:Int→Bool):Int→Bool:=K
theorem hs3:(fun K=>doW (hw3 K) ho3)=fun K=>(hw4 (hK3 K),0,0):=by kernel_rfl
def ho4:WOp:=⟨3,2,1,(-1),⟨#[73,75]⟩,0,0,.slice none 0 0,[]⟩
noncomputable def hK4 (K:Int→Bool):Int→Bool:=K
theorem hs4:(fun K=>doW (hw4 K) ho4)=fun K=>(hw5 (hK4 K),1,0):=by kernel_rfl
def ho5:WOp:=⟨4,0,0,0,ByteArray.empty,1,2,.slice none 0 0,[]⟩
noncomputable def hK5 (K:Int→Bool):Int→Bool:=(cl hL6 (ins (cl hL6 (ins (cl hL6 (ins K 13)) 18)) 23))
theorem hs5:(fun K=>doW (hw5 K) ho5)=fun K=>(hw6 (hK5 K),0,0):=by kernel_rfl
def ho6:WOp:=⟨5,1,0,0,ByteArray.empty,0,0,.slice none 0 0,[]⟩
noncomputable def hK6 (K:Int→Bool):Int→Bool:=K
theorem hs6:(fun K=>doW (hw6 K) ho6)=fun K=>(hw7 (hK6 K),0,0):=by kernel_rfl
def ho7:WOp:=⟨6,1,0,0,ByteArray.empty,1,2,.slice none 0 0,[]⟩
noncomputable def hK7 (K:Int→Bool):Int→Bool:=K
theorem hs7:(fun K=>doW (hw7 K) ho7)=fun K=>(hw8 (hK7 K),12,0):=by kernel_rfl
def ho8:WOp:=⟨4,1,0,0,ByteArray.empty,2,4,.slice none 0 0,[]⟩
noncomputable def hK8 (K:Int→Bool):Int→Bool:=(cl hL9 (ins (cl hL9 (ins K 27)) 35))
theorem hs8:(fun K=>doW (hw8 K) ho8)=fun K=>(hw9 (hK8 K),1,0):=by kernel_rfl
def ho9:WOp:=⟨5,0,1,0,ByteArray.empty,0,0,.slice none 0 0,[]⟩
noncomputable def hK9 (K:Int→Bool):Int→Bool:=K
theorem hs9:(fun K=>doW (hw9 K) ho9)=fun K=>(hw10 (hK9 K),0,0):=by kernel_rfl
def ho10:WOp:=⟨6,0,0,0,ByteArray.empty,2,4,.slice none 0 0,[]⟩
noncomputable def hK10 (K:Int→Bool):Int→Bool:=K
theorem hs10:(fun K=>doW (hw10 K) ho10)=fun K=>(hw11 (hK10 K),26,0):=by kernel_rfl
section
open Go.ChangeShapes Go.WideShapes Go.Deep Go.Lib
section
variable {H:Type}{enc:TypeId × Value→H}{W:World}{base b0:Nat}{held:Bool}{r:Reach}{v:Value}{d:DataW H}{ps:List MemPlace}
theorem zWv {α:Type}[Inhabited α]{g : α→List Value}{size:Nat}{Q : α→Prop}{t e:TypeId}{u:Value}
 (ht:Tryz.prog.underlying t=some (.slice e)) (hC:Tryz.prog.cellsOf e=size) (hs:0<size)
 (hel:∀n cs x,DataW.trod enc Tryz.prog W base (fun _=>true) held n e cs=some x→cs.length=size→∃a,cs=g a∧Q a)
 (h:∃n y,DataW.trod enc Tryz.prog W base (fun _=>true) held n t [u]=some y) :
 ∃(ρ:List (Nat × Obj)) (l:List α),(∀x ∈ ρ,W.heap[x.1]? = some x.2)∧Sl ρ g size u l∧∀a∈l,Q a:=by
 obtain⟨fuel,y,hf⟩:=h;rcases open_slice ht hf with ⟨hcs,_⟩|⟨a,len',cap',m,n,D,Pl,hcs,hb,hl,hm,hmm,_,hx⟩
 · simp only[List.cons.injEq,and_true]at hcs
   subst hcs;exact⟨[],[],by simp,⟨none,0,rfl,by simp,Nat.zero_le _,by simp⟩,by simp⟩
 · simp only[List.cons.injEq,and_true]at hcs
   subst hcs;simp only[if_true]at hmm;subst hmm;rw[hC]at hx;obtain⟨f,hf⟩:=choose_lt (α := α) (n:=m) (p:=fun i y=>(∀j,j<size→W.cell? (a.add (i*size+j))=(g y)[j]?)∧(g y).length=size∧Q y) (fun i hi=>by
    obtain⟨cs',hc,htr⟩:=hx i hi;obtain⟨_,hlen,hcell⟩:=World.cells?_some hc;obtain⟨y,rfl,hq⟩:=hel _ _ _ htr hlen;exact⟨y,fun j hj=>by rw[← zI5];exact hcell j hj,hlen,hq⟩)
   by_cases h0:len'=0
   · subst h0
     exact⟨[],[],by simp,⟨some a,m,rfl,by simp,hm,by simp⟩,by simp⟩
   · have hc0:∃v0,W.cell? (a.add (0*size+0))=some v0:=by
      have h1:=(hf 0 (by omega)).1 0 hs;have h2:=(hf 0 (by omega)).2.1;exact⟨_,h1.trans (List.getElem?_eq_getElem (by omega))⟩
     obtain⟨v0,hc0⟩:=hc0;obtain⟨cs,el,fr,hh,hsp,_⟩:=zKA hc0;obtain⟨b,off,spot⟩:=a;have hsp':spot=none:=by simpa[Addr.add]using hsp
     subst hsp';have hh':W.heap[b]? = some (.cells cs.toList.toArray el fr):=by simpa[Addr.add]using hh
     refine⟨[(b,.cells cs.toList.toArray el fr)],(List.range len').map f,by simpa using hh',⟨some ⟨b,off,none⟩,m,by simp,by simpa using hl,hm,fun _=>⟨b,off,cs.toList,el,fr,rfl,by simp,fun i hi=>?_⟩⟩,?_⟩
     · simp only[List.length_map,List.length_range]at hi
       obtain⟨h1,h2,_⟩:=hf i (by omega);simp only[List.getElem_map,List.getElem_range];refine zH4 h2 (fun j hj=>?_);rw[← h1 j hj,Addr.add_lit];simp[World.cell?,hh',Nat.add_assoc]
     · intro y hy
       obtain⟨i,hi,rfl⟩:=List.mem_map.1 hy;exact(hf i (by have:=List.mem_range.1 hi;omega)).2.2
theorem zV5 {n:Int}(h:(Lit.int .u64 n).wf=true):0≤n∧n≤18446744073709551615:=by
 simp[Lit.wf,IntKind.min,IntKind.max,IntKind.signed,IntKind.bits]at h;omega
instance:Inhabited Stp:=⟨⟨0,0,0,0,0⟩⟩
instance:Inhabited WOp:=⟨⟨0,0,0,0,ByteArray.empty,0,0,.nilIface,[]⟩⟩
theorem zWr {cs:List Value}(h:cs.length=8):∃a b c d e f g i,cs=[a,b,c,d,e,f,g,i]:=by match cs,h with|[a,b,c,d,e,f,g,i],_=>exact⟨a,b,c,d,e,f,g,i,rfl⟩
theorem zVt {n:Nat}{cs:List Value}{x:DataW H × List MemPlace}(h:DataW.trod enc Tryz.prog W base (fun _=>true) held n 255 cs=some x)(hl:cs.length=5):∃a:Stp,cs=stpL a∧(0≤a.n∧a.n≤18446744073709551615):=by
 have hf:=zIt Tryz.underlying255 (by kernel_rfl) h (by rw[hl];rfl);obtain⟨a,b,c,d,e,rfl⟩:=zWs hl;obtain⟨k,rfl,-⟩:=zDx Tryz.underlying3 (hf 0 _ _ rfl rfl);obtain⟨n,rfl,w1⟩:=zDx Tryz.underlying34 (hf 1 _ _ rfl rfl);obtain⟨x,rfl,-⟩:=zDx Tryz.underlying3 (hf 2 _ _ rfl rfl);obtain⟨y,rfl,-⟩:=zDx Tryz.underlying3 (hf 3 _ _ rfl rfl);obtain⟨z,rfl,-⟩:=zDx Tryz.underlying3 (hf 4 _ _ rfl rfl);exact⟨⟨k,n,x,y,z⟩,rfl,zV5 w1⟩
def zV2 (W:World)(o:WOp):Prop:=∃ ρ:List (Nat × Obj),(∀x ∈ ρ,W.heap[x.1]? = some x.2)∧Sl ρ stpL 5 o.sl o.steps∧∀s∈o.steps,0≤s.n∧s.n≤18446744073709551615
theorem zWw {n:Nat}{cs:List Value}{x:DataW H × List MemPlace}(h:DataW.trod enc Tryz.prog W base (fun _=>true) held n 57 cs=some x)(hl:cs.length=8):∃a:WOp,cs=wopL a∧zV2 W a:=by
 obtain⟨f1,f2,f3,f4,f5,f6,f7,hu,⟨a1,a2⟩,⟨b1,b2⟩,⟨c1,c2⟩,⟨d1,d2⟩,⟨e1,e2⟩,⟨g1,g2⟩,⟨i1,i2⟩⟩:∃f1 f2 f3 f4 f5 f6 f7:Field,Tryz.prog.underlying 57=some (.struct #[f1,f2,f3,f4,f5,f6,f7])∧(f1.type=3∧f1.offset=0)∧(f2.type=3∧f2.offset=1)∧(f3.type=3∧f3.offset=2)∧(f4.type=3∧f4.offset=3)∧(f5.type=9∧f5.offset=4)∧(f6.type=29∧f6.offset=5)∧(f7.type=55∧f7.offset=7) :=
  ⟨_,_,_,_,_,_,_,Tryz.underlying57,⟨rfl,rfl⟩,⟨rfl,rfl⟩,⟨rfl,rfl⟩,⟨rfl,rfl⟩,⟨rfl,rfl⟩,⟨rfl,rfl⟩,⟨rfl,rfl⟩⟩
 obtain⟨xs,n',rfl,-,-,hxl,hf⟩:=DataW.trod_struct hu h;have key:∀(j:Nat) (f:Field) (t:TypeId) (off k:Nat),#[f1,f2,f3,f4,f5,f6,f7][j]? = some f→f.type=t→f.offset=off→Tryz.prog.cellsOf t=k→j<7→∃n y,DataW.trod enc Tryz.prog W base (fun _=>true) held n t ((cs.drop off).take k)=some y:=by
  intro j f t off k h1 h2 h3 h4 h5;have h6:=hf j f h1;rw[List.getElem?_eq_getElem (show j<xs.length by rw[hxl];exact h5),h2,h3,h4]at h6;exact⟨n',_,h6⟩
 obtain⟨a,b,c,d,e,f,g,i,rfl⟩:=zWr hl;have ci:Tryz.prog.cellsOf 3=1:=by kernel_rfl
 have cs1:Tryz.prog.cellsOf 9=1:=by kernel_rfl
 have cl:Tryz.prog.cellsOf 29=2:=by kernel_rfl
 have ct:Tryz.prog.cellsOf 55=1:=by kernel_rfl
 obtain⟨z1,rfl,-⟩:=zDx Tryz.underlying3 (key 0 f1 _ _ _ rfl a1 a2 ci (by omega));obtain⟨z2,rfl,-⟩:=zDx Tryz.underlying3 (key 1 f2 _ _ _ rfl b1 b2 ci (by omega));obtain⟨z3,rfl,-⟩:=zDx Tryz.underlying3 (key 2 f3 _ _ _ rfl c1 c2 ci (by omega));obtain⟨z4,rfl,-⟩:=zDx Tryz.underlying3 (key 3 f4 _ _ _ rfl d1 d2 ci (by omega));obtain⟨z5,rfl,-⟩:=zSW Tryz.underlying9 (key 4 f5 _ _ _ rfl e1 e2 cs1 (by omega));obtain⟨n6,y6,h6⟩:=key 5 f6 _ _ _ rfl g1 g2 cl (by omega);have hlv:=zIt Tryz.underlying29 (by kernel_rfl) (show DataW.trod enc Tryz.prog W base (fun _=>true) held n6 29 [f,g]=some y6 from h6) rfl;obtain⟨z6,rfl,-⟩:=zDx Tryz.underlying3 (hlv 0 _ _ rfl rfl);obtain⟨z7,rfl,-⟩:=zDx Tryz.underlying3 (hlv 1 _ _ rfl rfl);obtain⟨ρ,l,hρ,hs,hq⟩:=zWv (g:=stpL) (size:=5) (Q:=fun s:Stp=>0≤s.n∧s.n≤18446744073709551615) Tryz.underlying55 (by kernel_rfl) (by omega) (fun n cs x h hl=>zVt h hl) (key 6 f7 _ _ _ rfl i1 i2 ct (by omega));exact⟨⟨z1,z2,z3,z4,z5,z6,z7,i,l⟩,rfl,ρ,hρ,hs,hq⟩
theorem zRU:∀{l:List WOp},(∀o∈l,zV2 W o)→∃ ρ:List (Nat × Obj),(∀x ∈ ρ,W.heap[x.1]? = some x.2)∧OpsR ρ l
 | [],_=>⟨[],by simp,by intro o ho;simp at ho⟩
 | o::l,h=>by
   obtain⟨ρ1,h1,h2,h3⟩:=h o (List.mem_cons_self ..);obtain⟨ρ2,h4,h5⟩:=zRU (l:=l) fun o ho=>h o (List.mem_cons_of_mem _ ho)
   refine⟨ρ1 ++ ρ2,fun x hx=>?_,fun o' ho'=>?_⟩
   · rcases List.mem_append.1 hx with hx|hx
     · exact h1 x hx
     · exact h4 x hx
   · rcases List.mem_cons.1 ho' with rfl|ho'
     · exact⟨h2.mono zOc,h3⟩
     · exact⟨(h5 o' ho').1.mono zOb,(h5 o' ho').2⟩
theorem zWf (hval:Value.okWide Tryz.prog W r b0 22 v)(h:DataW.Trod enc Tryz.prog W base (fun _=>true) held 22 v d ps) :
 ∃(ρ:List (Nat × Obj)) (l:List WOp),(∀x ∈ ρ,W.heap[x.1]? = some x.2)∧Sl ρ wopL 8 v l∧OpsR ρ l:=by
 obtain⟨ρ1,l,h1,h2,h3⟩:=zVA (g:=wopL) (size:=8) (Q:=zV2 W) Tryz.underlying22 (by kernel_rfl) (by omega) (fun n cs x h hl=>zWw h hl) hval h;obtain⟨ρ2,h4,h5⟩:=zRU h3;refine⟨ρ1 ++ ρ2,l,fun x hx=>?_,h2.mono zOc,fun o ho=>⟨(h5 o ho).1.mono zOb,(h5 o ho).2⟩⟩;rcases List.mem_append.1 hx with hx|hx
 · exact h1 x hx
 · exact h4 x hx
theorem zV3 (hval:Value.okWide Tryz.prog W r b0 29 v)(h:DataW.Trod enc Tryz.prog W base (fun _=>true) held 29 v d ps):∃a c:Int,v=lvV a c:=by
 obtain⟨cs,rfl,hl,hf⟩:=zU9 (m:=2) Tryz.underlying29 (by kernel_rfl) (by kernel_rfl) rfl hval h;obtain⟨a,b,rfl⟩:=zWt hl;obtain⟨x,rfl,-⟩:=zDx Tryz.underlying3 (hf 0 _ _ rfl rfl);obtain⟨y,rfl,-⟩:=zDx Tryz.underlying3 (hf 1 _ _ rfl rfl);exact⟨x,y,rfl⟩
end
section
variable {W:World}
theorem zWh (h:W.ShapedOpen Tryz.prog):Vars W :=
 ⟨cell_of_shapedOpen_int (P:=Tryz.prog) (g:=0) (t:=3) (zero := #[pI 0]) h (of_decide_eq_true (by kernel_rfl)) (by kernel_rfl) rfl (by kernel_rfl) (by kernel_rfl) Tryz.underlying3⟩
theorem zT2:Rows.laid_unicode_utf8_first=firstData:=by kernel_rfl
theorem zS1:Rows.laid_unicode_utf8_acceptRanges=acceptData:=by kernel_rfl
theorem zTD:Rows.laid_strings_asciiSpace=(tabData .u8 asciiSpaceTab:DataW Unit):=by kernel_rfl
theorem zWl {l : List (String × DataW Unit)} (h : laidMet Tryz.prog l W) (h1 : ("unicode/utf8.first", Rows.laid_unicode_utf8_first) ∈ l) (h2 : ("unicode/utf8.acceptRanges", Rows.laid_unicode_utf8_acceptRanges) ∈ l) : zCz W := by
 have h3:=laidMet.reads h h1;have h4:=laidMet.reads h h2;rw[zT2]at h3;rw[zS1]at h4;have n1 : Tryz.prog.globalNamed "unicode/utf8.first" = some 1 := by kernel_rfl
 have n2 : Tryz.prog.globalNamed "unicode/utf8.acceptRanges" = some 2 := by kernel_rfl
 have y1:(Tryz.prog.globals[1]?).map (·.type)=some 358:=by kernel_rfl
 have y2:(Tryz.prog.globals[2]?).map (·.type)=some 361:=by kernel_rfl
 have c5:Tryz.prog.cellsOf 5=1:=by kernel_rfl
 have c360:Tryz.prog.cellsOf 360=2:=by kernel_rfl
 refine⟨fun c hc=>?_,fun i hi=>?_⟩
 · obtain⟨g,t,cs,fuel,p,hg,hty,hvar,hd⟩:=h3
   obtain rfl:=Option.some.inj (n1.symm.trans hg);obtain rfl:=Option.some.inj (y1.symm.trans hty);have hcs:=cells_of_tab Tryz.underlying358 Tryz.underlying5 c5 (by kernel_rfl) hd;rw[World.var?_cell hg hvar c,← Array.getElem?_toList,hcs];simp[firstTab,hc]
 · obtain⟨g,t,cs,fuel,p,hg,hty,hvar,hd⟩:=h4
   obtain rfl:=Option.some.inj (n2.symm.trans hg);obtain rfl:=Option.some.inj (y2.symm.trans hty);obtain⟨fuel',d,q,hdi,he⟩:=array_elem Tryz.underlying361 hd i hi;simp only[List.getElem?_map,List.getElem?_range hi,Option.map_some,Option.some.injEq]at hdi;subst hdi;rw[c360]at he;have hcs:=ints_of_struct Tryz.underlying360 (fun j f hj=>by
    match j,hj with
    | 0,hj=>simp at hj;subst hj;exact⟨Tryz.underlying5,rfl,c5⟩
    | 1,hj=>simp at hj;subst hj;exact⟨Tryz.underlying5,rfl,c5⟩
    | j+2,hj=>simp at hj) (by rw[c360];rfl) he
   have e0:=congrArg (·[0]?) hcs;have e1:=congrArg (·[1]?) hcs;simp only[List.getElem?_take,List.getElem?_drop]at e0 e1;constructor
   · rw[World.var?_cell hg hvar (2*i),← Array.getElem?_toList]
     simpa[Nat.mul_comm]using e0
   · rw[World.var?_cell hg hvar (2*i+1),← Array.getElem?_toList]
     simpa[Nat.mul_comm]using e1
theorem zWe {l : List (String × DataW Unit)} (h : laidMet Tryz.prog l W) (h1 : ("strings.asciiSpace", Rows.laid_strings_asciiSpace) ∈ l) : zBf W := by
 have h3:=laidMet.reads h h1;rw[zTD]at h3;have n1 : Tryz.prog.globalNamed "strings.asciiSpace" = some 6 := by kernel_rfl
 have y1:(Tryz.prog.globals[6]?).map (·.type)=some 358:=by kernel_rfl
 intro c hc;obtain⟨g,t,cs,fuel,p,hg,hty,hvar,hd⟩:=h3;obtain rfl:=Option.some.inj (n1.symm.trans hg);obtain rfl:=Option.some.inj (y1.symm.trans hty);have hcs:=cells_of_tab Tryz.underlying358 Tryz.underlying5 (by kernel_rfl) (by kernel_rfl) hd;rw[World.var?_cell hg hvar c,← Array.getElem?_toList,hcs];simp[asciiSpaceTab,hc]
end
section
variable {P:Program}{f:FuncId}{fn:Func}{s:ChangeSpec}{c:OpenClaim}
theorem and2 {a b:Bool}(h:a=true)(k:b=true):(a && b)=true:=by rw[h,k];rfl
theorem zWW (k0:(c.wf (OpenSpec.ofChange s))=true)(k1:(laidOutB P)=true)(k2:(mapsRowed P)=true)(k3:(fn.params.all (P.readableRec ·))=true)(k4:(namedTie P c.named s.vars)=true)(k5:((c.stops == []))=true)(k6:((P.stops == []))=true)(k7:((c.knobs == []))=true)(k8:((P.stopKnobs == []))=true)(k9:((c.inPlace == P.inPlace f))=true)(k10:((c.unfollowed == P.unfollowed f))=true)(k11:((c.recurses == P.recurses f))=true)(k12:((c.named == P.varsNamed f))=true)(k13:((c.maps == (fn.params.toList++s.plain.varTypes P).any (P.mapsRec ·)))=true)(k14:((c.ifaces == (fn.params.toList++s.plain.varTypes P).any (P.ifacesRec ·)))=true)(k15:((c.mapsOut == P.mapsAmong fn.resultTypes.toList))=true)(k16:((c.loops == (fn.params.toList++s.plain.varTypes P).any (P.loopsFrom ·)))=true)(k17:((c.wideKeys == (fn.params.toList++s.plain.varTypes P++fn.resultTypes.toList).any (P.wideKeysFrom ·)))=true)(k18:(s.vars.all (P.varReadable ·))=true)(k19:(fn.resultTypes.all (fun t=>P.readableRec t && decide (t<P.types.size)))=true)(k20:((c.ifacesOut == fn.resultTypes.toList.any (P.ifacesRec ·)))=true)(k21:((c.loopsOut == fn.resultTypes.toList.any (P.loopsFrom ·)))=true)(k22:((c.plainKeys == P.plainKeys))=true)(k23:(c.shortTexts.isNone)=true)(k24:(P.stopsHeard)=true)(k25:(P.mayEnter)=true)(k26:((c.lifted == P.liftsFinal))=true)(k27:((P.make == some c.make))=true)(k28a:c.domain.isEmpty=true)(k28b:(c.kinds == [])=true)(k29:((c.pinned == c.pinnedBy))=true)(k30:((c.veiled == (fn.params.toList++s.plain.varTypes P++fn.resultTypes.toList).any (P.veiledRec ·)))=true)(k31:(c.veiledFits P fn.params.toList (fn.params.toList++s.plain.varTypes P++fn.resultTypes.toList))=true):joinedFacts P f fn s c=true:=by
 unfold joinedFacts;exact(and2 (and2 (and2 (and2 (and2 (and2 (and2 (and2 (and2 (and2 (and2 (and2 (and2 (and2 (and2 (and2 (and2 (and2 (and2 (and2 (and2 (and2 (and2 (and2 (and2 (and2 (and2 (and2 (and2 (and2 (and2 k0 k1) k2) k3) k4) k5) k6) k7) k8) k9) k10) k11) k12) k13) k14) k15) k16) k17) k18) k19) k20) k21) k22) k23) k24) k25) k26) k27) (by rw[if_pos k28a];exact k28b)) k29) k30) k31)
end
theorem zUM {H:Type}{enc:TypeId × Value→H}{C:Checked}{os:Os}{f:FuncId}{fn:Func}{s:ChangeSpec}{X:World→Array Value→Prop}(hX:∀(w w':World) (args:Array Value),w.heap=w'.heap→X w args→X w' args)
 (own:ownKnob C.prog.godebug=none) (started:os.Started) (noInit:C.prog.inits.idxOf? f=none) (hfn:C.prog.funcs[f]? = some fn)
 (witness:∃(w:World) (tape:Tape) (i:Input),w.os=os∧(w.forCall tape i).Shaped C.prog∧i.vars=[]∧Input.okWide C.prog (w.forCall tape i) .any w.heap.size f i ∧
   ((s.pre enc C.prog fn [] false (w.forCall tape i).memory i.args∧X (w.forCall tape i).memory i.args)∧sizedMet enc C.prog fn (OpenSpec.ofChange s) false (w.forCall tape i).memory i.args)∧({}:Assume).holds C.prog (lone (Frame.enter C.prog f i.args .normal) [] (w.forCall tape i)))
 (contract:∀(W:World) (base:Nat) (args:Array Value) (ds gs:List (DataW H)) (before:List MemPlace),(∀(j:Nat) t v,fn.params[j]? = some t→args[j]? = some v→Value.okWide C.prog W .any base t v) →
   DataW.Whole enc C.prog fn.params.toList s.vars false W args.toList ds gs before→X W args→W.ShapedOpen C.prog→Calls C.prog f args W fun e W'=>∃v,e = .returned v∧s.post enc C.prog fn false true false false W args v W') :
 ReturnsInHanded {} C os f .any (fun w args=>(s.pre enc C.prog fn [] false w args∧X w args)∧sizedMet enc C.prog fn (OpenSpec.ofChange s) false w args) (s.post enc C.prog fn false true false false):=by
 refine returnsInHanded_of_calls own started noInit witness fun w tape i _ hsh _ hok hpre _=>?_
 obtain⟨_,_,_,fn',hfn',_,_,_,_,hval⟩:=hok;obtain rfl:fn'=fn:=Option.some.inj (hfn'.symm.trans hfn);obtain⟨⟨⟨ds,gs,before,hw,-⟩,hx⟩,-⟩:=hpre;have hw':=DataW.Whole.of_heap (w':=w.forCall tape i) (by rfl) hw;refine(contract _ w.heap.size i.args ds gs before hval hw' (hX _ _ _ (by rfl) hx) hsh).mono fun e W' ⟨v,he,hp⟩=>?_
 subst he;exact ChangeSpec.post_blind hp
end
end Go.Proofs.YtcikdogkkgefcaaGreatDoor
