/- TopForward: the walk of its own code. -/
import Derived.Test.YtcikdogkkgefcaaGreatDoorMA39
import Derived.Test.YtcikdogkkgefcaaGreatDoorMB02
namespace Go.Proofs.YtcikdogkkgefcaaGreatDoor
set_option maxRecDepth 8000
set_option maxHeartbeats 16000000
set_option linter.unusedVariables false
set_option linter.unusedSimpArgs false
open Go Go.RowKit
def OwnM (es:List MapEntry):Prop:=∀e∈es,e.key = pI (intK e.key)∧e.val = .bool true
theorem zU8 {es:List MapEntry}{k:Int}{c:Nat}(h:OwnM es):OwnM (mput (fun u=>decide (k=intK u)) (pI k) (.bool true) es c).1:=by
 unfold mput;split
 · intro e he
   obtain⟨i,hi,rfl⟩:=List.getElem_of_mem he;rw[List.getElem_modify];split
   · exact⟨rfl,rfl⟩
   · exact h _ (List.getElem_mem _)
 · intro e he
   rcases List.mem_append.1 he with h1|h1
   · exact h e h1
   · rw[List.mem_singleton]at h1;subst h1;exact⟨rfl,rfl⟩
theorem zTS {es:List MapEntry}{eqv:Value→Bool}(h:OwnM es):∃b,(zFk (.bool false) (zBN eqv es 0)).1 = .bool b:=by
 cases hf:zBN eqv es 0 with
 | none=>exact⟨false,rfl⟩
 | some r =>
   obtain⟨j,v⟩:=r;obtain⟨e,-,h1,-,h2⟩:=zGx hf;exact⟨true,by rw[← (h e (List.mem_of_getElem? h1)).2,h2];rfl⟩
section
variable {we w:World}{ρ ρ0:List (Nat × Obj)}{σ F:List HP}{v:Value}{wb N:Nat}{W:Wd}
theorem zQg {l:List WOp}(hv:Vars we)(hT:zBf we)(hR:zCz we)(hl:Sl ρ0 wopL 8 v l)(hops:OpsR ρ0 l)(hS:St we ρ0 σ w) :
 Cl Tryz.prog 4 [v] w fun u w'=>u = .bool true∧St we ρ0 σ w':=by
 have hsn:∀o∈l,∀s∈o.steps,0≤s.n:=fun o ho s hs=>((hops o ho).2 s hs).1
 have kR:∀{σ:List HP} {w:World},St we ρ0 σ w→_:=fun hS=>zFd hv hT hR hl hops hS
 have kH:∀{ρ:List (Nat × Obj)} {σ:List HP} {w:World},St we ρ σ w→_:=fun hS=>zG3 hv hT hR hS
 refine Run.calls1 (n:=98) Tryz.func4 rfl rfl rfl ?_;repeat' first|(refine Qc 6 (c:=kR hS) (k':=?_);clear hS;rintro v w1 (⟨hr,rfl,hS⟩|⟨W,wb,hr,rfl,hl40,hS⟩))|(refine Qv 7 (kH hS) ?_;clear hS;intro w1 hS)|apply Qs|apply Qr|apply Qn|refine Ql ?_|refine Qt ?_|refine Qf ?_|apply Qk
 · refine Qw Tryz.func4 ?_
   exact⟨rfl,hS⟩
 obtain⟨g,law⟩:=zRu hr hsn;clear hr;obtain⟨H,ρ,ho,ok,hS⟩:=hS;have hev:W.evs.length≤10000:=by have:=ok.evs;have:=ok.small;omega
 have hkn:=ok.known;have kE:∀{ρ:List (Nat × Obj)} {F:List HP} {w:World},St we ρ (Row wb (wdL H W.fresh) 68::Vec 33 13 H.ve W.evs.length (W.evs.flatMap evtL)::F) w→_:=fun hS=>zD3 hev hS
 repeat' first|(refine Qc 8 (c:=kE hS.tk2) (k':=?_);clear hS;rintro v w1 ⟨ρ2,o2,s2,hS⟩;obtain⟨q,qc,rfl,-⟩:=s2.val)|apply Qs|apply Qr|apply Qn|refine Ql ?_|(refine Qp ?_;clear hS;intro b w1 hS)|apply Qb
 obtain⟨mo,hmo⟩:∃x,x=b:=⟨_,rfl⟩
 subst hmo;clear kR;refine Run.while (fun j:Nat=>[(3,pP wb),(4,.map (some mo)),(18,.slice q W.evs.length qc),(19,pI W.evs.length),(20,pI j)]) (fun j w=>j≤W.evs.length∧∃es cm,OwnM es∧St we ρ2 (Blk mo (.map es.toArray cm)::Row wb (wdL H W.fresh) 68::zAA H.p zAB W.L::KN H.kb H.p W.heard W.K::zAD H.stb 8 (kvD H.ds)::Each devI H.ds::Vec 79 4 H.vp H.ps.length (H.ps.flatMap ptyL)::Each (ptI H.p) H.ps::Vec 80 1 H.vm H.ms.length (H.ms.flatMap mgL)::Vec 33 13 H.ve W.evs.length (W.evs.flatMap evtL) :: σ) w) (fun j=>W.evs.length - j) 0 ⟨Nat.zero_le _,[],0,(fun e he=>by simp at he),hS.pk⟩ (by exact Sb) ?_;clear hS;rintro j w ⟨hj,es,cm,hown,hS⟩ ih;by_cases hlt:j<W.evs.length
 · replace ih:=fun w h=>ih (j+1) w ⟨by omega,h⟩ (by omega)
   obtain⟨b0,o0,cs0,e0,f0,rfl,m0,h0⟩:=s2.agg hlt;generalize W.evs[j]=e at h0;obtain⟨eat,edev,sent,eix,ept,pay,key,eau,conf,epe,own,rs,re⟩:=e;have hkey:=fun e he=>(hown e he).1
   obtain⟨es2,c2,hput⟩:∃es2 c2,mput (fun u=>decide (own=intK u)) (pI own) (.bool true) es cm=(es2,c2):=⟨_,_,rfl⟩
   have hown2:OwnM es2:=by have:=zU8 (k:=own) (c:=cm) hown;rw[hput]at this;exact this
   repeat' first|(refine Ql ?_ (h:=by apply Still.loadAgg (m:=13);rfl;rfl;rfl;exact Rd.ro m0;exact h0;rfl))|(apply RO.op;apply OP.mapUpdate hS;rfl;rfl;rfl;rfl;exact An;exact KeyIs.int (f:=intK) rfl hkey;exact zCy hkey;exact hput;clear hS;intro w1 hS)|apply Qs|apply Qr|(apply Rs<;>intro hc<;>try exact No)|apply Qn|refine Ql ?_|(refine Qa ?_;clear hS;intro b w1 hS)|(refine Qd ?_;clear hS;intro w1 hS)|refine Qt ?_|apply Qk|apply Qb|apply Qi
   exact Run.weaken (e':=[(3,pP wb),(4,.map (some mo)),(18,.slice (some ⟨b0,o0,none⟩) W.evs.length qc),(19,pI W.evs.length),(20,pI ((j+1:Nat):Int))]) (by exact Sb) (ih _ ⟨es2,c2,hown2,hS.pk⟩)
 clear ih;obtain rfl:j=W.evs.length:=by omega
 repeat' first|apply Qs|apply Qr|(apply Rs<;>intro hc<;>try(first|(exfalso;omega)|exact absurd rfl hc))|apply Qn|refine Ql ?_|refine Qf ?_|refine Qe ?_
 repeat' first|(refine Qc 8 (c:=kE hS.tk2) (k':=?_);clear hS;rintro v w1 ⟨ρ3,o3,s3,hS⟩;obtain⟨q3,qc3,rfl,-⟩:=s3.val)|apply Qn|refine Ql ?_|apply Qb
 clear kE s2;have hkey:=fun e he=>(hown e he).1
 refine Run.while (fun j:Nat=>[(3,pP wb),(4,.map (some mo)),(30,.slice q3 W.evs.length qc3),(31,pI W.evs.length),(32,pI j)]) (fun j w=>j≤W.evs.length∧St we ρ3 (Blk mo (.map es.toArray cm)::Row wb (wdL H W.fresh) 68::zAA H.p zAB W.L::KN H.kb H.p W.heard W.K::zAD H.stb 8 (kvD H.ds)::Each devI H.ds::Vec 79 4 H.vp H.ps.length (H.ps.flatMap ptyL)::Each (ptI H.p) H.ps::Vec 80 1 H.vm H.ms.length (H.ms.flatMap mgL)::Vec 33 13 H.ve W.evs.length (W.evs.flatMap evtL) :: σ) w) (fun j=>W.evs.length - j) 0 ⟨Nat.zero_le _,hS.pk⟩ (by exact Sb) ?_;clear hS;rintro j w ⟨hj,hS⟩ ih;by_cases hlt:j<W.evs.length
 · replace ih:=fun w h=>ih (j+1) w ⟨by omega,h⟩ (by omega)
   obtain⟨b0,o0,cs0,e0,f0,rfl,m0,h0⟩:=s3.agg hlt;have hlaw:=law W.evs[j] (List.getElem_mem hlt);generalize W.evs[j]=e at h0 hlaw;obtain⟨eat,edev,sent,eix,ept,pay,key,eau,conf,epe,own,rs,re⟩:=e;simp only at hlaw;replace hlaw:=fun h1 h2=>(hlaw h1 h2).2
   have kG:∀{F w},St we ρ3 (zAA H.p zAB W.L::F) w→_:=fun hS=>zA0 (x:=re) hS
   have kC1:∀{F w},St we ρ3 (KN H.kb H.p W.heard W.K::zAA H.p zAB W.L::F) w→_:=fun hS=>zCU (x:=pay) hkn hS
   have kC2:∀{F w},St we ρ3 (KN H.kb H.p W.heard W.K::zAA H.p zAB W.L::F) w→_:=fun hS=>zCU (x:=(nd W.L re).a) hkn hS
   have kC3:∀{F w},St we ρ3 (KN H.kb H.p W.heard W.K::zAA H.p zAB W.L::F) w→_:=fun hS=>zCU (x:=own) hkn hS
   generalize can W.L W.K pay=cp at kC1 hlaw;generalize can W.L W.K own=co at kC3 hlaw;generalize can W.L W.K (nd W.L re).a=ca at kC2 hlaw;generalize has W.L re=is at kG hlaw;generalize nd W.L re=nn at kG kC2 hlaw;obtain⟨nk,nnn,na,nb,nc⟩:=nn;simp only at hlaw kC2;repeat' first|(refine Ql ?_ (h:=by apply Still.loadAgg (m:=13);rfl;rfl;rfl;exact Rd.ro m0;exact h0;rfl))|apply Qs|apply Qr|(apply Rs<;>intro hc<;>try exact No)|apply Qn|refine Ql ?_|(refine Qa ?_;clear hS;intro b w1 hS)|(refine Qd ?_;clear hS;intro w1 hS)|refine Qt ?_|apply Qk|apply Qb
   replace hS:St we ρ3 (Row b [pI eat,pI edev,.bool sent,pI eix,pI ept,pI pay,pI key,pI eau,pI conf,pI epe,pI own,pI rs,pI re] 33::Blk mo (.map es.toArray cm)::Row wb (wdL H W.fresh) 68::zAA H.p zAB W.L::KN H.kb H.p W.heard W.K::zAD H.stb 8 (kvD H.ds)::Each devI H.ds::Vec 79 4 H.vp H.ps.length (H.ps.flatMap ptyL)::Each (ptI H.p) H.ps::Vec 80 1 H.vm H.ms.length (H.ms.flatMap mgL)::Vec 33 13 H.ve W.evs.length (W.evs.flatMap evtL) :: σ) _:=hS.pk;refine(Run.regionH_cut (fun z:Nat=>Row z [pI nk,.int .u64 nnn,pI na,pI nb,pI nc] 36::Row b [pI eat,pI edev,.bool sent,pI eix,pI ept,pI pay,pI key,pI eau,pI conf,pI epe,pI own,pI rs,pI re] 33::Blk mo (.map es.toArray cm)::Row wb (wdL H W.fresh) 68::zAA H.p zAB W.L::KN H.kb H.p W.heard W.K::zAD H.stb 8 (kvD H.ds)::Each devI H.ds::Vec 79 4 H.vp H.ps.length (H.ps.flatMap ptyL)::Each (ptI H.p) H.ps::Vec 80 1 H.vm H.ms.length (H.ms.flatMap mgL)::Vec 33 13 H.ve W.evs.length (W.evs.flatMap evtL) :: σ) (fun z=>[(3,pP wb),(4,.map (some mo)),(8,pP b),(30,.slice (some ⟨b0,o0,none⟩) W.evs.length qc3),(31,pI W.evs.length),(32,pI j),(9,pP z),(10,.bool is)]) hS (.cons_cons _ (.cons_cons _ (.cons _ (.cons _ (.cons _ (.cons _ (.cons _ (.cons _ (.cons _ (.cons _ (.cons _ (List.Sublist.refl _)))))))))))) (by rfl) (by rfl) (by rfl) ?_ ?_)
   · clear hS
     intro w1 hS;refine RH.relist (listed':=bm 12 0) (by kernel_rfl) ?_;repeat' first|refine Yt 0 0 ?_|refine Yl 1 2 ?_|refine Yl 5 3 ?_|refine Yl 13 4 ?_|refine Yt 63 6 ?_|refine Yt 127 7 ?_|refine Yt 255 8 ?_|refine Yt 2047 11 ?_|refine Yt 575 6 ?_|refine Yt 639 7 ?_|refine Yt 767 8 ?_|(refine Ov 9 (zD4 hS.tk) ?_;clear hS;intro w1 hS;refine Xh ?_)|(refine Ov 10 (kG hS.tk) ?_;clear hS;intro w1 hS;refine Xh ?_)|(refine Oa ?_;clear hS;intro b w1 hS;refine Xh ?_)|(refine Od ?_;clear hS;intro w1 hS;refine Xh ?_)|refine Jo ?_|refine Zb 29 1 9 ?_ ?_|refine Zb 31 5 9 ?_ ?_|refine Za 511 9 ?_|refine Za 1023 10 ?_|refine Za 543 5 ?_|refine Za 541 1 ?_|(refine Yd 4095 ?_;exact⟨_,Sb,hS.pk⟩)
   clear hS kG;rintro b6 w1 hS;repeat' first|apply Qs
   refine Run.midP (α:=Unit) (fun _ w=>sent=true∧cp=true∧3≤conf∧is=true∧nk=2∧St we ρ3 (Row b6 [pI nk,.int .u64 nnn,pI na,pI nb,pI nc] 36::Row b [pI eat,pI edev,.bool sent,pI eix,pI ept,pI pay,pI key,pI eau,pI conf,pI epe,pI own,pI rs,pI re] 33::Blk mo (.map es.toArray cm)::Row wb (wdL H W.fresh) 68::zAA H.p zAB W.L::KN H.kb H.p W.heard W.K::zAD H.stb 8 (kvD H.ds)::Each devI H.ds::Vec 79 4 H.vp H.ps.length (H.ps.flatMap ptyL)::Each (ptI H.p) H.ps::Vec 80 1 H.vm H.ms.length (H.ms.flatMap mgL)::Vec 33 13 H.ve W.evs.length (W.evs.flatMap evtL) :: σ) w) (fun _=>[(3,pP wb),(4,.map (some mo)),(8,pP b),(30,.slice (some ⟨b0,o0,none⟩) W.evs.length qc3),(31,pI W.evs.length),(32,pI j),(9,pP b6),(80,.bool false)]) ?_ ?_
   · clear hS kC1
     rintro - w ⟨rfl,rfl,h2,rfl,rfl,hS⟩;have hl:=hlaw rfl rfl h2 rfl rfl;clear hlaw;repeat' first|apply Qs|refine Qf ?_|apply Qk
     refine(Run.regionH_cut (fun _:Unit=>Blk mo (.map es.toArray cm)::Row wb (wdL H W.fresh) 68::zAA H.p zAB W.L::KN H.kb H.p W.heard W.K::zAD H.stb 8 (kvD H.ds)::Each devI H.ds::Vec 79 4 H.vp H.ps.length (H.ps.flatMap ptyL)::Each (ptI H.p) H.ps::Vec 80 1 H.vm H.ms.length (H.ms.flatMap mgL)::Vec 33 13 H.ve W.evs.length (W.evs.flatMap evtL) :: σ) (fun _=>[(3,pP wb),(4,.map (some mo)),(8,pP b),(30,.slice (some ⟨b0,o0,none⟩) W.evs.length qc3),(31,pI W.evs.length),(32,pI j),(95,.bool false)]) hS (.cons_cons _ (.cons_cons _ (.cons_cons _ (.cons _ (.cons _ (.cons _ (.cons _ (.cons _ (.cons _ (.cons _ (.cons _ (.cons _ (List.Sublist.refl _))))))))))))) (by rfl) (by rfl) (by rfl) ?_ ?_)
     · clear hS
       intro w1 hS;cases ca
       · obtain rfl:co=true:=hl.resolve_left (by simp)
         refine RH.relist (listed':=bm 15 0) (by kernel_rfl) ?_;repeat' first|refine Yt 0 0 ?_|refine Yl 1 2 ?_|refine Yl 5 3 ?_|refine Yt 31 5 ?_|refine Yt 63 6 ?_|refine Yy 127 7 ?_|refine Yn 127 7 ?_|refine Yu 127 7 ?_|refine Yz 255 9 ?_|refine Yn 255 9 ?_|refine Yu 255 9 ?_|refine Yz 767 10 ?_|refine Yn 767 10 ?_|refine Yu 767 10 ?_|refine Yz 1791 11 ?_|refine Yn 1791 11 ?_|refine Yu 1791 11 ?_|refine Yy 8191 13 ?_|refine Yn 8191 13 ?_|refine Yu 8191 13 ?_|refine Yt 16383 14 ?_|(refine Ov 11 (zB7 hS.tk) ?_;clear hS;intro w1 hS;refine Xh ?_)|(apply OP.callF;rfl;rfl;rfl;show Cl _ 12 _ _ _;(first|exact kC2 hS.tk2|exact kC3 hS.tk2);clear hS;rintro v w1 ⟨rfl,hS⟩;refine Xh ?_)|refine Jo ?_|refine Jn ?_|refine Ju ?_|refine Jy ?_|refine Za 13 1 ?_|refine Za 15 4 ?_|refine Za 3839 8 ?_|refine Za 4095 12 ?_|(refine Yd 32767 ?_;exact⟨(),Sb,hS.pk⟩)
       · skip
         refine RH.relist (listed':=bm 15 0) (by kernel_rfl) ?_;repeat' first|refine Yt 0 0 ?_|refine Yl 1 2 ?_|refine Yl 5 3 ?_|refine Yt 31 5 ?_|refine Yt 63 6 ?_|refine Yy 127 7 ?_|refine Yn 127 7 ?_|refine Yu 127 7 ?_|refine Yz 255 9 ?_|refine Yn 255 9 ?_|refine Yu 255 9 ?_|refine Yz 767 10 ?_|refine Yn 767 10 ?_|refine Yu 767 10 ?_|refine Yz 1791 11 ?_|refine Yn 1791 11 ?_|refine Yu 1791 11 ?_|refine Yy 8191 13 ?_|refine Yn 8191 13 ?_|refine Yu 8191 13 ?_|refine Yt 16383 14 ?_|(refine Ov 11 (zB7 hS.tk) ?_;clear hS;intro w1 hS;refine Xh ?_)|(apply OP.callF;rfl;rfl;rfl;show Cl _ 12 _ _ _;(first|exact kC2 hS.tk2|exact kC3 hS.tk2);clear hS;rintro v w1 ⟨rfl,hS⟩;refine Xh ?_)|refine Jo ?_|refine Jn ?_|refine Ju ?_|refine Jy ?_|refine Za 13 1 ?_|refine Za 15 4 ?_|refine Za 3839 8 ?_|refine Za 4095 12 ?_|(refine Yd 32767 ?_;exact⟨(),Sb,hS.pk⟩)
     clear hS hl kC2 kC3;rintro - w1 hS;repeat' first|apply Qr|apply Qn|refine Ql ?_|refine Qf ?_|apply Qk|apply Qi
     exact Run.weaken (e':=[(3,pP wb),(4,.map (some mo)),(30,.slice (some ⟨b0,o0,none⟩) W.evs.length qc3),(31,pI W.evs.length),(32,pI ((j+1:Nat):Int))]) (by exact Sb) (ih _ hS)
   · intro hpost
     clear hlaw kC2 kC3;refine Run.regionH (St we ρ3 (Row b6 [pI nk,.int .u64 nnn,pI na,pI nb,pI nc] 36::Row b [pI eat,pI edev,.bool sent,pI eix,pI ept,pI pay,pI key,pI eau,pI conf,pI epe,pI own,pI rs,pI re] 33::Blk mo (.map es.toArray cm) :: σ)) (fun e w=>∃bq:Bool,(bq=false→sent=true∧cp=true∧3≤conf∧is=true∧nk=2)∧Sub e [(3,pP wb),(4,.map (some mo)),(8,pP b),(30,.slice (some ⟨b0,o0,none⟩) W.evs.length qc3),(31,pI W.evs.length),(32,pI j),(9,pP b6),(80,.bool bq)]∧St we ρ3 (Row b6 [pI nk,.int .u64 nnn,pI na,pI nb,pI nc] 36::Row b [pI eat,pI edev,.bool sent,pI eix,pI ept,pI pay,pI key,pI eau,pI conf,pI epe,pI own,pI rs,pI re] 33::Blk mo (.map es.toArray cm)::Row wb (wdL H W.fresh) 68::zAA H.p zAB W.L::KN H.kb H.p W.heard W.K::zAD H.stb 8 (kvD H.ds)::Each devI H.ds::Vec 79 4 H.vp H.ps.length (H.ps.flatMap ptyL)::Each (ptI H.p) H.ps::Vec 80 1 H.vm H.ms.length (H.ms.flatMap mgL)::Vec 33 13 H.ve W.evs.length (W.evs.flatMap evtL) :: σ) w)
      (fun e w ⟨bq,hf,h1,hS3⟩=>?_) (by rfl) (by rfl) (by rfl) ?_
     · cases bq
       · obtain⟨f1,f2,f3,f4,f5⟩:=hf rfl
         exact Run.weaken h1 (hpost () _ ⟨f1,f2,f3,f4,f5,hS3⟩)
       · refine Run.weaken h1 ?_
         clear hS hpost;have hS:=hS3;repeat' first|apply Qr|apply Qn|refine Ql ?_|refine Qt ?_|refine Qe ?_
         exact Run.weaken (e':=[(3,pP wb),(4,.map (some mo)),(30,.slice (some ⟨b0,o0,none⟩) W.evs.length qc3),(31,pI W.evs.length),(32,pI ((j+1:Nat):Int))]) (by exact Sb) (ih _ hS.pk)
     · clear hpost ih
       replace hS:=hS.drew;cases sent
       · skip
         refine RH.relist (listed':=bm 36 0) (by kernel_rfl) ?_;all_goals(refine Yl 0 0 ?_;refine Yl 1 1 ?_)
         all_goals(refine Yt 3 2 ?_ (h:=by first|(apply Still.lookup (es:=es);rfl;rfl;rfl;rfl;(exact Rd.any);exact KeyIs.int (f:=intK) rfl hkey;rfl;exact how)|exact Still.an))
         all_goals(refine Yt 7 3 ?_;refine Yt 15 4 ?_)
         all_goals(first|(refine Yz 31 5 ?_)|(first|(refine Yn 31 5 ?_)|(refine Yu 31 5 ?_)))
         all_goals(first|(refine Yz 63 6 ?_)|(first|(refine Yn 63 6 ?_)|(refine Yu 63 6 ?_)))
         all_goals(first|(refine Yz 127 7 ?_)|(first|(refine Yn 127 7 ?_)|(refine Yu 127 7 ?_)))
         all_goals(first|(refine Yy 255 8 ?_ (h:=by first|(apply Still.lookup (es:=es);rfl;rfl;rfl;rfl;(exact Rd.any);exact KeyIs.int (f:=intK) rfl hkey;rfl;exact how)|exact Still.an))|(first|(refine Yn 255 8 ?_)|(refine Yu 255 8 ?_)))
         all_goals(first|(refine Yy 511 9 ?_)|(first|(refine Yn 511 9 ?_)|(refine Yu 511 9 ?_)))
         all_goals(try(apply Rh<;>intro hc<;>try exact No))
         all_goals(refine Yt 1023 10 ?_;refine Yt 2047 11 ?_)
         all_goals(first|(refine Yy 4095 12 ?_)|(first|(refine Yn 4095 12 ?_)|(refine Yu 4095 12 ?_)))
         all_goals(first|(refine Yy 8191 13 ?_)|(first|(refine Yn 8191 13 ?_)|(refine Yu 8191 13 ?_)))
         all_goals(refine Yt 16383 14 ?_;refine Yt 32767 15 ?_)
         all_goals(first|(refine Yz 65535 16 ?_)|(first|(refine Yn 65535 16 ?_)|(refine Yu 65535 16 ?_)))
         all_goals(first|(refine Yy 131071 17 ?_ (h:=by first|(apply Still.lookup (es:=es);rfl;rfl;rfl;rfl;(exact Rd.any);exact KeyIs.int (f:=intK) rfl hkey;rfl;exact how)|exact Still.an))|(first|(refine Yn 131071 17 ?_)|(refine Yu 131071 17 ?_)))
         all_goals(first|(refine Yy 262143 18 ?_ (h:=by first|(apply Still.lookup (es:=es);rfl;rfl;rfl;rfl;(exact Rd.any);exact KeyIs.int (f:=intK) rfl hkey;rfl;exact how)|exact Still.any))|(first|(refine Yn 262143 18 ?_)|(refine Yu 262143 18 ?_)))
         all_goals(try(apply Rh<;>intro hc<;>try exact No))
         all_goals(refine Yt 524287 19 ?_;refine Yt 1048575 20 ?_)
         all_goals(first|(refine Yy 2097151 21 ?_)|(first|(refine Yn 2097151 21 ?_)|(refine Yu 2097151 21 ?_)))
         all_goals(first|(refine Yz 4194303 22 ?_)|(first|(refine Yn 4194303 22 ?_)|(refine Yu 4194303 22 ?_)))
         all_goals(first|(refine Yy 8388607 23 ?_ (h:=by first|(apply Still.lookup (es:=es);rfl;rfl;rfl;rfl;(exact Rd.any);exact KeyIs.int (f:=intK) rfl hkey;rfl;exact how)|exact Still.an))|(first|(refine Yn 8388607 23 ?_)|(refine Yu 8388607 23 ?_)))
         all_goals(first|(refine Yy 16777215 24 ?_ (h:=by first|(apply Still.lookup (es:=es);rfl;rfl;rfl;rfl;(exact Rd.any);exact KeyIs.int (f:=intK) rfl hkey;rfl;exact how)|exact Still.any))|(first|(refine Yn 16777215 24 ?_)|(refine Yu 16777215 24 ?_)))
         all_goals(first|(refine Yy 33554431 25 ?_)|(first|(refine Yn 33554431 25 ?_)|(refine Yu 33554431 25 ?_)))
         all_goals(refine Yt 67108863 26 ?_;refine Yt 134217727 27 ?_)
         all_goals(first|(refine Yy 268435455 28 ?_)|(first|(refine Yn 268435455 28 ?_)|(refine Yu 268435455 28 ?_)))
         all_goals(first|(refine Yz 536870911 30 ?_)|(first|(refine Yn 536870911 30 ?_)|(refine Yu 536870911 30 ?_)))
         all_goals(first|(refine Yz 1610612735 31 ?_)|(first|(refine Yn 1610612735 31 ?_)|(refine Yu 1610612735 31 ?_)))
         all_goals(first|(refine Yy 3758096383 32 ?_ (h:=by first|(apply Still.lookup (es:=es);rfl;rfl;rfl;rfl;(exact Rd.any);exact KeyIs.int (f:=intK) rfl hkey;rfl;exact how)|exact Still.an))|(first|(refine Yn 3758096383 32 ?_)|(refine Yu 3758096383 32 ?_)))
         all_goals
          refine Za 8053063679 29 ?_
          · first|refine Jn ?_|refine Ju ?_|refine Jy ?_
            all_goals
             refine Za 8589934591 33 ?_
             · first|refine Jn ?_|refine Ju ?_|refine Jy ?_
               all_goals(first|(refine Yy 17179869183 34 ?_)|(first|(refine Yn 17179869183 34 ?_)|(refine Yu 17179869183 34 ?_)))
               all_goals refine Yt 34359738367 35 ?_
               all_goals(refine Yd 68719476735 ?_)
               all_goals(first|(refine⟨true,(fun h=>Bool.noConfusion h),?_,hS.pk⟩;exact Sb)|(refine⟨false,(fun _=>⟨rfl,rfl,?_,rfl,?_⟩),?_,hS.pk⟩;omega;omega;exact Sb))
       · obtain⟨ow,how⟩:=zTS (eqv:=fun u=>decide (na=intK u)) hown
         cases is<;>cases cp<;>cases ow;all_goals
          refine RH.relist (listed':=bm 36 0) (by kernel_rfl) ?_;all_goals(refine Yl 0 0 ?_;refine Yl 1 1 ?_)
          all_goals(refine Yt 3 2 ?_ (h:=by first|(apply Still.lookup (es:=es);rfl;rfl;rfl;rfl;(exact Rd.any);exact KeyIs.int (f:=intK) rfl hkey;rfl;exact how)|exact Still.an))
          all_goals(refine Yt 7 3 ?_;refine Yt 15 4 ?_)
          all_goals(first|(refine Yz 31 5 ?_)|(first|(refine Yn 31 5 ?_)|(refine Yu 31 5 ?_)))
          all_goals(first|(refine Yz 63 6 ?_)|(first|(refine Yn 63 6 ?_)|(refine Yu 63 6 ?_)))
          all_goals(first|(refine Yz 127 7 ?_)|(first|(refine Yn 127 7 ?_)|(refine Yu 127 7 ?_)))
          all_goals(first|(refine Yy 255 8 ?_ (h:=by first|(apply Still.lookup (es:=es);rfl;rfl;rfl;rfl;(exact Rd.any);exact KeyIs.int (f:=intK) rfl hkey;rfl;exact how)|exact Still.an))|(first|(refine Yn 255 8 ?_)|(refine Yu 255 8 ?_)))
          all_goals(first|(refine Yy 511 9 ?_)|(first|(refine Yn 511 9 ?_)|(refine Yu 511 9 ?_)))
          all_goals(try(apply Rh<;>intro hc<;>try exact No))
          all_goals(refine Yt 1023 10 ?_;refine Yt 2047 11 ?_)
          all_goals(first|(refine Yy 4095 12 ?_)|(first|(refine Yn 4095 12 ?_)|(refine Yu 4095 12 ?_)))
          all_goals(first|(refine Yy 8191 13 ?_)|(first|(refine Yn 8191 13 ?_)|(refine Yu 8191 13 ?_)))
          all_goals(refine Yt 16383 14 ?_;refine Yt 32767 15 ?_)
          all_goals(first|(refine Yz 65535 16 ?_)|(first|(refine Yn 65535 16 ?_)|(refine Yu 65535 16 ?_)))
          all_goals(first|(refine Yy 131071 17 ?_ (h:=by first|(apply Still.lookup (es:=es);rfl;rfl;rfl;rfl;(exact Rd.any);exact KeyIs.int (f:=intK) rfl hkey;rfl;exact how)|exact Still.an))|(first|(refine Yn 131071 17 ?_)|(refine Yu 131071 17 ?_)))
          all_goals(first|(refine Yy 262143 18 ?_ (h:=by first|(apply Still.lookup (es:=es);rfl;rfl;rfl;rfl;(exact Rd.any);exact KeyIs.int (f:=intK) rfl hkey;rfl;exact how)|exact Still.any))|(first|(refine Yn 262143 18 ?_)|(refine Yu 262143 18 ?_)))
          all_goals(try(apply Rh<;>intro hc<;>try exact No))
          all_goals(refine Yt 524287 19 ?_;refine Yt 1048575 20 ?_)
          all_goals(first|(refine Yy 2097151 21 ?_)|(first|(refine Yn 2097151 21 ?_)|(refine Yu 2097151 21 ?_)))
          all_goals(first|(refine Yz 4194303 22 ?_)|(first|(refine Yn 4194303 22 ?_)|(refine Yu 4194303 22 ?_)))
          all_goals(first|(refine Yy 8388607 23 ?_ (h:=by first|(apply Still.lookup (es:=es);rfl;rfl;rfl;rfl;(exact Rd.any);exact KeyIs.int (f:=intK) rfl hkey;rfl;exact how)|exact Still.an))|(first|(refine Yn 8388607 23 ?_)|(refine Yu 8388607 23 ?_)))
          all_goals(first|(refine Yy 16777215 24 ?_ (h:=by first|(apply Still.lookup (es:=es);rfl;rfl;rfl;rfl;(exact Rd.any);exact KeyIs.int (f:=intK) rfl hkey;rfl;exact how)|exact Still.any))|(first|(refine Yn 16777215 24 ?_)|(refine Yu 16777215 24 ?_)))
          all_goals(first|(refine Yy 33554431 25 ?_)|(first|(refine Yn 33554431 25 ?_)|(refine Yu 33554431 25 ?_)))
          all_goals(refine Yt 67108863 26 ?_;refine Yt 134217727 27 ?_)
          all_goals(first|(refine Yy 268435455 28 ?_)|(first|(refine Yn 268435455 28 ?_)|(refine Yu 268435455 28 ?_)))
          all_goals(first|(refine Yz 536870911 30 ?_)|(first|(refine Yn 536870911 30 ?_)|(refine Yu 536870911 30 ?_)))
          all_goals(first|(refine Yz 1610612735 31 ?_)|(first|(refine Yn 1610612735 31 ?_)|(refine Yu 1610612735 31 ?_)))
          all_goals(first|(refine Yy 3758096383 32 ?_ (h:=by first|(apply Still.lookup (es:=es);rfl;rfl;rfl;rfl;(exact Rd.any);exact KeyIs.int (f:=intK) rfl hkey;rfl;exact how)|exact Still.an))|(first|(refine Yn 3758096383 32 ?_)|(refine Yu 3758096383 32 ?_)))
          all_goals
           refine Za 8053063679 29 ?_
           · first|refine Jn ?_|refine Ju ?_|refine Jy ?_
             all_goals try(refine Ov 11 (zB7 hS.tk) ?_;clear hS;intro w1 hS;refine Xh ?_)
             all_goals
              refine Za 8589934591 33 ?_
              · first|refine Jn ?_|refine Ju ?_|refine Jy ?_
                all_goals try(apply OP.callF;rfl;rfl;rfl;show Cl _ 12 _ _ _;(first|exact kC1 hS.tk2|exact kC2 hS.tk2|exact kC3 hS.tk2);clear hS;rintro v w1 ⟨rfl,hS⟩;refine Xh ?_)
                all_goals(first|(refine Yy 17179869183 34 ?_)|(first|(refine Yn 17179869183 34 ?_)|(refine Yu 17179869183 34 ?_)))
                all_goals refine Yt 34359738367 35 ?_
                all_goals(refine Yd 68719476735 ?_)
                all_goals(first|(refine⟨true,(fun h=>Bool.noConfusion h),?_,hS.pk⟩;exact Sb)|(refine⟨false,(fun _=>⟨rfl,rfl,?_,rfl,?_⟩),?_,hS.pk⟩;omega;omega;exact Sb))
 · obtain rfl:j=W.evs.length:=by omega
   clear ih law;repeat' first|apply Qs|apply Qr|(apply Rs<;>intro hc<;>try(first|(exfalso;omega)|exact absurd rfl hc))|apply Qn|refine Ql ?_|(refine Qv 7 (kH hS) ?_;clear hS;intro w1 hS)|refine Qf ?_|refine Qe ?_
   refine Qw Tryz.func4 ?_;exact⟨rfl,((ho.trans o2).trans o3).back hS.pk⟩
end
end Go.Proofs.YtcikdogkkgefcaaGreatDoor
