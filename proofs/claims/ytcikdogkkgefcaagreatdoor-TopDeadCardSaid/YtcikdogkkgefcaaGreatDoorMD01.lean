/- A dead session stays dead; room for what follows. A dead session's ops, where its memory stays where it is. TopDead: the walk of its own code. -/
import Derived.Test.YtcikdogkkgefcaaGreatDoorMA40
import Derived.Test.YtcikdogkkgefcaaGreatDoorMA39
namespace Go.Proofs.YtcikdogkkgefcaaGreatDoor
set_option maxRecDepth 8000
set_option maxHeartbeats 16000000
set_option linter.unusedVariables false
set_option linter.unusedSimpArgs false
open Go Go.RowKit
section
variable {W Wf:Wd}{o:WOp}
theorem zDg (W:Wd):Gr 1 W.L (zAw W).1.L:=zB5 _
theorem zG0 (W:Wd)(x:Int):(zAd W x).1.msgs=W.msgs:=by
 unfold zAd;split<;>rfl
theorem zIb:∀(l:List Int) (W:Wd),(zAz W l).msgs=W.msgs
 | [],W=>rfl
 | x::l,W=>(zIb l (zAd W x).1).trans (zG0 W x)
def Adds (W W':Wd):Prop:=(∃n,n≤100∧Gr n W.L W'.L)∧W'.msgs.length≤W.msgs.length+1
theorem Adds.mk0 {W':Wd}{n:Nat}(hn:n≤100)(h:Gr n W.L W'.L)(hm:W'.msgs=W.msgs):Adds W W':=⟨⟨n,hn,h⟩,by rw[hm];omega⟩
theorem Adds.refl (W:Wd):Adds W W:=Adds.mk0 (Nat.zero_le _) (Gr.refl 0 _) rfl
theorem zOH:Adds W (zBO W o).1:=by
 unfold zBO;split
 · exact Adds.refl _
 split
 · exact Adds.refl _
 split
 · exact Adds.refl _
 dsimp only;split
 · exact Adds.mk0 (by omega) (zDg W) rfl
 split
 · exact Adds.mk0 (n:=2) (by omega) ((zDg W).trans (zB5 _) (by omega)) rfl
 · refine Adds.mk0 (n:=2) (by omega) ?_ (zG0 _ _)
   rw[(zDt _ _).1];exact(zDg W).trans (zB5 _) (by omega)
theorem zSz:Adds W (zEj W o).1:=by
 unfold zEj;split
 · exact Adds.refl _
 · split
   · exact Adds.refl _
   · exact Adds.mk0 (n:=0) (by omega) (Gr.refl _ _) rfl
theorem zUJ:Adds W (pskW W o).1:=by
 unfold pskW;split
 · split
   · exact Adds.refl _
   · dsimp only
     split
     · exact Adds.mk0 (by omega) (zDg W) rfl
     · exact Adds.mk0 (by omega) (zDg W) rfl
 · exact Adds.refl _
theorem zS0:Adds W (zEX W o).1:=by
 unfold zEX;split
 · exact Adds.refl _
 · split
   · exact Adds.refl _
   · dsimp only
     split
     · exact Adds.mk0 (by omega) zDv rfl
     · split
       · exact Adds.mk0 (by omega) zDv rfl
       · exact Adds.mk0 (by omega) zDv rfl
theorem zQc (ho:ShOk (W.part o.a).s.h):Adds W (zBC W o).1:=by
 unfold zBC;split
 · exact Adds.refl _
 dsimp only;have g2:Gr 2 W.L (zAw (zAw W).1).1.L:=(zDg W).trans (zDg _) (by omega);split
 · exact Adds.mk0 (by omega) (zDg W) rfl
 split
 · exact Adds.mk0 (by omega) g2 rfl
 have g3:=g2.trans (zDD (lim:=zAB) (L:=(zAw (zAw W).1).1.L) (e:=(zAw W).2.1) (pl:=(zAw (zAw W).1).2.1) (wa:=o.wa) (wc:=o.wc) ho) (Nat.le_refl _);split
 · exact Adds.mk0 (by omega) g3 rfl
 · refine⟨⟨54,by omega,?_⟩,?_⟩
   · show Gr 54 W.L (zAz _ _).L
     rw[(zEI _ _).1];exact g3
   · show((zAz _ _).msgs++[_]).length≤_
     rw[zIb,List.length_append];exact Nat.le_refl _
theorem zSx:Adds W (zHd W o).1:=by
 unfold zHd;split
 · exact Adds.refl _
 · split
   · exact Adds.mk0 (n:=0) (by omega) (Gr.refl _ _) rfl
   · exact Adds.refl _
theorem zSy (ho:ShOk (W.part o.a).s.h):Adds W (zDb W o).1:=by
 unfold zDb;dsimp only;split
 · exact Adds.refl _
 · split
   · exact Adds.mk0 (by omega) (zFE ho) rfl
   · exact Adds.mk0 (by omega) (zFE ho) rfl
theorem zQe (hs:o.steps.length≤20):Adds W (zCK W o).1:=by
 unfold zCK;split
 · exact Adds.refl _
 · dsimp only
   have g:=zJy (lim:=zAB) (heard:=W.heard) o.steps W.L [] 0;split
   · exact Adds.mk0 (by omega) g rfl
   · split
     · exact Adds.mk0 (by omega) g rfl
     · exact⟨⟨_,by omega,g⟩,by simp⟩
theorem zOI:Adds W (zBq W o).1:=by
 unfold zBq;split
 · exact Adds.refl _
 split
 · exact Adds.refl _
 split
 · exact Adds.refl _
 · exact Adds.mk0 (n:=0) (by omega) (by rw[(zDt _ _).1];exact Gr.refl _ _) (zG0 _ _)
theorem zQd:Adds W (zB3 W o).1:=by
 unfold zB3;split
 · exact Adds.refl _
 · exact Adds.mk0 (by omega) zFj rfl
theorem zV1 (g:GI W)(hs:o.steps.length≤20):Adds W (doW W o).1:=by
 unfold doW;split
 · exact Adds.refl _
 split
 · exact Adds.refl _
 rename_i h1 h2;have hh:ofW o.kind=true→W.has o.a=true:=fun h=>by
  cases k:W.has o.a with
  | true=>rfl
  | false=>exact absurd ⟨h,k⟩ h2
 split
 · exact zOH
 split
 · exact zSz
 split
 · exact zUJ
 split
 · exact zS0
 split
 · rename_i k;exact zQc (g.part _ (zBu (hh (by unfold ofW;simp[k])))).1
 split
 · exact zSx
 split
 · rename_i k;exact zSy (g.part _ (zBu (hh (by unfold ofW;simp[k])))).1
 split
 · exact zQe hs
 split
 · exact zOI
 · exact zQd
theorem zTG {l:List WOp}:∀{W:Wd},zCm W l=some Wf→GI W→W.fresh+2*l.length<4294960000→(∀o∈l,∀s∈o.steps,0≤s.n)→Wf.L.length≤W.L.length+100*l.length∧Wf.msgs.length≤W.msgs.length+l.length:=by
 induction l with
 | nil =>
   intro W h g hf hs;unfold zCm at h;simp only[Option.some.injEq]at h;subst h;simp
 | cons o l ih =>
   intro W h g hf hs;unfold zCm at h;split at h
   · simp at h
   · rename_i hc
     rw[List.length_cons]at hf;obtain⟨g1,nx⟩:=zVm (o:=o) g (by omega) (hs o (List.mem_cons_self ..));obtain⟨⟨n,hn,gr⟩,hm⟩:=zV1 (o:=o) g (by omega);obtain⟨r1,r2⟩:=ih h g1 (by have:=nx.fresh;omega) (fun o ho=>hs o (List.mem_cons_of_mem _ ho));have:=gr.len.2;rw[List.length_cons];omega
theorem zRe (hl:W.L.length<zAB):(zAw W).2.2=0:=by
 unfold zAw;dsimp only;rcases zCx zAB W.L (zJI W)with ⟨h,hr⟩|⟨i,h,-⟩|⟨h,-,-,hq⟩|⟨h,-⟩
 · exfalso
   have:right W.L (zJI W)=true:=by
    unfold right zJI zBW many zBy;simp
   rw[this]at hr;exact Bool.noConfusion hr
 · rw[h]
 · exact absurd hq (by omega)
 · rw[h]
structure Keeps (W W':Wd):Prop where
 parts:W'.parts=W.parts
 msgs:W'.msgs=W.msgs
 len:W'.L.length≤W.L.length+2
theorem zQO {n wa wc:Int}(hh:W.has n=true)(hd:(W.part n).s.dead=true)(hm:W.msgs.length<256)(hl:W.L.length+2<zAB) :
 (doW W ⟨4,n,0,0,ByteArray.empty,wa,wc,.slice none 0 0,[]⟩).2.2=6∧Keeps W (doW W ⟨4,n,0,0,ByteArray.empty,wa,wc,.slice none 0 0,[]⟩).1:=by
 have hg1:=(zDg W).len;have hg2:=(zDg (zAw W).1).len;have k1:=zRe (W:=W) (by omega);have k2:=zRe (W:=(zAw W).1) (by omega);have ht:∀L e pl,zAE zAB L (W.part n).s e pl wa wc=(L,(W.part n).s,[],6):=fun L e pl=>by
  have:zD5 (W.part n).s true wa wc=6:=by unfold zD5;rw[if_pos hd]
  unfold zAE;rw[this];rfl
 unfold doW;rw[if_neg (by simp),if_neg (by simp[hh]),if_neg (by simp),if_neg (by simp),if_neg (by simp),if_neg (by simp),if_pos rfl];unfold zBC;rw[if_neg (by omega)];dsimp only;rw[if_neg (by rw[k1];simp),if_neg (by rw[k2];simp),ht];exact⟨rfl,rfl,rfl,by show(zAw (zAw W).1).1.L.length≤_;omega⟩
theorem zQP {n:Int}(hh:W.has n=true)(hd:(W.part n).s.dead=true) :
 (doW W ⟨9,n,0,0,ByteArray.empty,0,0,.slice none 0 0,[]⟩).2.2=6∧Keeps W (doW W ⟨9,n,0,0,ByteArray.empty,0,0,.slice none 0 0,[]⟩).1:=by
 have ht:∀b,zAb zAB W.L (W.part n).s b=(W.L,(W.part n).s,6):=fun b=>by
  unfold zAb;rw[if_pos hd]
 have hset:W.parts.set n.toNat (W.part n)=W.parts:=by
  have h2:=hh;unfold Wd.has at h2;simp only[Bool.and_eq_true,decide_eq_true_eq]at h2;have hlt:n.toNat<W.parts.length:=by omega
  refine zBQ ?_;unfold Wd.part;rw[List.getD_eq_getElem?_getD,List.getElem?_eq_getElem hlt];rfl
 unfold doW;rw[if_neg (by simp),if_neg (by simp[hh]),if_neg (by simp),if_neg (by simp),if_neg (by simp),if_neg (by simp),if_neg (by simp),if_neg (by simp),if_neg (by simp),if_neg (by simp),if_neg (by simp)];unfold zB3;rw[if_neg (by simp)];dsimp only;rw[ht];exact⟨rfl,hset,rfl,by show W.L.length≤_;omega⟩
end
def WSp (S:List Nat)(we:World)(ρ0:List (Nat × Obj))(wb N:Nat)(W:Wd)(F:List HP)(w:World):Prop :=
 ∃H ρ,Over we ρ0 ρ∧WOk ρ H N W∧H.ps.map (·.sb)=S∧St we ρ (zHy wb H W F) w
theorem zUT {ps:List PtH}{i:Nat}{x y:PtH}(hx:ps[i]? = some x)(h:y.sb=x.sb):(ps.set i y).map (·.sb)=ps.map (·.sb):=by
 rw[List.map_set,h];refine zBQ ?_;rw[List.getElem?_map,hx];rfl
section
variable {we w:World}{ρ0:List (Nat × Obj)}{F:List HP}{wb N:Nat}{W:Wd}{o:WOp}{S:List Nat}
theorem WSp.frame {A:HP}(h:WSp S we ρ0 wb N W (A::F) w):WSp S we ρ0 wb N W F w:=by
 obtain⟨H,ρ,ho,ok,hs,hS⟩:=h;exact⟨H,ρ,ho,ok,hs,hS.pk⟩
theorem zQi (h:WSp S we ρ0 wb N W F w)(hh:W.has o.a=true)(hN:N<500):Cl Tryz.prog 48 [pP wb,opV o] w fun v w'=>v=ansV (zBC W o)∧WSp S we ρ0 wb (N+1) (zBC W o).1 F w':=by
 obtain⟨H,ρ,ho,ok,hsb,hS⟩:=h;obtain⟨L,heard,K,f,devs,parts,msgs,evs⟩:=W;obtain⟨k1,k2,k3,rfl,k5,k6,k7,rfl,k9,k10,k11,rfl,k13,k14,k15,k16⟩:=ok.un;have q2:heard.length≤100*(N+1):=by omega
 have q15:evs.length≤N+1:=by omega
 obtain⟨ha,x,hx,hpt,hxm⟩:=zFC hh;have hp:=k11 x hxm;have hml:H.ms.length≤256:=by simpa using k13
 refine(zJP (W:=⟨L,heard,K,f,H.ds.map (·.d),H.ps.map (·.x),H.ms.map (·.1),evs⟩) (ps:=H.ps) (ms:=H.ms) (f:=f) (o:=o) (L:=L) (heard:=heard) (K:=K) (evs:=evs) (devs:=H.ds.map (·.d)) rfl hx ha (k10 _ _ hx) hp.ok hp.rep ⟨hp.idx.1,by have:=hp.idx.2;omega⟩ k1 (by omega) (by omega) hml (F:=zAD H.stb 8 (kvD H.ds)::Each devI H.ds::F) hS.pk).mono ?_;rintro v w' ⟨rfl,ρ',ps',ms',vm',ve',ho',hwr,hps,hms,hS2⟩;obtain⟨L1,f1,l,ps1,ms1,ev1,hdv,hgr,hll⟩:=zLE ⟨L,heard,K,f,H.ds.map (·.d),H.ps.map (·.x),H.ms.map (·.1),evs⟩ o (by rw[hpt];exact hp.ok);generalize (zBC ⟨L,heard,K,f,H.ds.map (·.d),H.ps.map (·.x),H.ms.map (·.1),evs⟩ o).1=W' at hdv hwr hps hms hS2 ⊢;subst hdv;simp only at hgr hwr hps hms hS2;obtain⟨g,-⟩:=zA7 (hS2.take (A:=zAA H.p zAB L1) An);obtain⟨r1,r2,r3⟩:=zKr g l (heard,K) (fun x hx=>hgr.has (k3 x hx)) (fun x hx=>hgr.has (k1 x hx));have hps1:ps'.length=H.ps.length∧ps'.flatMap ptyL=H.ps.flatMap ptyL:=by
  rcases hwr with ⟨rfl,_,_⟩|⟨L0,e,pl,m,mv,h1,rfl,_⟩
  · exact⟨rfl,rfl⟩
  · exact⟨by simp,zCA hx rfl⟩
 rw[← hps1.1,← hps1.2]at hS2;refine⟨rfl,⟨H.p,H.kb,H.stb,H.ds,ps',ms',H.vp,vm',ve'⟩,ρ',ho.trans ho',?_,?hsb,hS2.pk⟩;case hsb =>
  rcases hwr with ⟨rfl,_,_⟩|⟨L0,e,pl,m,mv,h1,rfl,_⟩
  · exact hsb
  · exact(zUT (y:=ptS x (zAE zAB L0 x.x.s e pl o.wa o.wc).2.1) hx rfl).trans hsb
 have hlen:(H.ms.map (·.1)).length≤ms1.length∧ms1.length≤256:=by
  rw[← hms];simp only[List.length_map];rcases hwr with ⟨_,rfl,_⟩|⟨L0,e,pl,m,mv,h1,_,rfl,_,_,h3,_⟩
  · omega
  · simp;omega
 have hold:∀y∈H.ps,PtOk ρ' ⟨H.p,H.kb,H.stb,H.ds,ps',ms',H.vp,vm',ve'⟩ (N+1) ms1.length y:=fun y hy=>(k11 y hy).mono ho'.sub id (by omega) hlen.1
 refine WOk.mk' r2 (Nat.le_trans r3 (by simp only;omega)) r1 rfl k5 k6 (fun d hd=>by have:=k7 d hd;exact⟨by omega,by omega,this.2.2⟩) hps ?_ ?_ ?_ hms hlen.2 ?_ ?_ (by omega)
 · rw[← hps,List.length_map,hps1.1];simpa using k9
 · rcases hwr with ⟨rfl,_,_⟩|⟨L0,e,pl,m,mv,h1,rfl,_⟩
   · exact k10
   · exact zHA hx k10 rfl
 · rcases hwr with ⟨rfl,_,_⟩|⟨L0,e,pl,m,mv,h1,rfl,_⟩
   · exact hold
   · exact zGr hold (hp.to (zDN hp.ok h1) (b:=x.x.box) (fun n hn=>⟨(hp.box n hn).1,by have:=(hp.box n hn).2;omega⟩) ho'.sub rfl)
 · rcases hwr with ⟨_,rfl,_⟩|⟨L0,e,pl,m,mv,h1,_,rfl,h2,_⟩
   · exact fun m hm=>(k14 m hm).mono ho'.sub
   · intro y hy
     rcases List.mem_append.1 hy with h4|h4
     · exact(k14 y h4).mono ho'.sub
     · simp at h4;subst h4;exact h2
 · rcases hwr with ⟨_,_,rfl⟩|⟨L0,e,pl,m,mv,h1,_,_,_,h2,_⟩
   · exact q15
   · rw[h2];omega
theorem zQk (h:WSp S we ρ0 wb N W F w)(hh:W.has o.a=true)(hN:N<500):Cl Tryz.prog 53 [pP wb,opV o] w fun v w'=>v=ansV (zB3 W o)∧WSp S we ρ0 wb (N+1) (zB3 W o).1 F w':=by
 obtain⟨H,ρ,ho,ok,hsb,hS⟩:=h;obtain⟨L,heard,K,f,devs,parts,msgs,evs⟩:=W;obtain⟨k1,k2,k3,rfl,k5,k6,k7,rfl,k9,k10,k11,rfl,k13,k14,k15,k16⟩:=ok.un;have q2:heard.length≤100*(N+1):=by omega
 have q15:evs.length≤N+1:=by omega
 obtain⟨ha,x,hx,hpt,hxm⟩:=zFC hh;have hp:=k11 x hxm;have hW:zB3 ⟨L,heard,K,f,H.ds.map (·.d),H.ps.map (·.x),H.ms.map (·.1),evs⟩ o=(⟨(zBa L o x).1,heard,K,f,H.ds.map (·.d),(H.ps.set o.a.toNat (ptS x (zBa L o x).2.1)).map (·.x),H.ms.map (·.1),evs⟩,0,(zBa L o x).2.2):=by
  unfold zB3 zBa;rw[hpt];split
  · rw[show ptS x x.x.s=x from rfl,zBQ hx]
  · simp only[Wd.setPart]
    rw[List.map_set];rfl
 have hgr:Gr 1 L (zBa L o x).1:=by unfold zBa;split;exact Gr.refl _ _;exact zFj
 have hto:SsTo x.x.s (zBa L o x).2.1:=by unfold zBa;split;exact⟨hp.ok,Fwd.refl _,by simp only;omega⟩;exact zHG hp.ok
 refine(zJQ (ps:=H.ps) (f:=f) (o:=o) (L:=L) hx ha hp.rep (F:=KN H.kb H.p heard K::zAD H.stb 8 (kvD H.ds)::Each devI H.ds::Vec 80 1 H.vm H.ms.length (H.ms.flatMap mgL)::Vec 33 13 H.ve evs.length (evs.flatMap evtL)::F) hS.pk).mono ?_;rintro v w' ⟨rfl,hS2⟩;rw[hW];refine⟨rfl,⟨H.p,H.kb,H.stb,H.ds,H.ps.set o.a.toNat (ptS x (zBa L o x).2.1),H.ms,H.vp,H.vm,H.ve⟩,ρ,ho,?_,(zUT (y:=ptS x (zBa L o x).2.1) hx rfl).trans hsb,?_⟩
 · exact WOk.mk' (fun x hx=>hgr.has (k1 x hx)) q2 (fun x hx=>hgr.has (k3 x hx)) rfl k5 k6 (fun d hd=>by have:=k7 d hd;exact⟨by omega,by omega,this.2.2⟩) rfl (by simpa using k9) (zHA hx k10 rfl) (zGr (fun y hy=>(k11 y hy).mono (fun _ h=>h) id (by omega) (Nat.le_refl _)) (hp.to hto (b:=x.x.box) hp.box (fun _ h=>h) rfl)) rfl k13 k14 q15 (by omega)
 · rw[← zCA (g:=ptyL) (y:=ptS x (zBa L o x).2.1) hx rfl]at hS2
   rw[show H.ps.length=(H.ps.set o.a.toNat (ptS x (zBa L o x).2.1)).length by simp]at hS2;exact hS2.pk
theorem zUL {of:Bool}{g i:Nat}{q:Wd × Int × Int}(h:WSp S we ρ0 wb N W F w)(hf:zBN (fun u=>decide (o.kind=intK u)) zEo 0=some (i,kV of g))(hg:fnB Tryz.prog g=true)(hof:of=true→W.has o.a=true)
 (hcall:∀F w,WSp S we ρ0 wb N W F w→Cl Tryz.prog g [pP wb,opV o] w fun v w'=>v=ansV q∧WSp S we ρ0 wb (N+1) q.1 F w') :
 Cl Tryz.prog 17 [pP wb,opV o] w fun v w'=>v=ansV q∧WSp S we ρ0 wb (N+1) q.1 F w':=by
 obtain⟨H,ρ,ho,ok,hsb,hS⟩:=h;have hhas:(zEg H.ps o.a).2=W.has o.a:=by
  rw[zIA];unfold Wd.has;rw[← ok.parts,List.length_map]
 have kS:∀{F w},St we ρ (Row wb (wdL H W.fresh) 68::Vec 79 4 H.vp H.ps.length (H.ps.flatMap ptyL)::F) w→_:=fun hS=>zBt (n:=o.a) hS
 generalize zEg H.ps o.a=sa at kS hhas;obtain⟨us,is⟩:=sa;simp only at kS hhas;refine Run.calls2 (n:=39) Tryz.func17 rfl rfl rfl ?_;repeat' first|apply Qs|apply Qr|apply Qn|refine Ql ?_|(refine Qx ?_;clear hS;intro b w1 hS)
 refine(Run.regionH_cut (fun z:Nat=>Row z [.bool of,.func (.func g) #[] #[]] 105::Row b (wopL o) 57::Row wb (wdL H W.fresh) 68::zAA H.p zAB W.L::KN H.kb H.p W.heard W.K::zAD H.stb 8 (kvD H.ds)::Each devI H.ds::Vec 79 4 H.vp H.ps.length (H.ps.flatMap ptyL)::Each (ptI H.p) H.ps::Vec 80 1 H.vm H.ms.length (H.ms.flatMap mgL)::Vec 33 13 H.ve W.evs.length (W.evs.flatMap evtL)::F) (fun z=>[(0,pP wb),(3,pP b),(6,pP z),(7,.bool true)])
  (show St we ρ (Row b (wopL o) 57::Row wb (wdL H W.fresh) 68::zAA H.p zAB W.L::KN H.kb H.p W.heard W.K::zAD H.stb 8 (kvD H.ds)::Each devI H.ds::Vec 79 4 H.vp H.ps.length (H.ps.flatMap ptyL)::Each (ptI H.p) H.ps::Vec 80 1 H.vm H.ms.length (H.ms.flatMap mgL)::Vec 33 13 H.ve W.evs.length (W.evs.flatMap evtL)::F) _ from hS) (List.Sublist.refl _) (by rfl) (by rfl) (by rfl) ?_ ?_)
 · clear hS
   intro w1 hS;refine RH.relist (listed':=bm 10 0) (by kernel_rfl) ?_;repeat' first|refine Yl 0 1 ?_|(refine Yt 2 2 ?_ (h:=by first|(apply Still.lookupOk;rfl;rfl;rfl;rfl;(exact Rd.any);exact KeyIs.int (f:=intK) rfl zCc;exact hf;rfl)|exact Still.an))|refine Yt 15 4 ?_|refine Yt 31 5 ?_|refine Yt 63 6 ?_|refine Yt 511 9 ?_|refine Yt 143 4 ?_|refine Yt 159 5 ?_|refine Yt 191 6 ?_|(refine Oc 25 (c:=zEK hS) (k':=?_);clear hS;rintro v w1 ⟨mk,mc,rfl,hS⟩;refine Xh ?_)|(refine Ol (Xh ?_) (h:=by first|(apply Still.lookupOk;rfl;rfl;rfl;rfl;(exact Rd.any);exact KeyIs.int (f:=intK) rfl zCc;exact hf;rfl)|exact Still.any))|(refine Oa ?_;clear hS;intro b w1 hS;refine Xh ?_)|(refine Od ?_;clear hS;intro w1 hS;refine Xh ?_)|refine Jo ?_|refine Zb 6 0 7 ?_ ?_|refine Zb 7 3 7 ?_ ?_|refine Za 127 7 ?_|refine Za 255 8 ?_|refine Za 135 3 ?_|refine Za 134 0 ?_|(refine Yd 1023 ?_;exact⟨_,Sb,hS.pk⟩)
 clear hS;intro bd w1 hS;cases of
 · clear hhas hof
   repeat' first|(refine Qv 14 (kS hS.tk2) ?_;clear hS;intro w1 hS)|(apply RO.op;apply OP.callV;rfl;exact hg;rfl;rfl;exact hcall (Row bd [.bool false,.func (.func g) #[] #[]] 105::Row b (wopL o) 57::F) _ ⟨H,ρ,ho,ok,hsb,hS.pk⟩;clear hS;rintro v w1 ⟨rfl,hS⟩)|apply Qs|apply Qr|apply Qn|refine Ql ?_|refine Qz ?_|refine Qf ?_|apply Qk
   refine Qw Tryz.func17 ?_;exact⟨rfl,hS.frame.frame⟩
 · rw[hof rfl]at hhas
   subst hhas;clear hof;repeat' first|(refine Qv 14 (kS hS.tk2) ?_;clear hS;intro w1 hS)|(apply RO.op;apply OP.callV;rfl;exact hg;rfl;rfl;exact hcall (Row bd [.bool true,.func (.func g) #[] #[]] 105::Row b (wopL o) 57::F) _ ⟨H,ρ,ho,ok,hsb,hS.pk⟩;clear hS;rintro v w1 ⟨rfl,hS⟩)|apply Qs|apply Qr|apply Qn|refine Ql ?_|refine Qy ?_|refine Qf ?_|apply Qk
   refine Qw Tryz.func17 ?_;exact⟨rfl,hS.frame.frame⟩
theorem zUi (h:WSp S we ρ0 wb N W F w)(hk:o.kind=4)(hh:W.has o.a=true)(hN:N<500):Cl Tryz.prog 17 [pP wb,opV o] w fun v w'=>v=ansV (zBC W o)∧WSp S we ρ0 wb (N+1) (zBC W o).1 F w' :=
 zUL (of:=true) (g:=48) (i:=4) h (by rw[hk];rfl) rfl (fun _=>hh) (fun F w h=>zQi h hh hN)
theorem zUh (h:WSp S we ρ0 wb N W F w)(hk:o.kind=9)(hh:W.has o.a=true)(hN:N<500):Cl Tryz.prog 17 [pP wb,opV o] w fun v w'=>v=ansV (zB3 W o)∧WSp S we ρ0 wb (N+1) (zB3 W o).1 F w' :=
 zUL (of:=true) (g:=53) (i:=9) h (by rw[hk];rfl) rfl (fun _=>hh) (fun F w h=>zQk h hh hN)
end
def lvl2 (a c:Int):List Value:=[pI a,pI c]
theorem zVQ {d:Nat}{a c:Int}{w:World}:(Op.equalIn (d+1+1) 29 (.agg (lvl2 a c).toArray) (.agg (lvl2 a c).toArray)).run Tryz.prog w = .ok true w:=by
 have he:(Op.equalIn (d+1+1) 29 (.agg (lvl2 a c).toArray) (.agg (lvl2 a c).toArray)).run Tryz.prog w=(Op.eqFields (d+1) (lvl2 a c).toArray (lvl2 a c).toArray (Tryz.prog.fieldsOf 29).toList).run Tryz.prog w:=run_equalIn_struct w (d+1) 29 _ _ rfl (by kernel_rfl);rw[he];obtain ⟨f1, f2, hf, ⟨a1, a2, a3⟩, ⟨b1, b2, b3⟩⟩ : ∃ f1 f2 : Field, (Tryz.prog.fieldsOf 29).toList = [f1, f2] ∧ (f1.name ≠ "_" ∧ f1.type = 3 ∧ f1.offset = 0) ∧ (f2.name ≠ "_" ∧ f2.type = 3 ∧ f2.offset = 1) := ⟨_, _, rfl, ⟨by decide, rfl, rfl⟩, ⟨by decide, rfl, rfl⟩⟩
 rw[hf];have pi:∀(x y:Int),(Op.equalIn (d+1) 3 (pI x) (pI y)).run Tryz.prog w = .ok (x == y) w:=fun x y=>zDu rfl
 have h0:(part 3 (lvl2 a c).toArray 0).run Tryz.prog w = .ok (pI a) w:=zAv rfl;have h1:(part 3 (lvl2 a c).toArray 1).run Tryz.prog w = .ok (pI c) w:=zAv rfl;simp only[Op.eqFields,a1,a2,a3,b1,b2,b3,if_pos,ne_eq,not_false_eq_true,Sem.run_bind,h0,h1,Result.andThen_ok,pi,Sem.run_ite,Sem.run_pure];simp
theorem zNP:∃f1 f2 f3 f4 f5 f6 f7 f8 f9 f10:Field,(Tryz.prog.fieldsOf 31).toList=[f1,f2,f3,f4,f5,f6,f7,f8,f9,f10] ∧
 (f1.name ≠ "_" ∧ f1.type = 4 ∧ f1.offset = 0) ∧ (f2.name ≠ "_" ∧ f2.type = 3 ∧ f2.offset = 1) ∧ (f3.name ≠ "_" ∧ f3.type = 3 ∧ f3.offset = 2) ∧ (f4.name ≠ "_" ∧ f4.type = 3 ∧ f4.offset = 3) ∧ (f5.name ≠ "_" ∧ f5.type = 3 ∧ f5.offset = 4) ∧
 (f6.name ≠ "_" ∧ f6.type = 29 ∧ f6.offset = 5) ∧ (f7.name ≠ "_" ∧ f7.type = 3 ∧ f7.offset = 7) ∧ (f8.name ≠ "_" ∧ f8.type = 3 ∧ f8.offset = 8) ∧ (f9.name ≠ "_" ∧ f9.type = 3 ∧ f9.offset = 9) ∧ (f10.name ≠ "_" ∧ f10.type = 3 ∧ f10.offset = 10) :=
 ⟨_,_,_,_,_,_,_,_,_,_,rfl,⟨by decide,rfl,rfl⟩,⟨by decide,rfl,rfl⟩,⟨by decide,rfl,rfl⟩,⟨by decide,rfl,rfl⟩,⟨by decide,rfl,rfl⟩,⟨by decide,rfl,rfl⟩,⟨by decide,rfl,rfl⟩,⟨by decide,rfl,rfl⟩,⟨by decide,rfl,rfl⟩,⟨by decide,rfl,rfl⟩⟩
theorem zRa {n:Nt}{w:World}:(Op.equal 31 (.agg (ntL n).toArray) (.agg (ntL n).toArray)).run Tryz.prog w = .ok true w:=by
 have he:(Op.equal 31 (.agg (ntL n).toArray) (.agg (ntL n).toArray)).run Tryz.prog w=(Op.eqFields 9999 (ntL n).toArray (ntL n).toArray (Tryz.prog.fieldsOf 31).toList).run Tryz.prog w:=run_equalIn_struct w 9999 31 _ _ rfl (by kernel_rfl);rw[he];obtain⟨f1,f2,f3,f4,f5,f6,f7,f8,f9,f10,hf,⟨a1,a2,a3⟩,⟨b1,b2,b3⟩,⟨c1,c2,c3⟩,⟨d1,d2,d3⟩,⟨e1,e2,e3⟩,⟨g1,g2,g3⟩,⟨i1,i2,i3⟩,⟨j1,j2,j3⟩,⟨k1,k2,k3⟩,⟨l1,l2,l3⟩⟩:=zNP;rw[hf];have pi:∀(x:Int),(Op.equalIn (9998+1) 3 (pI x) (pI x)).run Tryz.prog w = .ok true w:=fun x=>by rw[zDu rfl];simp
 have pb:∀(x:Bool),(Op.equalIn (9998+1) 4 (.bool x) (.bool x)).run Tryz.prog w = .ok true w:=fun x=>by rw[run_equalIn_bool w 9998 4 x x rfl];simp
 have pl:(Op.equalIn (9998+1) 29 (.agg (lvl2 n.auth n.conf).toArray) (.agg (lvl2 n.auth n.conf).toArray)).run Tryz.prog w = .ok true w:=zVQ (d:=9997);have h0:(part 4 (ntL n).toArray 0).run Tryz.prog w = .ok (.bool n.sent) w:=zDp rfl;have h1:(part 3 (ntL n).toArray 1).run Tryz.prog w = .ok (pI n.index) w:=zAv rfl;have h2:(part 3 (ntL n).toArray 2).run Tryz.prog w = .ok (pI n.part) w:=zAv rfl;have h3:(part 3 (ntL n).toArray 3).run Tryz.prog w = .ok (pI n.payload) w:=zAv rfl;have h4:(part 3 (ntL n).toArray 4).run Tryz.prog w = .ok (pI n.key) w:=zAv rfl;have h5:(part 29 (ntL n).toArray 5).run Tryz.prog w = .ok (.agg (lvl2 n.auth n.conf).toArray) w:=by
  have q1:=zDn (P:=Tryz.prog) (t:=29) (b:=true) rfl w;have q2:=zBZ (P:=Tryz.prog) (t:=29) (m:=2) rfl w;simp only[part,Sem.run_bind,q1,Result.andThen_ok,if_true,q2,Sem.run_pure];rfl
 have h7:(part 3 (ntL n).toArray 7).run Tryz.prog w = .ok (pI n.peer) w:=zAv rfl;have h8:(part 3 (ntL n).toArray 8).run Tryz.prog w = .ok (pI n.own) w:=zAv rfl;have h9:(part 3 (ntL n).toArray 9).run Tryz.prog w = .ok (pI n.rs) w:=zAv rfl;have h10:(part 3 (ntL n).toArray 10).run Tryz.prog w = .ok (pI n.re) w:=zAv rfl;simp only[Op.eqFields,a1,a2,a3,b1,b2,b3,c1,c2,c3,d1,d2,d3,e1,e2,e3,g1,g2,g3,i1,i2,i3,j1,j2,j3,k1,k2,k3,l1,l2,l3,if_pos,ne_eq,not_false_eq_true,Sem.run_bind,h0,h1,h2,h3,h4,h5,h7,h8,h9,h10,Result.andThen_ok,pi,pb,pl,Sem.run_ite,Sem.run_pure];simp
theorem Still.neqNt {n:Nat}{e:Env}{ty t':TypeId}{x y:Operand}{S:World→Prop}{a:Nt}(hx:ev e x=some (.agg (ntL a).toArray))(hy:ev e y=some (.agg (ntL a).toArray)):Still Tryz.prog n e S (.binOp .neq 31 x y t') ty (.bool false) :=
 Still.bin hx hy (fun w=>run_eqGuard_agg w .neq 31 x y _ _ (by kernel_rfl)) (fun w _=>by simp[binOp,show(Op.equal 31 (.agg (ntL a).toArray) (.agg (ntL a).toArray)).run Tryz.prog w=_ from zRa])
section
variable {we w:World}{ρ ρ0:List (Nat × Obj)}{σ F:List HP}{v:Value}{wb N sb p db:Nat}{W:Wd}{s:Ss}{r:Rep}
theorem zLi {wa wc:Int}(ho:ShOk s.h)(hr:ShR ρ r s.h)(hd:s.dead=true)(hS:St we ρ (Row sb (sesL r s p db) 102::F) w) :
 Cl Tryz.prog 18 [pP sb,.slice none 0 0,lvV wa wc] w fun v w'=>v = .tuple #[pI 0,lvV 0 0,pI 6]∧St we ρ (Row sb (sesL r s p db) 102::F) w':=by
 have kT:∀{F w},St we ρ (Row sb (sesL r s p db) 102::F) w→_:=fun hS=>zE4 (own:=false) (wa:=wa) (wc:=wc) ho hr hS
 have ht:zD5 s false wa wc=6:=by unfold zD5;rw[if_pos hd]
 rw[ht]at kT;refine Run.calls3 (n:=92) Tryz.func18 rfl rfl rfl ?_;repeat' first|(refine Qv 26 (kT hS.tk) ?_;clear hS;intro w1 hS)|apply Qs|apply Qr|(apply Rs<;>intro hc<;>try exact No)|apply Qn|refine Ql ?_|(refine Qx ?_;clear hS;intro b w1 hS)|(refine Qa ?_;clear hS;intro b w1 hS)|(refine Qd ?_;clear hS;intro w1 hS)|refine Qt ?_
 refine Qw Tryz.func18 ?_;exact Xp
theorem dow4 {W:Wd}{o:WOp}(hk:o.kind=4)(hh:W.has o.a=true):doW W o=zBC W o:=by unfold doW ofW;simp[hk,hh]
theorem dow9 {W:Wd}{o:WOp}(hk:o.kind=9)(hh:W.has o.a=true):doW W o=zB3 W o:=by unfold doW ofW;simp[hk,hh]
theorem zS6 {l:List WOp}{wa wc:Int}(hv:Vars we)(hT:zBf we)(hR:zCz we)(hl:Sl ρ0 wopL 8 v l)(hops:OpsR ρ0 l)(hS:St we ρ0 σ w) :
 Cl Tryz.prog 5 [v,lvV wa wc] w fun u w'=>u = .bool true∧St we ρ0 σ w':=by
 have hsn:∀o∈l,∀s∈o.steps,0≤s.n:=fun o ho s hs=>((hops o ho).2 s hs).1
 have kR:∀{σ:List HP} {w:World},St we ρ0 σ w→_:=fun hS=>zFd hv hT hR hl hops hS
 have kH:∀{ρ:List (Nat × Obj)} {σ:List HP} {w:World},St we ρ σ w→_:=fun hS=>zG3 hv hT hR hS
 refine Run.calls2 (n:=87) Tryz.func5 rfl rfl rfl ?_;repeat' first|(refine Qc 6 (c:=kR hS) (k':=?_);clear hS;rintro v w1 (⟨hr,rfl,hS⟩|⟨W,wb,hr,rfl,hl40,hS⟩))|(refine Qv 7 (kH hS) ?_;clear hS;intro w1 hS)|apply Qs|apply Qr|apply Qn|refine Ql ?_|(refine Qx ?_;clear hS;intro b w1 hS)|refine Qt ?_|refine Qf ?_|apply Qk
 · refine Qw Tryz.func5 ?_
   exact Xp
 obtain⟨b3,hb3⟩:∃x,x=b:=⟨_,rfl⟩
 subst hb3;have hlaw:W.L.length≤4001∧W.msgs.length≤40:=by
  unfold runV at hr;rw[if_neg (by omega)]at hr;have:=zTG hr zUa (by show(0:Int)+_<_;omega) hsn;rw[show(wd0 [Nd.z]).L.length=1 from rfl,show(wd0 [Nd.z]).msgs.length=0 from rfl]at this;omega
 clear hr kR;obtain⟨H,ρ,ho,ok,hS⟩:=hS;have hnp:H.ps.length=W.parts.length:=by rw[← ok.parts,List.length_map]
 have hpl:=ok.plen;have kS:∀{F w},St we ρ (zAD H.stb 8 (kvD H.ds)::Row wb (wdL H W.fresh) 68::Vec 79 4 H.vp H.ps.length (H.ps.flatMap ptyL)::Vec 80 1 H.vm H.ms.length (H.ms.flatMap mgL)::F) w→_:=fun hS=>zLD hS
 replace hS:St we ρ (zAD H.stb 8 (kvD H.ds)::Row wb (wdL H W.fresh) 68::Vec 79 4 H.vp H.ps.length (H.ps.flatMap ptyL)::Vec 80 1 H.vm H.ms.length (H.ms.flatMap mgL)::zAA H.p zAB W.L::KN H.kb H.p W.heard W.K::Each devI H.ds::Each (ptI H.p) H.ps::Vec 33 13 H.ve W.evs.length (W.evs.flatMap evtL)::Row b3 [pI wa,pI wc] 29 :: σ) _:=hS.pk;repeat' first|(refine Qv 13 (kS hS) ?_;clear hS;intro w1 hS)|apply Qn|refine Ql ?_|apply Qb
 refine Run.while (fun z:Nat × Wd=>[(3,pP b3),(5,pP wb),(24,pI H.ps.length),(25,pI z.1)])
  (fun z w=>z.1≤W.parts.length∧z.2.parts=W.parts∧z.2.msgs=W.msgs∧z.2.L.length≤W.L.length+4*z.1∧WSt we ρ0 wb (l.length+2*z.1) z.2 (Row b3 [pI wa,pI wc] 29 :: σ) w) (fun z=>W.parts.length - z.1) (0,W) ⟨Nat.zero_le _,rfl,rfl,by simp only;omega,H,ρ,ho,ok,hS.pk⟩ (by exact Sb) ?_
 clear hS kS;clear ok ho;rw[hnp];clear hnp;clear H ρ;rintro⟨j,V⟩ w ⟨hj,hvp,hvm,hvl,hS⟩ ih;simp only at hj hvp hvm hvl hS ih ⊢;by_cases hlt:j<W.parts.length
 · have hhas:V.has (j:Int)=true:=by
    unfold Wd.has;rw[hvp];simp;omega
   replace ih:=fun V w h1 h2 h3 h=>ih (j+1,V) w ⟨by simp only;omega,h1,h2,h3,h⟩ (by simp only;omega)
   simp only at ih;have hN:l.length+2*j<400:=by omega
   obtain⟨H,ρ,ho,ok,hS⟩:=hS;obtain⟨hn,x,hx,hpt,hxm,hsa⟩:=zKi ok hhas;have hp:=ok.pts x hxm;replace hS:=zNF hx hS;have kS:∀{F w},St we ρ (Row wb (wdL H V.fresh) 68::Vec 79 4 H.vp H.ps.length (H.ps.flatMap ptyL)::F) w→_:=fun hS=>zBt (n:=(j:Int)) hS
   rw[hsa]at kS;simp only at kS;have kDd:∀{F w},St we ρ (Row x.sb (sesL x.r x.x.s H.p x.db) 102::F) w→_:=fun hS=>zF8 hS
   have kNt:∀{F w},St we ρ (Row x.sb (sesL x.r x.x.s H.p x.db) 102::F) w→_:=fun hS=>zEC hS
   generalize hdd:x.x.s.dead=dd at kDd;cases dd
   · repeat' first|(refine Qv 14 (kS hS.tk2) ?_;clear hS;intro w1 hS)|(refine Qv 15 (kDd hS.tk) ?_;clear hS;intro w1 hS)|apply Qs|apply Qr|(apply Rs<;>intro hc<;>try exact No)|apply Qn|refine Ql ?_|refine Qy ?_|refine Qt ?_|apply Qk|apply Qb|refine Qe ?_
     have hW:WSt we ρ0 wb (l.length+2*j) V (Row b3 [pI wa,pI wc] 29 :: σ) _:=⟨H,ρ,ho,ok,zKd hx hS.pk⟩
     exact Run.weaken (e':=[(3,pP b3),(5,pP wb),(24,pI W.parts.length),(25,pI ((j+1:Nat):Int))]) (by exact Sb) (ih V _ hvp hvm (by omega) ((hW.next (by omega)).next (by omega)))
   · obtain⟨h6,hk1⟩:=zQO (n:=(j:Int)) (wa:=wa) (wc:=wc) hhas (by rw[hpt];exact hdd) (by rw[hvm];omega) (by unfold zAB;omega)
     rw[dow4 rfl hhas]at h6 hk1;have kD4:∀{S:List Nat} {F:List HP} {w:World},WSp S we ρ0 wb (l.length+2*j) V F w→_:=fun h=>zUi (o:=⟨4,(j:Int),0,0,ByteArray.empty,wa,wc,.slice none 0 0,[]⟩) h rfl hhas (by omega)
     generalize zBC V ⟨4,(j:Int),0,0,ByteArray.empty,wa,wc,.slice none 0 0,[]⟩=q at h6 hk1 kD4;obtain⟨V1,q1,q2⟩:=q;simp only at h6 hk1 kD4;subst h6;have hh1:V1.has (j:Int)=true:=by
      unfold Wd.has at hhas ⊢;rw[hk1.parts];exact hhas
     have hp1:V1.part (j:Int)=x.x:=by
      rw[← hpt];unfold Wd.part;rw[hk1.parts]
     obtain⟨h6,hk2⟩:=zQP (n:=(j:Int)) hh1 (by rw[hp1];exact hdd);rw[dow9 rfl hh1]at h6 hk2;have kD9:∀{S:List Nat} {F:List HP} {w:World},WSp S we ρ0 wb (l.length+2*j+1) V1 F w→_:=fun h=>zUh (o:=⟨9,(j:Int),0,0,ByteArray.empty,0,0,.slice none 0 0,[]⟩) h rfl hh1 (by omega)
     generalize zB3 V1 ⟨9,(j:Int),0,0,ByteArray.empty,0,0,.slice none 0 0,[]⟩=q at h6 hk2 kD9;obtain⟨V2,q3,q4⟩:=q;simp only at h6 hk2 kD9;subst h6;have hh2:V2.has (j:Int)=true:=by
      unfold Wd.has at hh1 ⊢;rw[hk2.parts];exact hh1
     have hp2:V2.part (j:Int)=x.x:=by
      rw[← hp1];unfold Wd.part;rw[hk2.parts]
     have hv2:V2.parts=W.parts∧V2.msgs=W.msgs∧V2.L.length≤W.L.length+4*(j+1):=⟨hk2.parts.trans (hk1.parts.trans hvp),hk2.msgs.trans (hk1.msgs.trans hvm),by have:=hk1.len;have:=hk2.len;omega⟩
     clear hk1 hk2 hh1 hp1 hhas;repeat' first|(refine Qv 14 (kS hS.tk2) ?_;clear hS;intro w1 hS)|(refine Qv 15 (kDd hS.tk) ?_;clear hS;intro w1 hS)|(refine Qv 16 (kNt hS.tk) ?_;clear hS;intro w1 hS)|apply Qs|apply Qr|(apply Rs<;>intro hc<;>try exact No)|apply Qn|refine Ql ?_|(refine Qa ?_;clear hS;intro b w1 hS)|(refine Qd ?_;clear hS;intro w1 hS)|refine Qy ?_|refine Qt ?_|refine Qf ?_|apply Qk|apply Qb
     replace hS:St we ρ (zHy wb H V (Row b (ntL x.x.s.note) 31::Row b3 [pI wa,pI wc] 29 :: σ)) _:=zKd hx hS.pk;clear kS kDd kNt;obtain⟨b9,hb9⟩:∃y,y=b:=⟨_,rfl⟩
     subst hb9;have hsb0:H.ps.map (·.sb)=H.ps.map (·.sb):=rfl;repeat' first|(refine Qc 17 (c:=kD4 ⟨H,ρ,ho,ok,hsb0,hS⟩) (k':=?_);clear hS;rintro v w1 ⟨rfl,H1,ρ1,ho1,ok1,hsb1,hS⟩)|(refine Qc 17 (c:=kD9 ⟨H1,ρ1,ho1,ok1,hsb1,hS⟩) (k':=?_);clear hS;rintro v w1 ⟨rfl,H2,ρ2,ho2,ok2,hsb2,hS⟩)|apply Qs|apply Qr|apply Qn|refine Ql ?_
     clear ok1 ho1 hsb1 kD4 kD9;obtain⟨-,x2,hx2,hpt2,hxm2,-⟩:=zKi ok2 hh2;have he:x2.x=x.x:=hpt2.symm.trans hp2;have hsb:x2.sb=x.sb:=by
      have:=congrArg (fun l=>l[((j:Int)).toNat]?) hsb2;simpa only[List.getElem?_map,hx2,hx,Option.map_some,Option.some.injEq]using this
     have hq2:=ok2.pts x2 hxm2;have kRd:∀{F w},St we ρ2 (Row x2.sb (sesL x2.r x2.x.s H2.p x2.db) 102::F) w→Cl Tryz.prog 18 [pP x.sb,.slice none 0 0,lvV wa wc] w fun v w'=>v = .tuple #[pI 0,lvV 0 0,pI 6]∧St we ρ2 (Row x2.sb (sesL x2.r x2.x.s H2.p x2.db) 102::F) w':=fun hS=>by
      rw[← hsb];exact zLi hq2.ok hq2.rep (by rw[he];exact hdd) hS
     have kNt:∀{F w},St we ρ2 (Row x2.sb (sesL x2.r x2.x.s H2.p x2.db) 102::F) w→Cl Tryz.prog 16 [pP x.sb] w fun v w'=>v = .agg (ntL x.x.s.note).toArray∧St we ρ2 (Row x2.sb (sesL x2.r x2.x.s H2.p x2.db) 102::F) w':=fun hS=>by
      rw[← hsb,← he];exact zEC hS
     replace hS:=zNF hx2 hS;repeat' first|(refine Qv 18 (kRd hS.tk) ?_;clear hS;intro w1 hS)|apply Qs|apply Qn|refine Ql ?_|(refine Qa ?_;clear hS;intro b w1 hS)|(refine Qd ?_;clear hS;intro w1 hS)
     refine(Run.regionH_cut (fun _:Unit=>Row x2.sb (sesL x2.r x2.x.s H2.p x2.db) 102::zDL x2.bb 8 x2.x.box::Each (ptI H2.p) (H2.ps.eraseIdx ((j:Int)).toNat)::Row wb (wdL H2 V2.fresh) 68::Vec 79 4 H2.vp H2.ps.length (H2.ps.flatMap ptyL)::zAA H2.p zAB V2.L::KN H2.kb H2.p V2.heard V2.K::zAD H2.stb 8 (kvD H2.ds)::Each devI H2.ds::Vec 80 1 H2.vm H2.ms.length (H2.ms.flatMap mgL)::Vec 33 13 H2.ve V2.evs.length (V2.evs.flatMap evtL)::Row b9 (ntL x.x.s.note) 31::Row b3 [pI wa,pI wc] 29 :: σ) (fun _=>[(3,pP b3),(5,pP wb),(24,pI W.parts.length),(25,pI j),(84,.bool false)]) (show St we ρ2 (Row x2.sb (sesL x2.r x2.x.s H2.p x2.db) 102::zDL x2.bb 8 x2.x.box::Each (ptI H2.p) (H2.ps.eraseIdx ((j:Int)).toNat)::Row wb (wdL H2 V2.fresh) 68::Vec 79 4 H2.vp H2.ps.length (H2.ps.flatMap ptyL)::zAA H2.p zAB V2.L::KN H2.kb H2.p V2.heard V2.K::zAD H2.stb 8 (kvD H2.ds)::Each devI H2.ds::Vec 80 1 H2.vm H2.ms.length (H2.ms.flatMap mgL)::Vec 33 13 H2.ve V2.evs.length (V2.evs.flatMap evtL)::Row b9 (ntL x.x.s.note) 31::Row b3 [pI wa,pI wc] 29 :: σ) _ from hS.pk) (List.Sublist.refl _) (by rfl) (by rfl) (by rfl) ?_ ?_)
     · clear hS ih
       intro w1 hS;refine RH.relist (listed':=bm 16 0) (by kernel_rfl) ?_;repeat' first|(apply Rh<;>intro hc<;>try exact No)|refine Yt 0 0 ?_|(refine Yt 1 1 ?_ (h:=by first|(apply Still.loadAgg (m:=11);rfl;rfl;rfl;(exact Rd.any);rfl;rfl)|(apply Still.neqNt;rfl;rfl)|exact Still.any))|refine Yt 3 2 ?_|refine Yy 7 3 ?_|refine Yn 7 3 ?_|refine Yu 7 3 ?_|(refine Yy 15 4 ?_ (h:=by first|(apply Still.loadAgg (m:=11);rfl;rfl;rfl;(exact Rd.any);rfl;rfl)|(apply Still.neqNt;rfl;rfl)|exact Still.any))|refine Yn 15 4 ?_|refine Yu 15 4 ?_|refine Yt 31 5 ?_|refine Yt 63 6 ?_|refine Yy 127 7 ?_|refine Yn 127 7 ?_|refine Yu 127 7 ?_|(refine Yy 255 8 ?_ (h:=by first|(apply Still.loadAgg (m:=11);rfl;rfl;rfl;(exact Rd.any);rfl;rfl)|(apply Still.neqNt;rfl;rfl)|exact Still.any))|refine Yn 255 8 ?_|refine Yu 255 8 ?_|refine Yt 511 9 ?_|refine Yt 1023 10 ?_|refine Yy 2047 11 ?_|refine Yn 2047 11 ?_|refine Yu 2047 11 ?_|(refine Yy 4095 13 ?_ (h:=by first|(apply Still.loadAgg (m:=11);rfl;rfl;rfl;(exact Rd.any);rfl;rfl)|(apply Still.neqNt;rfl;rfl)|exact Still.an))|refine Yn 4095 13 ?_|refine Yu 4095 13 ?_|(refine Yy 16383 14 ?_ (h:=by first|(apply Still.loadAgg (m:=11);rfl;rfl;rfl;(exact Rd.any);rfl;rfl)|(apply Still.neqNt;rfl;rfl)|exact Still.any))|refine Yn 16383 14 ?_|refine Yu 16383 14 ?_|refine Yt 32767 15 ?_|(refine Ov 16 (kNt hS.tk) ?_;clear hS;intro w1 hS;refine Xh ?_)|refine Jn ?_|refine Ju ?_|refine Jy ?_|refine Za 12287 12 ?_|(refine Yd 65535 ?_;exact⟨(),Sb,hS.pk⟩)
     clear hS kRd kNt;rintro - w1 hS;repeat' first|apply Qr|apply Qn|refine Ql ?_|refine Qf ?_|apply Qk|apply Qi
     exact Run.weaken (e':=[(3,pP b3),(5,pP wb),(24,pI W.parts.length),(25,pI ((j+1:Nat):Int))]) (by exact Sb) (ih V2 _ hv2.1 hv2.2.1 hv2.2.2 ⟨H2,ρ2,ho2,ok2,zKd hx2 hS.pk⟩)
 · obtain rfl:j=W.parts.length:=by omega
   clear ih;obtain⟨H,ρ,ho,ok,hS⟩:=hS;replace hS:=ho.back (hS.pk:St we ρ σ _);repeat' first|apply Qs|apply Qr|(apply Rs<;>intro hc<;>try(first|(exfalso;omega)|exact absurd rfl hc))|apply Qn|refine Ql ?_|(refine Qv 7 (kH hS) ?_;clear hS;intro w1 hS)|refine Qf ?_|refine Qe ?_
   refine Qw Tryz.func5 ?_;exact⟨rfl,hS⟩
end
end Go.Proofs.YtcikdogkkgefcaaGreatDoor
