/- What a world's ops keep: peer, psk, device, betray. What a world's ops keep: device, betray, open, send, rekey, forge, write, read. What a session's write, read, rekey keep. world.kinds, Do. -/
import Derived.Test.YtcikdogkkgefcaaGreatDoorMA35
namespace Go.Proofs.YtcikdogkkgefcaaGreatDoor
set_option maxRecDepth 8000
set_option maxHeartbeats 16000000
set_option linter.unusedVariables false
set_option linter.unusedSimpArgs false
open Go Go.RowKit
theorem zTp {lim:Int}{kv:List (Int × Int)}{k u:Int}:(kadd lim kv k u).1.length≤kv.length+1:=by
 unfold kadd;split
 · simp
 · exact zOe _ _ _ _
theorem zN3 {d:Dv}{k x:Int}:(zDK d k x).1.length≤d.peers.length+1:=by
 unfold zDK;split
 · simp
 · split
   · simp
   · exact zTp
theorem PtOk.mono {ρ ρ':List (Nat × Obj)}{H H':Hd}{N N' nm nm':Nat}{x:PtH}(h:PtOk ρ H N nm x)(hs:∀y ∈ ρ,y ∈ ρ')(hd:∀{db:Nat} {id:Int},(∃y∈H.ds,y.db=db∧y.d.id=id)→∃y∈H'.ds,y.db=db∧y.d.id=id)(hN:N≤N')(hm:nm≤nm'):PtOk ρ' H' N' nm' x :=
 ⟨h.ok,h.rep.mono hs,⟨h.idx.1,by have:=h.idx.2;omega⟩,hd h.dev,fun n hn=>⟨(h.box n hn).1,by have:=(h.box n hn).2;omega⟩⟩
theorem zRd {ds:List DevH}{devs:List Dv}(e:ds.map (·.d)=devs)(h:(devs.map (·.id)).Nodup):(ds.map (·.d.id)).Nodup:=by
 rw[← e,List.map_map]at h;exact h
theorem zPb (W:Wd)(o:WOp):∃dv,(zEj W o).1 = { W with devs:=dv }∧(∀N:Nat,(∀d∈W.devs,d.peers.length≤N∧d.psks.length≤N∧1≤d.secret)→∀d∈dv,d.peers.length≤N+1∧d.psks.length≤N+1∧1≤d.secret)∧dv.map (·.id)=W.devs.map (·.id):=by
 have same:∀N:Nat,(∀d∈W.devs,d.peers.length≤N∧d.psks.length≤N∧1≤d.secret)→∀d∈W.devs,d.peers.length≤N+1∧d.psks.length≤N+1∧1≤d.secret:=fun N h d hd=>by
  obtain⟨h1,h2,h3⟩:=h d hd;exact⟨by omega,by omega,h3⟩
 unfold zEj;split
 · exact⟨_,rfl,same,rfl⟩
 · split
   · exact⟨_,rfl,same,rfl⟩
   · refine⟨_,rfl,fun N h d hd=>?_,?_⟩
     · obtain⟨d0,h0,rfl⟩:=List.mem_map.1 hd
       obtain⟨h1,h2,h3⟩:=h d0 h0;split
       · have := @zN3 d0 o.b (zRM W o.b).1
         exact⟨by simp only;omega,by simp only;omega,h3⟩
       · exact⟨by omega,by omega,h3⟩
     · rw[List.map_map]
       apply List.map_congr_left;intro d hd;simp only[Function.comp];split<;>rfl
theorem zRQ (W:Wd)(o:WOp):∃dv,(pskW W o).1 = { W with L:=(pskW W o).1.L,fresh:=(pskW W o).1.fresh,devs:=dv }∧Gr 1 W.L (pskW W o).1.L∧(∀N:Nat,(∀d∈W.devs,d.peers.length≤N∧d.psks.length≤N∧1≤d.secret)→∀d∈dv,d.peers.length≤N+2∧d.psks.length≤N+2∧1≤d.secret)∧dv.map (·.id)=W.devs.map (·.id):=by
 have same:∀N:Nat,(∀d∈W.devs,d.peers.length≤N∧d.psks.length≤N∧1≤d.secret)→∀d∈W.devs,d.peers.length≤N+2∧d.psks.length≤N+2∧1≤d.secret:=fun N h d hd=>by
  obtain⟨h1,h2,h3⟩:=h d hd;exact⟨by omega,by omega,h3⟩
 unfold pskW;split
 · split
   · exact⟨_,rfl,Gr.refl _ _,same,rfl⟩
   · simp only
     split
     · exact⟨_,rfl,zB5 _,same,rfl⟩
     · refine⟨_,rfl,zB5 _,fun N h d hd=>?_,?_⟩
       · obtain⟨d1,h00,rfl⟩:=List.mem_map.1 hd
         obtain⟨d0,h0,rfl⟩:=List.mem_map.1 h00;obtain⟨h1,h2,h3⟩:=h d0 h0;have g0 := @zEA d0 o.b (zAw W).2.1;by_cases c1:d0.id=o.a
         · simp only[if_pos c1]
           split
           · have g1 := @zEA { d0 with psks:=(zBJ d0 o.b (zAw W).2.1).1 } o.a (zAw W).2.1
             simp only at g1 ⊢;exact⟨by omega,by omega,h3⟩
           · simp only
             exact⟨by omega,by omega,h3⟩
         · simp only[if_neg c1]
           split
           · have g1 := @zEA d0 o.a (zAw W).2.1
             simp only at g1 ⊢;exact⟨by omega,by omega,h3⟩
           · exact⟨by omega,by omega,h3⟩
       · show List.map _ (List.map _ (List.map _ _))=_
         rw[List.map_map,List.map_map];apply List.map_congr_left;intro d hd;simp only[Function.comp];split<;>split<;>rfl
 · exact⟨_,rfl,Gr.refl _ _,same,rfl⟩
section
variable {ρ:List (Nat × Obj)}{H:Hd}{N:Nat}{L:List Nd}{heard:List Int}{K:Int→Bool}{f:Int}{devs:List Dv}{parts:List Pt}{msgs:List (List Int)}{evs:List Evt}
theorem WOk.mk' (h1:∀x,K x=true→has L x=true)(h2:heard.length≤100*N)(h3:zBd L heard)(h4:H.ds.map (·.d)=devs)(h5:(devs.map (·.id)).Nodup)(h6:devs.length≤8)(h7:∀d∈devs,d.peers.length≤2*N∧d.psks.length≤2*N∧1≤d.secret)
 (h8:H.ps.map (·.x)=parts) (h9:parts.length≤64) (h10:∀(i:Nat) (x:PtH),H.ps[i]? = some x→x.at_=i) (h11:∀x∈H.ps,PtOk ρ H N msgs.length x) (h12:H.ms.map (·.1)=msgs) (h13:msgs.length≤256) (h14:∀m∈H.ms,Sl ρ intL 1 m.2 m.1) (h15:evs.length≤N) (h16:N≤500) :
 WOk ρ H N ⟨L,heard,K,f,devs,parts,msgs,evs⟩:=⟨h1,h2,h3,h4,h5,h6,h7,h8,h9,h10,h11,h12,h13,h14,h15,h16⟩
theorem WOk.un (h:WOk ρ H N ⟨L,heard,K,f,devs,parts,msgs,evs⟩):(∀x,K x=true→has L x=true)∧heard.length≤100*N∧zBd L heard∧H.ds.map (·.d)=devs∧(devs.map (·.id)).Nodup∧devs.length≤8∧(∀d∈devs,d.peers.length≤2*N∧d.psks.length≤2*N∧1≤d.secret) ∧
 H.ps.map (·.x)=parts∧parts.length≤64∧(∀(i:Nat) (x:PtH),H.ps[i]? = some x→x.at_=i)∧(∀x∈H.ps,PtOk ρ H N msgs.length x)∧H.ms.map (·.1)=msgs∧msgs.length≤256∧(∀m∈H.ms,Sl ρ intL 1 m.2 m.1)∧evs.length≤N∧N≤500 :=
 ⟨h.1,h.2,h.3,h.4,h.5,h.6,h.7,h.8,h.9,h.10,h.11,h.12,h.13,h.14,h.15,h.16⟩
end
section
variable {we w:World}{ρ0:List (Nat × Obj)}{F:List HP}{wb N:Nat}{W:Wd}{o:WOp}
abbrev ansV (q:Wd × Int × Int):Value:=.tuple #[pI q.2.1,pI q.2.2]
theorem zMj (h:WSt we ρ0 wb N W F w)(hN:N<500):Cl Tryz.prog 45 [pP wb,opV o] w fun v w'=>v=ansV (zEj W o)∧WSt we ρ0 wb (N+1) (zEj W o).1 F w':=by
 obtain⟨H,ρ,ho,ok,hS⟩:=h;obtain⟨L,heard,K,f,devs,parts,msgs,evs⟩:=W;obtain⟨k1,k2,k3,rfl,k5,k6,k7,rfl,k9,k10,k11,rfl,k13,k14,k15,k16⟩:=ok.un;have q2:heard.length≤100*(N+1):=by omega
 have q15:evs.length≤N+1:=by omega
 obtain⟨dv,hdv,hlen,hids⟩:=zPb ⟨L,heard,K,f,H.ds.map (·.d),H.ps.map (·.x),H.ms.map (·.1),evs⟩ o;refine(zQm (W:=⟨L,heard,K,f,H.ds.map (·.d),H.ps.map (·.x),H.ms.map (·.1),evs⟩) (ds:=H.ds) (f:=f) (L:=L) (o:=o) rfl (zRd rfl k5) (fun d hd=>by have:=(k7 d.d (List.mem_map_of_mem hd)).1;omega) (F:=KN H.kb H.p heard K::Vec 79 4 H.vp H.ps.length (H.ps.flatMap ptyL)::Each (ptI H.p) H.ps::Vec 80 1 H.vm H.ms.length (H.ms.flatMap mgL)::Vec 33 13 H.ve evs.length (evs.flatMap evtL)::F) hS.pk).mono ?_;rintro v w' ⟨rfl,ds',hD,hS2⟩;generalize (zEj ⟨L,heard,K,f,H.ds.map (·.d),H.ps.map (·.x),H.ms.map (·.1),evs⟩ o).1=W' at hdv hD hS2 ⊢;obtain⟨L',heard',K',f',devs',parts',msgs',evs'⟩:=W';simp only[Wd.mk.injEq,true_and,and_true]at hdv;try simp only at hS2
 obtain⟨rfl,rfl,rfl,rfl,rfl,rfl,rfl,rfl⟩:=hdv;refine⟨rfl,⟨H.p,H.kb,H.stb,ds',H.ps,H.ms,H.vp,H.vm,H.ve⟩,ρ,ho,?_,?_⟩
 · refine WOk.mk' k1 (by omega) k3 hD.devs (by rw[hids];exact k5) ?_ (fun d hd=>?_) rfl k9 k10 (fun x hx=>(k11 x hx).mono (fun _ h=>h) hD.mem (by omega) (Nat.le_refl _)) rfl k13 k14 (by omega) (by omega)
   · have:=congrArg List.length hids
     simp only[List.length_map]at this k6;omega
   · have:=hlen (2*N) k7 d hd
     exact⟨by omega,by omega,this.2.2⟩
 · rw[← hD.kv]at hS2
   exact hS2.pk
theorem zO6 (h:WSt we ρ0 wb N W F w)(hN:N<500):Cl Tryz.prog 46 [pP wb,opV o] w fun v w'=>v=ansV (pskW W o)∧WSt we ρ0 wb (N+1) (pskW W o).1 F w':=by
 obtain⟨H,ρ,ho,ok,hS⟩:=h;obtain⟨L,heard,K,f,devs,parts,msgs,evs⟩:=W;obtain⟨k1,k2,k3,rfl,k5,k6,k7,rfl,k9,k10,k11,rfl,k13,k14,k15,k16⟩:=ok.un;have q2:heard.length≤100*(N+1):=by omega
 have q15:evs.length≤N+1:=by omega
 obtain⟨dv,hdv,hgr,hlen,hids⟩:=zRQ ⟨L,heard,K,f,H.ds.map (·.d),H.ps.map (·.x),H.ms.map (·.1),evs⟩ o;refine(zS3 (W:=⟨L,heard,K,f,H.ds.map (·.d),H.ps.map (·.x),H.ms.map (·.1),evs⟩) (ds:=H.ds) (f:=f) (L:=L) (o:=o) rfl (zRd rfl k5) (fun d hd=>by have:=(k7 d.d (List.mem_map_of_mem hd)).2.1;omega) (F:=KN H.kb H.p heard K::Vec 79 4 H.vp H.ps.length (H.ps.flatMap ptyL)::Each (ptI H.p) H.ps::Vec 80 1 H.vm H.ms.length (H.ms.flatMap mgL)::Vec 33 13 H.ve evs.length (evs.flatMap evtL)::F) hS.pk).mono ?_;rintro v w' ⟨rfl,ds',hD,hS2⟩;generalize (pskW ⟨L,heard,K,f,H.ds.map (·.d),H.ps.map (·.x),H.ms.map (·.1),evs⟩ o).1=W' at hdv hgr hD hS2 ⊢;obtain⟨L',heard',K',f',devs',parts',msgs',evs'⟩:=W';simp only[Wd.mk.injEq,true_and,and_true]at hdv;try simp only at hS2
 obtain⟨rfl,rfl,rfl,rfl,rfl,rfl⟩:=hdv;refine⟨rfl,⟨H.p,H.kb,H.stb,ds',H.ps,H.ms,H.vp,H.vm,H.ve⟩,ρ,ho,?_,?_⟩
 · refine WOk.mk' (fun x hx=>hgr.has (k1 x hx)) (by omega) (fun x hx=>hgr.has (k3 x hx)) hD.devs (by rw[hids];exact k5) ?_ (fun d hd=>?_) rfl k9 k10 (fun x hx=>(k11 x hx).mono (fun _ h=>h) hD.mem (by omega) (Nat.le_refl _)) rfl k13 k14 (by omega) (by omega)
   · have:=congrArg List.length hids
     simp only[List.length_map]at this k6;omega
   · have:=hlen (2*N) k7 d hd
     exact⟨by omega,by omega,this.2.2⟩
 · rw[← hD.kv]at hS2
   exact hS2.pk
end
theorem zGS (W:Wd)(x:Int):(zAd W x).1 = { W with heard:=(lhk W.L (W.heard,W.K) x).1,K:=(lhk W.L (W.heard,W.K) x).2 }:=by
 unfold zAd lhk;split<;>rfl
theorem zNa {L:List Nd}{q:List Int × (Int→Bool)}{x:Int}(h:zBd L q.1):zBd L (lhk L q x).1:=by
 unfold lhk;split
 · rename_i hx
   intro y hy;rcases List.mem_append.1 hy with h1|h1
   · exact h y h1
   · simp at h1;subst h1;exact hx
 · exact h
theorem zKr {lim:Nat}{L:List Nd}(g:Good lim L):∀(l:List Int) (q:List Int × (Int→Bool)),zBd L q.1→(∀y,q.2 y=true→has L y=true) →
 zBd L (l.foldl (lhk L) q).1∧(∀y,(l.foldl (lhk L) q).2 y=true→has L y=true)∧(l.foldl (lhk L) q).1.length≤q.1.length+l.length
 | [],q,h1,h2=>⟨h1,h2,by simp⟩
 | x::l,q,h1,h2=>by
   obtain⟨a,b,c⟩:=zKr g l (lhk L q x) (zNa h1) (zKt g h2);have := @zKs L q x;exact⟨a,b,by simp only[List.foldl_cons,List.length_cons];omega⟩
theorem zQN (W:Wd)(o:WOp)(g:Good zAB W.L):∃L' f',Gr 2 W.L L'∧((zBO W o).1 = { W with L:=L',fresh:=f' } ∨
 ∃x p,(zBO W o).1=(zAd { W with L:=L',fresh:=f',devs:=W.devs++[⟨o.a,x,o.b,[],[]⟩] } p).1∧1≤x∧W.dev o.a=none∧W.devs.length<8):=by
 unfold zBO;split
 · exact⟨_,_,Gr.refl _ _,.inl rfl⟩
 · rename_i hd
   split
   · exact⟨_,_,Gr.refl _ _,.inl rfl⟩
   · split
     · exact⟨_,_,Gr.refl _ _,.inl rfl⟩
     · rename_i h8
       simp only;split
       · exact⟨_,_,(zB5 _).mono (by omega),.inl rfl⟩
       · rename_i h1
         split
         · exact⟨_,_,(zB5 _).trans (zB5 _) (by omega),.inl rfl⟩
         · refine⟨_,_,(zB5 _).trans (zB5 _) (by omega),.inr ⟨_,_,rfl,?_,by simpa using hd,by omega⟩⟩
           exact zJq g (show(1:Int)≠0 by decide) (by simpa[zAw]using h1)
theorem zSJ (W:Wd)(o:WOp):∃L' ms',(zCK W o).1 = { W with L:=L',msgs:=ms' }∧Gr o.steps.length W.L L':=by
 unfold zCK;split
 · exact⟨_,_,rfl,Gr.refl _ _⟩
 · simp only
   split
   · exact⟨_,_,rfl,zJy _ _ _ _⟩
   · split
     · exact⟨_,_,rfl,zJy _ _ _ _⟩
     · exact⟨_,_,rfl,zJy _ _ _ _⟩
theorem zTT (W:Wd)(o:WOp):∃L' ps',(zEX W o).1 = { W with L:=L',parts:=ps' }∧Gr 70 W.L L':=by
 unfold zEX;split
 · exact⟨_,_,rfl,Gr.refl _ _⟩
 · split
   · exact⟨_,_,rfl,Gr.refl _ _⟩
   · simp only
     split
     · exact⟨_,_,rfl,zDv⟩
     · split
       · exact⟨_,_,rfl,zDv⟩
       · exact⟨_,_,rfl,zDv⟩
theorem zTN (W:Wd)(o:WOp)(ho:ShOk (W.part o.a).s.h):∃L' ps' ev',(zDb W o).1 = { W with L:=L',parts:=ps',evs:=ev' }∧Gr 52 W.L L':=by
 unfold zDb;simp only;split
 · exact⟨_,_,_,rfl,Gr.refl _ _⟩
 · split
   · exact⟨_,_,_,rfl,zFE ho⟩
   · exact⟨_,_,_,rfl,zFE ho⟩
theorem zLE (W:Wd)(o:WOp)(ho:ShOk (W.part o.a).s.h):∃(L':List Nd) (f':Int) (l:List Int) (ps':List Pt) (ms':List (List Int)) (ev':List Evt),(zBC W o).1 = { W with L:=L',fresh:=f',heard:=(l.foldl (lhk L') (W.heard,W.K)).1,K:=(l.foldl (lhk L') (W.heard,W.K)).2,parts:=ps',msgs:=ms',evs:=ev' }∧Gr 54 W.L L'∧l.length≤13:=by
 unfold zBC;split
 · exact⟨_,_,[],_,_,_,rfl,Gr.refl _ _,by simp⟩
 · simp only
   split
   · exact⟨_,_,[],_,_,_,rfl,(zB5 _).mono (by omega),by simp⟩
   · split
     · exact⟨_,_,[],_,_,_,rfl,(zB5 _).trans (zB5 _) (by omega),by simp⟩
     · have h1:∀(L:List Nd) (e pl:Int),Gr 54 W.L L→Gr 52 L (zAE zAB L (W.part o.a).s e pl o.wa o.wc).1:=fun L e pl _=>zDD ho
       have h2:Gr 2 W.L (zAw (zAw W).1).1.L:=(zB5 _).trans (zB5 _) (by omega);split
       · exact⟨_,_,[],_,_,_,rfl,h2.trans (zDD ho) (by omega),by simp⟩
       · rw[zGz]
         exact⟨_,_,_,_,_,_,rfl,h2.trans (zDD ho) (by omega),zF7 ho⟩
theorem zKD (W:Wd)(o:WOp):(zBq W o).1=W∨∃x,(zBq W o).1=(zAd W x).1:=by
 unfold zBq;split
 · exact .inl rfl
 · split
   · exact .inl rfl
   · split
     · exact .inl rfl
     · exact .inr ⟨_,rfl⟩
section
variable {we w:World}{ρ0:List (Nat × Obj)}{F:List HP}{wb N:Nat}{W:Wd}{o:WOp}
theorem zKH (h:WSt we ρ0 wb N W F w)(hN:N<500):Cl Tryz.prog 44 [pP wb,opV o] w fun v w'=>v=ansV (zBO W o)∧WSt we ρ0 wb (N+1) (zBO W o).1 F w':=by
 obtain⟨H,ρ,ho,ok,hS⟩:=h;obtain⟨L,heard,K,f,devs,parts,msgs,evs⟩:=W;obtain⟨k1,k2,k3,rfl,k5,k6,k7,rfl,k9,k10,k11,rfl,k13,k14,k15,k16⟩:=ok.un;have q2:heard.length≤100*(N+1):=by omega
 have q15:evs.length≤N+1:=by omega
 obtain⟨g,-⟩:=zA7 (hS.take (A:=zAA H.p zAB L) An);have hdl:H.ds.length≤8:=by simpa using k6
 refine(zMn (W:=⟨L,heard,K,f,H.ds.map (·.d),H.ps.map (·.x),H.ms.map (·.1),evs⟩) (ds:=H.ds) (f:=f) (L:=L) (o:=o) (K:=K) (heard:=heard) rfl k1 (by omega) hdl (F:=Vec 79 4 H.vp H.ps.length (H.ps.flatMap ptyL)::Each (ptI H.p) H.ps::Vec 80 1 H.vm H.ms.length (H.ms.flatMap mgL)::Vec 33 13 H.ve evs.length (evs.flatMap evtL)::F) hS.pk).mono ?_;rintro v w' ⟨rfl,ds',hD,hS2⟩;obtain⟨L1,f1,hgr,hdv⟩:=zQN ⟨L,heard,K,f,H.ds.map (·.d),H.ps.map (·.x),H.ms.map (·.1),evs⟩ o g;generalize (zBO ⟨L,heard,K,f,H.ds.map (·.d),H.ps.map (·.x),H.ms.map (·.1),evs⟩ o).1=W' at hdv hD hS2 ⊢;obtain⟨g2,-⟩:=zA7 (hS2.take (A:=zAA H.p zAB W'.L) An);refine⟨rfl,⟨H.p,H.kb,H.stb,ds',H.ps,H.ms,H.vp,H.vm,H.ve⟩,ρ,ho,?_,?_⟩
 · rcases hdv with rfl|⟨x,p,rfl,hx,hnone,h8⟩
   · exact WOk.mk' (fun x hx=>hgr.has (k1 x hx)) q2 (fun x hx=>hgr.has (k3 x hx)) hD.devs k5 k6 (fun d hd=>by have:=k7 d hd;exact⟨by omega,by omega,this.2.2⟩) rfl k9 k10 (fun x hx=>(k11 x hx).mono (fun _ h=>h) hD.mem (by omega) (Nat.le_refl _)) rfl k13 k14 q15 (by omega)
   · rw[zGS]at hD g2 ⊢
     have hln:(lhk L1 (heard,K) p).1.length≤heard.length+1:=zKs;refine WOk.mk' (zKt g2 (fun x hx=>hgr.has (k1 x hx))) (Nat.le_trans hln (by omega)) (zNa (fun x hx=>hgr.has (k3 x hx))) hD.devs ?_ ?_ ?_ rfl k9 k10 (fun x hx=>(k11 x hx).mono (fun _ h=>h) hD.mem (by omega) (Nat.le_refl _)) rfl k13 k14 q15 (by omega)
     · simp only[List.map_append,List.map_cons,List.map_nil]
       refine List.nodup_append.2 ⟨k5,by simp,?_⟩;intro a ha b hb e;simp at hb;subst hb;subst e;obtain⟨d,hd,hda⟩:=List.mem_map.1 ha;have:=List.find?_eq_none.1 hnone d hd;simp[hda]at this
     · have h8':(H.ds.map (·.d)).length<8:=h8
       simp only[List.length_append,List.length_cons,List.length_nil];omega
     · intro d hd
       rcases List.mem_append.1 hd with hd|hd
       · have:=k7 d hd;exact⟨by omega,by omega,this.2.2⟩
       · simp at hd;subst hd;exact⟨by simp,by simp,hx⟩
 · rcases hdv with rfl|⟨x,p,rfl,hx,hnone,h8⟩
   · exact hS2.pk
   · rw[zGS]at hS2 ⊢
     exact hS2.pk
theorem zKI (h:WSt we ρ0 wb N W F w)(hN:N<500):Cl Tryz.prog 52 [pP wb,opV o] w fun v w'=>v=ansV (zBq W o)∧WSt we ρ0 wb (N+1) (zBq W o).1 F w':=by
 obtain⟨H,ρ,ho,ok,hS⟩:=h;obtain⟨L,heard,K,f,devs,parts,msgs,evs⟩:=W;obtain⟨k1,k2,k3,rfl,k5,k6,k7,rfl,k9,k10,k11,rfl,k13,k14,k15,k16⟩:=ok.un;have q2:heard.length≤100*(N+1):=by omega
 have q15:evs.length≤N+1:=by omega
 obtain⟨g,-⟩:=zA7 (hS.take (A:=zAA H.p zAB L) An);refine(zMo (W:=⟨L,heard,K,f,H.ds.map (·.d),H.ps.map (·.x),H.ms.map (·.1),evs⟩) (ds:=H.ds) (ps:=H.ps) (f:=f) (L:=L) (o:=o) (K:=K) (heard:=heard) rfl k1 (by omega) (F:=Vec 80 1 H.vm H.ms.length (H.ms.flatMap mgL)::Vec 33 13 H.ve evs.length (evs.flatMap evtL)::F) hS.pk).mono ?_;rintro v w' ⟨rfl,hS2⟩;refine⟨rfl,H,ρ,ho,?_,?_⟩
 · rcases zKD ⟨L,heard,K,f,H.ds.map (·.d),H.ps.map (·.x),H.ms.map (·.1),evs⟩ o with e|⟨x,e⟩
   · rw[e]
     exact WOk.mk' k1 q2 k3 rfl k5 k6 (fun d hd=>by have:=k7 d hd;exact⟨by omega,by omega,this.2.2⟩) rfl k9 k10 (fun x hx=>(k11 x hx).mono (fun _ h=>h) id (by omega) (Nat.le_refl _)) rfl k13 k14 q15 (by omega)
   · rw[e,zGS]
     have hln:(lhk L (heard,K) x).1.length≤heard.length+1:=zKs;exact WOk.mk' (zKt g k1) (Nat.le_trans hln (by omega)) (zNa k3) rfl k5 k6 (fun d hd=>by have:=k7 d hd;exact⟨by omega,by omega,this.2.2⟩) rfl k9 k10 (fun x hx=>(k11 x hx).mono (fun _ h=>h) id (by omega) (Nat.le_refl _)) rfl k13 k14 q15 (by omega)
 · rcases zKD ⟨L,heard,K,f,H.ds.map (·.d),H.ps.map (·.x),H.ms.map (·.1),evs⟩ o with e|⟨x,e⟩
   · rw[e]at hS2 ⊢
     exact hS2.pk
   · rw[e,zGS]at hS2 ⊢
     exact hS2.pk
end
structure SsTo (s s':Ss):Prop where
 ok:ShOk s'.h
 fwd:Fwd s.h s'.h
 idx:s.index≤s'.index∧s'.index≤s.index+1
section
variable {lim:Nat}{L:List Nd}{s:Ss}{e pl wa wc:Int}{d:Dv}{msg:List Int}
theorem zDN (ho:ShOk s.h)(h:(zAE lim L s e pl wa wc).2.2.2=0):SsTo s (zAE lim L s e pl wa wc).2.1:=by
 unfold zAE at h ⊢;split at h
 · rename_i h1;exact absurd h h1
 · rename_i h1
   rw[if_neg h1];unfold zBR at h ⊢;split at h
   · rename_i h2;exact absurd h h2
   · rename_i h2
     rw[if_neg h2];split at h
     · rename_i h3;exact absurd h h3
     · rename_i h3
       rw[if_neg h3];have h4:ShOk (zAL lim L s e pl).2.1.h∧Fwd s.h (zAL lim L s e pl).2.1.h∧(zAL lim L s e pl).2.1.index=s.index:=by
        clear h3 h;unfold zAL at h2 ⊢;split
        · exact⟨ho,Fwd.refl _,rfl⟩
        · rename_i h5
          rw[if_neg h5]at h2;have h6:=zJX (lim:=lim) (L:=L) (e:=e) (x:=pl) ho;exact⟨(h6.2 (by simpa using h2)).1,h6.1,rfl⟩
       obtain⟨-,d2,d3,-⟩:=zET (lim:=lim) (L:=(zAL lim L s e pl).1) (s:=s) (x:=(zAL lim L s e pl).2.1);refine⟨?_,?_,?_⟩
       · show ShOk (zAI _ _ _ _).2.1.h
         rw[d3];exact h4.1
       · show Fwd s.h (zAI _ _ _ _).2.1.h
         rw[d3];exact h4.2.1
       · show s.index≤(zAI _ _ _ _).2.1.index+1∧(zAI _ _ _ _).2.1.index+1≤s.index+1
         rw[d2,h4.2.2];omega
theorem zLj (ho:ShOk s.h)(h:(zAc lim L s d msg).2.2.2=0):ShOk (zAc lim L s d msg).2.1.h∧Fwd s.h (zAc lim L s d msg).2.1.h∧(zAc lim L s d msg).2.1.index=s.index:=by
 have h6:=zF5 (lim:=lim) (L:=L) (msg:=msg) ho;unfold zAc at h ⊢;split at h
 · rename_i h1;exact absurd h h1
 · rename_i h1
   rw[if_neg h1];have h7:=h6.2 (by simpa using h1);split
   · exact⟨h7.1,h6.1,rfl⟩
   · exact⟨h7.1,h6.1,rfl⟩
theorem zM1 (ho:ShOk s.h)(h:(zAr lim L s d msg).2.2.2=0):ShOk (zAr lim L s d msg).2.1.h∧Fwd s.h (zAr lim L s d msg).2.1.h∧(zAr lim L s d msg).2.1.index=s.index:=by
 unfold zAr at h ⊢;simp only at h ⊢;split at h
 · rename_i h1;exact absurd h h1
 · rename_i h1
   rw[if_neg h1];have h2:=zLj (lim:=lim) (L:=L) (d:=d) (msg:=msg) ho (by simpa using h1);obtain⟨-,d2,d3,-⟩:=zET (lim:=lim) (L:=(zAc lim L s d msg).1) (s:=s) (x:=(zAc lim L s d msg).2.1);rw[d2,d3];exact h2
theorem zFZ (ho:ShOk s.h):SsTo s (zAP lim L s d msg wa wc).2.1:=by
 have same:SsTo s s:=⟨ho,Fwd.refl _,by omega⟩
 unfold zAP;split
 · exact same
 · have h1:(zAo lim L s d msg).2.1.h=s.h∧(zAo lim L s d msg).2.1.index=s.index∧((zAo lim L s d msg).2.2.2.2=0→ShOk (zAo lim L s d msg).2.2.1.h∧Fwd s.h (zAo lim L s d msg).2.2.1.h∧(zAo lim L s d msg).2.2.1.index=s.index):=by
    unfold zAo;split
    · exact⟨rfl,rfl,fun h=>zM1 ho h⟩
    · split
      · exact⟨rfl,rfl,fun h=>absurd h (by decide:¬(7:Int)=0)⟩
      · exact⟨rfl,rfl,fun _=>⟨ho,Fwd.refl _,rfl⟩⟩
   unfold zEB;split
   · exact⟨by rw[h1.1];exact ho,by rw[h1.1];exact Fwd.refl _,by rw[h1.2.1];omega⟩
   · rename_i h2
     have h3:=h1.2.2 (by simpa using h2);refine⟨h3.1,h3.2.1,?_⟩;show s.index≤(zAo lim L s d msg).2.2.1.index+1∧(zAo lim L s d msg).2.2.1.index+1≤s.index+1;rw[h3.2.2];omega
theorem zHG {send:Bool}(ho:ShOk s.h):SsTo s (zAb lim L s send).2.1:=by
 have same:SsTo s s:=⟨ho,Fwd.refl _,by omega⟩
 unfold zAb;repeat' split
 all_goals exact⟨ho,Fwd.refl _,Int.le_refl _,by show s.index≤s.index+1;omega⟩
end
theorem PtOk.to {ρ ρ':List (Nat × Obj)}{H H':Hd}{N nm nm':Nat}{x:PtH}(h:PtOk ρ H N nm x){s':Ss}(hs:SsTo x.x.s s'){b:List Int}(hb:∀n∈b,0≤n∧n<nm')(hρ:∀y ∈ ρ,y ∈ ρ')(hd:H'.ds=H.ds):PtOk ρ' H' (N+1) nm' (ptB (ptS x s') b) :=
 ⟨hs.ok,(h.rep.fwd hs.fwd).mono hρ,⟨by have:=h.idx.1;have:=hs.idx.1;show 0≤s'.index;omega,by have:=h.idx.2;have:=hs.idx.2;show s'.index≤((N+1:Nat):Int);omega⟩,by rw[hd];exact h.dev,hb⟩
theorem zGr {P:PtH→Prop}{ps:List PtH}{i:Nat}{y:PtH}(h:∀x∈ps,P x)(hy:P y):∀x∈ps.set i y,P x:=by
 intro x hx;rcases List.mem_or_eq_of_mem_set hx with h1|rfl
 · exact h x h1
 · exact hy
theorem zHA {ps:List PtH}{i:Nat}{x y:PtH}(hx:ps[i]? = some x)(h:∀(j:Nat) (z:PtH),ps[j]? = some z→z.at_=j)(hy:y.at_=x.at_):∀(j:Nat) (z:PtH),(ps.set i y)[j]? = some z→z.at_=j:=by
 intro j z hz;have hlt:=(List.getElem?_eq_some_iff.1 hx).1;by_cases e:i=j
 · subst e
   rw[List.getElem?_set_self hlt]at hz;cases hz;rw[hy];exact h i x hx
 · rw[List.getElem?_set_ne e]at hz
   exact h j z hz
structure OpR (ρ:List (Nat × Obj))(o:WOp):Prop where
 sl:Sl ρ stpL 5 o.sl o.steps
 sn:∀s∈o.steps,0≤s.n∧s.n≤18446744073709551615
 len:o.steps.length≤1000
 name:o.name.size≤1000
section
variable {we w:World}{ρ0:List (Nat × Obj)}{F:List HP}{wb N:Nat}{W:Wd}{o:WOp}
theorem zFC {L:List Nd}{heard:List Int}{K:Int→Bool}{f:Int}{devs:List Dv}{ps:List PtH}{msgs:List (List Int)}{evs:List Evt}{n:Int}(h:(⟨L,heard,K,f,devs,ps.map (·.x),msgs,evs⟩:Wd).has n=true) :
 0≤n∧∃x,ps[n.toNat]? = some x∧(⟨L,heard,K,f,devs,ps.map (·.x),msgs,evs⟩:Wd).part n=x.x∧x∈ps:=by
 simp only[Wd.has,List.length_map,Bool.and_eq_true,decide_eq_true_eq]at h;have hlt:n.toNat<ps.length:=by omega
 refine⟨h.1,ps[n.toNat],List.getElem?_eq_getElem hlt,?_,List.getElem_mem hlt⟩;simp[Wd.part,List.getD_eq_getElem?_getD,hlt]
theorem zMk (h:WSt we ρ0 wb N W F w)(hv:Vars we)(hT:zBf we)(hR:zCz we)(hr:OpR ρ0 o)(hN:N<500):Cl Tryz.prog 47 [pP wb,opV o] w fun v w'=>v=ansV (zEX W o)∧WSt we ρ0 wb (N+1) (zEX W o).1 F w':=by
 obtain⟨H,ρ,ho,ok,hS⟩:=h;obtain⟨L,heard,K,f,devs,parts,msgs,evs⟩:=W;obtain⟨k1,k2,k3,rfl,k5,k6,k7,rfl,k9,k10,k11,rfl,k13,k14,k15,k16⟩:=ok.un;have q2:heard.length≤100*(N+1):=by omega
 have q15:evs.length≤N+1:=by omega
 have hpl:H.ps.length≤64:=by simpa using k9
 refine(zQn (W:=⟨L,heard,K,f,H.ds.map (·.d),H.ps.map (·.x),H.ms.map (·.1),evs⟩) (ds:=H.ds) (ps:=H.ps) (f:=f) (L:=L) (o:=o) rfl hv hT hR hr.name (fun d hd=>by have:=(k7 d.d (List.mem_map_of_mem hd)).1;omega) hpl (F:=KN H.kb H.p heard K::Vec 80 1 H.vm H.ms.length (H.ms.flatMap mgL)::Vec 33 13 H.ve evs.length (evs.flatMap evtL)::F) hS.pk).mono ?_;rintro v w' ⟨rfl,ρ',vp',ps',ho',hps,hnew,hS2⟩;obtain⟨L1,ps1,hdv,hgr⟩:=zTT ⟨L,heard,K,f,H.ds.map (·.d),H.ps.map (·.x),H.ms.map (·.1),evs⟩ o;generalize (zEX ⟨L,heard,K,f,H.ds.map (·.d),H.ps.map (·.x),H.ms.map (·.1),evs⟩ o).1=W' at hdv hps hS2 ⊢;subst hdv;simp only at hgr hps hS2;refine⟨rfl,⟨H.p,H.kb,H.stb,H.ds,ps',H.ms,vp',H.vm,H.ve⟩,ρ',ho.trans ho',?_,hS2.pk⟩;have hold:∀x∈H.ps,PtOk ρ' ⟨H.p,H.kb,H.stb,H.ds,ps',H.ms,vp',H.vm,H.ve⟩ (N+1) (H.ms.map (·.1)).length x:=fun x hx=>(k11 x hx).mono ho'.sub id (by omega) (Nat.le_refl _)
 refine WOk.mk' (fun x hx=>hgr.has (k1 x hx)) q2 (fun x hx=>hgr.has (k3 x hx)) rfl k5 k6 (fun d hd=>by have:=k7 d hd;exact⟨by omega,by omega,this.2.2⟩) hps ?_ ?_ ?_ rfl k13 (fun m hm=>(k14 m hm).mono ho'.sub) q15 (by omega)
 · rw[← hps,List.length_map]
   rcases hnew with rfl|⟨x,rfl,hx,h64⟩
   · exact hpl
   · simp;omega
 · rcases hnew with rfl|⟨x,rfl,hx,h64⟩
   · exact k10
   · intro j z hz
     rw[List.getElem?_append]at hz;split at hz
     · exact k10 j z hz
     · rename_i hj
       have h1:=(List.getElem?_eq_some_iff.1 hz).1;simp only[List.length_cons,List.length_nil]at h1;rw[show j - H.ps.length=0 by omega]at hz;cases hz;rw[hx.at_];omega
 · rcases hnew with rfl|⟨x,rfl,hx,h64⟩
   · exact hold
   · intro y hy
     rcases List.mem_append.1 hy with h1|h1
     · exact hold y h1
     · simp at h1;subst h1
       exact⟨hx.ok,hx.rep,by rw[hx.idx];exact⟨by omega,by omega⟩,hx.dev,by rw[hx.box];intro n hn;simp at hn⟩
theorem zMf (h:WSt we ρ0 wb N W F w)(hh:W.has o.a=true)(hN:N<500):Cl Tryz.prog 49 [pP wb,opV o] w fun v w'=>v=ansV (zHd W o)∧WSt we ρ0 wb (N+1) (zHd W o).1 F w':=by
 obtain⟨H,ρ,ho,ok,hS⟩:=h;obtain⟨L,heard,K,f,devs,parts,msgs,evs⟩:=W;obtain⟨k1,k2,k3,rfl,k5,k6,k7,rfl,k9,k10,k11,rfl,k13,k14,k15,k16⟩:=ok.un;have q2:heard.length≤100*(N+1):=by omega
 have q15:evs.length≤N+1:=by omega
 obtain⟨ha,x,hx,hpt,hxm⟩:=zFC hh;have hW:zHd ⟨L,heard,K,f,H.ds.map (·.d),H.ps.map (·.x),H.ms.map (·.1),evs⟩ o=(⟨L,heard,K,f,H.ds.map (·.d),(H.ps.set o.a.toNat (ptB x (zJB H.ms.length o x))).map (·.x),H.ms.map (·.1),evs⟩,0,zTF H.ms.length o x):=by
  have h1:(H.ps.map (·.x)).set o.a.toNat x.x=H.ps.map (·.x):=by
   rw[← List.map_set,zBQ hx]
  unfold zHd zJB zTF;rw[hpt];simp only[List.length_map];split
  · rw[show ptB x x.x.box=x from rfl,zBQ hx]
  · split
    · rw[List.map_set];rfl
    · rw[show ptB x x.x.box=x from rfl,zBQ hx]
 refine(zQj (ps:=H.ps) (ms:=H.ms) (f:=f) (o:=o) hx ha (F:=zAA H.p zAB L::KN H.kb H.p heard K::zAD H.stb 8 (kvD H.ds)::Each devI H.ds::Vec 33 13 H.ve evs.length (evs.flatMap evtL)::F) hS.pk).mono ?_;rintro v w' ⟨rfl,hS2⟩;rw[hW];refine⟨rfl,⟨H.p,H.kb,H.stb,H.ds,H.ps.set o.a.toNat (ptB x (zJB H.ms.length o x)),H.ms,H.vp,H.vm,H.ve⟩,ρ,ho,?_,?_⟩
 · refine WOk.mk' k1 q2 k3 rfl k5 k6 (fun d hd=>by have:=k7 d hd;exact⟨by omega,by omega,this.2.2⟩) rfl (by simpa using k9) (zHA hx k10 rfl) (zGr (fun y hy=>(k11 y hy).mono (fun _ h=>h) id (by omega) (Nat.le_refl _)) ?_) rfl k13 k14 q15 (by omega)
   have h1:=k11 x hxm;refine(h1.mono (H':=⟨H.p,H.kb,H.stb,H.ds,H.ps.set o.a.toNat (ptB x (zJB H.ms.length o x)),H.ms,H.vp,H.vm,H.ve⟩) (N':=N+1) (nm':=(H.ms.map (·.1)).length) (fun _ h=>h) id (by omega) (Nat.le_refl _)) |> fun h2=>⟨h2.ok,h2.rep,h2.idx,h2.dev,?_⟩
   intro n hn;simp only[List.length_map]at h1 ⊢;have hb:n∈zJB H.ms.length o x:=hn;unfold zJB at hb;split at hb
   · simpa using h1.box n hb
   · rename_i hc
     split at hb
     · rcases List.mem_append.1 hb with h3|h3
       · simpa using h1.box n h3
       · simp at h3;subst h3;omega
     · simpa using h1.box n hb
 · rw[← zCA (g:=ptyL) (y:=ptB x (zJB H.ms.length o x)) hx rfl]at hS2
   rw[show H.ps.length=(H.ps.set o.a.toNat (ptB x (zJB H.ms.length o x))).length by simp]at hS2;exact hS2.pk
theorem zLF (h:WSt we ρ0 wb N W F w)(hh:W.has o.a=true)(hN:N<500):Cl Tryz.prog 53 [pP wb,opV o] w fun v w'=>v=ansV (zB3 W o)∧WSt we ρ0 wb (N+1) (zB3 W o).1 F w':=by
 obtain⟨H,ρ,ho,ok,hS⟩:=h;obtain⟨L,heard,K,f,devs,parts,msgs,evs⟩:=W;obtain⟨k1,k2,k3,rfl,k5,k6,k7,rfl,k9,k10,k11,rfl,k13,k14,k15,k16⟩:=ok.un;have q2:heard.length≤100*(N+1):=by omega
 have q15:evs.length≤N+1:=by omega
 obtain⟨ha,x,hx,hpt,hxm⟩:=zFC hh;have hp:=k11 x hxm;have hW:zB3 ⟨L,heard,K,f,H.ds.map (·.d),H.ps.map (·.x),H.ms.map (·.1),evs⟩ o=(⟨(zBa L o x).1,heard,K,f,H.ds.map (·.d),(H.ps.set o.a.toNat (ptS x (zBa L o x).2.1)).map (·.x),H.ms.map (·.1),evs⟩,0,(zBa L o x).2.2):=by
  unfold zB3 zBa;rw[hpt];split
  · rw[show ptS x x.x.s=x from rfl,zBQ hx]
  · simp only[Wd.setPart]
    rw[List.map_set];rfl
 have hgr:Gr 1 L (zBa L o x).1:=by unfold zBa;split;exact Gr.refl _ _;exact zFj
 have hto:SsTo x.x.s (zBa L o x).2.1:=by unfold zBa;split;exact⟨hp.ok,Fwd.refl _,by simp only;omega⟩;exact zHG hp.ok
 refine(zJQ (ps:=H.ps) (f:=f) (o:=o) (L:=L) hx ha hp.rep (F:=KN H.kb H.p heard K::zAD H.stb 8 (kvD H.ds)::Each devI H.ds::Vec 80 1 H.vm H.ms.length (H.ms.flatMap mgL)::Vec 33 13 H.ve evs.length (evs.flatMap evtL)::F) hS.pk).mono ?_;rintro v w' ⟨rfl,hS2⟩;rw[hW];refine⟨rfl,⟨H.p,H.kb,H.stb,H.ds,H.ps.set o.a.toNat (ptS x (zBa L o x).2.1),H.ms,H.vp,H.vm,H.ve⟩,ρ,ho,?_,?_⟩
 · exact WOk.mk' (fun x hx=>hgr.has (k1 x hx)) q2 (fun x hx=>hgr.has (k3 x hx)) rfl k5 k6 (fun d hd=>by have:=k7 d hd;exact⟨by omega,by omega,this.2.2⟩) rfl (by simpa using k9) (zHA hx k10 rfl) (zGr (fun y hy=>(k11 y hy).mono (fun _ h=>h) id (by omega) (Nat.le_refl _)) (hp.to hto (b:=x.x.box) hp.box (fun _ h=>h) rfl)) rfl k13 k14 q15 (by omega)
 · rw[← zCA (g:=ptyL) (y:=ptS x (zBa L o x).2.1) hx rfl]at hS2
   rw[show H.ps.length=(H.ps.set o.a.toNat (ptS x (zBa L o x).2.1)).length by simp]at hS2;exact hS2.pk
theorem zLH (h:WSt we ρ0 wb N W F w)(hr:OpR ρ0 o)(hN:N<500):Cl Tryz.prog 51 [pP wb,opV o] w fun v w'=>v=ansV (zCK W o)∧WSt we ρ0 wb (N+1) (zCK W o).1 F w':=by
 obtain⟨H,ρ,ho,ok,hS⟩:=h;obtain⟨L,heard,K,f,devs,parts,msgs,evs⟩:=W;obtain⟨k1,k2,k3,rfl,k5,k6,k7,rfl,k9,k10,k11,rfl,k13,k14,k15,k16⟩:=ok.un;have q2:heard.length≤100*(N+1):=by omega
 have q15:evs.length≤N+1:=by omega
 have hml:H.ms.length≤256:=by simpa using k13
 refine(zO7 (W:=⟨L,heard,K,f,H.ds.map (·.d),H.ps.map (·.x),H.ms.map (·.1),evs⟩) (ms:=H.ms) (f:=f) (o:=o) (L:=L) (heard:=heard) (K:=K) rfl (hr.sl.mono ho.sub) hr.sn hr.len (by omega) k3 hml (F:=zAD H.stb 8 (kvD H.ds)::Each devI H.ds::Vec 79 4 H.vp H.ps.length (H.ps.flatMap ptyL)::Each (ptI H.p) H.ps::Vec 33 13 H.ve evs.length (evs.flatMap evtL)::F) hS.pk).mono ?_;rintro v w' ⟨rfl,ρ',ms',vm',ho',hfg,hms,hS2⟩;obtain⟨L1,ms1,hdv,hgr⟩:=zSJ ⟨L,heard,K,f,H.ds.map (·.d),H.ps.map (·.x),H.ms.map (·.1),evs⟩ o;generalize (zCK ⟨L,heard,K,f,H.ds.map (·.d),H.ps.map (·.x),H.ms.map (·.1),evs⟩ o).1=W' at hdv hms hS2 ⊢;subst hdv;simp only at hgr hms hS2;refine⟨rfl,⟨H.p,H.kb,H.stb,H.ds,H.ps,ms',H.vp,vm',H.ve⟩,ρ',ho.trans ho',?_,hS2.pk⟩;have hlen:(H.ms.map (·.1)).length≤ms1.length∧ms1.length≤256:=by
  rw[← hms];simp only[List.length_map];rcases hfg with rfl|⟨m,mv,rfl,_,h3⟩
  · omega
  · simp;omega
 refine WOk.mk' (fun x hx=>hgr.has (k1 x hx)) q2 (fun x hx=>hgr.has (k3 x hx)) rfl k5 k6 (fun d hd=>by have:=k7 d hd;exact⟨by omega,by omega,this.2.2⟩) rfl k9 k10 (fun x hx=>(k11 x hx).mono ho'.sub id (by omega) hlen.1) hms hlen.2 ?_ q15 (by omega);rcases hfg with rfl|⟨m,mv,rfl,h2,h3⟩
 · exact fun m hm=>(k14 m hm).mono ho'.sub
 · intro y hy
   rcases List.mem_append.1 hy with h1|h1
   · exact(k14 y h1).mono ho'.sub
   · simp at h1;subst h1;exact h2
theorem zLC (h:WSt we ρ0 wb N W F w)(hh:W.has o.a=true)(hN:N<500):Cl Tryz.prog 48 [pP wb,opV o] w fun v w'=>v=ansV (zBC W o)∧WSt we ρ0 wb (N+1) (zBC W o).1 F w':=by
 obtain⟨H,ρ,ho,ok,hS⟩:=h;obtain⟨L,heard,K,f,devs,parts,msgs,evs⟩:=W;obtain⟨k1,k2,k3,rfl,k5,k6,k7,rfl,k9,k10,k11,rfl,k13,k14,k15,k16⟩:=ok.un;have q2:heard.length≤100*(N+1):=by omega
 have q15:evs.length≤N+1:=by omega
 obtain⟨ha,x,hx,hpt,hxm⟩:=zFC hh;have hp:=k11 x hxm;have hml:H.ms.length≤256:=by simpa using k13
 refine(zJP (W:=⟨L,heard,K,f,H.ds.map (·.d),H.ps.map (·.x),H.ms.map (·.1),evs⟩) (ps:=H.ps) (ms:=H.ms) (f:=f) (o:=o) (L:=L) (heard:=heard) (K:=K) (evs:=evs) (devs:=H.ds.map (·.d)) rfl hx ha (k10 _ _ hx) hp.ok hp.rep ⟨hp.idx.1,by have:=hp.idx.2;omega⟩ k1 (by omega) (by omega) hml (F:=zAD H.stb 8 (kvD H.ds)::Each devI H.ds::F) hS.pk).mono ?_;rintro v w' ⟨rfl,ρ',ps',ms',vm',ve',ho',hwr,hps,hms,hS2⟩;obtain⟨L1,f1,l,ps1,ms1,ev1,hdv,hgr,hll⟩:=zLE ⟨L,heard,K,f,H.ds.map (·.d),H.ps.map (·.x),H.ms.map (·.1),evs⟩ o (by rw[hpt];exact hp.ok);generalize (zBC ⟨L,heard,K,f,H.ds.map (·.d),H.ps.map (·.x),H.ms.map (·.1),evs⟩ o).1=W' at hdv hwr hps hms hS2 ⊢;subst hdv;simp only at hgr hwr hps hms hS2;obtain⟨g,-⟩:=zA7 (hS2.take (A:=zAA H.p zAB L1) An);obtain⟨r1,r2,r3⟩:=zKr g l (heard,K) (fun x hx=>hgr.has (k3 x hx)) (fun x hx=>hgr.has (k1 x hx));have hps1:ps'.length=H.ps.length∧ps'.flatMap ptyL=H.ps.flatMap ptyL:=by
  rcases hwr with ⟨rfl,_,_⟩|⟨L0,e,pl,m,mv,h1,rfl,_⟩
  · exact⟨rfl,rfl⟩
  · exact⟨by simp,zCA hx rfl⟩
 rw[← hps1.1,← hps1.2]at hS2;refine⟨rfl,⟨H.p,H.kb,H.stb,H.ds,ps',ms',H.vp,vm',ve'⟩,ρ',ho.trans ho',?_,hS2.pk⟩;have hlen:(H.ms.map (·.1)).length≤ms1.length∧ms1.length≤256:=by
  rw[← hms];simp only[List.length_map];rcases hwr with ⟨_,rfl,_⟩|⟨L0,e,pl,m,mv,h1,_,rfl,_,_,h3,_⟩
  · omega
  · simp;omega
 have hold:∀y∈H.ps,PtOk ρ' ⟨H.p,H.kb,H.stb,H.ds,ps',ms',H.vp,vm',ve'⟩ (N+1) ms1.length y:=fun y hy=>(k11 y hy).mono ho'.sub id (by omega) hlen.1
 refine WOk.mk' r2 (Nat.le_trans r3 (by simp only;omega)) r1 rfl k5 k6 (fun d hd=>by have:=k7 d hd;exact⟨by omega,by omega,this.2.2⟩) hps ?_ ?_ ?_ hms hlen.2 ?_ ?_ (by omega)
 · rw[← hps,List.length_map,hps1.1];simpa using k9
 · rcases hwr with ⟨rfl,_,_⟩|⟨L0,e,pl,m,mv,h1,rfl,_⟩
   · exact k10
   · exact zHA hx k10 rfl
 · rcases hwr with ⟨rfl,_,_⟩|⟨L0,e,pl,m,mv,h1,rfl,_⟩
   · exact hold
   · exact zGr hold (hp.to (zDN hp.ok h1) (b:=x.x.box) (fun n hn=>⟨(hp.box n hn).1,by have:=(hp.box n hn).2;omega⟩) ho'.sub rfl)
 · rcases hwr with ⟨_,rfl,_⟩|⟨L0,e,pl,m,mv,h1,_,rfl,h2,_⟩
   · exact fun m hm=>(k14 m hm).mono ho'.sub
   · intro y hy
     rcases List.mem_append.1 hy with h4|h4
     · exact(k14 y h4).mono ho'.sub
     · simp at h4;subst h4;exact h2
 · rcases hwr with ⟨_,_,rfl⟩|⟨L0,e,pl,m,mv,h1,_,_,_,h2,_⟩
   · exact q15
   · rw[h2];omega
theorem zMh (h:WSt we ρ0 wb N W F w)(hh:W.has o.a=true)(hN:N<500):Cl Tryz.prog 50 [pP wb,opV o] w fun v w'=>v=ansV (zDb W o)∧WSt we ρ0 wb (N+1) (zDb W o).1 F w':=by
 obtain⟨H,ρ,ho,ok,hS⟩:=h;obtain⟨L,heard,K,f,devs,parts,msgs,evs⟩:=W;obtain⟨k1,k2,k3,rfl,k5,k6,k7,rfl,k9,k10,k11,rfl,k13,k14,k15,k16⟩:=ok.un;have q2:heard.length≤100*(N+1):=by omega
 have q15:evs.length≤N+1:=by omega
 obtain⟨ha,x,hx,hpt,hxm⟩:=zFC hh;have hp:=k11 x hxm;obtain⟨y,hym,hdb,hid⟩:=hp.dev;obtain⟨j,hj⟩:=List.getElem?_of_mem hym;refine(zQl (W:=⟨L,heard,K,f,H.ds.map (·.d),H.ps.map (·.x),H.ms.map (·.1),evs⟩) (ds:=H.ds) (ps:=H.ps) (ms:=H.ms) (f:=f) (o:=o) (L:=L) (heard:=heard) (K:=K) (evs:=evs) rfl hx ha (k10 _ _ hx) hp.ok hp.rep ⟨hp.idx.1,by have:=hp.idx.2;omega⟩ hj hdb hid (zRd rfl k5) (by have:=(k7 y.d (List.mem_map_of_mem hym)).1;omega) (fun n hn=>by have:=hp.box n hn;simpa using this) k14 (by omega) (F:=KN H.kb H.p heard K::zAD H.stb 8 (kvD H.ds)::F) hS.pk).mono ?_;rintro v w' ⟨rfl,ps',ve',hrd,hps,hS2⟩;obtain⟨L1,ps1,ev1,hdv,hgr⟩:=zTN ⟨L,heard,K,f,H.ds.map (·.d),H.ps.map (·.x),H.ms.map (·.1),evs⟩ o (by rw[hpt];exact hp.ok);generalize (zDb ⟨L,heard,K,f,H.ds.map (·.d),H.ps.map (·.x),H.ms.map (·.1),evs⟩ o).1=W' at hdv hrd hps hS2 ⊢;subst hdv;simp only at hgr hrd hps hS2;have hps1:ps'.length=H.ps.length∧ps'.flatMap ptyL=H.ps.flatMap ptyL:=by
  rcases hrd with ⟨rfl,_⟩|⟨L0,d,msg,l,rfl,_⟩
  · exact⟨rfl,rfl⟩
  · exact⟨by simp,zCA hx rfl⟩
 rw[← hps1.1,← hps1.2]at hS2;refine⟨rfl,⟨H.p,H.kb,H.stb,H.ds,ps',H.ms,H.vp,H.vm,ve'⟩,ρ,ho,?_,hS2.pk⟩;have hold:∀y∈H.ps,PtOk ρ ⟨H.p,H.kb,H.stb,H.ds,ps',H.ms,H.vp,H.vm,ve'⟩ (N+1) (H.ms.map (·.1)).length y:=fun y hy=>(k11 y hy).mono (fun _ h=>h) id (by omega) (Nat.le_refl _)
 refine WOk.mk' (fun x hx=>hgr.has (k1 x hx)) q2 (fun x hx=>hgr.has (k3 x hx)) rfl k5 k6 (fun d hd=>by have:=k7 d hd;exact⟨by omega,by omega,this.2.2⟩) hps ?_ ?_ ?_ rfl k13 k14 ?_ (by omega)
 · rw[← hps,List.length_map,hps1.1];simpa using k9
 · rcases hrd with ⟨rfl,_⟩|⟨L0,d,msg,l,rfl,_⟩
   · exact k10
   · exact zHA hx k10 rfl
 · rcases hrd with ⟨rfl,_⟩|⟨L0,d,msg,l,rfl,h2,_⟩
   · exact hold
   · exact zGr hold (hp.to (zFZ hp.ok) (b:=l) (fun n hn=>hp.box n (h2 n hn)) (fun _ h=>h) rfl)
 · rcases hrd with ⟨_,rfl⟩|⟨L0,d,msg,l,_,_,h2⟩
   · exact q15
   · omega
end
def kV (b:Bool)(g:Nat):Value:=.agg #[.bool b,.func (.func g) #[] #[]]
def zEo:List MapEntry:=[⟨pI 0,kV false 44,0⟩,⟨pI 1,kV false 45,1⟩,⟨pI 2,kV false 46,2⟩,⟨pI 3,kV false 47,3⟩,⟨pI 4,kV true 48,4⟩,
 ⟨pI 5,kV true 49,5⟩,⟨pI 6,kV true 50,6⟩,⟨pI 7,kV false 51,7⟩,⟨pI 8,kV false 52,8⟩,⟨pI 9,kV true 53,9⟩]
theorem zCc:∀e∈zEo,e.key = pI (intK e.key):=by simp[zEo,intK]
section
variable {we w:World}{ρ:List (Nat × Obj)}{σ F:List HP}
theorem zEK (hS:St we ρ σ w):Cl Tryz.prog 25 [] w fun v w'=>∃m c,v = .map (some m)∧St we ρ (Blk m (.map zEo.toArray c) :: σ) w':=by
 refine Run.calls0 (n:=13) Tryz.func25 rfl rfl ?_;repeat' first|(apply RO.op;apply OP.insert hS;rfl;rfl;rfl;rfl;exact An;exact KeyIs.int (f:=intK) rfl (by simp[intK]);exact zCy (by simp[intK]);rfl;clear hS;intro w1 hS)|apply Qs|apply Qr|apply Qn|refine Ql ?_|(refine Qp ?_;clear hS;intro b w1 hS)
 refine Qw Tryz.func25 ?_;exact⟨_,_,rfl,hS⟩
theorem WSt.frame {ρ0:List (Nat × Obj)}{wb N:Nat}{W:Wd}{A:HP}(h:WSt we ρ0 wb N W (A::F) w):WSt we ρ0 wb N W F w:=by
 obtain⟨H,ρ,ho,ok,hS⟩:=h;exact⟨H,ρ,ho,ok,hS.pk⟩
theorem WSt.next {ρ0:List (Nat × Obj)}{wb N:Nat}{W:Wd}(h:WSt we ρ0 wb N W F w)(hN:N<500):WSt we ρ0 wb (N+1) W F w:=by
 obtain⟨H,ρ,ho,ok,hS⟩:=h;refine⟨H,ρ,ho,?_,hS⟩;obtain⟨L,heard,K,f,devs,parts,msgs,evs⟩:=W;obtain⟨k1,k2,k3,rfl,k5,k6,k7,rfl,k9,k10,k11,rfl,k13,k14,k15,k16⟩:=ok.un;exact WOk.mk' k1 (by omega) k3 rfl k5 k6 (fun d hd=>by have:=k7 d hd;exact⟨by omega,by omega,this.2.2⟩) rfl k9 k10 (fun x hx=>(k11 x hx).mono (fun _ h=>h) id (by omega) (Nat.le_refl _)) rfl k13 k14 (by omega) (by omega)
section
variable {ρ0:List (Nat × Obj)}{wb N:Nat}{W:Wd}{o:WOp}
theorem zR0 (h:o.kind<0∨9<o.kind):zBN (fun u=>decide (o.kind=intK u)) zEo 0=none:=by
 have h0:o.kind≠0:=by omega
 have h1:o.kind≠1:=by omega
 have h2:o.kind≠2:=by omega
 have h3:o.kind≠3:=by omega
 have h4:o.kind≠4:=by omega
 have h5:o.kind≠5:=by omega
 have h6:o.kind≠6:=by omega
 have h7:o.kind≠7:=by omega
 have h8:o.kind≠8:=by omega
 have h9:o.kind≠9:=by omega
 simp[zEo,zBN,intK,h0,h1,h2,h3,h4,h5,h6,h7,h8,h9]
theorem zS4 (h:WSt we ρ0 wb N W F w)(hk:o.kind<0∨9<o.kind):Cl Tryz.prog 17 [pP wb,opV o] w fun v w'=>v = .tuple #[pI 0,pI 1]∧WSt we ρ0 wb N W F w':=by
 have hf:=zR0 hk;obtain⟨H,ρ,ho,ok,hS⟩:=h;refine Run.calls2 (n:=39) Tryz.func17 rfl rfl rfl ?_;repeat' first|apply Qs|apply Qr|apply Qn|refine Ql ?_|(refine Qx ?_;clear hS;intro b w1 hS)
 refine(Run.regionH_cut (fun _:Unit=>Row b (wopL o) 57::Row wb (wdL H W.fresh) 68::zAA H.p zAB W.L::KN H.kb H.p W.heard W.K::zAD H.stb 8 (kvD H.ds)::Each devI H.ds::Vec 79 4 H.vp H.ps.length (H.ps.flatMap ptyL)::Each (ptI H.p) H.ps::Vec 80 1 H.vm H.ms.length (H.ms.flatMap mgL)::Vec 33 13 H.ve W.evs.length (W.evs.flatMap evtL)::F) (fun _=>[(7,.bool false)])
  (show St we ρ (Row b (wopL o) 57::Row wb (wdL H W.fresh) 68::zAA H.p zAB W.L::KN H.kb H.p W.heard W.K::zAD H.stb 8 (kvD H.ds)::Each devI H.ds::Vec 79 4 H.vp H.ps.length (H.ps.flatMap ptyL)::Each (ptI H.p) H.ps::Vec 80 1 H.vm H.ms.length (H.ms.flatMap mgL)::Vec 33 13 H.ve W.evs.length (W.evs.flatMap evtL)::F) _ from hS) (List.Sublist.refl _) (by rfl) (by rfl) (by rfl) ?_ ?_)
 · clear hS
   intro w1 hS;refine RH.relist (listed':=bm 10 0) (by kernel_rfl) ?_;repeat' first|refine Yl 0 1 ?_|(refine Yt 2 2 ?_ (h:=by first|(apply Still.lookupOk;rfl;rfl;rfl;rfl;(exact Rd.any);exact KeyIs.int (f:=intK) rfl zCc;exact hf;rfl)|exact Still.an))|refine Yt 15 4 ?_|refine Yt 31 5 ?_|refine Yt 63 6 ?_|refine Yt 511 9 ?_|refine Yt 143 4 ?_|refine Yt 159 5 ?_|refine Yt 191 6 ?_|(refine Oc 25 (c:=zEK hS) (k':=?_);clear hS;rintro v w1 ⟨mk,mc,rfl,hS⟩;refine Xh ?_)|(refine Ol (Xh ?_) (h:=by first|(apply Still.lookupOk;rfl;rfl;rfl;rfl;(exact Rd.any);exact KeyIs.int (f:=intK) rfl zCc;exact hf;rfl)|exact Still.any))|(refine Oa ?_;clear hS;intro b w1 hS;refine Xh ?_)|(refine Od ?_;clear hS;intro w1 hS;refine Xh ?_)|refine Jo ?_|refine Zb 6 0 7 ?_ ?_|refine Zb 7 3 7 ?_ ?_|refine Za 127 7 ?_|refine Za 255 8 ?_|refine Za 135 3 ?_|refine Za 134 0 ?_|(refine Yd 1023 ?_;exact⟨(),Sb,hS.pk⟩)
 clear hS;rintro - w1 hS;repeat' first|apply Qs|apply Qr|apply Qn|refine Ql ?_|refine Qt ?_
 refine Qw Tryz.func17 ?_;exact⟨rfl,H,ρ,ho,ok,hS.pk⟩
theorem zIA {ps:List PtH}{n:Int}:(zEg ps n).2=(decide (0≤n) && decide (n<ps.length)):=by
 unfold zEg;split
 · rename_i h
   rcases h with h|h
   · simp[show ¬ 0≤n by omega]
   · simp[show ¬n<ps.length by omega]
 · rename_i h
   have h1:n.toNat<ps.length:=by omega
   rw[List.getElem?_eq_getElem h1];simp[show 0≤n by omega,show n<ps.length by omega]
theorem zCX {of:Bool}{g i:Nat}{q:Wd × Int × Int}(h:WSt we ρ0 wb N W F w)(hf:zBN (fun u=>decide (o.kind=intK u)) zEo 0=some (i,kV of g))(hg:fnB Tryz.prog g=true)(hof:of=true→W.has o.a=true)
 (hcall:∀F w,WSt we ρ0 wb N W F w→Cl Tryz.prog g [pP wb,opV o] w fun v w'=>v=ansV q∧WSt we ρ0 wb (N+1) q.1 F w') :
 Cl Tryz.prog 17 [pP wb,opV o] w fun v w'=>v=ansV q∧WSt we ρ0 wb (N+1) q.1 F w':=by
 obtain⟨H,ρ,ho,ok,hS⟩:=h;have hhas:(zEg H.ps o.a).2=W.has o.a:=by
  rw[zIA];unfold Wd.has;rw[← ok.parts,List.length_map]
 have kS:∀{F w},St we ρ (Row wb (wdL H W.fresh) 68::Vec 79 4 H.vp H.ps.length (H.ps.flatMap ptyL)::F) w→_:=fun hS=>zBt (n:=o.a) hS
 generalize zEg H.ps o.a=sa at kS hhas;obtain⟨us,is⟩:=sa;simp only at kS hhas;refine Run.calls2 (n:=39) Tryz.func17 rfl rfl rfl ?_;repeat' first|apply Qs|apply Qr|apply Qn|refine Ql ?_|(refine Qx ?_;clear hS;intro b w1 hS)
 refine(Run.regionH_cut (fun z:Nat=>Row z [.bool of,.func (.func g) #[] #[]] 105::Row b (wopL o) 57::Row wb (wdL H W.fresh) 68::zAA H.p zAB W.L::KN H.kb H.p W.heard W.K::zAD H.stb 8 (kvD H.ds)::Each devI H.ds::Vec 79 4 H.vp H.ps.length (H.ps.flatMap ptyL)::Each (ptI H.p) H.ps::Vec 80 1 H.vm H.ms.length (H.ms.flatMap mgL)::Vec 33 13 H.ve W.evs.length (W.evs.flatMap evtL)::F) (fun z=>[(0,pP wb),(3,pP b),(6,pP z),(7,.bool true)])
  (show St we ρ (Row b (wopL o) 57::Row wb (wdL H W.fresh) 68::zAA H.p zAB W.L::KN H.kb H.p W.heard W.K::zAD H.stb 8 (kvD H.ds)::Each devI H.ds::Vec 79 4 H.vp H.ps.length (H.ps.flatMap ptyL)::Each (ptI H.p) H.ps::Vec 80 1 H.vm H.ms.length (H.ms.flatMap mgL)::Vec 33 13 H.ve W.evs.length (W.evs.flatMap evtL)::F) _ from hS) (List.Sublist.refl _) (by rfl) (by rfl) (by rfl) ?_ ?_)
 · clear hS
   intro w1 hS;refine RH.relist (listed':=bm 10 0) (by kernel_rfl) ?_;repeat' first|refine Yl 0 1 ?_|(refine Yt 2 2 ?_ (h:=by first|(apply Still.lookupOk;rfl;rfl;rfl;rfl;(exact Rd.any);exact KeyIs.int (f:=intK) rfl zCc;exact hf;rfl)|exact Still.an))|refine Yt 15 4 ?_|refine Yt 31 5 ?_|refine Yt 63 6 ?_|refine Yt 511 9 ?_|refine Yt 143 4 ?_|refine Yt 159 5 ?_|refine Yt 191 6 ?_|(refine Oc 25 (c:=zEK hS) (k':=?_);clear hS;rintro v w1 ⟨mk,mc,rfl,hS⟩;refine Xh ?_)|(refine Ol (Xh ?_) (h:=by first|(apply Still.lookupOk;rfl;rfl;rfl;rfl;(exact Rd.any);exact KeyIs.int (f:=intK) rfl zCc;exact hf;rfl)|exact Still.any))|(refine Oa ?_;clear hS;intro b w1 hS;refine Xh ?_)|(refine Od ?_;clear hS;intro w1 hS;refine Xh ?_)|refine Jo ?_|refine Zb 6 0 7 ?_ ?_|refine Zb 7 3 7 ?_ ?_|refine Za 127 7 ?_|refine Za 255 8 ?_|refine Za 135 3 ?_|refine Za 134 0 ?_|(refine Yd 1023 ?_;exact⟨_,Sb,hS.pk⟩)
 clear hS;intro bd w1 hS;cases of
 · clear hhas hof
   repeat' first|(refine Qv 14 (kS hS.tk2) ?_;clear hS;intro w1 hS)|(apply RO.op;apply OP.callV;rfl;exact hg;rfl;rfl;exact hcall (Row bd [.bool false,.func (.func g) #[] #[]] 105::Row b (wopL o) 57::F) _ ⟨H,ρ,ho,ok,hS.pk⟩;clear hS;rintro v w1 ⟨rfl,hS⟩)|apply Qs|apply Qr|apply Qn|refine Ql ?_|refine Qz ?_|refine Qf ?_|apply Qk
   refine Qw Tryz.func17 ?_;exact⟨rfl,hS.frame.frame⟩
 · rw[hof rfl]at hhas
   subst hhas;clear hof;repeat' first|(refine Qv 14 (kS hS.tk2) ?_;clear hS;intro w1 hS)|(apply RO.op;apply OP.callV;rfl;exact hg;rfl;rfl;exact hcall (Row bd [.bool true,.func (.func g) #[] #[]] 105::Row b (wopL o) 57::F) _ ⟨H,ρ,ho,ok,hS.pk⟩;clear hS;rintro v w1 ⟨rfl,hS⟩)|apply Qs|apply Qr|apply Qn|refine Ql ?_|refine Qy ?_|refine Qf ?_|apply Qk
   refine Qw Tryz.func17 ?_;exact⟨rfl,hS.frame.frame⟩
theorem zUg {g i:Nat}(h:WSt we ρ0 wb N W F w)(hf:zBN (fun u=>decide (o.kind=intK u)) zEo 0=some (i,kV true g))(hof:W.has o.a=false) :
 Cl Tryz.prog 17 [pP wb,opV o] w fun v w'=>v = .tuple #[pI 0,pI 4]∧WSt we ρ0 wb N W F w':=by
 obtain⟨H,ρ,ho,ok,hS⟩:=h;have hhas:(zEg H.ps o.a).2=W.has o.a:=by
  rw[zIA];unfold Wd.has;rw[← ok.parts,List.length_map]
 have kS:∀{F w},St we ρ (Row wb (wdL H W.fresh) 68::Vec 79 4 H.vp H.ps.length (H.ps.flatMap ptyL)::F) w→_:=fun hS=>zBt (n:=o.a) hS
 generalize zEg H.ps o.a=sa at kS hhas;obtain⟨us,is⟩:=sa;simp only at kS hhas;rw[hof]at hhas;subst hhas;refine Run.calls2 (n:=39) Tryz.func17 rfl rfl rfl ?_;repeat' first|apply Qs|apply Qr|apply Qn|refine Ql ?_|(refine Qx ?_;clear hS;intro b w1 hS)
 refine(Run.regionH_cut (fun z:Nat=>Row z [.bool true,.func (.func g) #[] #[]] 105::Row b (wopL o) 57::Row wb (wdL H W.fresh) 68::zAA H.p zAB W.L::KN H.kb H.p W.heard W.K::zAD H.stb 8 (kvD H.ds)::Each devI H.ds::Vec 79 4 H.vp H.ps.length (H.ps.flatMap ptyL)::Each (ptI H.p) H.ps::Vec 80 1 H.vm H.ms.length (H.ms.flatMap mgL)::Vec 33 13 H.ve W.evs.length (W.evs.flatMap evtL)::F) (fun z=>[(0,pP wb),(3,pP b),(6,pP z),(7,.bool true)])
  (show St we ρ (Row b (wopL o) 57::Row wb (wdL H W.fresh) 68::zAA H.p zAB W.L::KN H.kb H.p W.heard W.K::zAD H.stb 8 (kvD H.ds)::Each devI H.ds::Vec 79 4 H.vp H.ps.length (H.ps.flatMap ptyL)::Each (ptI H.p) H.ps::Vec 80 1 H.vm H.ms.length (H.ms.flatMap mgL)::Vec 33 13 H.ve W.evs.length (W.evs.flatMap evtL)::F) _ from hS) (List.Sublist.refl _) (by rfl) (by rfl) (by rfl) ?_ ?_)
 · clear hS
   intro w1 hS;refine RH.relist (listed':=bm 10 0) (by kernel_rfl) ?_;repeat' first|refine Yl 0 1 ?_|(refine Yt 2 2 ?_ (h:=by first|(apply Still.lookupOk;rfl;rfl;rfl;rfl;(exact Rd.any);exact KeyIs.int (f:=intK) rfl zCc;exact hf;rfl)|exact Still.an))|refine Yt 15 4 ?_|refine Yt 31 5 ?_|refine Yt 63 6 ?_|refine Yt 511 9 ?_|refine Yt 143 4 ?_|refine Yt 159 5 ?_|refine Yt 191 6 ?_|(refine Oc 25 (c:=zEK hS) (k':=?_);clear hS;rintro v w1 ⟨mk,mc,rfl,hS⟩;refine Xh ?_)|(refine Ol (Xh ?_) (h:=by first|(apply Still.lookupOk;rfl;rfl;rfl;rfl;(exact Rd.any);exact KeyIs.int (f:=intK) rfl zCc;exact hf;rfl)|exact Still.any))|(refine Oa ?_;clear hS;intro b w1 hS;refine Xh ?_)|(refine Od ?_;clear hS;intro w1 hS;refine Xh ?_)|refine Jo ?_|refine Zb 6 0 7 ?_ ?_|refine Zb 7 3 7 ?_ ?_|refine Za 127 7 ?_|refine Za 255 8 ?_|refine Za 135 3 ?_|refine Za 134 0 ?_|(refine Yd 1023 ?_;exact⟨_,Sb,hS.pk⟩)
 clear hS;intro bd w1 hS;repeat' first|(refine Qv 14 (kS hS.tk2) ?_;clear hS;intro w1 hS)|apply Qs|apply Qr|apply Qn|refine Ql ?_|refine Qy ?_|refine Qt ?_|refine Qf ?_|apply Qk
 refine Qw Tryz.func17 ?_;exact⟨rfl,H,ρ,ho,ok,hS.pk⟩
theorem zHx (h:WSt we ρ0 wb N W F w)(hv:Vars we)(hT:zBf we)(hR:zCz we)(hr:OpR ρ0 o)(hN:N<500) :
 Cl Tryz.prog 17 [pP wb,opV o] w fun v w'=>v=ansV (doW W o)∧WSt we ρ0 wb (N+1) (doW W o).1 F w':=by
 by_cases hk:o.kind<0∨9<o.kind
 · rw[show doW W o=(W,0,1) by unfold doW;rw[if_pos hk]]
   exact(zS4 h hk).mono fun v w' h=>⟨h.1,h.2.next hN⟩
 have hfind:∀k:Int,o.kind=k→∀i x,zBN (fun u=>decide (k=intK u)) zEo 0=some (i,x)→zBN (fun u=>decide (o.kind=intK u)) zEo 0=some (i,x):=fun k e i x h=>by rw[e];exact h
 have hno:∀(g i:Nat),ofW o.kind=true→zBN (fun u=>decide (o.kind=intK u)) zEo 0=some (i,kV true g)→W.has o.a=false →
  Cl Tryz.prog 17 [pP wb,opV o] w fun v w'=>v=ansV (doW W o)∧WSt we ρ0 wb (N+1) (doW W o).1 F w':=by
  intro g i h1 h2 h3;rw[show doW W o=(W,0,4) by unfold doW;rw[if_neg hk,if_pos ⟨h1,h3⟩]];exact(zUg h h2 h3).mono fun v w' h=>⟨h.1,h.2.next hN⟩
 have hc:o.kind=0∨o.kind=1∨o.kind=2∨o.kind=3∨o.kind=4∨o.kind=5∨o.kind=6∨o.kind=7∨o.kind=8∨o.kind=9:=by omega
 rcases hc with hc|hc|hc|hc|hc|hc|hc|hc|hc|hc
 · rw[show doW W o=zBO W o by unfold doW ofW;simp[hc]]
   exact zCX h (hfind _ hc 0 _ (by rfl)) (by kernel_rfl) (by simp) fun F w h=>zKH h hN
 · rw[show doW W o=zEj W o by unfold doW ofW;simp[hc]]
   exact zCX h (hfind _ hc 1 _ (by rfl)) (by kernel_rfl) (by simp) fun F w h=>zMj h hN
 · rw[show doW W o=pskW W o by unfold doW ofW;simp[hc]]
   exact zCX h (hfind _ hc 2 _ (by rfl)) (by kernel_rfl) (by simp) fun F w h=>zO6 h hN
 · rw[show doW W o=zEX W o by unfold doW ofW;simp[hc]]
   exact zCX h (hfind _ hc 3 _ (by rfl)) (by kernel_rfl) (by simp) fun F w h=>zMk h hv hT hR hr hN
 · cases hh:W.has o.a
   · exact hno _ 4 (by rw[hc];rfl) (hfind _ hc 4 _ (by rfl)) hh
   · rw[show doW W o=zBC W o by unfold doW ofW;simp[hc,hh]]
     exact zCX h (hfind _ hc 4 _ (by rfl)) (by kernel_rfl) (fun _=>hh) fun F w h=>zLC h hh hN
 · cases hh:W.has o.a
   · exact hno _ 5 (by rw[hc];rfl) (hfind _ hc 5 _ (by rfl)) hh
   · rw[show doW W o=zHd W o by unfold doW ofW;simp[hc,hh]]
     exact zCX h (hfind _ hc 5 _ (by rfl)) (by kernel_rfl) (fun _=>hh) fun F w h=>zMf h hh hN
 · cases hh:W.has o.a
   · exact hno _ 6 (by rw[hc];rfl) (hfind _ hc 6 _ (by rfl)) hh
   · rw[show doW W o=zDb W o by unfold doW ofW;simp[hc,hh]]
     exact zCX h (hfind _ hc 6 _ (by rfl)) (by kernel_rfl) (fun _=>hh) fun F w h=>zMh h hh hN
 · rw[show doW W o=zCK W o by unfold doW ofW;simp[hc]]
   exact zCX h (hfind _ hc 7 _ (by rfl)) (by kernel_rfl) (by simp) fun F w h=>zLH h hr hN
 · rw[show doW W o=zBq W o by unfold doW ofW;simp[hc]]
   exact zCX h (hfind _ hc 8 _ (by rfl)) (by kernel_rfl) (by simp) fun F w h=>zKI h hN
 · cases hh:W.has o.a
   · exact hno _ 9 (by rw[hc];rfl) (hfind _ hc 9 _ (by rfl)) hh
   · rw[show doW W o=zB3 W o by unfold doW ofW;simp[hc,hh]]
     exact zCX h (hfind _ hc 9 _ (by rfl)) (by kernel_rfl) (fun _=>hh) fun F w h=>zLF h hh hN
end
end
section
variable {we w:World}{ρ0 ρ:List (Nat × Obj)}{σ F:List HP}{wb N:Nat}{W:Wd}
theorem zJR (hS:St we ρ0 σ w):Cl Tryz.prog 19 [] w fun v w'=>∃wb,v = pP wb∧WSt we ρ0 wb 0 (wd0 [Nd.z]) σ w':=by
 refine Run.calls0 (n:=9) Tryz.func19 rfl rfl ?_;repeat' first|(refine Qc 31 (c:=zRc hS) (k':=?_);clear hS;rintro v w1 ⟨p,rfl,hS⟩)|(refine Qc 32 (c:=zPz hS) (k':=?_);clear hS;rintro v w1 ⟨kb,rfl,hS⟩)|(refine Qc 33 (c:=zWq hS) (k':=?_);clear hS;rintro v w1 ⟨stb,rfl,hS⟩)|apply Qs|apply Qr|apply Qn|refine Ql ?_|(refine Qx ?_;clear hS;intro b w1 hS)
 refine Qw Tryz.func19 ?_;refine⟨_,rfl,⟨p,kb,stb,[],[],[],.slice none 0 0,.slice none 0 0,.slice none 0 0⟩,ρ0,Over.refl _ _,?_,?_⟩
 · exact WOk.mk' (by simp) (by simp) (by simp[zBd]) rfl (by simp) (by simp) (by simp) rfl (by simp) (by simp) (by simp) rfl (by simp) (by simp) (by simp) (by omega)
 · have h1:=zAh (el:=79) (size:=4) (zK5 (f:=devI) (zAh (el:=80) (size:=1) (zAh (el:=33) (size:=13) (zK5 (f:=ptI p) hS))))
   exact h1.pk
theorem zQL (e:Evt):(evtL e).length=13:=rfl
theorem zVs {evs:List Evt}:∀u∈evs.flatMap evtL,one u=true:=by
 intro u hu;obtain⟨e,he,hu⟩:=List.mem_flatMap.1 hu;exact zST e u hu
theorem zSi {vp:Value}{evs:List Evt}(hn:evs.length≤10000)(ht:Take (Vec 33 13 vp evs.length (evs.flatMap evtL)) σ F)(hS:St we ρ σ w) :
 Cl Tryz.prog 21 [vp] w fun u w'=>St we ρ (Vec 33 13 u evs.length (evs.flatMap evtL) :: σ) w':=by
 have hS1:=hS.take ht;obtain⟨hl,⟨rfl,h0,hx0,-⟩|⟨g,cap,spare,rfl,k1,k2,k3,hS2⟩⟩:=zBP hS1
 · clear hS1
   refine Run.calls1 (n:=8) Tryz.func21 rfl rfl rfl ?_;repeat' first|apply Qs|apply Qr|apply Qn|refine Ql ?_|refine Qt ?_
   refine Qw Tryz.func21 ?_;rw[h0,hx0];exact zAh hS
 · clear hS1
   refine Run.calls1 (n:=8) Tryz.func21 rfl rfl rfl ?_;clear hS;have hS:=hS2;clear hS2;repeat' first|(apply RO.op;apply OP.append (size:=13) (bytes:=104) (k:=evs.length) (news:=evs.flatMap evtL) (zBF (size:=13) (xs:=[]) (l:=[]) (cap:=0) hS (Nat.le_refl _) (Nat.zero_le _) rfl rfl);rfl;rfl;rfl;rfl;rfl;rfl;rfl;rfl;exact(by omega);exact .head;exact(.own .head);(exact(by rw[List.drop_zero,← hl];exact List.take_left));(exact hl);exact zVs;(exact(by unfold maxLen;omega));(exact(by omega));rfl;clear hS;intro v' w1 hS)|apply Qs|apply Qr|apply Qn|refine Ql ?_|(refine Qg ?_;clear hS;intro b w1 hS)|refine Qf ?_|apply Qk
   refine Qw Tryz.func21 ?_;rw[Nat.zero_add,List.nil_append]at hS;have hS3:=(zBF (m:=evs.length) (xs:=evs.flatMap evtL) (hS.take (.tail .head)) k1 k2 (by rw[List.length_append,hl,k3,← Nat.add_mul,Nat.add_sub_cancel' k1]) (by rw[← hl];exact List.take_left))
   show St we ρ (Vec 33 13 v' evs.length (evs.flatMap evtL) :: σ) w1;exact hS3.untake (.tail ht)
theorem zD3 {H:Hd}{f:Int}{evs:List Evt}(hn:evs.length≤10000)(hS:St we ρ (Row wb (wdL H f) 68::Vec 33 13 H.ve evs.length (evs.flatMap evtL)::F) w) :
 Cl Tryz.prog 8 [pP wb] w fun v w'=>∃ ρ',Over we ρ ρ'∧Sl ρ' evtL 13 v evs∧St we ρ' (Row wb (wdL H f) 68::Vec 33 13 H.ve evs.length (evs.flatMap evtL)::F) w':=by
 have kC:∀{σ F:List HP} {w:World} (ht:Take (Vec 33 13 H.ve evs.length (evs.flatMap evtL)) σ F),St we ρ σ w→_:=fun ht hS=>zSi hn ht hS
 refine Run.calls1 (n:=8) Tryz.func8 rfl rfl rfl ?_;repeat' first|(refine Qc 21 (c:=kC An hS) (k':=?_);clear hS;intro v w1 hS)|apply Qs|apply Qr|apply Qn|refine Ql ?_
 refine Qw Tryz.func8 ?_;obtain⟨ρ',o2,s2,hT⟩:=zAH zQL hS;exact⟨ρ',o2,s2,hT⟩
theorem zB7 {H:Hd}{f:Int}(hS:St we ρ (Row wb (wdL H f) 68::F) w) :
 Cl Tryz.prog 11 [pP wb] w fun v w'=>v = pP H.kb∧St we ρ (Row wb (wdL H f) 68::F) w':=by
 refine Run.calls1 (n:=7) Tryz.func11 rfl rfl rfl ?_;repeat' first|apply Qs|apply Qr|apply Qn|refine Ql ?_
 refine Qw Tryz.func11 ?_;exact⟨rfl,hS⟩
theorem zD4 {H:Hd}{f:Int}(hS:St we ρ (Row wb (wdL H f) 68::F) w) :
 Cl Tryz.prog 9 [pP wb] w fun v w'=>v = pP H.p∧St we ρ (Row wb (wdL H f) 68::F) w':=by
 refine Run.calls1 (n:=7) Tryz.func9 rfl rfl rfl ?_;repeat' first|apply Qs|apply Qr|apply Qn|refine Ql ?_
 refine Qw Tryz.func9 ?_;exact⟨rfl,hS⟩
theorem zLD {H:Hd}{f:Int}{ps:List PtH}{ms:List (List Int × Value)}{kv:List (Int × Nat)}(hS:St we ρ (zAD H.stb 8 kv::Row wb (wdL H f) 68::Vec 79 4 H.vp ps.length (ps.flatMap ptyL)::Vec 80 1 H.vm ms.length (ms.flatMap mgL)::F) w) :
 Cl Tryz.prog 13 [pP wb] w fun v w'=>v = .agg #[pI kv.length,pI ps.length,pI ms.length] ∧
  St we ρ (zAD H.stb 8 kv::Row wb (wdL H f) 68::Vec 79 4 H.vp ps.length (ps.flatMap ptyL)::Vec 80 1 H.vm ms.length (ms.flatMap mgL)::F) w':=by
 obtain⟨Hp,Hkb,Hstb,Hds,Hps,Hms,Hvp,Hvm,Hve⟩:=H;simp only at hS ⊢;obtain⟨pk,capp,rfl⟩:=zKJ (hS.take (A:=Vec 79 4 Hvp ps.length (ps.flatMap ptyL)) An);obtain⟨pkm,capm,rfl⟩:=zAG (hS.take (A:=Vec 80 1 Hvm ms.length (ms.flatMap mgL)) An);have kL:∀{F w},St we ρ (zAD Hstb 8 kv::F) w→_:=fun hS=>zWR hS
 refine Run.calls1 (n:=19) Tryz.func13 rfl rfl rfl ?_;repeat' first|apply Qs|apply Qr|apply Qn|(refine Qa ?_;clear hS;intro b w1 hS)
 refine(Run.regionH_cut (fun _:Unit=>zAD Hstb 8 kv::Row b [pI kv.length,pI ps.length,pI ms.length] 46::Row wb (wdL ⟨Hp,Hkb,Hstb,Hds,Hps,Hms,.slice pk ps.length capp,.slice pkm ms.length capm,Hve⟩ f) 68::Vec 79 4 (.slice pk ps.length capp) ps.length (ps.flatMap ptyL)::Vec 80 1 (.slice pkm ms.length capm) ms.length (ms.flatMap mgL)::F) (fun _=>[(2,pP b)])
  (show St we ρ (zAD Hstb 8 kv::Row b [pI 0,pI 0,pI 0] 46::Row wb (wdL ⟨Hp,Hkb,Hstb,Hds,Hps,Hms,.slice pk ps.length capp,.slice pkm ms.length capm,Hve⟩ f) 68::Vec 79 4 (.slice pk ps.length capp) ps.length (ps.flatMap ptyL)::Vec 80 1 (.slice pkm ms.length capm) ms.length (ms.flatMap mgL)::F) _ from hS.pk) (.cons _ (.cons _ (List.Sublist.refl _))) (by rfl) (by rfl) (by rfl) ?_ ?_)
 · clear hS
   intro w1 hS;refine RH.relist (listed':=bm 17 0) (by kernel_rfl) ?_;repeat' first|refine Yt 0 0 ?_|refine Yt 1 1 ?_|refine Yl 3 2 ?_|refine Yl 7 3 ?_|refine Yt 15 5 ?_|refine Yt 47 6 ?_|refine Yl 111 7 ?_|refine Yl 239 8 ?_|refine Yt 495 9 ?_|refine Yt 1007 10 ?_|refine Yt 2031 11 ?_|refine Yl 4079 12 ?_|refine Yl 8175 13 ?_|refine Yt 16367 14 ?_|refine Yt 32767 15 ?_|(refine Ov 24 (kL hS.tk) ?_;clear hS;intro w1 hS;refine Xh ?_)|(refine Od ?_;clear hS;intro w1 hS;refine Xh ?_)|refine Jo ?_|refine Za 32751 4 ?_|refine Za 65535 16 ?_|(refine Yd 131071 ?_;exact⟨(),Sb,hS.pk⟩)
 clear hS;rintro - w1 hS;refine Qw Tryz.func13 ?_;exact Xp
end
end Go.Proofs.YtcikdogkkgefcaaGreatDoor
