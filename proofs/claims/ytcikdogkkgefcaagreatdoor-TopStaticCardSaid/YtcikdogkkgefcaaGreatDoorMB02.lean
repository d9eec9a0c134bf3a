/- What is known at the end: the two laws. -/
import Derived.Test.YtcikdogkkgefcaaGreatDoorMB01
namespace Go.Proofs.YtcikdogkkgefcaaGreatDoor
set_option maxRecDepth 8000
set_option maxHeartbeats 16000000
set_option linter.unusedVariables false
set_option linter.unusedSimpArgs false
open Go Go.RowKit
section
variable {Lf L:List Nd}{B:Int→Prop}{E:List Evt}{lim:Nat}{h:Sh}{who t:Int}
theorem zS7 (f:Fin Lf B E)(he:(zB9 lim L h who t).2.2=0)(p:Pf Lf (zB9 lim L h who t).1)(k:zFz Lf B E h.y):zFz Lf B E (zB9 lim L h who t).2.1.y:=by
 unfold zB9 at he p ⊢;split at he
 · rename_i q;exact absurd he q
 · rename_i q
   rw[if_neg q]at p ⊢;obtain⟨y,e1,u⟩:=zEe f he p;rw[e1];exact u.key k
theorem zH2 (f:Fin Lf B E)(who:Int):∀(l:List Int) (L:List Nd) (h:Sh),(zAl lim who L h l).2.2=0→Pf Lf (zAl lim who L h l).1→zFz Lf B E h.y→zFz Lf B E (zAl lim who L h l).2.1.y
 | [],L,h,he,p,k=>k
 | t::l,L,h,he,p,k=>by
   unfold zAl at he p ⊢;split at he
   · rename_i q
     rw[if_pos q]at p ⊢;exact zH2 f who l _ _ he p (zS7 f q (p.back (zFD who _ _ _)) k)
   · rename_i q;exact absurd he q
theorem zLX (f:Fin Lf B E){p:Pat}{role:Int}{k:Ks}{q:List Nd × Sy × Int}(he:(zAu lim p role k q).2.2=0)(hp:Pf Lf (zAu lim p role k q).1)(hk:zFz Lf B E q.2.1):zFz Lf B E (zAu lim p role k q).2.1.y:=by
 unfold zAu at he hp ⊢;dsimp only at he hp ⊢;split at he
 · rename_i q1;exact absurd he q1
 · rename_i q1
   rw[if_neg q1]at hp ⊢;split at he
   · rename_i q2;exact absurd he q2
   · rename_i q2
     rw[if_neg q2]at hp ⊢;split at he
     · rename_i q3;exact absurd he q3
     · rename_i q3
       rw[if_neg q3]at hp ⊢;exact zH2 f 1 _ _ _ he hp (zH2 f 0 _ _ _ (Classical.not_not.1 q2) (hp.back (zFD 1 _ _ _)) hk)
theorem zSs {name:ByteArray}{pr:Int}(he:(zBX lim L name pr).2.2=0):zFz Lf B E (zBX lim L name pr).2.1:=by
 intro hc;unfold zBX at he hc;split at he
 · simp at he
 · rename_i q1
   rw[if_neg q1]at hc;split at he
   · rename_i q2
     rw[if_pos q2]at hc;rw[(zDR he).2]at hc;exact Bool.noConfusion hc
   · rename_i q2;exact absurd he q2
theorem zUq (f:Fin Lf B E){d:Dv}{p:Pat}{role peer pr:Int}(he:(zAX lim L d p role peer pr).2.2=0)(hp:Pf Lf (zAX lim L d p role peer pr).1):SInv Lf B E (zAX lim L d p role peer pr).2.1:=by
 have hok:=(zGo he).1;unfold zAX at he hp hok ⊢;split at he
 · simp at he
 · rename_i q1
   rw[if_neg q1]at hp hok ⊢;split at he
   · rename_i q2;exact absurd he q2.2
   · rename_i q2
     rw[if_neg q2]at hp hok ⊢;dsimp only at he hp hok ⊢;generalize hks:zKU (zBH p role).1 d peer=ks at he hp hok ⊢;obtain⟨s1,s2,s3⟩:=zON he;have hkey:zFz Lf B E (zBY lim L p role pr ks).2.1.y∧(zBH p role).2=0:=by
      unfold zBY at he hp ⊢;split at he
      · rename_i q3;exact absurd he q3
      · rename_i q3
        rw[if_neg q3]at hp ⊢;split at he
        · simp at he
        · rename_i q4
          rw[if_neg q4]at hp ⊢;split at he
          · simp at he
          · rename_i q5
            rw[if_neg q5]at hp ⊢;refine⟨zLX f he hp (zSs ?_),Classical.not_not.1 q3⟩;unfold zAu at he;dsimp only at he;split at he
            · rename_i q6;exact absurd he q6
            · rename_i q6;exact Classical.not_not.1 q6
     have hck:(zCL p).2.2=0∧zBS p=true:=by
      have hn:=hkey.2;unfold zBH at hn;split at hn
      · simp at hn
      · split at hn
        · rename_i q6;exact absurd hn q6
        · rename_i q6
          exact⟨Classical.not_not.1 q6,zFu (Classical.not_not.1 q6)⟩
     obtain⟨c1,c2⟩:=hck;unfold zCL at c1;rw[if_neg (by rw[c2];simp)]at c1;refine⟨hok,⟨zE0 p,2,0,?_,⟨hkey.1,fun k=>Bool.noConfusion k,fun k=>?_⟩⟩,fun hd=>?_⟩
     · show(zDc (zBY lim L p role pr ks).2.1.p (zE0 p) 2 0 ((zBY lim L p role pr ks).2.1.p.msgs.drop (zBY lim L p role pr ks).2.1.at_)).2.2=0
       rw[s2,s3];exact c1
     · have h0:∀r,zFm r Trk.z=false:=fun r=>by unfold zFm;split<;>rfl
       exact Bool.noConfusion ((h0 _).symm.trans k)
     · exfalso
       have h2:decide ((zBY lim L p role pr ks).2.1.p.msgs.length≤(zBY lim L p role pr ks).2.1.at_)=true:=hd;rw[s2,s3]at h2;have h3:=of_decide_eq_true h2;have h4:=(zAs c2).2.2.1;exact h4 (List.eq_nil_of_length_eq_zero (by omega))
end
def B0 (Wf:Wd)(x:Int):Prop:=(nd Wf.L x).k=1∧(∀e∈Wf.evs,e.note.sent=true→e.note.payload≠x)∧can Wf.L Wf.K x=true
abbrev KnW (Wf:Wd)(x:Int):Prop:=Kn Wf.L (B0 Wf) Wf.evs x
theorem zSM {Wf:Wd}(g:GI Wf):Fin Wf.L (B0 Wf) Wf.evs :=
 ⟨fun x h=>h.1,fun e he hs=>⟨(g.pay e he hs).2.1,(g.pay e he hs).2.2.1,fun h=>h.2.1 e he hs rfl⟩,g.one⟩
structure BI (Wf W:Wd):Prop where
 kn:∀y,W.K y=true→KnW Wf y
 ses:∀x∈W.parts,SInv Wf.L (B0 Wf) Wf.evs x.s
 evs:∀e∈W.evs,e.note.sent=true→zO3 Wf.L (B0 Wf) Wf.evs e.note
section
variable {Wf W W':Wd}{o:WOp}{x:Int}
theorem BI.same (b:BI Wf W)(h1:W'.K=W.K)(h2:W'.parts=W.parts)(h3:W'.evs=W.evs):BI Wf W':=⟨by rw[h1];exact b.kn,by rw[h2];exact b.ses,by rw[h3];exact b.evs⟩
theorem zK9 (f:Fin Wf.L (B0 Wf) Wf.evs)(g:GI W)(p:Pf Wf.L W.L)(b:BI Wf W)(hx:has W.L x=true→KnW Wf x):BI Wf (zAd W x).1:=by
 unfold zAd;split
 · rename_i h
   exact⟨fun y hy=>zTh f ⟨_,g.good⟩ p (fun z hz=>⟨g.known z hz,b.kn z hz⟩) h (hx h) hy,b.ses,b.evs⟩
 · exact b
theorem zMb (f:Fin Wf.L (B0 Wf) Wf.evs):∀(l:List Int) {W:Wd},GI W→Pf Wf.L W.L→BI Wf W→(∀x∈l,KnW Wf x)→BI Wf (zAz W l)
 | [],W,g,p,b,hx=>b
 | x::l,W,g,p,b,hx=>by
   have h:=zGX g x;exact zMb f l h.1 (by rw[h.2.2.2.1];exact p) (zK9 f g p b fun _=>hx x (List.mem_cons_self ..)) (fun y hy=>hx y (List.mem_cons_of_mem _ hy))
theorem BI.part (b:BI Wf W){n:Int}{y:Pt}(h:SInv Wf.L (B0 Wf) Wf.evs y.s):BI Wf (W.setPart n y):=by
 refine⟨b.kn,fun z hz=>?_,b.evs⟩;rcases List.mem_or_eq_of_mem_set hz with h1|rfl
 · exact b.ses z h1
 · exact h
theorem zU7 (g:GI Wf){e:Evt}(he:e∈Wf.evs)(hs:e.note.sent=true)(h:zWd Wf.L e.note x):KnW Wf x:=by
 rcases h with (h|⟨h1,h2⟩)|⟨i,ad,h⟩|⟨h1,h2⟩
 · exact .free (.inr (.inr h))
 · exact .pub h1 h2
 · exact .sent (e:=e) (by rw[h]) he hs (by rw[h]) (by rw[h])
 · refine .pay he hs h2 ?_
   rw[h1];exact .free (.inl (by rw[g.good.wf.zero];rfl))
theorem zHX:∀(l:List Int) (W:Wd) (ps:List Pt),zAz { W with parts:=ps } l = { zAz W l with parts:=ps }
 | [],W,ps=>rfl
 | x::l,W,ps=>by
   have h:(zAd { W with parts:=ps } x).1 = { (zAd W x).1 with parts:=ps }:=by unfold zAd;simp only;split<;>rfl
   show zAz (zAd { W with parts:=ps } x).1 l = { zAz (zAd W x).1 l with parts:=ps };rw[h];exact zHX l _ ps
theorem zMi (W:Wd)(L:List Nd)(n:Int)(x:Pt)(m:List Int)(ev:Evt):(wr W L n x m ev).L=L∧(wr W L n x m ev).evs=W.evs++[ev]∧(wr W L n x m ev).parts=W.parts.set n.toNat x∧(wr W L n x m ev).K=(zAz { W with L:=L } m).K:=by
 obtain⟨l1,l2,l3,l4,-⟩:=zEI m ({ W with L:=L }.setPart n x);have h:=zHX m { W with L:=L } (W.parts.set n.toNat x);have he:(({ W with L:=L }:Wd).setPart n x) = { ({ W with L:=L }:Wd)with parts:=W.parts.set n.toNat x }:=rfl;unfold wr;dsimp only;refine⟨l1,by rw[l2];rfl,l4,?_⟩;rw[he,h]
theorem zWy (f:Fin Wf.L (B0 Wf) Wf.evs){L:List Nd}{n:Int}{x:Pt}{m:List Int}{ev:Evt}(g:GI { W with L:=L })(p:Pf Wf.L L)(b:BI Wf W)(hm:∀y∈m,KnW Wf y)(hx:SInv Wf.L (B0 Wf) Wf.evs x.s)(hev:zO3 Wf.L (B0 Wf) Wf.evs ev.note):BI Wf (wr W L n x m ev):=by
 obtain⟨w1,w2,w3,w4⟩:=zMi W L n x m ev;have h:=zMb f m g p (b.same (W':={ W with L:=L }) rfl rfl rfl) hm;refine⟨?_,?_,?_⟩
 · rw[w4];exact h.kn
 · rw[w3]
   intro y hy;rcases List.mem_or_eq_of_mem_set hy with h1|rfl
   · exact b.ses y h1
   · exact hx
 · rw[w2]
   intro e he hs;rcases List.mem_append.1 he with h1|h1
   · exact b.evs e h1 hs
   · rw[List.mem_singleton]at h1;subst h1;exact hev
theorem zWz (gf:GI Wf)(g:GI W)(b:BI Wf W)(hf:W.fresh<4294960000)(hs:∀s∈o.steps,0≤s.n)(tt:To Wf (doW W o).1):BI Wf (doW W o).1:=by
 have f:=zSM gf;obtain⟨gd,nx⟩:=zVm (o:=o) g hf hs;have tw:To Wf W:=nx.back tt;revert tt
 revert gd nx
 unfold doW;split
 · exact fun _ _ _=>b
 split
 · exact fun _ _ _=>b
 rename_i h1 h2;have hh:ofW o.kind=true→W.has o.a=true:=fun h=>by
  cases k:W.has o.a with
  | true=>rfl
  | false=>exact absurd ⟨h,k⟩ h2
 split
 ·
  intro _ _ tt;obtain⟨a1,a2,a3,a4,a5,a6,a7,a8⟩:=zDh g (by omega);revert tt
  unfold zBO;split
  · exact fun _=>b
  split
  · exact fun _=>b
  split
  · exact fun _=>b
  dsimp only;generalize zAw W=q at a1 a2 a3 a4 a5 a6 a7 a8 ⊢;obtain⟨W1,p,e1⟩:=q;dsimp only at a1 a2 a3 a4 a5 a6 a7 a8 ⊢;have b1:BI Wf W1:=b.same a4 a6 a3;split
  · exact fun _=>b1
  · split
    · exact fun _=>b1.same rfl rfl rfl
    · rename_i h4 h5
      intro tt;have h4:=a8 (by omega);have ex:Ex zAB (Sn0 W1.L W1.evs) W1.L (mk zAB W1.L ⟨2,0,p,0,0⟩).1:=zOu (by simp) (fun _=>.inr (by rw[a3];exact h4.2));have g2:=zMH a1 ex;have hs2:Sn0 (mk zAB W1.L ⟨2,0,p,0,0⟩).1 W1.evs p:=by
       obtain⟨⟨M,hM,-⟩,-⟩:=ex;rw[hM];exact Sn0.more (.inr (by rw[a3];exact h4.2))
      have g3:GI { W1 with L:=(mk zAB W1.L ⟨2,0,p,0,0⟩).1,devs:=W1.devs++[⟨o.a,p,o.b,[],[]⟩] }:=zNu g2 (fun d hd=>by
       rcases List.mem_append.1 hd with h|h
       · exact g2.dev d h
       · rw[List.mem_singleton]at h
         subst h;exact⟨hs2,by simp⟩)
      have pf:Pf Wf.L (mk zAB W1.L ⟨2,0,p,0,0⟩).1:=by
       have:=tt.1;rw[(zDt _ _).1]at this;exact this
      refine zK9 f g3 pf (b1.same rfl rfl rfl) fun _=>.free (.inr (.inr ?_))
      rw[(zJF (Classical.not_not.1 h5) pf).2]
 split
 ·
  intro _ _ tt;unfold zEj;split
  · exact b
  · split
    · exact b
    · exact b.same rfl rfl rfl
 split
 ·
  intro _ _ tt;obtain⟨a1,a2,a3,a4,a5,a6,a7,a8⟩:=zDh g (by omega);unfold pskW;split
  · split
    · exact b
    · dsimp only
      split
      · exact b.same a4 a6 a3
      · exact b.same a4 a6 a3
  · exact b
 split
 ·
  intro _ _ tt;revert tt
  unfold zEX;split
  · exact fun _=>b
  · rename_i d hd
    split
    · exact fun _=>b
    · dsimp only
      split
      · exact fun _=>b.same rfl rfl rfl
      · rename_i h4
        split
        · exact fun _=>b.same rfl rfl rfl
        · intro tt
          refine⟨b.kn,fun x hx=>?_,b.evs⟩;rcases List.mem_append.1 hx with h|h
          · exact b.ses x h
          · rw[List.mem_singleton]at h
            subst h;exact zUq f (Classical.not_not.1 h4) tt.1
 split
 ·
  rename_i k;intro gd _ tt;have hpm:=zBu (hh (by unfold ofW;simp[k]));have si:=b.ses _ hpm;obtain⟨a1,a2,a3,a4,a5,a6,a7,a8⟩:=zDh g (by omega);revert gd tt
  unfold zBC;split
  · exact fun _ _=>b
  dsimp only;generalize zAw W=q at a1 a2 a3 a4 a5 a6 a7 a8 ⊢;obtain⟨W1,ep,e1⟩:=q;dsimp only at a1 a2 a3 a4 a5 a6 a7 a8 ⊢;split
  · exact fun _ _=>b.same a4 a6 a3
  rename_i h3;obtain⟨-,b2⟩:=a8 (by omega);rw[← a3]at b2;obtain⟨c1,c2,c3,c4,c5,c6,c7,c8⟩:=zDh a1 (by omega);generalize zAw W1=q at c1 c2 c3 c4 c5 c6 c7 c8 ⊢;obtain⟨W2,pl,e2⟩:=q;dsimp only at c1 c2 c3 c4 c5 c6 c7 c8 ⊢;have bb:BI Wf W2:=b.same (c4.trans a4) (c6.trans a6) (c3.trans a3);split
  · exact fun _ _=>bb
  rename_i h4;split
  · exact fun _ _=>bb.same rfl rfl rfl
  rename_i h5;intro gd tt;have tt2:To Wf (wr W2 (zAE zAB W2.L (W.part o.a).s ep pl o.wa o.wc).1 o.a ⟨(zAE zAB W2.L (W.part o.a).s ep pl o.wa o.wc).2.1,(W.part o.a).box,(W.part o.a).dev⟩ (zAE zAB W2.L (W.part o.a).s ep pl o.wa o.wc).2.2.1 ⟨o.a,(W.part o.a).dev,(zAE zAB W2.L (W.part o.a).s ep pl o.wa o.wc).2.1.note⟩):=tt;show BI Wf (wr W2 (zAE zAB W2.L (W.part o.a).s ep pl o.wa o.wc).1 o.a ⟨(zAE zAB W2.L (W.part o.a).s ep pl o.wa o.wc).2.1,(W.part o.a).box,(W.part o.a).dev⟩ (zAE zAB W2.L (W.part o.a).s ep pl o.wa o.wc).2.2.1 ⟨o.a,(W.part o.a).dev,(zAE zAB W2.L (W.part o.a).s ep pl o.wa o.wc).2.1.note⟩);clear tt gd;have pf:Pf Wf.L (zAE zAB W2.L (W.part o.a).s ep pl o.wa o.wc).1:=by
   have h:=tt2.1;rw[(zMi W2 _ _ _ _ _).1]at h;exact h
  have sw:=zQ7 f si (Classical.not_not.1 h5) pf;have hev:(⟨o.a,(W.part o.a).dev,(zAE zAB W2.L (W.part o.a).s ep pl o.wa o.wc).2.1.note⟩:Evt)∈Wf.evs:=tt2.2.1 _ (by rw[(zMi W2 _ _ _ _ _).2.1];exact List.mem_append_right _ (List.mem_singleton.2 rfl));have ex:Ex zAB (Sn0 W2.L W2.evs) W2.L (zAE zAB W2.L (W.part o.a).s ep pl o.wa o.wc).1:=by
   have hpt:=g.part _ hpm;have gr2:Gr 2 W.L W2.L:=a7.trans c7 (by omega);have s2:∀{x},Sn0 W.L W.evs x→Sn0 W2.L W2.evs x:=fun {x} h=>by
    rw[c3,a3];obtain⟨M,hM,-⟩:=gr2;rw[hM];exact h.more
   have se2:Sn0 W2.L W2.evs ep:=by
    rw[c3];obtain⟨M,hM,-⟩:=c7;rw[hM];exact Sn0.more (.inr b2)
   exact zFo se2 (s2 hpt.2.1) (s2 hpt.2.2.1)
  exact zWy f (zMH c1 ex) pf bb (fun x hx=>zU7 gf hev sw.sent (sw.parts x hx)) sw.inv sw.note
 split
 ·
  rename_i k;intro _ _ tt;have si:=b.ses _ (zBu (hh (by unfold ofW;simp[k])));unfold zHd;split
  · exact b
  · split
    · exact b.part si
    · exact b
 split
 ·
  rename_i k;intro _ _ tt;have si:=b.ses _ (zBu (hh (by unfold ofW;simp[k])));revert tt
  unfold zDb;dsimp only;split
  · exact fun _=>b
  · rename_i n l hb
    split
    · intro tt
      have sr:=zOP (lim:=zAB) (L:=W.L) (d:=(W.dev (W.part o.a).dev).getD dvZ) (msg:=W.msgs.getD n.toNat []) (wa:=o.wa) (wc:=o.wc) f si tt.1;exact BI.part (W:={ W with L:=(zAP zAB W.L (W.part o.a).s ((W.dev (W.part o.a).dev).getD dvZ) (W.msgs.getD n.toNat []) o.wa o.wc).1 }) (n:=o.a) (y:=⟨_,l,(W.part o.a).dev⟩) (b.same rfl rfl rfl) sr.1.inv
    · rename_i h4
      intro tt;have sr:=zOP (lim:=zAB) (L:=W.L) (d:=(W.dev (W.part o.a).dev).getD dvZ) (msg:=W.msgs.getD n.toNat []) (wa:=o.wa) (wc:=o.wc) f si tt.1;have hb:=BI.part (W:={ W with L:=(zAP zAB W.L (W.part o.a).s ((W.dev (W.part o.a).dev).getD dvZ) (W.msgs.getD n.toNat []) o.wa o.wc).1 }) (n:=o.a) (y:={ W.part o.a with box:=l,s:=(zAP zAB W.L (W.part o.a).s ((W.dev (W.part o.a).dev).getD dvZ) (W.msgs.getD n.toNat []) o.wa o.wc).2.1 }) (b.same rfl rfl rfl) sr.1.inv;refine⟨hb.kn,hb.ses,fun e he hse=>?_⟩;rcases List.mem_append.1 he with h|h
      · exact hb.evs e h hse
      · rw[List.mem_singleton]at h
        subst h;have h5:=sr.2 (Classical.not_not.1 h4);rw[show(⟨o.a,(W.part o.a).dev,(zAP zAB W.L (W.part o.a).s ((W.dev (W.part o.a).dev).getD dvZ) (W.msgs.getD n.toNat []) o.wa o.wc).2.1.note⟩:Evt).note.sent=false from h5]at hse;exact Bool.noConfusion hse
 split
 ·
  intro _ _ tt;unfold zCK;split
  · exact b
  · dsimp only
    split
    · exact b.same rfl rfl rfl
    · split<;>exact b.same rfl rfl rfl
 split
 ·
  intro gd nx tt;revert gd nx tt
  unfold zBq;split
  · exact fun _ _ _=>b
  split
  · exact fun _ _ _=>b
  split
  · exact fun _ _ _=>b
  · rename_i q1 q2 q3
    intro gd nx tt;obtain⟨s1,s2,s3,s4,s5⟩:=zDt W (zB0 W o);refine zK9 f g tw.1 b fun hx=>?_
    have hsn:Sn0 W.L W.evs (zB0 W o):=by
     unfold zB0;have hdv:∀id:Int,(W.dev id).isSome=true→(W.dev id).getD dvZ∈W.devs:=fun id h=>by
      cases hd:W.dev id with
      | none=>rw[hd]at h;exact Bool.noConfusion h
      | some d=>exact zN2 hd
     by_cases hc1:o.c=1
     · rw[if_neg (by omega),if_pos hc1]
       have hha:W.has o.a=true:=by
        cases k:W.has o.a with
        | true=>rfl
        | false=>exact absurd (.inl ⟨hc1,k⟩) q2
       exact(g.part _ (zBu hha)).2.2.2
     · have hda:(W.dev o.a).isSome=true:=by
        cases k:(W.dev o.a).isSome with
        | true=>rfl
        | false=>exact absurd (.inr ⟨hc1,k⟩) q2
       have hd:=g.dev _ (hdv _ hda);by_cases hc0:o.c=0
       · rw[if_pos hc0];exact hd.1
       · rw[if_neg hc0,if_neg hc1]
         unfold getV;cases hk:zAM ((W.dev o.a).getD dvZ).psks o.b 0 with
         | none=>exact .inl rfl
         | some r =>
           obtain⟨i,v⟩:=r;exact hd.2 (o.b,v) (List.mem_of_getElem? (zCT hk).2)
    have hsn:Sn W.L W.evs (zB0 W o):=hsn.resolve_left q3;have hkn:Wf.K (zB0 W o)=true:=tt.2.2.1 _ ((zGX g (zB0 W o)).2.2.1 hx);refine .base ⟨?_,fun e he hse=>?_,zEz gf.good (tw.1.has hx) hkn⟩
    · rw[tw.1.nd hx];exact hsn.2.1
    · rcases tw.2.2.2 e he hse with h|h
      · exact hsn.2.2.2 e h hse
      · have:=zAV.1 hx;omega
 ·
  rename_i k0 k1 k2 k3 k4 k5 k6 k7 k8;intro _ _ tt;have si:=b.ses _ (zBu (hh (by unfold ofW;simp;omega)));revert tt
  unfold zB3;split
  · exact fun _=>b
  · dsimp only
    intro tt;exact BI.part (W:={ W with L:=(zAb zAB W.L (W.part o.a).s (decide (o.b=1))).1 }) (n:=o.a) (y:=⟨_,(W.part o.a).box,(W.part o.a).dev⟩) (b.same rfl rfl rfl) (zQ8 f si tt.1).inv
theorem zJu (g:GI Wf)(hx:Sn0 Wf.L Wf.evs x)(h:KnW Wf x):can Wf.L Wf.K x=true:=by
 rcases hx with rfl|hx
 · have h0:has Wf.L 0=true:=has0 g.good
   rw[zGg g.good Wf.K h0];unfold canR;rw[g.good.wf.zero];simp[Nd.z]
 · rcases zRw (zSM g) h hx.2.1 with h|h|⟨e,he,hs,rfl,-⟩
   · exact h.2.2
   · have:=hx.2.2.1;omega
   · exact absurd rfl (hx.2.2.2 e he hs)
theorem zRt (g:GI Wf)(b:BI Wf Wf){e:Evt}(he:e∈Wf.evs)(hs:e.note.sent=true){y:Int}(hsec:KnW Wf e.note.key→SecP Wf.L (B0 Wf) Wf.evs e.note.own y)(hy:has Wf.L y=true)(hk:(nd Wf.L y).k=2)(hc:can Wf.L Wf.K e.note.payload=true) :
 can Wf.L Wf.K (nd Wf.L y).a=true∨can Wf.L Wf.K e.note.own=true:=by
 have f:=zSM g;have hp:=g.pay e he hs;have hkp:KnW Wf e.note.payload:=zUU Pf.refl b.kn hc;have hkk:KnW Wf e.note.key:=by
  rcases zRw f hkp hp.2.1 with h|h|⟨e',he',hs',h1,h2⟩
  · exact absurd h (f.pay e he hs).2.2
  · omega
  · rw[g.one e he e' he' hs hs' h1];exact h2
 rcases hsec hkk hk with h|h
 · exact .inr (zJu g hp.2.2.2 h)
 · left
   rcases g.pub y hy hk with h1|h1
   · exact zJu g h1 h
   · exact h1
theorem zRu {l:List WOp}(h:runV l=some Wf)(hs:∀o∈l,∀s∈o.steps,0≤s.n):GI Wf∧∀e∈Wf.evs,e.note.sent=true→can Wf.L Wf.K e.note.payload=true →
 (2≤e.note.conf→has Wf.L e.note.rs=true→(nd Wf.L e.note.rs).k=2→can Wf.L Wf.K (nd Wf.L e.note.rs).a=true∨can Wf.L Wf.K e.note.own=true) ∧
 (3≤e.note.conf→has Wf.L e.note.re=true→(nd Wf.L e.note.re).k=2→can Wf.L Wf.K (nd Wf.L e.note.re).a=true∨can Wf.L Wf.K e.note.own=true):=by
 unfold runV at h;split at h
 · simp at h
 · rename_i hl
   obtain⟨g,-,r⟩:=zV9 h zUa (by show(0:Int)+_<_;omega) hs;have b:=r (fun W=>BI Wf W) ⟨by simp[wd0],by simp[wd0],by simp[wd0]⟩ (fun W o g' b tt hs hf=>zWz g g' b hf hs tt);refine⟨g,fun e he hse hc=>⟨fun h2 hy hk=>?_,fun h3 hy hk=>?_⟩⟩
   · exact zRt g b he hse ((b.evs e he hse).1 h2) hy hk hc
   · exact zRt g b he hse ((b.evs e he hse).2 h3) hy hk hc
end
end Go.Proofs.YtcikdogkkgefcaaGreatDoor
