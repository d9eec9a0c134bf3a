/- need.Of, Enough, Sends: which keys a pattern needs. need.Of at any role, need.Enough, need.Sends. The layer of levels: what was met, how far one is known; its words, and the program's functions. -/
import Derived.Test.YtcikdogkkgefcaaGreatDoorMA17
namespace Go.Proofs.YtcikdogkkgefcaaGreatDoor
set_option maxRecDepth 8000
set_option maxHeartbeats 16000000
set_option linter.unusedVariables false
set_option linter.unusedSimpArgs false
open Go Go.RowKit
structure NK where
 s:Bool
 e:Bool
 rs:Bool
 re:Bool
 psks:Int
deriving DecidableEq
def nkL (k:NK):List Value:=[.bool k.s,.bool k.e,.bool k.rs,.bool k.re,pI k.psks]
def NK.z:NK:=⟨false,false,false,false,0⟩
def zA4 (role who:Int)(st:Bool × Int)(t:Int):Bool × Int:=if t=7 then(st.1,st.2+1) else if t=2∧who=role then(true,st.2) else st
def zA5 (role:Int)(st:Bool × Int)(m:Msg):Bool × Int:=m.t.foldl (zA4 role m.who) st
def zLs (p:Pat)(r:Int):List Int:=if r=0 then p.pre0 else p.pre1
def zBH (p:Pat)(role:Int):NK × Int :=
 if role<0∨1<role then(.z,1)
 else if(zCL p).2.2≠0 then(.z,(zCL p).2.2)
 else
  let st:=p.msgs.foldl (zA5 role) (decide ((2:Int)∈zLs p role),0)
  (⟨st.1,decide ((1:Int)∈zLs p role),decide ((2:Int)∈zLs p (1 - role)),decide ((1:Int)∈zLs p (1 - role)),st.2⟩,0)
theorem zFu {p:Pat}(h:(zCL p).2.2=0):zBS p=true:=by
 cases hr:zBS p with
 | true=>rfl
 | false=>unfold zCL at h;rw[if_pos hr]at h;simp at h
theorem zDw {α β:Type}(f : β → α → β)(b : β)(l:List α){i:Nat}(h:i<l.length):(l.take (i+1)).foldl f b=f ((l.take i).foldl f b) l[i]:=by
 rw[List.take_succ_eq_append_getElem h,List.foldl_append];rfl
theorem zCZ (r who:Int):∀(st:Bool × Int) (l:List Int),st.2≤(l.foldl (zA4 r who) st).2∧(l.foldl (zA4 r who) st).2≤st.2+l.length
 | st,[]=>by simp
 | st,t::l=>by
   have h1:=zCZ r who (zA4 r who st t) l;have h2:st.2≤(zA4 r who st t).2∧(zA4 r who st t).2≤st.2+1:=by unfold zA4;(repeat' split)<;>(try simp only)<;>omega
   rw[List.foldl_cons,List.length_cons];omega
theorem zCa (r:Int):∀(st:Bool × Int) (l:List Msg),(∀m∈l,m.t.length≤12)→st.2≤(l.foldl (zA5 r) st).2∧(l.foldl (zA5 r) st).2≤st.2+12*l.length
 | st,[],_=>by simp
 | st,m::l,h=>by
   have h1:=zCa r (zA5 r st m) l (fun x hx=>h x (List.mem_cons_of_mem _ hx));have h2:=zCZ r m.who st m.t;have h3:=h m (List.mem_cons_self ..);rw[List.foldl_cons,List.length_cons];unfold zA5 at h1 ⊢;omega
section
variable {we w:World}{ρ:List (Nat × Obj)}{σ F:List HP}{v:Value}
theorem zBk {x:Int}{l:List Int}{b:Bool}(hb:decide (x∈l)=b)(hl:Sl ρ intL 1 v l)(hS:St we ρ σ w) :
 Cl Tryz.prog 60 [v,pI x] w fun u w'=>u = .bool b∧St we ρ σ w':=by subst hb;exact zFs hl hS
theorem zVE {p:Pat}{role:Int}(hrole:role=0∨role=1)(hs:p.name.size≤100)(hv:PatR ρ v p)(hS:St we ρ σ w) :
 Cl Tryz.prog 146 [v,pI role] w fun u w'=>u = .tuple #[.agg (nkL (zBH p role).1).toArray,pI (zBH p role).2]∧St we ρ σ w':=by
 have hv0:=hv;have hck:∀{w:World} {σ:List HP},St we ρ σ w→Cl Tryz.prog 189 [v] w fun u w'=>u = .tuple #[pI (zCL p).1,pI (zCL p).2.1,pI (zCL p).2.2]∧St we ρ σ w':=fun hS=>zN8 hs hv0 hS
 have hnr:¬(role<0∨1<role):=by omega
 unfold zBH;rw[if_neg hnr];by_cases hz:(zCL p).2.2=0;rotate_left
 · rw[if_pos hz]
   obtain⟨hl0,hl1,hlm,hr⟩:=hv;rename_i v0 v1 vm ms;rcases hrole with rfl|rfl
   all_goals
    refine Run.calls2 (n:=88) Tryz.func146 rfl rfl rfl ?_;repeat' first|(refine Qv 189 (hck hS) ?_;clear hS;intro w1 hS)|apply Qs|apply Qr|(apply Rs<;>intro hc<;>try exact No)|apply Qn|refine Ql ?_|(refine Qx ?_;clear hS;intro b w1 hS)|(refine Qa ?_;clear hS;intro b w1 hS)|(refine Qd ?_;clear hS;intro w1 hS)|refine Qy ?_|refine Qt ?_|refine Qf ?_|apply Qk
    refine Qw Tryz.func146 ?_;exact Xp
 · have hright:=zFu hz
   obtain⟨p1,p2,p3,p4,p5,p6,p7⟩:=zAs hright;rw[if_neg (by rw[hz];decide)];rw[hz]at hck;generalize (zCL p).1=y1 at hck;generalize (zCL p).2.1=y2 at hck;have e01:zLs p 0=p.pre0:=rfl;have e02:zLs p 1=p.pre1:=rfl;have e03:zLs p (1 - 0)=p.pre1:=rfl;have e04:zLs p (1 - 1)=p.pre0:=rfl;obtain⟨hl0,hl1,hlm,hr⟩:=hv;rename_i v0 v1 vm ms;have hlen:=hr.length;obtain⟨q0,c0,rfl,-⟩:=hl0.val;obtain⟨q1,c1,rfl,-⟩:=hl1.val;obtain⟨qm,cm,rfl,k5,k6,-⟩:=hlm.val;unfold maxLen at k6;obtain⟨bA,hbA⟩:∃x,decide ((2:Int)∈p.pre0)=x:=⟨_,rfl⟩
   obtain⟨bB,hbB⟩:∃x,decide ((1:Int)∈p.pre0)=x:=⟨_,rfl⟩
   obtain⟨bC,hbC⟩:∃x,decide ((2:Int)∈p.pre1)=x:=⟨_,rfl⟩
   obtain⟨bD,hbD⟩:∃x,decide ((1:Int)∈p.pre1)=x:=⟨_,rfl⟩
   rcases hrole with rfl|rfl
   · simp only[e01,e03,hbA,hbB,hbC,hbD]
     refine Run.calls2 (n:=88) Tryz.func146 rfl rfl rfl ?_;repeat' first|(refine Qv 189 (hck hS) ?_;clear hS;intro w1 hS)|apply Qs|apply Qr|(apply Rs<;>intro hc<;>try exact No)|apply Qn|refine Ql ?_|(refine Qx ?_;clear hS;intro b w1 hS)|(refine Qa ?_;clear hS;intro b w1 hS)|refine Qy ?_|refine Qf ?_|apply Qk
     rename_i b1 x2 x3 x4 x5;obtain⟨b2,hb2⟩:∃x,x=b:=⟨_,rfl⟩
     subst hb2;refine(Run.regionH_cut (fun b9:Nat=>Row b9 (nkL ⟨bA,bB,bC,bD,0⟩) 242::Row b2 (nkL NK.z) 242::Row b1 [.string p.name,.slice q0 p.pre0.length c0,.slice q1 p.pre1.length c1,.slice qm ms.length cm] 84 :: σ)
      (fun b9=>[(2,pP b1),(1,pI 0),(4,pP b2),(9,pP b9)])
      hS (List.Sublist.refl _) (by rfl) (by rfl) (by rfl) ?_ ?_)
     · clear hS
       intro w1 hS;refine RH.relist (listed':=bm 25 0) (by kernel_rfl) ?_;repeat' first|(apply Rh<;>intro hc<;>try exact No)|refine Yt 0 0 ?_|refine Yl 1 1 ?_|(refine Yt 3 2 ?_ (h:=by first|exact Sx|exact Still.any))|refine Yl 7 3 ?_|refine Yt 15 5 ?_|refine Yl 47 6 ?_|(refine Yt 111 7 ?_ (h:=by first|exact Sx|exact Still.any))|refine Yl 239 8 ?_|refine Yt 495 10 ?_|refine Yl 1519 11 ?_|refine Yl 3567 12 ?_|(refine Yt 7663 13 ?_ (h:=by first|exact Sx|exact Still.any))|refine Yl 15855 14 ?_|refine Yt 32239 16 ?_|refine Yl 97775 17 ?_|refine Yl 228847 18 ?_|(refine Yt 490991 19 ?_ (h:=by first|exact Sx|exact Still.any))|refine Yl 1015279 20 ?_|refine Yt 4194303 22 ?_|refine Yt 12582911 22 ?_|(refine Ov 60 (zBk hbA hl0 hS) ?_;clear hS;intro w1 hS;refine Xh ?_)|(refine Ov 60 (zBk hbB hl0 hS) ?_;clear hS;intro w1 hS;refine Xh ?_)|(refine Ov 60 (zBk hbC hl1 hS) ?_;clear hS;intro w1 hS;refine Xh ?_)|(refine Ov 60 (zBk hbD hl1 hS) ?_;clear hS;intro w1 hS;refine Xh ?_)|(refine Oa ?_;clear hS;intro b w1 hS;refine Xh ?_)|(refine Od ?_;clear hS;intro w1 hS;refine Xh ?_)|refine Jo ?_|refine Zb 2063855 4 23 ?_ ?_|refine Zb 2063871 9 23 ?_ ?_|refine Zb 2064383 15 23 ?_ ?_|refine Zb 2097151 21 23 ?_ ?_|refine Za 8388607 23 ?_|refine Za 16777215 24 ?_|refine Za 10485759 21 ?_|refine Za 10452991 15 ?_|refine Za 10452479 9 ?_|refine Za 10452463 4 ?_|(refine Yd 33554431 ?_;exact⟨_,Sb,hS.pk⟩)
     clear hS;rintro b9 w1 hS;repeat' first|apply Qs|apply Qr|apply Qn|refine Ql ?_|apply Qb
     refine Run.while (fun k:Nat=>[(1,pI 0),(4,pP b2),(9,pP b9),(55,.slice qm ms.length cm),(56,pI ms.length),(57,pI k)])
      (fun k w=>k≤ms.length∧St we ρ (Row b9 (nkL ⟨((p.msgs.take k).foldl (zA5 0) (bA,0)).1,bB,bC,bD,((p.msgs.take k).foldl (zA5 0) (bA,0)).2⟩) 242::Row b2 (nkL NK.z) 242::Row b1 [.string p.name,.slice q0 p.pre0.length c0,.slice q1 p.pre1.length c1,.slice qm ms.length cm] 84 :: σ) w)
      (fun k=>ms.length - k) 0 ⟨by omega,hS.pk⟩ (by exact Sb) ?_
     clear hS;rintro k w ⟨hi,hS⟩ ih;have hbd:=zCa 0 (bA,0) (p.msgs.take k) (fun m hm=>(p5 m (List.mem_of_mem_take hm)).2.2.1);have hkl:(p.msgs.take k).length≤6:=by rw[List.length_take];omega
     by_cases hlt:k<ms.length
     · obtain⟨mb,off,cs,el,fr,m,tv,rfl,hmem,g1,g2,g3,g4,g5⟩:=zEm hlm hr hlt
       obtain⟨qt,ct,rfl,k7,k8,-⟩:=g5.val;unfold maxLen at k8;have hmm:=p5 m (List.mem_of_getElem? g4);have hput:(p.msgs.take (k+1)).foldl (zA5 0) (bA,0)=zA5 0 ((p.msgs.take k).foldl (zA5 0) (bA,0)) m:=by
        have h2:k<p.msgs.length:=by omega
        rw[zDw _ _ _ h2,(List.getElem?_eq_some_iff.1 g4).2]
       have hbd0:(0:Int)≤((p.msgs.take k).foldl (zA5 0) (bA,0)).2∧((p.msgs.take k).foldl (zA5 0) (bA,0)).2≤72:=⟨hbd.1,by have:=hbd.2;simp only at this;omega⟩
       clear hbd;generalize (p.msgs.take k).foldl (zA5 0) (bA,0)=st at hS hput hbd0;generalize hs2:(p.msgs.take (k+1)).foldl (zA5 0) (bA,0)=st2 at hput;repeat' first|(refine Ql ?_ (h:=by apply Still.loadAgg;rfl;rfl;rfl;exact Rd.ro hmem;exact g3;rfl))|apply Qs|apply Qr|(apply Rs<;>intro hc<;>try exact No)|apply Qn|refine Ql ?_|(refine Qa ?_;clear hS;intro b w1 hS)|(refine Qd ?_;clear hS;intro w1 hS)|refine Qt ?_|apply Qk|apply Qb
       refine Run.while (fun i:Nat=>[(1,pI 0),(4,pP b2),(9,pP b9),(55,.slice (some ⟨mb,off,none⟩) ms.length cm),(56,pI ms.length),(57,pI k),(11,pP b),(62,.slice qt m.t.length ct),(63,pI m.t.length),(64,pI i)])
        (fun i w=>i≤m.t.length∧St we ρ (Row b [pI m.who,.slice qt m.t.length ct] 137::Row b9 (nkL ⟨((m.t.take i).foldl (zA4 0 m.who) st).1,bB,bC,bD,((m.t.take i).foldl (zA4 0 m.who) st).2⟩) 242::Row b2 (nkL NK.z) 242::Row b1 [.string p.name,.slice q0 p.pre0.length c0,.slice q1 p.pre1.length c1,.slice (some ⟨mb,off,none⟩) ms.length cm] 84 :: σ) w)
        (fun i=>m.t.length - i) 0 ⟨by omega,hS.pk⟩ (by exact Sb) ?_
       clear hS;rintro i w ⟨hi2,hS⟩ ih2;by_cases hlt2:i<m.t.length
       · obtain⟨b0,o0,cs0,e0,f0,rfl,m0,h0⟩:=g5.int hlt2
         have hbd2:=zCZ 0 m.who st (m.t.take i);have hil:(m.t.take i).length≤12:=by rw[List.length_take];omega
         have hput2:=zDw (zA4 0 m.who) st m.t hlt2;generalize m.t[i]=x at h0 hput2;generalize (m.t.take i).foldl (zA4 0 m.who) st=s at hS hput2 hbd2;generalize hs3:(m.t.take (i+1)).foldl (zA4 0 m.who) st=s3 at hput2;obtain⟨s1,n1⟩:=s;simp only at hS hbd2;have hwr:IntKind.i64.wrap (n1+1)=n1+1:=zA8 (by omega) (by omega);repeat' first|(refine Ql ?_ (h:=by apply Still.add (c:=n1+1);rfl;rfl;exact hwr))|(refine Ql ?_ (h:=by apply Still.load;rfl;rfl;exact Rd.ro m0;exact h0))|apply Qs|apply Qr|(apply Rs<;>intro hc<;>try exact No)|apply Qn|refine Ql ?_|(refine Qd ?_;clear hS;intro w1 hS)|refine Qy ?_|refine Qz ?_|refine Qt ?_|refine Qf ?_|apply Qk|apply Qb|apply Qi
         · have hx:x=7:=by assumption
           refine Run.weaken (by exact Sb) (ih2 (i+1) _ ⟨by omega,?_⟩ (by omega));rw[hs3,hput2,zA4,if_pos hx];exact hS.pk
         · have hx:¬x=7:=by assumption
           have hx2:x=2:=by assumption
           have hx3:m.who=0:=by assumption
           refine Run.weaken (by exact Sb) (ih2 (i+1) _ ⟨by omega,?_⟩ (by omega));rw[hs3,hput2,zA4,if_neg hx,if_pos ⟨hx2,hx3⟩];exact hS.pk
         · have hx:¬x=7:=by assumption
           have hx3:¬m.who=0:=by assumption
           refine Run.weaken (by exact Sb) (ih2 (i+1) _ ⟨by omega,?_⟩ (by omega));rw[hs3,hput2,zA4,if_neg hx,if_neg (fun h=>hx3 h.2)];exact hS.pk
         · have hx:¬x=7:=by assumption
           have hx3:¬x=2:=by assumption
           refine Run.weaken (by exact Sb) (ih2 (i+1) _ ⟨by omega,?_⟩ (by omega));rw[hs3,hput2,zA4,if_neg hx,if_neg (fun h=>hx3 h.1)];exact hS.pk
       · obtain rfl:i=m.t.length:=by omega
         rw[List.take_of_length_le (Nat.le_refl _)]at hS;repeat' first|apply Qs|apply Qr|(apply Rs<;>intro hc<;>try exact No)|apply Qn|refine Ql ?_|refine Qf ?_|apply Qi|refine Qe ?_
         refine Run.weaken (by exact Sb) (ih (k+1) _ ⟨by omega,?_⟩ (by omega));rw[hs2,hput,zA5];exact hS.pk
     · obtain rfl:k=ms.length:=by omega
       rw[List.take_of_length_le (by omega)]at hS;repeat' first|apply Qs|apply Qr|(apply Rs<;>intro hc<;>try exact No)|apply Qn|refine Ql ?_|(refine Qd ?_;clear hS;intro w1 hS)|refine Qf ?_|refine Qe ?_
       refine Qw Tryz.func146 ?_;exact Xp
   · simp only[e02,e04,hbA,hbB,hbC,hbD]
     refine Run.calls2 (n:=88) Tryz.func146 rfl rfl rfl ?_;repeat' first|(refine Qv 189 (hck hS) ?_;clear hS;intro w1 hS)|apply Qs|apply Qr|(apply Rs<;>intro hc<;>try exact No)|apply Qn|refine Ql ?_|(refine Qx ?_;clear hS;intro b w1 hS)|(refine Qa ?_;clear hS;intro b w1 hS)|refine Qy ?_|refine Qf ?_|apply Qk
     rename_i b1 x2 x3 x4 x5;obtain⟨b2,hb2⟩:∃x,x=b:=⟨_,rfl⟩
     subst hb2;refine(Run.regionH_cut (fun b9:Nat=>Row b9 (nkL ⟨bC,bD,bA,bB,0⟩) 242::Row b2 (nkL NK.z) 242::Row b1 [.string p.name,.slice q0 p.pre0.length c0,.slice q1 p.pre1.length c1,.slice qm ms.length cm] 84 :: σ)
      (fun b9=>[(2,pP b1),(1,pI 1),(4,pP b2),(9,pP b9)])
      hS (List.Sublist.refl _) (by rfl) (by rfl) (by rfl) ?_ ?_)
     · clear hS
       intro w1 hS;refine RH.relist (listed':=bm 25 0) (by kernel_rfl) ?_;repeat' first|(apply Rh<;>intro hc<;>try exact No)|refine Yt 0 0 ?_|refine Yl 1 1 ?_|(refine Yt 3 2 ?_ (h:=by first|exact Sx|exact Still.any))|refine Yl 7 3 ?_|refine Yt 15 5 ?_|refine Yl 47 6 ?_|(refine Yt 111 7 ?_ (h:=by first|exact Sx|exact Still.any))|refine Yl 239 8 ?_|refine Yt 495 10 ?_|refine Yl 1519 11 ?_|refine Yl 3567 12 ?_|(refine Yt 7663 13 ?_ (h:=by first|exact Sx|exact Still.any))|refine Yl 15855 14 ?_|refine Yt 32239 16 ?_|refine Yl 97775 17 ?_|refine Yl 228847 18 ?_|(refine Yt 490991 19 ?_ (h:=by first|exact Sx|exact Still.any))|refine Yl 1015279 20 ?_|refine Yt 4194303 22 ?_|refine Yt 12582911 22 ?_|(refine Ov 60 (zBk hbC hl1 hS) ?_;clear hS;intro w1 hS;refine Xh ?_)|(refine Ov 60 (zBk hbD hl1 hS) ?_;clear hS;intro w1 hS;refine Xh ?_)|(refine Ov 60 (zBk hbA hl0 hS) ?_;clear hS;intro w1 hS;refine Xh ?_)|(refine Ov 60 (zBk hbB hl0 hS) ?_;clear hS;intro w1 hS;refine Xh ?_)|(refine Oa ?_;clear hS;intro b w1 hS;refine Xh ?_)|(refine Od ?_;clear hS;intro w1 hS;refine Xh ?_)|refine Jo ?_|refine Zb 2063855 4 23 ?_ ?_|refine Zb 2063871 9 23 ?_ ?_|refine Zb 2064383 15 23 ?_ ?_|refine Zb 2097151 21 23 ?_ ?_|refine Za 8388607 23 ?_|refine Za 16777215 24 ?_|refine Za 10485759 21 ?_|refine Za 10452991 15 ?_|refine Za 10452479 9 ?_|refine Za 10452463 4 ?_|(refine Yd 33554431 ?_;exact⟨_,Sb,hS.pk⟩)
     clear hS;rintro b9 w1 hS;repeat' first|apply Qs|apply Qr|apply Qn|refine Ql ?_|apply Qb
     refine Run.while (fun k:Nat=>[(1,pI 1),(4,pP b2),(9,pP b9),(55,.slice qm ms.length cm),(56,pI ms.length),(57,pI k)])
      (fun k w=>k≤ms.length∧St we ρ (Row b9 (nkL ⟨((p.msgs.take k).foldl (zA5 1) (bC,0)).1,bD,bA,bB,((p.msgs.take k).foldl (zA5 1) (bC,0)).2⟩) 242::Row b2 (nkL NK.z) 242::Row b1 [.string p.name,.slice q0 p.pre0.length c0,.slice q1 p.pre1.length c1,.slice qm ms.length cm] 84 :: σ) w)
      (fun k=>ms.length - k) 0 ⟨by omega,hS.pk⟩ (by exact Sb) ?_
     clear hS;rintro k w ⟨hi,hS⟩ ih;have hbd:=zCa 1 (bC,0) (p.msgs.take k) (fun m hm=>(p5 m (List.mem_of_mem_take hm)).2.2.1);have hkl:(p.msgs.take k).length≤6:=by rw[List.length_take];omega
     by_cases hlt:k<ms.length
     · obtain⟨mb,off,cs,el,fr,m,tv,rfl,hmem,g1,g2,g3,g4,g5⟩:=zEm hlm hr hlt
       obtain⟨qt,ct,rfl,k7,k8,-⟩:=g5.val;unfold maxLen at k8;have hmm:=p5 m (List.mem_of_getElem? g4);have hput:(p.msgs.take (k+1)).foldl (zA5 1) (bC,0)=zA5 1 ((p.msgs.take k).foldl (zA5 1) (bC,0)) m:=by
        have h2:k<p.msgs.length:=by omega
        rw[zDw _ _ _ h2,(List.getElem?_eq_some_iff.1 g4).2]
       have hbd0:(0:Int)≤((p.msgs.take k).foldl (zA5 1) (bC,0)).2∧((p.msgs.take k).foldl (zA5 1) (bC,0)).2≤72:=⟨hbd.1,by have:=hbd.2;simp only at this;omega⟩
       clear hbd;generalize (p.msgs.take k).foldl (zA5 1) (bC,0)=st at hS hput hbd0;generalize hs2:(p.msgs.take (k+1)).foldl (zA5 1) (bC,0)=st2 at hput;repeat' first|(refine Ql ?_ (h:=by apply Still.loadAgg;rfl;rfl;rfl;exact Rd.ro hmem;exact g3;rfl))|apply Qs|apply Qr|(apply Rs<;>intro hc<;>try exact No)|apply Qn|refine Ql ?_|(refine Qa ?_;clear hS;intro b w1 hS)|(refine Qd ?_;clear hS;intro w1 hS)|refine Qt ?_|apply Qk|apply Qb
       refine Run.while (fun i:Nat=>[(1,pI 1),(4,pP b2),(9,pP b9),(55,.slice (some ⟨mb,off,none⟩) ms.length cm),(56,pI ms.length),(57,pI k),(11,pP b),(62,.slice qt m.t.length ct),(63,pI m.t.length),(64,pI i)])
        (fun i w=>i≤m.t.length∧St we ρ (Row b [pI m.who,.slice qt m.t.length ct] 137::Row b9 (nkL ⟨((m.t.take i).foldl (zA4 1 m.who) st).1,bD,bA,bB,((m.t.take i).foldl (zA4 1 m.who) st).2⟩) 242::Row b2 (nkL NK.z) 242::Row b1 [.string p.name,.slice q0 p.pre0.length c0,.slice q1 p.pre1.length c1,.slice (some ⟨mb,off,none⟩) ms.length cm] 84 :: σ) w)
        (fun i=>m.t.length - i) 0 ⟨by omega,hS.pk⟩ (by exact Sb) ?_
       clear hS;rintro i w ⟨hi2,hS⟩ ih2;by_cases hlt2:i<m.t.length
       · obtain⟨b0,o0,cs0,e0,f0,rfl,m0,h0⟩:=g5.int hlt2
         have hbd2:=zCZ 1 m.who st (m.t.take i);have hil:(m.t.take i).length≤12:=by rw[List.length_take];omega
         have hput2:=zDw (zA4 1 m.who) st m.t hlt2;generalize m.t[i]=x at h0 hput2;generalize (m.t.take i).foldl (zA4 1 m.who) st=s at hS hput2 hbd2;generalize hs3:(m.t.take (i+1)).foldl (zA4 1 m.who) st=s3 at hput2;obtain⟨s1,n1⟩:=s;simp only at hS hbd2;have hwr:IntKind.i64.wrap (n1+1)=n1+1:=zA8 (by omega) (by omega);repeat' first|(refine Ql ?_ (h:=by apply Still.add (c:=n1+1);rfl;rfl;exact hwr))|(refine Ql ?_ (h:=by apply Still.load;rfl;rfl;exact Rd.ro m0;exact h0))|apply Qs|apply Qr|(apply Rs<;>intro hc<;>try exact No)|apply Qn|refine Ql ?_|(refine Qd ?_;clear hS;intro w1 hS)|refine Qy ?_|refine Qz ?_|refine Qt ?_|refine Qf ?_|apply Qk|apply Qb|apply Qi
         · have hx:x=7:=by assumption
           refine Run.weaken (by exact Sb) (ih2 (i+1) _ ⟨by omega,?_⟩ (by omega));rw[hs3,hput2,zA4,if_pos hx];exact hS.pk
         · have hx:¬x=7:=by assumption
           have hx2:x=2:=by assumption
           have hx3:m.who=1:=by assumption
           refine Run.weaken (by exact Sb) (ih2 (i+1) _ ⟨by omega,?_⟩ (by omega));rw[hs3,hput2,zA4,if_neg hx,if_pos ⟨hx2,hx3⟩];exact hS.pk
         · have hx:¬x=7:=by assumption
           have hx3:¬m.who=1:=by assumption
           refine Run.weaken (by exact Sb) (ih2 (i+1) _ ⟨by omega,?_⟩ (by omega));rw[hs3,hput2,zA4,if_neg hx,if_neg (fun h=>hx3 h.2)];exact hS.pk
         · have hx:¬x=7:=by assumption
           have hx3:¬x=2:=by assumption
           refine Run.weaken (by exact Sb) (ih2 (i+1) _ ⟨by omega,?_⟩ (by omega));rw[hs3,hput2,zA4,if_neg hx,if_neg (fun h=>hx3 h.1)];exact hS.pk
       · obtain rfl:i=m.t.length:=by omega
         rw[List.take_of_length_le (Nat.le_refl _)]at hS;repeat' first|apply Qs|apply Qr|(apply Rs<;>intro hc<;>try exact No)|apply Qn|refine Ql ?_|refine Qf ?_|apply Qi|refine Qe ?_
         refine Run.weaken (by exact Sb) (ih (k+1) _ ⟨by omega,?_⟩ (by omega));rw[hs2,hput,zA5];exact hS.pk
     · obtain rfl:k=ms.length:=by omega
       rw[List.take_of_length_le (by omega)]at hS;repeat' first|apply Qs|apply Qr|(apply Rs<;>intro hc<;>try exact No)|apply Qn|refine Ql ?_|(refine Qd ?_;clear hS;intro w1 hS)|refine Qf ?_|refine Qe ?_
       refine Qw Tryz.func146 ?_;exact Xp
end
theorem RO.midAt {P:Program}{f:FuncId}{n:Nat}{R:Ending→World→Prop}{k:List Item}{e:Env}{w:World}{ops rest:List Oper}(j:Nat)(e2:Env)(h:RO P f n R k ops (ops.drop j) e2 w)
 (hm:(∀e',Sub e' e2→RO P f n R k ops (ops.drop j) e' w)→RO P f n R k ops rest e w):RO P f n R k ops rest e w :=
 hm fun e' hs=>⟨fun a ha=>h.go a ⟨ha.size,ha.defers,fun t v ht=>ha.get t v (hs.get ht)⟩⟩
structure NkT (T:TypeId):Prop where
 fields:∃f1 f2 f3 f4 f5:Field,(Tryz.prog.fieldsOf T).toList=[f1,f2,f3,f4,f5] ∧
  (f1.name ≠ "_" ∧ f1.type = 4 ∧ f1.offset = 0) ∧ (f2.name ≠ "_" ∧ f2.type = 4 ∧ f2.offset = 1) ∧ (f3.name ≠ "_" ∧ f3.type = 4 ∧ f3.offset = 2) ∧
  (f4.name ≠ "_" ∧ f4.type = 4 ∧ f4.offset = 3) ∧ (f5.name ≠ "_" ∧ f5.type = 3 ∧ f5.offset = 4)
 under:Tryz.prog.underlying T=some (.struct (Tryz.prog.fieldsOf T))
 stood:Tryz.prog.stoodInHeld T=false
 guard:Tryz.prog.eqGuardType Tryz.prog.depth T=false
theorem nkT:NkT 242:=⟨⟨_,_,_,_,_,rfl,⟨by decide,rfl,rfl⟩,⟨by decide,rfl,rfl⟩,⟨by decide,rfl,rfl⟩,⟨by decide,rfl,rfl⟩,⟨by decide,rfl,rfl⟩⟩,rfl,by kernel_rfl,by kernel_rfl⟩
theorem zDp {xs:Array Value}{off:Nat}{v:Value}{w:World}(h:xs[off]? = some v):(part 4 xs off).run Tryz.prog w = .ok v w:=run_part_plain w (by rfl) h
theorem zNR {T:TypeId}(hT:NkT T){n m:NK}{w:World}:(Op.equal T (.agg (nkL n).toArray) (.agg (nkL m).toArray)).run Tryz.prog w = .ok (decide (n=m)) w:=by
 have he:(Op.equal T (.agg (nkL n).toArray) (.agg (nkL m).toArray)).run Tryz.prog w=(Op.eqFields 9999 (nkL n).toArray (nkL m).toArray (Tryz.prog.fieldsOf T).toList).run Tryz.prog w:=run_equalIn_struct w 9999 T _ _ hT.under hT.stood;rw[he];obtain⟨f1,f2,f3,f4,f5,hf,⟨a1,a2,a3⟩,⟨b1,b2,b3⟩,⟨c1,c2,c3⟩,⟨d1,d2,d3⟩,⟨e1,e2,e3⟩⟩:=hT.fields;rw[hf];have pi:∀(x y:Int),(Op.equalIn (9998+1) 3 (pI x) (pI y)).run Tryz.prog w = .ok (x == y) w:=fun x y=>zDu rfl
 have pb:∀(x y:Bool),(Op.equalIn (9998+1) 4 (.bool x) (.bool y)).run Tryz.prog w = .ok (x == y) w:=fun x y=>run_equalIn_bool w 9998 4 x y rfl
 have h0:∀n:NK,(part 4 (nkL n).toArray 0).run Tryz.prog w = .ok (.bool n.s) w:=fun n=>zDp rfl
 have h1:∀n:NK,(part 4 (nkL n).toArray 1).run Tryz.prog w = .ok (.bool n.e) w:=fun n=>zDp rfl
 have h2:∀n:NK,(part 4 (nkL n).toArray 2).run Tryz.prog w = .ok (.bool n.rs) w:=fun n=>zDp rfl
 have h3:∀n:NK,(part 4 (nkL n).toArray 3).run Tryz.prog w = .ok (.bool n.re) w:=fun n=>zDp rfl
 have h4:∀n:NK,(part 3 (nkL n).toArray 4).run Tryz.prog w = .ok (pI n.psks) w:=fun n=>zAv rfl
 simp only[Op.eqFields,a1,a2,a3,b1,b2,b3,c1,c2,c3,d1,d2,d3,e1,e2,e3,if_pos,ne_eq,not_false_eq_true,Sem.run_bind,h0,h1,h2,h3,h4,Result.andThen_ok,pi,pb,Sem.run_ite,Sem.run_pure];obtain⟨k,x,a,b,c⟩:=n;obtain⟨k',x',a',b',c'⟩:=m;simp only[NK.mk.injEq];by_cases q1:k=k'<;>by_cases q2:x=x'<;>by_cases q3:a=a'<;>by_cases q4:b=b'<;>by_cases q5:c=c'<;>simp[q1,q2,q3,q4,q5]
theorem Still.eqlNk {n:Nat}{e:Env}{ty t':TypeId}{x y:Operand}{S:World→Prop}{T:TypeId}{a b:NK}(hT:NkT T)(hx:ev e x=some (.agg (nkL a).toArray))(hy:ev e y=some (.agg (nkL b).toArray)):Still Tryz.prog n e S (.binOp .eql T x y t') ty (.bool (decide (a=b))) :=
 Still.bin hx hy (fun w=>run_eqGuard_agg w .eql T x y _ _ hT.guard) (fun w _=>by simp[binOp,show(Op.equal T (.agg (nkL a).toArray) (.agg (nkL b).toArray)).run Tryz.prog w=_ from zNR hT])
def zFq (n h:NK):Bool:=decide ((⟨n.s && h.s,n.e && h.e,n.rs && h.rs,n.re && h.re,h.psks⟩:NK)=n)
section
variable {we w:World}{ρ:List (Nat × Obj)}{σ F:List HP}{v:Value}
theorem zJl {p:Pat}{role:Int}(hs:p.name.size≤100)(hv:PatR ρ v p)(hS:St we ρ σ w) :
 Cl Tryz.prog 146 [v,pI role] w fun u w'=>u = .tuple #[.agg (nkL (zBH p role).1).toArray,pI (zBH p role).2]∧St we ρ σ w':=by
 by_cases hr:role<0∨1<role
 · unfold zBH
   rw[if_pos hr];obtain⟨hl0,hl1,hlm,hrr⟩:=hv;refine Run.calls2 (n:=88) Tryz.func146 rfl rfl rfl ?_;repeat' first|apply Qs|apply Qr|(apply Rs<;>intro hc<;>try exact No)|apply Qn|refine Ql ?_|(refine Qx ?_;clear hS;intro b w1 hS)|(refine Qa ?_;clear hS;intro b w1 hS)|(refine Qd ?_;clear hS;intro w1 hS)|refine Qy ?_|refine Qz ?_|refine Qt ?_
   all_goals
    refine Qw Tryz.func146 ?_;exact Xp
 · exact zVE (by omega) hs hv hS
theorem zMP {n h:NK}(hS:St we ρ σ w) :
 Cl Tryz.prog 190 [.agg (nkL n).toArray,.agg (nkL h).toArray] w fun u w'=>u = .bool (zFq n h)∧St we ρ σ w':=by
 obtain⟨na,nb,nc,nd,np⟩:=n;obtain⟨ga,gb,gc,gd,gp⟩:=h;refine Run.calls2 (n:=36) Tryz.func190 rfl rfl rfl ?_;repeat' first|(refine Qx ?_;clear hS;intro b w1 hS)|apply Qs|apply Qr|(refine Ql ?_)|apply Qn
 rename_i b1 w0;obtain⟨b2,hb2⟩:∃x,x=b:=⟨_,rfl⟩
 subst hb2;refine RO.midAt 6 [(2,pP b1),(3,pP b2),(11,.bool (na && ga))] ?_ (fun hm=>?_);rotate_left
 · cases na<;>cases ga
   all_goals
    repeat' first|(refine hm _ ?_;focus((repeat(first|exact .nil|refine .cons rfl ?_));done))|refine Ql ?_|refine Qy ?_|refine Qz ?_
 refine RO.midAt 12 [(2,pP b1),(3,pP b2),(11,.bool (na && ga)),(17,.bool (nb && gb))] ?_ (fun hm=>?_);rotate_left
 · cases nb<;>cases gb
   all_goals
    repeat' first|(refine hm _ ?_;focus((repeat(first|exact .nil|refine .cons rfl ?_));done))|refine Ql ?_|refine Qy ?_|refine Qz ?_
 refine RO.midAt 18 [(2,pP b1),(3,pP b2),(11,.bool (na && ga)),(17,.bool (nb && gb)),(23,.bool (nc && gc))] ?_ (fun hm=>?_);rotate_left
 · cases nc<;>cases gc
   all_goals
    repeat' first|(refine hm _ ?_;focus((repeat(first|exact .nil|refine .cons rfl ?_));done))|refine Ql ?_|refine Qy ?_|refine Qz ?_
 refine RO.midAt 24 [(2,pP b1),(3,pP b2),(11,.bool (na && ga)),(17,.bool (nb && gb)),(23,.bool (nc && gc)),(29,.bool (nd && gd))] ?_ (fun hm=>?_);rotate_left
 · cases nd<;>cases gd
   all_goals
    repeat' first|(refine hm _ ?_;focus((repeat(first|exact .nil|refine .cons rfl ?_));done))|refine Ql ?_|refine Qy ?_|refine Qz ?_
 repeat' first|(refine Ql ?_ (h:=by apply Still.eqlNk nkT (a:=⟨na && ga,nb && gb,nc && gc,nd && gd,gp⟩) (b:=⟨na,nb,nc,nd,np⟩);rfl;rfl))|apply Qs|apply Qr|(apply Rs<;>intro hc<;>try exact No)|apply Qn|refine Ql ?_|(refine Qa ?_;clear hS;intro b w1 hS)|(refine Qd ?_;clear hS;intro w1 hS)
 · have hq:(⟨na && ga,nb && gb,nc && gc,nd && gd,gp⟩:NK)=⟨na,nb,nc,nd,np⟩:=by assumption
   refine Qw Tryz.func190 ?_;exact⟨by simp only[zFq];rw[decide_eq_true hq];rfl,hS.pk⟩
 · have hq:¬(⟨na && ga,nb && gb,nc && gc,nd && gd,gp⟩:NK)=⟨na,nb,nc,nd,np⟩:=by assumption
   refine Qw Tryz.func190 ?_;exact⟨by simp only[zFq];rw[decide_eq_false hq];rfl,hS.pk⟩
theorem zM3 {p:Pat}{role:Int}{at_:Nat}(hv:PatR ρ v p)(hS:St we ρ σ w) :
 Cl Tryz.prog 99 [v,pI role,pI at_] w fun u w'=>u = .bool (match p.msgs[at_]? with|some m=>decide (m.who=role)|none=>false)∧St we ρ σ w':=by
 obtain⟨hl0,hl1,hlm,hr⟩:=hv;rename_i v0 v1 vm ms;have hlen:=hr.length;obtain⟨qm,cm,rfl,k5,k6,-⟩:=hlm.val;unfold maxLen at k6;by_cases hlt:at_<ms.length
 · obtain⟨mb,off,cs,el,fr,m,tv,rfl,hmem,g1,g2,g3,g4,g5⟩:=zEm hlm hr hlt
   rw[g4];refine Run.calls3 (n:=26) Tryz.func99 rfl rfl rfl ?_;repeat' first|(refine Ql ?_ (h:=by apply Still.load;rfl;rfl;exact Rd.ro hmem;exact g1))|apply Qs|apply Qr|(apply Rs<;>intro hc<;>try exact No)|apply Qn|refine Ql ?_|(refine Qx ?_;clear hS;intro b w1 hS)|refine Qy ?_
   all_goals
    have hd:=hc;refine Qw Tryz.func99 ?_;exact⟨by simp[hd,tup],hS.pk⟩
 · rw[List.getElem?_eq_none (by omega)]
   refine Run.calls3 (n:=26) Tryz.func99 rfl rfl rfl ?_;repeat' first|apply Qs|apply Qr|(apply Rs<;>intro hc<;>try exact No)|apply Qn|refine Ql ?_|(refine Qx ?_;clear hS;intro b w1 hS)|refine Qy ?_|refine Qz ?_
   refine Qw Tryz.func99 ?_;exact Xp
end
structure Trk where
 m0:Bool
 m1:Bool
 m2:Bool
 m3:Bool
 m4:Bool
 m5:Bool
 m6:Bool
 m7:Bool
 l0:Int
 l1:Int
deriving DecidableEq
def trkL (t:Trk):List Value:=[.bool t.m0,.bool t.m1,.bool t.m2,.bool t.m3,.bool t.m4,.bool t.m5,.bool t.m6,.bool t.m7,pI t.l0,pI t.l1]
def trkV (t:Trk):Value:=.agg (trkL t).toArray
def Trk.z:Trk:=⟨false,false,false,false,false,false,false,false,0,0⟩
def Trk.put (t:Trk)(x:Int):Trk :=
 if x=1 then { t with m1:=true } else if x=2 then { t with m2:=true } else if x=3 then { t with m3:=true } else if x=4 then { t with m4:=true }
 else if x=5 then { t with m5:=true } else if x=6 then { t with m6:=true } else if x=7 then { t with m7:=true } else t
def mixT (t:Trk)(l:List Int):Trk:=l.foldl Trk.put t
def zG9 (t:Trk)(f:Int):Int:=if(if f=0 then t.m5 else t.m4)=true then 2 else if t.m6=true then 1 else 0
def upT (x:Int):Int:=if 0>x then 0 else x
def twoT (x:Int):Int:=if 2<upT x then 2 else upT x
def zFt (t:Trk)(f:Int):Int :=
 if((if f=0 then t.m4 else t.m5) && t.m3)=true then 3+twoT (if f=0 then t.l1 else t.l0) else if(if f=0 then t.m4 else t.m5)=true then 2 else if t.m3=true then 1 else 0
def zKV (t:Trk)(f:Int):Trk:=if f=0 then { t with l0:=zG9 t f } else { t with l1:=zG9 t f }
theorem zJT (x:Int):0≤twoT x∧twoT x≤2:=by unfold twoT upT;(repeat' split)<;>omega
theorem zU6 {t:Trk}{x:Int}(h:¬(1≤x∧x≤7)):t.put x=t:=by
 unfold Trk.put;rw[if_neg (by omega),if_neg (by omega),if_neg (by omega),if_neg (by omega),if_neg (by omega),if_neg (by omega),if_neg (by omega)]
theorem zRm {t:Trk}{l:List Int}{i:Nat}(h:i<l.length):mixT t (l.take (i+1))=(mixT t (l.take i)).put l[i]:=by
 unfold mixT;rw[List.take_succ_eq_append_getElem h,List.foldl_append];rfl
section
variable {we w:World}{ρ:List (Nat × Obj)}{σ F:List HP}
theorem zHm {f:Int}(hf:f=0∨f=1)(hS:St we ρ σ w):Cl Tryz.prog 111 [pI f] w fun v w'=>v = .bool true∧St we ρ σ w':=by
 rcases hf with rfl|rfl
 all_goals
  refine Run.calls1 (n:=9) Tryz.func111 rfl rfl rfl ?_;repeat' first|apply Qs|apply Qr|(apply Rs<;>intro hc<;>try exact No)|apply Qn|refine Ql ?_|refine Qy ?_|refine Qz ?_
  refine Qw Tryz.func111 ?_;exact Xp
theorem zFI {t:Trk}{f:Int}(hf:f=0∨f=1)(hS:St we ρ σ w):Cl Tryz.prog 112 [trkV t,pI f] w fun v w'=>v = pI (zG9 t f)∧St we ρ σ w':=by
 obtain⟨m0,m1,m2,m3,m4,m5,m6,m7,l0,l1⟩:=t;rcases hf with rfl|rfl
 · cases m5<;>cases m6
   all_goals
    refine Run.calls2 (n:=16) Tryz.func112 rfl rfl rfl ?_;repeat' first|(refine Ql ?_ (h:=Sx))|apply Qs|apply Qr|apply Qn|refine Ql ?_|(refine Qx ?_;clear hS;intro b w1 hS)|refine Qt ?_|refine Qf ?_|apply Qk|apply Qb|apply Qi
    refine Qw Tryz.func112 ?_;exact Xp
 · cases m4<;>cases m6
   all_goals
    refine Run.calls2 (n:=16) Tryz.func112 rfl rfl rfl ?_;repeat' first|(refine Ql ?_ (h:=Sx))|apply Qs|apply Qr|apply Qn|refine Ql ?_|(refine Qx ?_;clear hS;intro b w1 hS)|refine Qt ?_|refine Qf ?_|apply Qk|apply Qb|apply Qi
    refine Qw Tryz.func112 ?_;exact Xp
def lvV (a c:Int):Value:=.agg #[pI a,pI c]
theorem zWo {t:Trk}{f:Int}(hf:f=0∨f=1)(hS:St we ρ σ w):Cl Tryz.prog 100 [trkV t,pI f] w fun v w'=>v=lvV (zG9 t f) (zFt t f)∧St we ρ σ w':=by
 have r0:=zJT t.l0;have r1:=zJT t.l1;obtain⟨m0,m1,m2,m3,m4,m5,m6,m7,l0,l1⟩:=t;have ha:0≤zG9 ⟨m0,m1,m2,m3,m4,m5,m6,m7,l0,l1⟩ f:=by unfold zG9;(repeat' split)<;>omega
 have e0:IntKind.i64.wrap (3+twoT l0)=3+twoT l0:=zA8 (by simp only at r0;omega) (by simp only at r0;omega);have e1:IntKind.i64.wrap (3+twoT l1)=3+twoT l1:=zA8 (by simp only at r1;omega) (by simp only at r1;omega);rcases hf with rfl|rfl
 · cases m4<;>cases m3
   all_goals
    refine Run.calls2 (n:=46) Tryz.func100 rfl rfl rfl ?_;repeat' first|(refine Ql ?_ (h:=Sx))|(refine Ql ?_ (h:=by apply Still.maxI (c:=upT l1);rfl;rfl;rfl))|(refine Ql ?_ (h:=by apply Still.minI (c:=twoT l1);rfl;rfl;rfl))|(refine Ql ?_ (h:=by apply Still.add;rfl;rfl;exact e1))|(refine Qv 111 (zHm (Or.inl rfl) hS) ?_;clear hS;intro w1 hS)|(refine Qv 112 (zFI (t:=⟨_,_,_,_,_,_,_,_,_,_⟩) (Or.inl rfl) hS) ?_;clear hS;intro w1 hS)|apply Qs|apply Qr|apply Qn|refine Ql ?_|(refine Qx ?_;clear hS;intro b w1 hS)|(refine Qa ?_;clear hS;intro b w1 hS)|(refine Qd ?_;clear hS;intro w1 hS)|refine Qy ?_|refine Qz ?_|refine Qt ?_|refine Qf ?_|apply Qk|apply Qb|apply Qi
    refine Qw Tryz.func100 ?_;exact Xp
 · cases m5<;>cases m3
   all_goals
    refine Run.calls2 (n:=46) Tryz.func100 rfl rfl rfl ?_;repeat' first|(refine Ql ?_ (h:=Sx))|(refine Ql ?_ (h:=by apply Still.maxI (c:=upT l0);rfl;rfl;rfl))|(refine Ql ?_ (h:=by apply Still.minI (c:=twoT l0);rfl;rfl;rfl))|(refine Ql ?_ (h:=by apply Still.add;rfl;rfl;exact e0))|(refine Qv 111 (zHm (Or.inr rfl) hS) ?_;clear hS;intro w1 hS)|(refine Qv 112 (zFI (t:=⟨_,_,_,_,_,_,_,_,_,_⟩) (Or.inr rfl) hS) ?_;clear hS;intro w1 hS)|apply Qs|apply Qr|apply Qn|refine Ql ?_|(refine Qx ?_;clear hS;intro b w1 hS)|(refine Qa ?_;clear hS;intro b w1 hS)|(refine Qd ?_;clear hS;intro w1 hS)|refine Qy ?_|refine Qz ?_|refine Qt ?_|refine Qf ?_|apply Qk|apply Qb|apply Qi
    refine Qw Tryz.func100 ?_;exact Xp
theorem zPK {t:Trk}{f:Int}(hf:f=0∨f=1)(hS:St we ρ σ w):Cl Tryz.prog 68 [trkV t,pI f] w fun v w'=>v=trkV (zKV t f)∧St we ρ σ w':=by
 obtain⟨m0,m1,m2,m3,m4,m5,m6,m7,l0,l1⟩:=t;rcases hf with rfl|rfl
 · refine Run.calls2 (n:=14) Tryz.func68 rfl rfl rfl ?_
   repeat' first|(refine Ql ?_ (h:=Sx))|(refine Qv 111 (zHm (Or.inl rfl) hS) ?_;clear hS;intro w1 hS)|(refine Qv 112 (zFI (t:=⟨_,_,_,_,_,_,_,_,_,_⟩) (Or.inl rfl) hS) ?_;clear hS;intro w1 hS)|apply Qs|apply Qr|apply Qn|refine Ql ?_|(refine Qx ?_;clear hS;intro b w1 hS)|(refine Qa ?_;clear hS;intro b w1 hS)|(refine Qd ?_;clear hS;intro w1 hS)|refine Qt ?_
   refine Qw Tryz.func68 ?_;exact Xp
 · refine Run.calls2 (n:=14) Tryz.func68 rfl rfl rfl ?_
   repeat' first|(refine Ql ?_ (h:=Sx))|(refine Qv 111 (zHm (Or.inr rfl) hS) ?_;clear hS;intro w1 hS)|(refine Qv 112 (zFI (t:=⟨_,_,_,_,_,_,_,_,_,_⟩) (Or.inr rfl) hS) ?_;clear hS;intro w1 hS)|apply Qs|apply Qr|apply Qn|refine Ql ?_|(refine Qx ?_;clear hS;intro b w1 hS)|(refine Qa ?_;clear hS;intro b w1 hS)|(refine Qd ?_;clear hS;intro w1 hS)|refine Qt ?_
   refine Qw Tryz.func68 ?_;exact Xp
theorem zND {a c a' c':Int}(hS:St we ρ σ w):Cl Tryz.prog 56 [lvV a c,lvV a' c'] w fun v w'=>v = .bool (decide (a'≤a) && decide (c'≤c))∧St we ρ σ w':=by
 refine Run.calls2 (n:=17) Tryz.func56 rfl rfl rfl ?_;repeat' first|apply Qs|apply Qr|(apply Rs<;>intro hc<;>try exact No)|apply Qn|refine Ql ?_|(refine Qx ?_;clear hS;intro b w1 hS)|refine Qy ?_|refine Qz ?_
 · have h1:a'≤a:=by assumption
   have h2:c'≤c:=by assumption
   refine Qw Tryz.func56 ?_;exact⟨by rw[decide_eq_true h1,decide_eq_true h2];rfl,hS.pk⟩
 · have h1:a'≤a:=by assumption
   have h2:¬c'≤c:=by assumption
   refine Qw Tryz.func56 ?_;exact⟨by rw[decide_eq_true h1,decide_eq_false h2];rfl,hS.pk⟩
 · have h1:¬a'≤a:=by assumption
   refine Qw Tryz.func56 ?_;exact⟨by rw[decide_eq_false h1];rfl,hS.pk⟩
theorem zRk {t:Trk}{v:Value}{l:List Int}(hl:Sl ρ intL 1 v l)(hS:St we ρ σ w):Cl Tryz.prog 110 [trkV t,v] w fun u w'=>u=trkV (mixT t l)∧St we ρ σ w':=by
 obtain⟨p1,c1,rfl,k1,k2,_⟩:=hl.val;unfold maxLen at k2;refine Run.calls2 (n:=24) Tryz.func110 rfl rfl rfl ?_;repeat' first|apply Qs|apply Qr|apply Qn|refine Ql ?_|(refine Qx ?_;clear hS;intro b w1 hS)|(refine Qa ?_;clear hS;intro b w1 hS)|apply Qb
 rename_i b1 w0;obtain⟨b2,hb2⟩:∃x,x=b:=⟨_,rfl⟩
 subst hb2;refine Run.while (fun i:Nat=>[(1,.slice p1 l.length c1),(2,pP b1),(4,pP b2),(7,.slice p1 l.length c1),(8,pI l.length),(9,pI i)])
  (fun i w=>i≤l.length∧St we ρ (Row b1 (trkL (mixT t (l.take i))) 98::Row b2 (trkL Trk.z) 98 :: σ) w) (fun i=>l.length - i) 0 ⟨by omega,hS.pk⟩ (by exact Sb) ?_
 clear hS;rintro i w ⟨hi,hS⟩ ih;by_cases hlt:i<l.length
 · obtain⟨b0,o0,cs0,e0,f0,rfl,m0,h0⟩:=hl.int hlt
   have hput:=zRm (t:=t) hlt;generalize hx:l[i]=x at h0 hput;generalize mixT t (l.take i)=s at hS hput;generalize hs2:mixT t (l.take (i+1))=s2 at hput;by_cases hr:1≤x∧x≤7
   · obtain rfl|rfl|rfl|rfl|rfl|rfl|rfl:x=1∨x=2∨x=3∨x=4∨x=5∨x=6∨x=7:=by omega
     all_goals
      repeat' first|(refine Ql ?_ (h:=by apply Still.load;rfl;rfl;exact Rd.ro m0;exact h0))|(refine Ql ?_ (h:=Sx))|apply Qs|apply Qr|(apply Rs<;>intro hc<;>try exact No)|apply Qn|refine Ql ?_|(refine Qd ?_;clear hS;intro w1 hS)|refine Qy ?_|refine Qt ?_|apply Qk|apply Qb|apply Qi
      refine Run.weaken (by exact Sb) (ih (i+1) _ ⟨by omega,?_⟩ (by omega));rw[hs2,hput];exact hS.pk
   · have hp2:=zU6 (t:=s) hr
     have hr':x<1∨7<x:=by omega
     rcases hr' with hr'|hr'
     all_goals
      repeat' first|(refine Ql ?_ (h:=by apply Still.load;rfl;rfl;exact Rd.ro m0;exact h0))|apply Qs|apply Qr|(apply Rs<;>intro hc<;>try exact No)|apply Qn|refine Ql ?_|refine Qy ?_|refine Qz ?_|refine Qt ?_|refine Qf ?_|apply Qk|apply Qb|apply Qi
      refine Run.weaken (by exact Sb) (ih (i+1) _ ⟨by omega,?_⟩ (by omega));rw[hs2,hput,hp2];exact hS.pk
 · obtain rfl:i=l.length:=by omega
   rw[List.take_of_length_le (Nat.le_refl _)]at hS;repeat' first|apply Qs|apply Qr|(apply Rs<;>intro hc<;>try exact No)|apply Qn|refine Ql ?_|(refine Qd ?_;clear hS;intro w1 hS)|refine Qf ?_|refine Qe ?_
   refine Qw Tryz.func110 ?_;exact Xp
end
end Go.Proofs.YtcikdogkkgefcaaGreatDoor
